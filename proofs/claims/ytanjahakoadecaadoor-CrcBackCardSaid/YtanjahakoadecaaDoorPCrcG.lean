/- Law 14: what slices.Equal, crc.Same and the document's SamePart tell with enough rounds: whether all is equal. -/
import Derived.Test.YtanjahakoadecaaDoorPc5
import Derived.Test.YtanjahakoadecaaDoorPCrcF
namespace Go.Proofs.YtanjahakoadecaaDoor.Pure
open Go.RowKit Go.Proofs.YtanjahakoadecaaDoor.Pc Go.Proofs.YtanjahakoadecaaDoorW.PrintWords Go.Proofs.YtanjahakoadecaaDoorW.PrintLast Go.Proofs.YtanjahakoadecaaDoorW.PrintMore Go.Proofs.YtanjahakoadecaaDoor.Hand Go.Proofs.YtanjahakoadecaaDoor.Num
set_option linter.unusedVariables false
set_option linter.unusedSimpArgs false

theorem w_next (j : Nat) (h : j < 9223372036854775807) : wrap64 ((j : Int) + 1) = ((j + 1 : Nat) : Int) := IntWalk.wrap64_in _ (by omega)
theorem drop_step {a b : List Int} (i : Nat) (ha : i < a.length) (hb : i < b.length) : (a.drop i = b.drop i) ↔ (a[i] = b[i] ∧ a.drop (i + 1) = b.drop (i + 1)) := by
  rw [List.drop_eq_getElem_cons ha, List.drop_eq_getElem_cons hb, List.cons.injEq]
theorem eq_loop (a b : List Int) (hl : a.length = b.length) (hm : a.length ≤ maxLen) : ∀ (d i : Nat), i + d = a.length → Ev (fun k => slices_Equal_uint64_uint64.l0 k a b (a.length : Int) (i : Int)) (decide (a.drop i = b.drop i))
  | 0, i, hi => by
    refine Ev.succ ?_
    simp only [slices_Equal_uint64_uint64.l0]
    refine Ev.no (by omega) (Ev.const ?_)
    rw [List.drop_of_length_le (by omega), List.drop_of_length_le (by omega)]
    simp
  | d + 1, i, hi => by
    have ha : i < a.length := by omega
    have hb : i < b.length := by omega
    have hmx : maxLen = 9223372036854775807 := rfl
    refine Ev.succ ?_
    simp only [slices_Equal_uint64_uint64.l0]
    refine Ev.yes (by omega) (Ev.yes (by omega) (Ev.yes (by omega) (Ev.yes (by omega) ?_)))
    rw [rd_at a i ha, rd_at b i hb]
    by_cases he : a[i] = b[i]
    · refine Ev.yes he ?_
      rw [w_next i (by omega)]
      have e := eq_loop a b hl hm d (i + 1) (by omega)
      rw [show decide (a.drop i = b.drop i) = decide (a.drop (i + 1) = b.drop (i + 1)) by
        rw [decide_eq_decide, drop_step i ha hb]; exact ⟨fun h => h.2, fun h => ⟨he, h⟩⟩]
      exact e
    · refine Ev.no he (Ev.const ?_)
      rw [show decide (a.drop i = b.drop i) = false by
        rw [decide_eq_false_iff_not, drop_step i ha hb]; exact fun h => he h.1]
theorem equal_ev (a b : List Int) (hm : a.length ≤ maxLen) : Ev (fun k => slices_Equal_uint64_uint64.f k a b) (decide (a = b)) := by
  unfold slices_Equal_uint64_uint64.f
  by_cases hl : a.length = b.length
  · refine Ev.yes (by omega) ?_
    have e := eq_loop a b hl hm a.length 0 (by omega)
    exact e
  · refine Ev.no (by omega) (Ev.const ?_)
    rw [show decide (a = b) = false by rw [decide_eq_false_iff_not]; intro h; exact hl (by rw [h])]
theorem ref_loop (a b : List Int) (hl : a.length = b.length) (hm : a.length ≤ maxLen) : ∀ (d i : Nat), i + d = a.length → Ev (fun k => tallystickref04_Same.l0 k a b (i : Int)) (decide (a.drop i = b.drop i))
  | 0, i, hi => by
    refine Ev.succ ?_
    simp only [tallystickref04_Same.l0]
    refine Ev.no (by omega) (Ev.const ?_)
    rw [List.drop_of_length_le (by omega), List.drop_of_length_le (by omega)]
    simp
  | d + 1, i, hi => by
    have ha : i < a.length := by omega
    have hb : i < b.length := by omega
    have hmx : maxLen = 9223372036854775807 := rfl
    refine Ev.succ ?_
    simp only [tallystickref04_Same.l0]
    refine Ev.yes (by omega) (Ev.yes (by omega) (Ev.yes (by omega) ?_))
    rw [rd_at a i ha, rd_at b i hb]
    by_cases he : a[i] = b[i]
    · refine Ev.yes he ?_
      rw [w_next i (by omega)]
      have e := ref_loop a b hl hm d (i + 1) (by omega)
      rw [show decide (a.drop i = b.drop i) = decide (a.drop (i + 1) = b.drop (i + 1)) by
        rw [decide_eq_decide, drop_step i ha hb]; exact ⟨fun h => h.2, fun h => ⟨he, h⟩⟩]
      exact e
    · refine Ev.no he (Ev.const ?_)
      rw [show decide (a.drop i = b.drop i) = false by
        rw [decide_eq_false_iff_not, drop_step i ha hb]; exact fun h => he h.1]
theorem ref_equal_ev (a b : List Int) (hm : a.length ≤ maxLen) : Ev (fun k => tallystickref04_Same.f k a b) (decide (a = b)) := by
  unfold tallystickref04_Same.f
  by_cases hl : a.length = b.length
  · refine Ev.yes (by omega) ?_
    have e := ref_loop a b hl hm a.length 0 (by omega)
    exact e
  · refine Ev.no (by omega) (Ev.const ?_)
    rw [show decide (a = b) = false by rw [decide_eq_false_iff_not]; intro h; exact hl (by rw [h])]
theorem dec_yes {c : Prop} [Decidable c] (h : c) : decide c = true := decide_eq_true h
/-- Are the rows, the job, the range, the sign the same? -/
def sameV (a0 a1 a2 a3 a4 : Int) (p q r : List Int) (mi : Bool) (b0 b1 b2 b3 b4 : Int) (p' q' r' : List Int) (mi' : Bool) : Bool :=
  decide (p = p' ∧ q = q' ∧ r = r' ∧ (a0 = b0 ∧ a1 = b1 ∧ a2 = b2) ∧ (a3 = b3 ∧ a4 = b4) ∧ mi = mi')
theorem same_ev (a0 a1 a2 a3 a4 : Int) (p q r : List Int) (mi : Bool) (b0 b1 b2 b3 b4 : Int) (p' q' r' : List Int) (mi' : Bool) (hp : p.length ≤ maxLen) (hq : q.length ≤ maxLen) (hr : r.length ≤ maxLen) :
    Ev (fun k => crc_Same.f k a0 a1 a2 a3 a4 p q r mi b0 b1 b2 b3 b4 p' q' r' mi') (sameV a0 a1 a2 a3 a4 p q r mi b0 b1 b2 b3 b4 p' q' r' mi') := by
  unfold crc_Same.f sameV
  refine Ev.bind (equal_ev p p' hp) ?_
  by_cases h1 : p = p'
  case neg => exact Ev.no (by simpa using h1) (Ev.const (by simp [h1]))
  refine Ev.yes (by simpa using h1) (Ev.bind (equal_ev q q' hq) ?_)
  by_cases h2 : q = q'
  case neg => exact Ev.no (by simpa using h2) (Ev.const (by simp [h2]))
  refine Ev.yes (by simpa using h2) (Ev.bind (equal_ev r r' hr) ?_)
  by_cases h3 : r = r'
  case neg => exact Ev.no (by simpa using h3) (Ev.const (by simp [h3]))
  refine Ev.yes (by simpa using h3) ?_
  by_cases h4 : (a0 = b0 ∧ a1 = b1 ∧ a2 = b2)
  case neg => exact Ev.no (by simpa using h4) (Ev.const (by simp [h4]))
  refine Ev.yes (by simpa using h4) ?_
  by_cases h5 : (a3 = b3 ∧ a4 = b4)
  case neg => exact Ev.no (by simpa using h5) (Ev.const (by simp [h5]))
  refine Ev.yes (by simpa using h5) (Ev.const ?_)
  simp only [h1, h2, h3, h4, h5, true_and, and_self]
  cases mi <;> cases mi' <;> rfl
def samePV (a3 a4 : Int) (p q r : List Int) (mi : Bool) (b3 b4 : Int) (p' q' r' : List Int) (mi' : Bool) : Bool :=
  decide (p = p' ∧ q = q' ∧ r = r' ∧ (a3 = b3 ∧ a4 = b4) ∧ mi = mi')
theorem samePart_ev (a3 a4 : Int) (p q r : List Int) (mi : Bool) (b3 b4 : Int) (p' q' r' : List Int) (mi' : Bool) (hp : p.length ≤ maxLen) (hq : q.length ≤ maxLen) (hr : r.length ≤ maxLen) :
    Ev (fun k => tallystickref14_SamePart.f k a3 a4 p q r mi b3 b4 p' q' r' mi') (samePV a3 a4 p q r mi b3 b4 p' q' r' mi') := by
  unfold tallystickref14_SamePart.f samePV
  refine Ev.bind (ref_equal_ev p p' hp) ?_
  by_cases h1 : p = p'
  case neg => exact Ev.no (by simpa using h1) (Ev.const (by simp [h1]))
  refine Ev.yes (by simpa using h1) (Ev.bind (ref_equal_ev q q' hq) ?_)
  by_cases h2 : q = q'
  case neg => exact Ev.no (by simpa using h2) (Ev.const (by simp [h2]))
  refine Ev.yes (by simpa using h2) (Ev.bind (ref_equal_ev r r' hr) ?_)
  by_cases h3 : r = r'
  case neg => exact Ev.no (by simpa using h3) (Ev.const (by simp [h3]))
  refine Ev.yes (by simpa using h3) ?_
  by_cases h5 : (a3 = b3 ∧ a4 = b4)
  case neg => exact Ev.no (by simpa using h5) (Ev.const (by simp [h5]))
  refine Ev.yes (by simpa using h5) (Ev.const ?_)
  simp only [h1, h2, h3, h5, true_and, and_self]
  cases mi <;> cases mi' <;> rfl
/-- The document's example. -/
theorem shown_true : tallysticklaw14_shown.f = some true := by decide +kernel
theorem inB_wf {l : List Int} (h : ∀ x ∈ l, (Lit.int .u64 x).wf = true) : InB W l := fun x hx => by
  have h1 := bounds_u64 (h x hx)
  rw [W_eq]
  omega
theorem rec_of {a0 a1 a2 a3 a4 : Int} {p q r : List Int} (mi : Bool) (h : mayV a0 a1 a2 a3 a4 p q r = true) (ip : InB W p) (iq : InB W q) (ir : InB W r) :
    ∃ R : RecF, okR R ∧ a0 = (R.1.1 : Int) ∧ a1 = (R.1.2.1 : Int) ∧ a2 = (R.1.2.2.1 : Int) ∧ a3 = (R.1.2.2.2.1 : Int) ∧ a4 = (R.1.2.2.2.2 : Int) ∧ p = R.2.1.1 ∧ q = R.2.1.2.1 ∧ r = R.2.1.2.2 ∧ mi = R.2.2 := by
  obtain ⟨c0, _, b1, b2, b3, b4, _⟩ := may_facts h
  have e0 : a0 = ((a0.toNat : Nat) : Int) := by omega
  have e1 : a1 = ((a1.toNat : Nat) : Int) := by omega
  have e2 : a2 = ((a2.toNat : Nat) : Int) := by omega
  have e3 : a3 = ((a3.toNat : Nat) : Int) := by omega
  have e4 : a4 = ((a4.toNat : Nat) : Int) := by omega
  refine ⟨((a0.toNat, a1.toNat, a2.toNat, a3.toNat, a4.toNat), (p, q, r), mi), ⟨?_, ip, iq, ir⟩, e0, e1, e2, e3, e4, rfl, rfl, rfl, rfl⟩
  show mayV (a0.toNat : Int) (a1.toNat : Int) (a2.toNat : Int) (a3.toNat : Int) (a4.toNat : Int) p q r = true
  rw [← e0, ← e1, ← e2, ← e3, ← e4]
  exact h
theorem ok_len {R : RecF} (h : okR R) : R.2.1.1.length ≤ maxLen ∧ R.2.1.2.1.length ≤ maxLen ∧ R.2.1.2.2.length ≤ maxLen := by
  obtain ⟨_, _, _, _, _, _, op, oq, or_⟩ := may_facts h.1
  have hmx : maxLen = 9223372036854775807 := rfl
  unfold ordV at op oq or_
  rw [Bool.and_eq_true, decide_eq_true_eq] at op oq or_
  omega
theorem ok_len' {R : RecF} (h : okR R) : R.2.1.1.length ≤ 4096 ∧ R.2.1.2.1.length ≤ 4096 ∧ R.2.1.2.2.length ≤ 4096 := by
  obtain ⟨_, _, _, _, _, _, op, oq, or_⟩ := may_facts h.1
  unfold ordV at op oq or_
  rw [Bool.and_eq_true, decide_eq_true_eq] at op oq or_
  exact ⟨op.1, oq.1, or_.1⟩
theorem wordsL_length : ∀ l : List Int, (wordsL l).length = 8 * l.length
  | [] => rfl
  | x :: l => by
    show (nb 8 x.toNat ++ wordsL l).length = _
    rw [List.length_append, nb_length, wordsL_length l, List.length_cons]
    omega
theorem bytesL_len {R : RecF} (h : okR R) : (bytesL R).length ≤ 200000 := by
  obtain ⟨h1, h2, h3⟩ := ok_len' h
  simp only [bytesL, recL, bodyL, rowL, List.length_append, nb_length, wordsL_length, List.length_cons, List.length_nil]
  omega
/-- Whether two records are the same. -/
def sameR (R T : RecF) : Bool := sameV (R.1.1 : Int) (R.1.2.1 : Int) (R.1.2.2.1 : Int) (R.1.2.2.2.1 : Int) (R.1.2.2.2.2 : Int) R.2.1.1 R.2.1.2.1 R.2.1.2.2 R.2.2 (T.1.1 : Int) (T.1.2.1 : Int) (T.1.2.2.1 : Int) (T.1.2.2.2.1 : Int) (T.1.2.2.2.2 : Int) T.2.1.1 T.2.1.2.1 T.2.1.2.2 T.2.2
theorem sameR_eq {R T : RecF} (h : sameR R T = true) : R = T := by
  obtain ⟨⟨c, d, g, f, u⟩, ⟨p, q, r⟩, mi⟩ := R
  obtain ⟨⟨c', d', g', f', u'⟩, ⟨p', q', r'⟩, mi'⟩ := T
  unfold sameR sameV at h
  rw [decide_eq_true_eq] at h
  obtain ⟨k1, k2, k3, ⟨h1, h2, h3⟩, ⟨h4, h5⟩, k4⟩ := h
  have k1 : p = p' := k1
  have k2 : q = q' := k2
  have k3 : r = r' := k3
  have k4 : mi = mi' := k4
  have g1 : c = c' := Int.ofNat.inj h1
  have g2 : d = d' := Int.ofNat.inj h2
  have g3 : g = g' := Int.ofNat.inj h3
  have g4 : f = f' := Int.ofNat.inj h4
  have g5 : u = u' := Int.ofNat.inj h5
  rw [g1, g2, g3, g4, g5, k1, k2, k3, k4]
theorem sameR_refl (R : RecF) : sameR R R = true := by
  unfold sameR sameV
  rw [decide_eq_true_eq]
  exact ⟨rfl, rfl, rfl, ⟨rfl, rfl, rfl⟩, ⟨rfl, rfl⟩, rfl⟩
theorem sameR_ev {R T : RecF} (h : okR R) : Ev (fun k => crc_Same.f k (R.1.1 : Int) (R.1.2.1 : Int) (R.1.2.2.1 : Int) (R.1.2.2.2.1 : Int) (R.1.2.2.2.2 : Int) R.2.1.1 R.2.1.2.1 R.2.1.2.2 R.2.2 (T.1.1 : Int) (T.1.2.1 : Int) (T.1.2.2.1 : Int) (T.1.2.2.2.1 : Int) (T.1.2.2.2.2 : Int) T.2.1.1 T.2.1.2.1 T.2.1.2.2 T.2.2) (sameR R T) := by
  obtain ⟨h1, h2, h3⟩ := ok_len h
  exact same_ev _ _ _ _ _ _ _ _ _ _ _ _ _ _ _ _ _ _ h1 h2 h3
theorem take_f {s : ByteArray} (h : s.size ≤ 4611686018427387904) : crc_Take.f s = some ((((takeR s).1.1 : Nat) : Int), (((takeR s).1.2.1 : Nat) : Int), (((takeR s).1.2.2.1 : Nat) : Int), (((takeR s).1.2.2.2.1 : Nat) : Int), (((takeR s).1.2.2.2.2 : Nat) : Int), (takeR s).2.1.1, (takeR s).2.1.2.1, (takeR s).2.1.2.2, (takeR s).2.2, takeE s) := by
  unfold crc_Take.f
  rw [if_pos h]
end Go.Proofs.YtanjahakoadecaaDoor.Pure
