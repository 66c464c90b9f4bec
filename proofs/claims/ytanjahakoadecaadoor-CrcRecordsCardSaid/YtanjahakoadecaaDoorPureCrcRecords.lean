/- CrcRecords, plain: what the walk told is true for every record, text, job and other record. -/
import Derived.Test.YtanjahakoadecaaDoorPd1
import Derived.Test.YtanjahakoadecaaDoorPCrcJ
namespace Go.Proofs.YtanjahakoadecaaDoor.Pure
open Go.RowKit Go.Proofs.YtanjahakoadecaaDoor.Pc Go.Proofs.YtanjahakoadecaaDoor.Pd Go.Proofs.YtanjahakoadecaaDoorW.PrintWords Go.Proofs.YtanjahakoadecaaDoorW.PrintLast Go.Proofs.YtanjahakoadecaaDoorW.PrintMore Go.Proofs.YtanjahakoadecaaDoor.Hand Go.Proofs.YtanjahakoadecaaDoor.Num
set_option linter.unusedVariables false
set_option linter.unusedSimpArgs false

theorem refSame_ev (a0 a1 a2 a3 a4 : Int) (p q r : List Int) (mi : Bool) (b0 b1 b2 b3 b4 : Int) (p' q' r' : List Int) (mi' : Bool) (hp : p.length ≤ maxLen) (hq : q.length ≤ maxLen) (hr : r.length ≤ maxLen) :
    Ev (fun k => tallystickref14_Same.f k a0 a1 a2 a3 a4 p q r mi b0 b1 b2 b3 b4 p' q' r' mi') (sameV a0 a1 a2 a3 a4 p q r mi b0 b1 b2 b3 b4 p' q' r' mi') := by
  unfold tallystickref14_Same.f
  refine Ev.bind (samePart_ev a3 a4 p q r mi b3 b4 p' q' r' mi' hp hq hr) ?_
  by_cases h : samePV a3 a4 p q r mi b3 b4 p' q' r' mi' = true
  · refine Ev.yes h (Ev.const ?_)
    unfold samePV at h
    rw [decide_eq_true_eq] at h
    obtain ⟨h1, h2, h3, h4, h5⟩ := h
    congr 1
    unfold sameV
    rw [Bool.eq_iff_iff]
    simp only [Bool.and_eq_true, beq_iff_eq, decide_eq_true_eq]
    exact ⟨fun g => ⟨h1, h2, h3, g, h4, h5⟩, fun g => g.2.2.2.1⟩
  · refine Ev.no h (Ev.const ?_)
    congr 1
    symm
    rw [← Bool.not_eq_true]
    intro g
    apply h
    unfold sameV at g
    unfold samePV
    rw [decide_eq_true_eq] at g ⊢
    exact ⟨g.1, g.2.1, g.2.2.1, g.2.2.2.2.1, g.2.2.2.2.2⟩
theorem sameV_refl (a0 a1 a2 a3 a4 : Int) (p q r : List Int) (mi : Bool) : sameV a0 a1 a2 a3 a4 p q r mi a0 a1 a2 a3 a4 p q r mi = true := decide_eq_true ⟨rfl, rfl, rfl, ⟨rfl, rfl, rfl⟩, ⟨rfl, rfl⟩, rfl⟩
theorem take_none' {s : ByteArray} (h : takeE s ≠ 0) : takeR s = noneR := by
  unfold takeE at h
  unfold takeR
  by_cases h8 : s.size < 8
  · rw [if_pos h8]
  rw [if_neg h8] at h ⊢
  by_cases hs : ((numF (s.extract (s.size - 4) s.size).data.toList 0 : Nat) : Int) = ((4294967295 ^^^ crcFold (s.extract 0 (s.size - 4)).data.toList 4294967295 : Nat) : Int)
  · rw [if_pos hs] at h ⊢
    by_cases h4 : ((s.extract 0 4).toList == [84, 65, 76, 89]) = true
    · rw [if_pos h4] at h ⊢
      cases hp : (partsF (s.extract 4 (s.size - 4))).2.2.2 with
      | some e => rfl
      | none => rw [hp] at h; exact (h rfl).elim
    · rw [if_neg h4]
  · rw [if_neg hs]
theorem takeR_len (s : ByteArray) : (takeR s).2.1.1.length ≤ maxLen ∧ (takeR s).2.1.2.1.length ≤ maxLen ∧ (takeR s).2.1.2.2.length ≤ maxLen := by
  by_cases he : takeE s = 0
  · exact ok_len (of_take he).1
  · rw [take_none' he]
    exact ⟨Nat.zero_le _, Nat.zero_le _, Nat.zero_le _⟩
theorem ofR_len (s : ByteArray) (a b c : Int) : (ofR s a b c).2.2.1.length ≤ maxLen ∧ (ofR s a b c).2.2.2.1.length ≤ maxLen ∧ (ofR s a b c).2.2.2.2.1.length ≤ maxLen := by
  unfold ofR
  split
  · split
    · exact takeR_len s
    · exact ⟨Nat.zero_le _, Nat.zero_le _, Nat.zero_le _⟩
  · exact ⟨Nat.zero_le _, Nat.zero_le _, Nat.zero_le _⟩
theorem of_f' {s : ByteArray} (h : s.size ≤ 4611686018427387904) (a b c : Int) : crc_Of.f s a b c = some (ofR s a b c) := by
  unfold crc_Of.f
  rw [if_pos h]
theorem refOf_f {s : ByteArray} (h : s.size ≤ 4611686018427387904) (a b c : Int) : tallystickref14_Of.f s a b c = some (ofR s a b c) := of_f' h a b c
theorem samePart_same (a3 a4 : Int) (p q r : List Int) (mi : Bool) (hp : p.length ≤ maxLen) (hq : q.length ≤ maxLen) (hr : r.length ≤ maxLen) : Ev (fun k => tallystickref14_SamePart.f k a3 a4 p q r mi a3 a4 p q r mi) true := by
  have h := samePart_ev a3 a4 p q r mi a3 a4 p q r mi hp hq hr
  rwa [show samePV a3 a4 p q r mi a3 a4 p q r mi = true from decide_eq_true ⟨rfl, rfl, rfl, ⟨rfl, rfl⟩, rfl⟩] at h
theorem both_bytes (a0 a1 a2 a3 a4 : Int) {p q r : List Int} (mi : Bool) (ip : InB W p) (iq : InB W q) (ir : InB W r) (hp : p.length ≤ maxLen) (hq : q.length ≤ maxLen) (hr : r.length ≤ maxLen) :
    ∃ v, Ev (fun k => crc_Bytes.f k a0 a1 a2 a3 a4 p q r mi) v ∧ Ev (fun k => tallystickref14_Bytes.f k a0 a1 a2 a3 a4 p q r mi) v := by
  cases hm : mayV a0 a1 a2 a3 a4 p q r with
  | false => exact ⟨_, bytes_no a0 a1 a2 a3 a4 mi ip iq ir hm, refB_no a0 a1 a2 a3 a4 mi ip iq ir hp hq hr hm⟩
  | true =>
    obtain ⟨R, ho, rfl, rfl, rfl, rfl, rfl, rfl, rfl, rfl, rfl⟩ := rec_of mi hm ip iq ir
    exact ⟨_, bytes_ev ho, refB_ev ho⟩
theorem CrcRecords (a0 a1 a2 a3 a4 : Int) (p q r : List Int) (mi : Bool) (s : ByteArray) (j0 j1 j2 : Int) (b0 b1 b2 b3 b4 : Int) (p' q' r' : List Int) (mi' : Bool) (_ : (Lit.int .i64 a0).wf = true) (_ : (Lit.int .i64 a1).wf = true) (_ : (Lit.int .i64 a2).wf = true) (_ : (Lit.int .i64 a3).wf = true) (_ : (Lit.int .i64 a4).wf = true)
    (lp : p.length ≤ maxLen) (hp : ∀ x ∈ p, (Lit.int .u64 x).wf = true) (lq : q.length ≤ maxLen) (hq : ∀ x ∈ q, (Lit.int .u64 x).wf = true) (lr : r.length ≤ maxLen) (hr : ∀ x ∈ r, (Lit.int .u64 x).wf = true) (hs : s.size ≤ 140737488351232) (_ : (Lit.int .i64 j0).wf = true) (_ : (Lit.int .i64 j1).wf = true) (_ : (Lit.int .i64 j2).wf = true)
    (_ : (Lit.int .i64 b0).wf = true) (_ : (Lit.int .i64 b1).wf = true) (_ : (Lit.int .i64 b2).wf = true) (_ : (Lit.int .i64 b3).wf = true) (_ : (Lit.int .i64 b4).wf = true)
    (_ : p'.length ≤ maxLen) (_ : ∀ x ∈ p', (Lit.int .u64 x).wf = true) (_ : q'.length ≤ maxLen) (_ : ∀ x ∈ q', (Lit.int .u64 x).wf = true) (_ : r'.length ≤ maxLen) (_ : ∀ x ∈ r', (Lit.int .u64 x).wf = true) :
    ∃ k, tallysticklaw14_CrcRecords.f k a0 a1 a2 a3 a4 p q r mi s j0 j1 j2 b0 b1 b2 b3 b4 p' q' r' mi' = some true := by
  have ip := inB_wf hp
  have iq := inB_wf hq
  have ir := inB_wf hr
  have hs' : s.size ≤ 4611686018427387904 := by omega
  obtain ⟨v, hv1, hv2⟩ := both_bytes a0 a1 a2 a3 a4 mi ip iq ir lp lq lr
  have ht := take_f hs'
  have ht' : tallystickref14_Take.f s = _ := take_f hs'
  have ho := of_f' hs' j0 j1 j2
  have ho' := refOf_f hs' j0 j1 j2
  obtain ⟨t1, t2, t3⟩ := takeR_len s
  obtain ⟨o1, o2, o3⟩ := ofR_len s j0 j1 j2
  have hsame := refSame_ev (((takeR s).1.1 : Nat) : Int) (((takeR s).1.2.1 : Nat) : Int) (((takeR s).1.2.2.1 : Nat) : Int) (((takeR s).1.2.2.2.1 : Nat) : Int) (((takeR s).1.2.2.2.2 : Nat) : Int) (takeR s).2.1.1 (takeR s).2.1.2.1 (takeR s).2.1.2.2 (takeR s).2.2 (((takeR s).1.1 : Nat) : Int) (((takeR s).1.2.1 : Nat) : Int) (((takeR s).1.2.2.1 : Nat) : Int) (((takeR s).1.2.2.2.1 : Nat) : Int) (((takeR s).1.2.2.2.2 : Nat) : Int) (takeR s).2.1.1 (takeR s).2.1.2.1 (takeR s).2.1.2.2 (takeR s).2.2 t1 t2 t3
  rw [sameV_refl] at hsame
  have hsum : crc_Sum.f s = some ((crcL (bl s) : Nat) : Int) := by
    unfold crc_Sum.f
    rw [if_pos hs']
    rfl
  refine Ev.get ?_
  unfold tallysticklaw14_CrcRecords.f
  refine Ev.bind (Ev.const shown_true) (Ev.bind hv1 (Ev.bind hv2 (Ev.bind (Ev.const ht) (Ev.bind (Ev.const ht') (Ev.bind (Ev.const ho) (Ev.bind (Ev.const ho') (Ev.bind hsame (Ev.yes (by first | rfl | trivial) (Ev.bind (samePart_same _ _ _ _ _ _ o1 o2 o3) ?_)))))))))
  refine Ev.succ ?_
  simp only [tallysticklaw14_CrcRecords.j0]
  refine Ev.yes (by first | rfl | trivial) (Ev.yes (by first | rfl | trivial) (Ev.yes (by first | rfl | trivial) (Ev.yes (by first | rfl | trivial) (Ev.yes (by first | rfl | trivial) (Ev.yes (by first | rfl | trivial) (Ev.bind (Ev.const hsum) (Ev.bind (refSum_ev s hs') (Ev.yes (by first | rfl | trivial) ?_))))))))
  refine Ev.bind (same_ev a0 a1 a2 a3 a4 p q r mi b0 b1 b2 b3 b4 p' q' r' mi' lp lq lr) (Ev.bind (refSame_ev a0 a1 a2 a3 a4 p q r mi b0 b1 b2 b3 b4 p' q' r' mi' lp lq lr) (Ev.const ?_))
  rw [beq_self_eq_true]
end Go.Proofs.YtanjahakoadecaaDoor.Pure
