/- nat.Add by hand: a sum: the row of the sum of the values; new memory alone is written. Conditions: words, not too many. -/
import Derived.Test.YtgoglfojjpibnaaHNatP
namespace Go.Proofs.Ytgoglfojjpibnaa.Hand
open Go.RowKit Go.Proofs.YtgoglfojjpibnaaW.PrintWords Go.Proofs.YtgoglfojjpibnaaW.PrintMore Go.Proofs.Ytgoglfojjpibnaa.Num
set_option linter.unusedVariables false
set_option linter.unusedSimpArgs false
attribute [local go_sem] Oper.semAt_some max2_int min2_int max_two min_two

def fsts (l : List WW) : List Int := l.map fun p => p.1.1
def snds (l : List WW) : List Int := l.map fun p => p.1.2
theorem val_snoc (B : Nat) (l : List Int) (x : Int) : val B (l ++ [x]) = val B l + B ^ l.length * x.toNat := by rw [val_append]; simp [val]
theorem val_fsts {a b : List Int} (hia : InB W a) (hib : InB W b) : ∀ k, val W (fsts (upto (pairAt hia hib) k)) = val W (a.take k)
  | 0 => by simp [upto, fsts, val]
  | k + 1 => by
    have ih := val_fsts hia hib k
    have e : fsts (upto (pairAt hia hib) (k + 1)) = fsts (upto (pairAt hia hib) k) ++ [a[k]?.getD 0] := by rw [upto_succ]; simp [fsts, pairAt]
    rw [e, val_snoc, ih, val_take_succ, List.getD_eq_getElem?_getD]
    simp [fsts, upto]
theorem val_snds {a b : List Int} (hia : InB W a) (hib : InB W b) : ∀ k, val W (snds (upto (pairAt hia hib) k)) = val W (b.take k)
  | 0 => by simp [upto, snds, val]
  | k + 1 => by
    have ih := val_snds hia hib k
    have e : snds (upto (pairAt hia hib) (k + 1)) = snds (upto (pairAt hia hib) k) ++ [b[k]?.getD 0] := by rw [upto_succ]; simp [snds, pairAt]
    rw [e, val_snoc, ih, val_take_succ, List.getD_eq_getElem?_getD]
    simp [snds, upto]
/-- What has been made of the pairs that have come: the sum's words, and what is carried. -/
structure AddInv (pre : List WW) (out : List Int) (c : Int) : Prop where
  len : out.length = pre.length
  inb : InB W out
  c0 : 0 ≤ c
  c1 : c ≤ 1
  val : val W out + W ^ pre.length * c.toNat = val W (fsts pre) + val W (snds pre)
theorem AddInv.nil : AddInv [] [] 0 := ⟨rfl, inB_nil _, by omega, by omega, by simp [fsts, snds, Num.val]⟩
theorem wd_inb {x : Int} (h : Wd x) : 0 ≤ x ∧ x < ((W : Nat) : Int) := h
theorem AddInv.snoc {pre : List WW} {out : List Int} {c : Int} (h : AddInv pre out c) (x : WW) : AddInv (pre ++ [x]) (out ++ [sumLo x.1.1 x.1.2 c]) (sumHi x.1.1 x.1.2 c) := by
  have hs := sum_eq x.1.1 x.1.2 c
  have hw := sumLo_wd x.1.1 x.1.2 c
  have hh := sumHi_le x.2.1 x.2.2 h.c0 h.c1
  have h1 := x.2.1
  have h2 := x.2.2
  refine ⟨by simp [h.len], inB_append.2 ⟨h.inb, inB_cons.2 ⟨wd_inb hw, inB_nil _⟩⟩, hh.1, hh.2, ?_⟩
  have e1 : fsts (pre ++ [x]) = fsts pre ++ [x.1.1] := by simp [fsts]
  have e2 : snds (pre ++ [x]) = snds pre ++ [x.1.2] := by simp [snds]
  have l1 : (fsts pre).length = pre.length := by simp [fsts]
  have l2 : (snds pre).length = pre.length := by simp [snds]
  rw [e1, e2, val_snoc, val_snoc, val_snoc, h.len, l1, l2, List.length_append, List.length_singleton, Nat.pow_succ]
  have hv := h.val
  generalize sumLo x.1.1 x.1.2 c = s at *
  generalize sumHi x.1.1 x.1.2 c = t at *
  generalize x.1.1 = u at *
  generalize x.1.2 = v at *
  generalize Num.val W (fsts pre) = A at *
  generalize Num.val W (snds pre) = B at *
  generalize Num.val W out = O at *
  generalize W ^ pre.length = p at *
  obtain ⟨c0, c1⟩ : 0 ≤ c ∧ c ≤ 1 := ⟨h.c0, h.c1⟩
  obtain ⟨s, rfl⟩ := Int.eq_ofNat_of_zero_le hw.1
  obtain ⟨t, rfl⟩ := Int.eq_ofNat_of_zero_le hh.1
  obtain ⟨u, rfl⟩ := Int.eq_ofNat_of_zero_le h1.1
  obtain ⟨v, rfl⟩ := Int.eq_ofNat_of_zero_le h2.1
  obtain ⟨c, rfl⟩ := Int.eq_ofNat_of_zero_le c0
  simp only [Int.toNat_natCast] at *
  have hs' : s + W * t = u + v + c := by rw [W_eq]; omega
  clear hs hw hh h1 h2 c0 c1 h
  have : p * s + p * W * t = p * u + p * v + p * c := by rw [Nat.mul_assoc, ← Nat.mul_add, hs', Nat.mul_add, Nat.mul_add]
  omega

/-- How the call's own memory stands, k words having been made: the row (block B), the variable out (B + 1), the variable c (B + 1 + 1). -/
structure Own3 (B cap : Nat) (c : Value) (k : Nat) (out : List Int) (W : World) : Prop where
  bo : Boxed W (B + 1) 22 (.slice (some ⟨B, 0, none⟩) k cap)
  bc : Boxed W (B + 1 + 1) 38 c
  row : W.ownsRow B 38 1 (.slice (some ⟨B, 0, none⟩) k cap) k (nums .u64 out)
theorem Own3.grown {B cap k : Nat} {c : Value} {out : List Int} {W W' : World} {row : Option Nat} (h : Own3 B cap c k out W) (hg : W.grownBy W' row) (h0 : some B ≠ row) (h1 : some (B + 1) ≠ row) (h2 : some (B + 1 + 1) ≠ row) : Own3 B cap c k out W' :=
  ⟨h.bo.kept hg h1, h.bc.kept hg h2, h.row.kept hg (.inr h0)⟩
theorem Own3.other {B cap k : Nat} {c : Value} {out : List Int} {W W' : World} {row : Option Nat} (h : Own3 B cap c k out W) (hg : W.grownBy W' row) (hr : ∀ r, row = some r → ∃ o : Obj, W.heap[r]? = some o ∧ o.isCells = false) : Own3 B cap c k out W' := by
  refine h.grown hg ?_ ?_ ?_
  · intro e
    obtain ⟨o, ho, hc⟩ := hr _ e.symm
    obtain ⟨g, cap', cur, hv, _, hgb, _⟩ := (h.row.2).resolve_left (fun z => by cases z.1)
    have : g = B := by injection hv with hv; injection hv with hv; injection hv with hv; exact hv.symm
    subst this
    rw [hgb] at ho; cases ho; cases hc
  · intro e
    obtain ⟨o, ho, hc⟩ := hr _ e.symm
    rw [show W.heap[B + 1]? = _ from h.bo] at ho; cases ho; cases hc
  · intro e
    obtain ⟨o, ho, hc⟩ := hr _ e.symm
    rw [show W.heap[B + 1 + 1]? = _ from h.bc] at ho; cases ho; cases hc
/-- Behind an append of one word in place, and the two stores. -/
theorem Own3.step {B cap k : Nat} {c c' : Value} {out : List Int} {s : Int} {W w1 : World} {o : Obj} (h : Own3 B cap c k out W)
    (hr : w1.ownsRow B 38 1 (.slice (some ⟨B, 0, none⟩) (k + 1) cap) (k + 1) (nums .u64 out ++ [.int .u64 s])) (hg : (W.alloc o).grownBy w1 (some B)) :
    Own3 B cap c' (k + 1) (out ++ [s]) ((w1.setCell ⟨B + 1, 0, none⟩ (.slice (some ⟨B, 0, none⟩) (k + 1) cap)).setCell ⟨B + 1 + 1, 0, none⟩ c') := by
  have b1 : Boxed w1 (B + 1) _ _ := (h.bo.alloc o).kept hg (by simp)
  have b2 : Boxed w1 (B + 1 + 1) _ _ := (h.bc.alloc o).kept hg (by simp; omega)
  refine ⟨(b1.set _).kept (grownBy_setCell' _ _ _) (by simp), (b2.kept (grownBy_setCell' _ _ _) (by simp)).set _, ?_⟩
  have e : nums .u64 (out ++ [s]) = nums .u64 out ++ [.int .u64 s] := by simp [nums]
  rw [e]
  exact (hr.kept (grownBy_setCell' _ _ _) (.inr (by simp [Value.ownBlock]))).kept (grownBy_setCell' _ _ _) (.inr (by simp [Value.ownBlock]; omega))
theorem keepB_step {B k cap : Nat} {c' : Value} {W w1 : World} {o : Obj} (hs : B + 5 ≤ W.heap.size) (hg : (W.alloc o).grownBy w1 (some B)) :
    KeepB B (B + 1 + 1 + 1) (B + 1 + 1 + 1 + 1) W ((w1.setCell ⟨B + 1, 0, none⟩ (.slice (some ⟨B, 0, none⟩) k cap)).setCell ⟨B + 1 + 1, 0, none⟩ c') := by
  have old : ∀ j, j < W.heap.size → j ≠ B → j ≠ B + 1 → j ≠ B + 1 + 1 → ((w1.setCell ⟨B + 1, 0, none⟩ (.slice (some ⟨B, 0, none⟩) k cap)).setCell ⟨B + 1 + 1, 0, none⟩ c').heap[j]? = W.heap[j]? := by
    intro j hj h0 h1 h2
    rw [Below.heap_setCell _ _ _ _ (by simpa using h2), Below.heap_setCell _ _ _ _ (by simpa using h1), hg.block j (by simp; omega) (by simpa using h0), Below.heap_alloc _ _ _ hj]
  exact ⟨⟨hg.os, hg.tape, hg.output, by have := hg.size; simp [World.setCell] at this ⊢; omega, fun j hj => old j (by omega) (by omega) (by omega) (by omega)⟩, old _ (by omega) (by omega) (by omega) (by omega), old _ (by omega) (by omega) (by omega) (by omega)⟩
theorem keepsOthers_step {B k cap : Nat} {c c' : Value} {out : List Int} {W w1 : World} {o : Obj} (h : Own3 B cap c k out W) (hg : (W.alloc o).grownBy w1 (some B)) :
    KeepsOthers W ((w1.setCell ⟨B + 1, 0, none⟩ (.slice (some ⟨B, 0, none⟩) (k + 1) cap)).setCell ⟨B + 1 + 1, 0, none⟩ c') := by
  refine (((KeepsOthers.alloc W o).trans (KeepsOthers.of_grownBy hg fun j o' ej hj => ?_)).trans (KeepsOthers.setCell _ _ _)).trans (KeepsOthers.setCell _ _ _)
  cases ej
  obtain ⟨g, cap', cur, hv, _, hgb, _⟩ := (h.row.2).resolve_left (fun z => by cases z.1)
  have : g = B := by injection hv with hv; injection hv with hv; injection hv with hv; exact hv.symm
  subst this
  rw [Below.heap_alloc _ _ _ (Array.getElem?_eq_some_iff.1 hgb).1, hgb] at hj
  cases hj; rfl

theorem size_step {B k cap : Nat} {c' : Value} {W w1 : World} {o : Obj} (hs : B + 5 ≤ W.heap.size) (hg : (W.alloc o).grownBy w1 (some B)) :
    B + 5 ≤ ((w1.setCell ⟨B + 1, 0, none⟩ (.slice (some ⟨B, 0, none⟩) k cap)).setCell ⟨B + 1 + 1, 0, none⟩ c').heap.size := Nat.le_trans hs (keepB_step hs hg).below.size
theorem below_step {k cap : Nat} {c' : Value} {w0 W w1 : World} {o : Obj} (h : Below w0.heap.size w0 W) (hg : (W.alloc o).grownBy w1 (some w0.heap.size)) :
    Below w0.heap.size w0 ((w1.setCell ⟨w0.heap.size + 1, 0, none⟩ (.slice (some ⟨w0.heap.size, 0, none⟩) k cap)).setCell ⟨w0.heap.size + 1 + 1, 0, none⟩ c') :=
  ((below_alloc h o).grown hg (by have := h.size; simp; omega) (fun k e => by cases e; exact Nat.le_refl _)).setCell (p := ⟨w0.heap.size + 1, 0, none⟩) (by simp) _ |>.setCell (p := ⟨w0.heap.size + 1 + 1, 0, none⟩) (by simp; omega) _

theorem run_make_cap (m : Nat) (hm : m * 8 ≤ 281474976710656) (W : World) :
    (Instr.makeSlice 22 (.int .i64 0) (.int .i64 (m : Int))).run Try.prog W = .ok (.slice (some ⟨W.heap.size, 0, none⟩) 0 m) (W.alloc (.cells (madeCells #[.int .u64 0] m) 38)) := by
  obtain ⟨i, hi, hi2⟩ := Option.map_eq_some_iff.1 info64
  simp only [Prod.mk.injEq] at hi2
  have h := run_make (P := Try.prog) W 22 38 i (.int .u64 0) Try.underlying22 hi hi2.1 .i64 .i64 0 m (Int.le_refl _) (by omega) (by rw [hi2.2.2]; omega) (by omega)
  rw [hi2.2.1, Nat.mul_one, Int.toNat_natCast] at h
  exact h
theorem own3_made (W : World) (m : Nat) (hm : m ≤ maxLen) :
    Own3 W.heap.size m (.int .u64 0) 0 [] (((W.alloc (.cells (madeCells #[.int .u64 0] m) 38)).alloc (.cells #[.slice (some ⟨W.heap.size, 0, none⟩) 0 m] 22)).alloc (.cells #[.int .u64 0] 38)) := by
  have r := World.ownsRow_made (base := W.heap.size) (e := 38) (size := 1) W (madeCells #[.int .u64 0] m) m (Nat.le_refl _) hm (by rw [size_madeCells, Nat.mul_one])
  have b1 := Boxed.new (W.alloc (.cells (madeCells #[.int .u64 0] m) 38)) 22 (.slice (some ⟨W.heap.size, 0, none⟩) 0 m)
  have b2 := Boxed.new ((W.alloc (.cells (madeCells #[.int .u64 0] m) 38)).alloc (.cells #[.slice (some ⟨W.heap.size, 0, none⟩) 0 m] 22)) 38 (.int .u64 0)
  rw [World.size_alloc] at b1
  rw [World.size_alloc, World.size_alloc] at b2
  exact ⟨b1.alloc _, b2, (r.alloc _).alloc _⟩

/-- What a call that hands back new words leaves. -/
def NewPost (r : List Int) (w : World) (e : Ending) (w' : World) : Prop := ∃ v : Value, e = .returned v ∧ Vw w' w.heap.size (fun k => w.heap.size ≤ k) v r ∧ Below w.heap.size w w'
theorem Rd.kept {w w' : World} {A : Option Addr} {n : Nat} {l : List Int} (h : Rd w A n l) (hb : ∀ ad, A = some ad → w'.heap[ad.block]? = w.heap[ad.block]?) : Rd w' A n l := by
  have hl : l.length = n := h.1
  subst hl
  exact Rd.of_C (h.foot (ok := fun k => w'.heap[k]? = w.heap[k]?) (fun ad e _ => hb ad e) w' (fun k hk _ => hk))
/-- The end of a call that hands back its own row, cut short, behind a loop over a function. -/
theorem newPost_done {w W w1 : World} {B m k D : Nat} {l r : List Int} {o : Obj} (hB : B = w.heap.size) (hbl : Below w.heap.size w W) (hsz : B + 5 ≤ W.heap.size) (hg : (W.alloc o).grownBy w1 (some B)) (hr : Rd w1 (some ⟨B, 0, none⟩) m l) (hk : k ≤ m) (he : l.take k = r)
    (hD : B + 1 ≤ D) (hDW : W.heap[D]? = some (.deferred (some []))) :
    w1.heap[D]? = some (.deferred (some [])) ∧ NewPost r w (.returned (.slice (some ⟨B, 0, none⟩) k k)) (w1.putObj D (.deferred none)) := by
  have hDs : D < W.heap.size := (Array.getElem?_eq_some_iff.1 hDW).1
  have h1 : w1.heap[D]? = some (.deferred (some [])) := by rw [hg.block D (by simp; omega) (by simp; omega), Below.heap_alloc _ _ _ hDs, hDW]
  have hs1 := hg.size
  rw [World.size_alloc] at hs1
  refine ⟨h1, _, rfl, Vw.of_Rd (l := r) (n := k) ?_ (Nat.le_refl _) ?_, ?_⟩
  · rw [← he]
    exact (hr.take k hk).kept (fun ad e => by cases e; exact World.putObj_heap_other (by simp; omega))
  · intro ad e _; cases e; simp [hB]
  · exact (((below_alloc hbl o).grown hg (by have := hbl.size; simp; omega) (fun k e => by cases e; omega))).trans (belowK_b (w := w) (Nat.le_refl _) w1 D _ _ (by omega) h1 rfl rfl)
theorem nat_norm' (A : Option Addr) (n c : Nat) (l : List Int) (w : World) (hr : Rd w A n l) (hc : n ≤ c) (hb : InB Num.W l) :
    Calls Try.prog 33 #[.slice A n c] w (NormPost A l w) := by
  have hl : l.length = n := hr.1
  subst hl
  exact nat_norm A c l w hr hc hb


set_option maxRecDepth 100000 in
set_option maxHeartbeats 2000000 in
theorem nat_add (Aa Ab : Option Addr) (na nb ca cb : Nat) (a b : List Int) (w : World) (ha : Rd w Aa na a) (hb : Rd w Ab nb b) (hia : InB Num.W a) (hib : InB Num.W b) (hna : na ≤ 17592186044400) (hnb : nb ≤ 17592186044400) :
    Calls Try.prog 34 #[.slice Aa na ca, .slice Ab nb cb] w (NewPost (dig Num.W (val Num.W a + val Num.W b)) w) := by
  obtain ⟨i0, hi, hi2⟩ := Option.map_eq_some_iff.1 info64
  simp only [Prod.mk.injEq] at hi2
  obtain ⟨hz0, hz1, hz2⟩ := hi2
  obtain ⟨m, hm⟩ : ∃ m, m = max na nb := ⟨_, rfl⟩
  have hmx2 : (if na < nb then ((nb : Nat) : Int) else ((na : Nat) : Int)) = ((m : Nat) : Int) := by rw [hm]; split <;> omega
  have hmx : (if ((na : Nat) : Int) < ((nb : Nat) : Int) then ((nb : Nat) : Int) else ((na : Nat) : Int)) = ((m : Nat) : Int) := by rw [hm]; split <;> omega
  have hml : m ≤ 17592186044400 := by omega
  have hmk := fun W => run_make_cap (m + 1) (by omega) W
  have hmk' : ∀ W : World, (Instr.makeSlice 22 (.int .i64 0) (.int .i64 ((m : Int) + 1))).run Try.prog W = .ok (.slice (some ⟨W.heap.size, 0, none⟩) 0 (m + 1)) (W.alloc (.cells (madeCells #[.int .u64 0] (m + 1)) 38)) := hmk
  have HM := Aside0.mk hm
  have HA := Aside0.mk ha
  have HB := Aside0.mk hb
  clear ha hb hm hmk
  refine (callsIn_wide (n := 6)).1 ?_
  refine callsIn_of_wp_marks Try.func34 rfl trivial ?_ rfl
  simp only [Try.ntmps34, List.size_toArray, List.length_cons, List.length_nil, Nat.reduceAdd, Nat.reduceSub, Array.replicate_succ, Array.replicate_zero, List.push_toArray, List.append_toArray, List.nil_append, List.cons_append]
  gi_wp2_with ((refine ⟨trivial, ?_⟩); gi_at_call 44; refine (callsIn_wide.2 (pairs_in _ _ _ _ _ _ _)).mono ?_; rintro e w' ⟨rfl, rfl⟩)
  have hO0 := own3_made w (m + 1) (by unfold maxLen; omega)
  have hBa : (((((w.alloc (.cells (madeCells #[.int .u64 0] (m + 1)) 38)).alloc (.cells #[.slice (some ⟨w.heap.size, 0, none⟩) 0 (m + 1)] 22)).alloc (.cells #[.int .u64 0] 38)).alloc (.cells #[.slice Aa na ca] 22)).alloc (.cells #[.slice Ab nb cb] 22)).heap[w.heap.size + 1 + 1 + 1]? = some (.cells #[.slice Aa na ca] 22 (0, 0)) := by
    have := blk_new (((w.alloc (.cells (madeCells #[.int .u64 0] (m + 1)) 38)).alloc (.cells #[.slice (some ⟨w.heap.size, 0, none⟩) 0 (m + 1)] 22)).alloc (.cells #[.int .u64 0] 38)) (.cells #[.slice Aa na ca] 22)
    rw [World.size_alloc, World.size_alloc, World.size_alloc] at this
    exact blk_alloc this _
  have hBb : (((((w.alloc (.cells (madeCells #[.int .u64 0] (m + 1)) 38)).alloc (.cells #[.slice (some ⟨w.heap.size, 0, none⟩) 0 (m + 1)] 22)).alloc (.cells #[.int .u64 0] 38)).alloc (.cells #[.slice Aa na ca] 22)).alloc (.cells #[.slice Ab nb cb] 22)).heap[w.heap.size + 1 + 1 + 1 + 1]? = some (.cells #[.slice Ab nb cb] 22 (0, 0)) := by
    have := blk_new ((((w.alloc (.cells (madeCells #[.int .u64 0] (m + 1)) 38)).alloc (.cells #[.slice (some ⟨w.heap.size, 0, none⟩) 0 (m + 1)] 22)).alloc (.cells #[.int .u64 0] 38)).alloc (.cells #[.slice Aa na ca] 22)) (.cells #[.slice Ab nb cb] 22)
    rw [World.size_alloc, World.size_alloc, World.size_alloc, World.size_alloc] at this
    exact this
  have hB0 : Below w.heap.size w (((((w.alloc (.cells (madeCells #[.int .u64 0] (m + 1)) 38)).alloc (.cells #[.slice (some ⟨w.heap.size, 0, none⟩) 0 (m + 1)] 22)).alloc (.cells #[.int .u64 0] 38)).alloc (.cells #[.slice Aa na ca] 22)).alloc (.cells #[.slice Ab nb cb] 22)) := below_alloc (below_alloc (below_alloc (below_alloc (below_alloc (Below.refl _ _) _) _) _) _) _
  have hO1 := (hO0.grown (World.grownBy_alloc _ (.cells #[.slice Aa na ca] 22) none) (by simp) (by simp) (by simp)).grown (World.grownBy_alloc _ (.cells #[.slice Ab nb cb] 22) none) (by simp) (by simp) (by simp)
  refine wpIn_rangeFunc_ownG rfl (by omega) (gf := 48) (lb := #[.pointer (some ⟨w.heap.size + 1 + 1 + 1, 0, none⟩), .pointer (some ⟨w.heap.size + 1 + 1 + 1 + 1, 0, none⟩)]) rfl trivial (enters_of Try.func48 (by kernel_rfl) rfl)
    (pairs_stops 5 (by omega) (w.heap.size + 1 + 1 + 1) (w.heap.size + 1 + 1 + 1 + 1) w.heap.size na nb ca cb Aa Ab a b hia hib _ hBa hBb (by simp; omega) (HA.out.toB.keep hB0) (HB.out.toB.keep hB0))
    KeepB.trans (keepB_b (by simp; omega) (by simp) (by simp)) (Below.refl _ _) (fun _ => rfl)
    (fun pre W => ((∃ out c, Own3 w.heap.size (m + 1) (.int .u64 c) pre.length out W ∧ AddInv pre out c) ∧ w.heap.size + 5 ≤ W.heap.size) ∧ Below w.heap.size w W)
    (fun _ _ _ => False)
    (OwnFrom.and (Own.from (fun s A B row hs hg hr => by
      obtain ⟨⟨out, c, ho, hi⟩, hz⟩ := hs
      exact ⟨⟨out, c, ho.other hg hr, hi⟩, Nat.le_trans hz hg.size⟩) _) (ownFrom_below (Nat.le_refl _) (by simp; omega)))
    (fun _ _ _ _ _ hs _ _ => hs)
    ⟨⟨⟨[], 0, hO1, AddInv.nil⟩, by simp⟩, hB0⟩
    ?a1 ?assign ?body ?done ?stop
  case assign =>
    intro l x W K hK
    gi_wp2
    exact hK
  case body =>
    rintro l pre x W ⟨⟨⟨out, c, hO, hI⟩, hz⟩, hB⟩ hlt
    have hx := x.2.1
    have hy := x.2.2
    have c0 := hI.c0
    have c1 := hI.c1
    have qo := hO.bo.cell
    have qc := hO.bc.cell
    have HO := Aside0.mk hO
    have HI := Aside0.mk hI
    have HBW := Aside0.mk hB
    have HZ := Aside0.mk hz
    clear hO hI hB hz
    have hd : 1 ≤ 6 - 1 - 1 := by omega
    have hle : pre.length + 1 ≤ m + 1 := by have := HM.out; omega
    have HLT := Aside0.mk hlt
    clear hlt
    gi_wp2_with (first | (gi_at_builtin; refine wpListIn_append_fits _ rfl _ _ 22 rfl w.heap.size 38 i0 1 Try.underlying22 hi hz1 w.heap.size pre.length (m + 1) _ rfl (HO.out.row.alloc _) ⟨W.heap.size, 0, none⟩ 1 1 [.int .u64 (sumLo x.1.1 x.1.2 c)] rfl rfl (cell_one_new _ _ _) (by simp [Value.oneCell']) hle ?_; intro w1 hown1 hgrow1; have b1 := (HO.out.bo.alloc _).kept hgrow1 (by simp); have b2 := (HO.out.bc.alloc _).kept hgrow1 (by simp; omega); have q1 := b1.cell; have q2 := b2.cell; have f1 := b1.frozen; have f2 := b2.frozen; have HOW := Aside0.mk hown1; have HGR := Aside0.mk hgrow1; clear hown1 hgrow1 b1 b2) | ((refine ⟨trivial, ?_⟩); (gi_at_call 32); (with_reducible refine (CallsIn.inRound l (callsIn_wide.2 (word_add _ _ _ hx hy c0 c1 _))).mono ?_); (rintro e w' ⟨rfl, rfl⟩)))
    exact ⟨(keepsOthers_step HO.out HGR.out).from _, keepB_step HZ.out HGR.out, ⟨⟨_, _, by rw [List.length_append]; exact HO.out.step HOW.out HGR.out, HI.out.snoc x⟩, size_step HZ.out HGR.out⟩, below_step HBW.out HGR.out⟩
  case done =>
    rintro D ys W hD rfl ⟨⟨⟨out, c, hO, hI⟩, hz⟩, hB⟩ hK
    have hln : (upto (pairAt hia hib) (max na nb)).length = m := by rw [upto_length]; exact HM.out.symm
    have c0 := hI.c0
    have c1 := hI.c1
    have hvl := hI.val
    rw [hln] at hO hvl
    have hol : out.length = m := by rw [hI.len, hln]
    rw [val_fsts hia hib, val_snds hia hib, take_max HA.out.1 (Nat.le_max_left _ _), take_max HB.out.1 (Nat.le_max_right _ _), ← hol, ← val_snoc] at hvl
    have HIB := Aside0.mk (inB_append.2 ⟨hI.inb, inB_cons.2 ⟨⟨c0, Int.lt_of_le_of_lt c1 (by decide)⟩, inB_nil _⟩⟩ : InB Num.W (out ++ [c]))
    have HVL := Aside0.mk hvl
    have HOL := Aside0.mk hol
    have qo := hO.bo.cell
    have qc := hO.bc.cell
    have HO := Aside0.mk hO
    have HBW := Aside0.mk hB
    have HZ := Aside0.mk hz
    have HD := Aside0.mk hD
    have HK := Aside0.mk hK
    clear hO hI hB hz hD hK hvl hol hln
    have hle : m + 1 ≤ m + 1 := Nat.le_refl _
    gi_wp2_with (first | (gi_at_builtin; refine wpListIn_append_fits _ rfl _ _ 22 rfl w.heap.size 38 i0 1 Try.underlying22 hi hz1 w.heap.size m (m + 1) _ rfl (HO.out.row.alloc _) ⟨W.heap.size, 0, none⟩ 1 1 [.int .u64 c] rfl rfl (cell_one_new _ _ _) (by simp [Value.oneCell']) hle ?_; intro w1 hown1 hgrow1; have hrd1 := own_reads' (k := .u64) (xs := out ++ [c]) (by simpa [nums] using hown1); have HRD := Aside0.mk hrd1; have HGR := Aside0.mk hgrow1; clear hown1 hgrow1 hrd1) | ((refine ⟨trivial, ?_⟩); (gi_at_call 33); (with_reducible refine (callsIn_wide.2 (nat_norm' _ (m + 1) (m + 1) (out ++ [c]) _ HRD.out (Nat.le_refl _) HIB.out)).mono ?_); (rintro e w' ⟨k, hk1, hk2, rfl, rfl⟩)))
    rw [HVL.out] at hk2
    have hfin := newPost_done (B := w.heap.size) rfl HBW.out HZ.out HGR.out HRD.out (by have := HRD.out.1; omega) hk2 (by have := HD.out; simp at this; omega) HK.out
    refine ⟨by simp, .inl ⟨_, _, rfl, run_takeDeferred hfin.1, ?_⟩⟩
    refine ⟨_, results_tmp rfl _ _ _, ?_⟩
    exact hfin.2
  case stop =>
    rintro D c pre W _ _ h _
    exact h.elim

theorem calls_of_new {f : Nat} {args : Array Value} {r : List Int} {w : World} (h : Calls Try.prog f args w (NewPost r w)) :
    Calls Try.prog f args w fun e w' => ∃ v0_ : Value, e = .returned (v0_) ∧ Kd.V (Kd.int .u64) 38 w' w.heap.size (fun k_ => (w.heap.size ≤ k_)) v0_ r ∧ Below w.heap.size w w' :=
  Calls.mono h fun _ _ h => h
def nat_Add.f (l0 l1 : List Int) : Option (List Int) := if inb l0 = true ∧ inb l1 = true ∧ l0.length ≤ LIM ∧ l1.length ≤ LIM then some (dig W (val W l0 + val W l1)) else none
theorem nat_Add.calls (A0 : Option Addr) (c0 : Nat) (l0 : List Int) (A1 : Option Addr) (c1 : Nat) (l1 : List Int) (r : List Int) (w : World)
    (hr0 : Kd.C (Kd.int .u64) w A0 l0.length l0) (_hc0 : l0.length ≤ c0) (hr1 : Kd.C (Kd.int .u64) w A1 l1.length l1) (_hc1 : l1.length ≤ c1) (h : nat_Add.f l0 l1 = some r) :
    Calls Try.prog 34 #[.slice A0 l0.length c0, .slice A1 l1.length c1] w fun e w' => ∃ v0_ : Value, e = .returned (v0_) ∧ Kd.V (Kd.int .u64) 38 w' w.heap.size (fun k_ => (w.heap.size ≤ k_)) v0_ r ∧ Below w.heap.size w w' := by
  unfold nat_Add.f at h
  split at h
  · rename_i hi
    cases h
    exact calls_of_new (nat_add A0 A1 _ _ c0 c1 l0 l1 w (Rd.of_C hr0) (Rd.of_C hr1) (inb_iff.1 hi.1) (inb_iff.1 hi.2.1) hi.2.2.1 hi.2.2.2)
  · cases h
end Go.Proofs.Ytgoglfojjpibnaa.Hand
