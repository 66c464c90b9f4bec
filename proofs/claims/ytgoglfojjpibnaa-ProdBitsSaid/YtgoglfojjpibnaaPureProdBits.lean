/- ProdBits: a product has as many bits as both together, or one less; that with nothing is nothing; with 1 it is the number. -/
import Derived.Test.YtgoglfojjpibnaaPProdA
import Derived.Test.YtgoglfojjpibnaaHProdE
import Derived.Test.YtgoglfojjpibnaaPa11
namespace Go.Proofs.Ytgoglfojjpibnaa.Pure
open Go.RowKit Go.Proofs.Ytgoglfojjpibnaa.Pa Go.Proofs.YtgoglfojjpibnaaW.PrintWords Go.Proofs.YtgoglfojjpibnaaW.PrintLast Go.Proofs.Ytgoglfojjpibnaa.Hand Go.Proofs.Ytgoglfojjpibnaa.Num
set_option linter.unusedVariables false
set_option linter.unusedSimpArgs false

theorem kara_eq {a b : List Int} (ha : InB W a) (hb : InB W b) (la : a.length ≤ 1000) (lb : b.length ≤ 1000) (n : Int) : prod_Kara.f a b n = some (dig W (val W a * val W b)) := by
  unfold prod_Kara.f PLIM; rw [if_pos ⟨inb_of ha, inb_of hb, by omega, by omega⟩]
theorem bl_zero {n : Nat} : bl n = 0 ↔ n = 0 := by
  constructor
  · intro h
    have := (bl_le (n := n) (k := 0)).1 (by omega)
    simpa using this
  · rintro rfl; rfl
theorem bl_ge {n k : Nat} (h : 2 ^ k ≤ n) : k < bl n := by
  rcases Nat.lt_or_ge k (bl n) with h1 | h1
  · exact h1
  · have := (bl_le (n := n) (k := k)).1 h1; omega
theorem bl_low {n k : Nat} (h : bl n = k + 1) : 2 ^ k ≤ n := by
  rcases Nat.lt_or_ge n (2 ^ k) with h1 | h1
  · have := bl_le.2 h1; omega
  · exact h1
theorem bl_mul {m n : Nat} (hm : 0 < m) (hn : 0 < n) : bl (m * n) = bl m + bl n ∨ bl (m * n) + 1 = bl m + bl n := by
  obtain ⟨i, hi⟩ : ∃ i, bl m = i + 1 := ⟨bl m - 1, by have : bl m ≠ 0 := fun h => by have := bl_zero.1 h; omega
                                                      omega⟩
  obtain ⟨k, hk⟩ : ∃ k, bl n = k + 1 := ⟨bl n - 1, by have : bl n ≠ 0 := fun h => by have := bl_zero.1 h; omega
                                                      omega⟩
  have h1 : i + k < bl (m * n) := bl_ge (by rw [Nat.pow_add]; exact Nat.mul_le_mul (bl_low hi) (bl_low hk))
  have h2 : bl (m * n) ≤ (i + 1) + (k + 1) := bl_le.2 (by rw [Nat.pow_add]; exact Nat.mul_lt_mul_of_lt_of_lt (bl_le.1 (by omega)) (bl_le.1 (by omega)))
  omega
theorem bits5_ev {a : List Int} (ia : InB W a) (ha : a.length ≤ 1000) : Ev (fun k => tallysticklaw05_bits.f k a) ((bl (val W a) : Nat) : Int) := by
  have la := (Fit.val ia ha).digV
  unfold tallysticklaw05_bits.f
  exact Ev.bind (digits_ev ia (by omega)) (Ev.bind (bits_ev (by omega)) (Ev.const rfl))
theorem len01_f {x : Int} (h : Wd x) (h0 : x ≠ 0) : Ev (fun k => (tallystickref01_Len.f k x).bind fun t => some (decide (t > 0))) true := by
  obtain ⟨x, rfl⟩ := Int.eq_ofNat_of_zero_le h.1
  have h2 := h.2
  have hp : bl x ≠ 0 := fun h => h0 (by rw [bl_zero.1 h]; rfl)
  have ev := len01_ev 64 x 0 (by omega) (by decide) (by decide)
  rw [Nat.zero_add] at ev
  refine Ev.bind ?_ (Ev.const (show some (decide (((bl x : Nat) : Int) > 0)) = some true by rw [decide_eq_true (by omega)]))
  exact ev
theorem top_ev {n k : Nat} (hl : (dig W n).length = k + 1) : Wd ((dig W n).getD k 0) ∧ (dig W n).getD k 0 ≠ 0 := by
  refine ⟨inB_getD W_pos (dI n) k, ?_⟩
  rcases dig_ord W_gt n with h | h
  · rw [h] at hl; simp at hl
  · rwa [List.getLastD_eq_getLast?, List.getLast?_eq_getElem?, hl, Nat.add_sub_cancel, ← List.getD_eq_getElem?_getD] at h
theorem w_less (s : Nat) (h : s ≤ 1000000) : wrap64 ((s : Int) - 1) = (s : Int) - 1 := IntWalk.wrap64_in _ (by omega)
theorem bits_end {n s : Nat} (hn : 0 < n) (fn : Fit 100 n) (hs : s ≤ 1000000) (hb : bl n = s ∨ bl n + 1 = s) : Ev (fun k => tallysticklaw05_ProdBits.j0 k true (dig W n) (s : Int) true false) true := by
  have ln := fn.dig
  obtain ⟨m, hm⟩ : ∃ m, (dig W n).length = m + 1 := ⟨(dig W n).length - 1, by
    have : (dig W n).length ≠ 0 := fun h => by have := (dig_eq_nil W_gt).1 (List.eq_nil_of_length_eq_zero h); omega
    omega⟩
  obtain ⟨t1, t2⟩ := top_ev hm
  have hbi := bits5_ev (dI n) (by omega)
  rw [dV] at hbi
  have hw : wrap64 (((dig W n).length : Int) - 1) = (m : Int) := by rw [hm, w_pred m (by omega)]
  refine Ev.succ ?_
  simp only [tallysticklaw05_ProdBits.j0, hw, w_less s hs]
  refine Ev.no (by decide) (Ev.yes (by first | rfl | trivial) (Ev.yes (by first | rfl | trivial) (Ev.bind hbi ?_)))
  by_cases h : ((bl n : Nat) : Int) = (s : Int)
  · exact Ev.yes h (Ev.yes (by omega) (Ev.yes (by omega) (len01_f t1 t2)))
  · exact Ev.no h (Ev.bind hbi (Ev.yes (by omega) (Ev.yes (by omega) (Ev.yes (by omega) (len01_f t1 t2)))))
theorem bits_nil (s : Int) : Ev (fun k => tallysticklaw05_ProdBits.j0 k true (dig W 0) s true true) true := by
  refine Ev.succ (Ev.congr (G := fun _ => some true) (fun k => ?_) (Ev.const rfl))
  rw [tallysticklaw05_ProdBits.j0, dig_zero, if_pos rfl, if_pos rfl]; rfl
theorem ProdBits : tallysticklaw05_ProdBits.Pure := by
  intro a b n _ _ wa _ _ wb _
  have ia := inB_of_wf wa
  have ib := inB_of_wf wb
  refine Ev.get (F := fun k => tallysticklaw05_ProdBits.f k a b n) ?_
  unfold tallysticklaw05_ProdBits.f
  refine Ev.bind (Ev.const shown5) (Ev.bind (Ev.const (few5 a b)) ?_)
  by_cases h : a.length ≤ 40 ∧ b.length ≤ 40
  · refine Ev.yes (decide_eq_true h) ?_
    have fa := Fit.val ia h.1
    have fb := Fit.val ib h.2
    have ha := fa.bl
    have hb := fb.bl
    have i1 : InB W [(1 : Int)] := inB_cons.2 ⟨by rw [W_eq]; omega, inB_nil _⟩
    have hone := kara_eq ia i1 (by omega) (show [(1 : Int)].length ≤ 1000 by decide) n
    rw [show val W [(1 : Int)] = 1 from rfl, Nat.mul_one] at hone
    refine Ev.bind (Ev.const (kara_eq ia ib (by omega) (by omega) n)) (Ev.bind (bits5_ev ia (by omega)) (Ev.bind (bits5_ev ib (by omega)) (Ev.bind (Ev.const hone) (Ev.bind (digits_ev ia (by omega)) (Ev.bind (words_dig_ev fa (by decide)) (Ev.bind (sameW_ev fa (by decide)) (Ev.bind (bits5_ev ia (by omega)) ?_)))))))
    rw [w_add (bl (val W a)) (bl (val W b)) (by omega)]
    by_cases z : val W a = 0
    · rw [z, Nat.zero_mul]
      exact Ev.yes (by rfl) (bits_nil _)
    · have z1 : bl (val W a) ≠ 0 := fun h => z (bl_zero.1 h)
      refine Ev.no (by omega) (Ev.bind (bits5_ev ib (by omega)) ?_)
      by_cases y : val W b = 0
      · rw [y, Nat.mul_zero]
        exact bits_nil _
      · have y1 : bl (val W b) ≠ 0 := fun h => y (bl_zero.1 h)
        have hz : (((bl (val W b) : Nat) : Int) == 0) = false := by rw [beq_eq_false_iff_ne]; omega
        rw [hz]
        have hb2 := bl_mul (show 0 < val W a by omega) (show 0 < val W b by omega)
        exact bits_end (Nat.mul_pos (by omega) (by omega)) ((fa.mul fb).mono (by decide)) (by omega) hb2
  · exact Ev.no (by simpa using h) (Ev.const rfl)
end Go.Proofs.Ytgoglfojjpibnaa.Pure
