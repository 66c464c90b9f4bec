/- RootTells: square roots, what is left, which numbers are squares, and words' roots, are as the document says. -/
import Derived.Test.YtcgcffnhlafneaaPRootA
import Derived.Test.YtcgcffnhlafneaaPa12
namespace Go.Proofs.Ytcgcffnhlafneaa.Pure
open Go.RowKit Go.Proofs.Ytcgcffnhlafneaa.Pa Go.Proofs.YtcgcffnhlafneaaW.PrintWords Go.Proofs.YtcgcffnhlafneaaW.PrintLast Go.Proofs.Ytcgcffnhlafneaa.Hand Go.Proofs.Ytcgcffnhlafneaa.Num
set_option linter.unusedVariables false
set_option linter.unusedSimpArgs false

theorem dig_word {n : Nat} (h : n < W) : dig W n = if n = 0 then [] else [(n : Int)] := by
  by_cases h0 : n = 0
  · rw [if_pos h0, h0, dig_zero]
  · rw [if_neg h0, dig_pos W_gt (Nat.pos_of_ne_zero h0), Nat.mod_eq_of_lt h, Nat.div_eq_of_lt h, dig_zero]
theorem word_eq {w : Int} (hw : Wd w) : root_Word.f w = some ((isq w.toNat : Nat) : Int) := by
  obtain ⟨iw, vw⟩ := one_word hw
  have hsq := sqrt_eq iw (show 1 ≤ 1000 by decide)
  rw [vw] at hsq
  have hl : isq w.toNat < W := Nat.lt_of_le_of_lt (isq_le_self _) (by have := hw.2; rw [W_eq]; omega)
  unfold root_Word.f
  rw [hsq]
  show (if ((dig W (isq w.toNat)).length : Int) = 0 then some 0 else if 0 < ((dig W (isq w.toNat)).length : Int) then some (rd (dig W (isq w.toNat)) 0) else none) = _
  rw [dig_word hl]
  by_cases h0 : isq w.toNat = 0
  · rw [if_pos h0, h0]; rfl
  · rw [if_neg h0]; rfl
theorem RootTells : tallysticklaw12_RootTells.Pure := by
  intro a w _ _ wa ww
  have ia := inB_of_wf wa
  have hw := wd_of_wf ww
  obtain ⟨iw, vw⟩ := one_word hw
  refine Ev.get (F := fun k => tallysticklaw12_RootTells.f k a w) ?_
  unfold tallysticklaw12_RootTells.f
  refine Ev.bind (Ev.const shown12) ?_
  by_cases h1 : (a.length : Int) > 12
  · exact Ev.yes h1 (Ev.const rfl)
  · have la : a.length ≤ 12 := by omega
    have fa := Fit.val ia la
    have fs := fa.isq
    have hsq := sqrt_eq ia (by omega)
    have hr := rsqrt_ev ia la (by decide)
    have hrw := rsqrt_ev iw (Nat.le_refl 1) (by decide)
    rw [vw] at hrw
    have hwo := word_eq hw
    have hl : isq w.toNat < W := Nat.lt_of_le_of_lt (isq_le_self _) (by have := hw.2; rw [W_eq]; omega)
    have hwd : Wd ((isq w.toNat : Nat) : Int) := ⟨Int.natCast_nonneg _, by rw [W_eq] at hl; omega⟩
    obtain ⟨iv, vv⟩ := one_word hwd
    rw [Int.toNat_natCast] at vv
    have hdv := digits_ev iv (show 1 ≤ 1000000000 by decide)
    rw [vv] at hdv
    have fv : Fit 1 (isq w.toNat) := by unfold Fit; rwa [Nat.pow_one]
    have hwh : root_Whole.f a = some (((dig W (val W a - isq (val W a) * isq (val W a))).length : Int) == 0) := by
      unfold root_Whole.f
      rw [hsq]; rfl
    exact Ev.no h1 (Ev.bind (Ev.const hsq) (Ev.bind hr (Ev.bind hrw (Ev.bind (Ev.const hwo) (Ev.bind hdv (Ev.bind (words_dig_ev fv (by decide)) (Ev.yes (by first | rfl | trivial) (Ev.bind (sameW_ev fs (by decide)) (Ev.yes (by first | rfl | trivial) (Ev.bind (sameW_ev (fa.le (Nat.sub_le _ _)) (by decide)) (Ev.yes (by first | rfl | trivial) (Ev.bind (Ev.const hwh) (Ev.yes (by simp) (Ev.bind (sameW_ev fv (by decide)) (Ev.const rfl)))))))))))))))
end Go.Proofs.Ytcgcffnhlafneaa.Pure
