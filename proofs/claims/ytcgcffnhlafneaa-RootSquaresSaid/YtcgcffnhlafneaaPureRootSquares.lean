/- RootSquares: a square's root is the number; with a little more, as little is left; it is a square. -/
import Derived.Test.YtcgcffnhlafneaaPRootA
import Derived.Test.YtcgcffnhlafneaaPa11
namespace Go.Proofs.Ytcgcffnhlafneaa.Pure
open Go.RowKit Go.Proofs.Ytcgcffnhlafneaa.Pa Go.Proofs.YtcgcffnhlafneaaW.PrintWords Go.Proofs.YtcgcffnhlafneaaW.PrintLast Go.Proofs.Ytcgcffnhlafneaa.Hand Go.Proofs.Ytcgcffnhlafneaa.Num
set_option linter.unusedVariables false
set_option linter.unusedSimpArgs false

theorem isq_add {D m : Nat} (h : m ≤ D + D) : isq (D * D + m) = D := isq_of (Nat.le_add_right _ _) (by rw [Nat.add_mul, Nat.mul_add]; omega)
theorem squares_main {w : Int} {D : Nat} (hw : Wd w) (fD : Fit 20 D) : Ev (fun k => tallysticklaw12_RootSquares.j0 k w true (dig V D) (dig V (D * D)) (dig W D) false) true := by
  obtain ⟨iw, vw⟩ := one_word hw
  have hdw := digits_ev iw (show 1 ≤ 1000000000 by decide)
  rw [vw] at hdw
  have fw : Fit 20 w.toNat := by
    have := hw.2
    exact Nat.lt_of_lt_of_le (show w.toNat < W ^ 1 by rw [Nat.pow_one, W_eq]; omega) (Nat.pow_le_pow_right W_pos (by decide))
  generalize w.toNat = m at *
  have f2 := fD.add fD
  have fs := fD.mul fD
  have fs1 := fs.add (fw.mono (show 20 ≤ 20 + 20 by decide))
  have l1 := fw.digV
  have l2 := f2.digV
  have l3 := fs1.dig
  have hadd := addV_ev fs (fw.mono (show 20 ≤ 20 + 20 by decide)) (by decide)
  refine Ev.succ ?_
  simp only [tallysticklaw12_RootSquares.j0]
  refine Ev.no (by decide) (Ev.bind hdw (Ev.bind (addV_ev fD fD (by decide)) (Ev.bind (cmp_ev (by omega) (by omega)) ?_)))
  by_cases hc : D + D < m
  · exact Ev.yes (by rw [cmpv_gt hc]; decide) (Ev.const rfl)
  · have hsq := sqrt_eq (dI (D * D + m)) (by omega)
    rw [dV, isq_add (by omega), Nat.add_sub_cancel_left] at hsq
    exact Ev.no (by unfold cmpv; split <;> (try split) <;> omega) (Ev.bind hadd (Ev.bind (words_dig_ev fs1 (by decide)) (Ev.bind (Ev.const hsq) (Ev.yes (by first | rfl | trivial) (Ev.bind (sameW_ev fD (by decide)) (Ev.yes (by first | rfl | trivial) (Ev.bind (words_dig_ev fw (by decide)) (Ev.bind (sameW_ev fw (by decide)) (Ev.const rfl)))))))))
theorem RootSquares : tallysticklaw12_RootSquares.Pure := by
  intro a w _ _ wa ww
  have ia := inB_of_wf wa
  have hw := wd_of_wf ww
  refine Ev.get (F := fun k => tallysticklaw12_RootSquares.f k a w) ?_
  unfold tallysticklaw12_RootSquares.f
  refine Ev.bind (Ev.const shown12) ?_
  by_cases h1 : (a.length : Int) > 20
  · exact Ev.yes h1 (Ev.const rfl)
  · have la : a.length ≤ 20 := by omega
    have fa := Fit.val ia la
    have hdg := digits_ev ia (show a.length ≤ 1000000000 by omega)
    generalize val W a = D at *
    have fs := fa.mul fa
    have l3 := fs.dig
    have hsq := sqrt_eq (dI (D * D)) (by omega)
    have e0 : isq (D * D) = D := isq_add (m := 0) (Nat.zero_le _)
    rw [dV, e0, Nat.sub_self, dig_zero] at hsq
    have hwh : root_Whole.f (dig W (D * D)) = some true := by
      unfold root_Whole.f
      rw [hsq]; rfl
    exact Ev.no h1 (Ev.bind hdg (Ev.bind (mulV_ev fa fa (by decide)) (Ev.bind (words_dig_ev fs (by decide)) (Ev.bind (Ev.const hsq) (Ev.bind (words_dig_ev fa (by decide)) (Ev.bind (sameW_ev fa (by decide)) (Ev.yes (by first | rfl | trivial) (Ev.no (by simp) (Ev.bind (words_dig_ev fs (by decide)) (Ev.bind (Ev.const hwh) (squares_main hw fa)))))))))))
end Go.Proofs.Ytcgcffnhlafneaa.Pure
