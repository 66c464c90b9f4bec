/- RootBetween: the root's square isn't above the number, and the next one's is; what is left is the rest. -/
import Derived.Test.YtcgcffnhlafneaaPRootA
import Derived.Test.YtcgcffnhlafneaaPa7
namespace Go.Proofs.Ytcgcffnhlafneaa.Pure
open Go.RowKit Go.Proofs.Ytcgcffnhlafneaa.Pa Go.Proofs.YtcgcffnhlafneaaW.PrintWords Go.Proofs.YtcgcffnhlafneaaW.PrintLast Go.Proofs.Ytcgcffnhlafneaa.Hand Go.Proofs.Ytcgcffnhlafneaa.Num
set_option linter.unusedVariables false
set_option linter.unusedSimpArgs false

theorem one_digit : ([1] : List Int) = dig V 1 := by decide +kernel
theorem RootBetween : tallysticklaw12_RootBetween.Pure := by
  intro a _ _ wa
  have ia := inB_of_wf wa
  refine Ev.get (F := fun k => tallysticklaw12_RootBetween.f k a) ?_
  unfold tallysticklaw12_RootBetween.f
  refine Ev.bind (Ev.const shown12) ?_
  by_cases h1 : (a.length : Int) > 40
  · exact Ev.yes h1 (Ev.const rfl)
  · have la : a.length ≤ 40 := by omega
    have fa := Fit.val ia la
    have fs := fa.isq
    obtain ⟨g1, g2⟩ := isq_spec (val W a)
    have hsq := sqrt_eq ia (by omega)
    have hdg := digits_ev ia (show a.length ≤ 1000000000 by omega)
    generalize val W a = n at *
    generalize isq n = s at *
    have f1 : Fit 40 1 := Nat.lt_of_lt_of_le (show 1 < W ^ 1 by decide) (Nat.pow_le_pow_right W_pos (by decide))
    have fss := fs.mul fs
    have fn := fs.add f1
    have fnn := fn.mul fn
    have fr : Fit 40 (n - s * s) := fa.le (Nat.sub_le _ _)
    have l1 := fss.digV
    have l2 := fa.digV
    have l3 := fnn.digV
    have hadd := addV_ev fs f1 (by decide)
    rw [← one_digit] at hadd
    have hsum := addV_ev fss (fr.mono (show 40 ≤ 40 + 40 by decide)) (by decide)
    rw [show s * s + (n - s * s) = n by omega] at hsum
    have c1 : cmpv (s * s) n ≤ 0 := by unfold cmpv; split <;> (try split) <;> omega
    have c2 : cmpv ((s + 1) * (s + 1)) n > 0 := by rw [cmpv_gt g2]; decide
    refine Ev.no h1 (Ev.bind (Ev.const hsq) (Ev.bind (digits_dig_ev fs (by decide)) (Ev.bind (mulV_ev fs fs (by decide)) (Ev.bind hadd (Ev.bind hdg ?_)))))
    exact Ev.yes (by first | rfl | trivial) (Ev.bind (cmp_ev (by omega) (by omega)) (Ev.yes c1 (Ev.bind (mulV_ev fn fn (by decide)) (Ev.bind (cmp_ev (by omega) (by omega)) (Ev.yes c2 (Ev.bind (digits_dig_ev fr (by decide)) (Ev.bind hsum (Ev.bind (cmp_ev (by omega) (by omega)) (Ev.const (by rw [cmpv_eq]; rfl))))))))))
end Go.Proofs.Ytcgcffnhlafneaa.Pure
