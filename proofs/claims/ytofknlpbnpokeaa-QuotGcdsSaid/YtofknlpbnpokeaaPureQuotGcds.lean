/- QuotGcds: a greatest divisor divides both, and what is left of both by it have none but 1. -/
import Derived.Test.YtofknlpbnpokeaaPQuotA
import Derived.Test.YtofknlpbnpokeaaPa9
namespace Go.Proofs.Ytofknlpbnpokeaa.Pure
open Go.RowKit Go.Proofs.Ytofknlpbnpokeaa.Pa Go.Proofs.YtofknlpbnpokeaaW.PrintWords Go.Proofs.YtofknlpbnpokeaaW.PrintLast Go.Proofs.Ytofknlpbnpokeaa.Hand Go.Proofs.Ytofknlpbnpokeaa.Num
set_option linter.unusedVariables false
set_option linter.unusedSimpArgs false

theorem gcds_main {a b : List Int} (ia : InB W a) (ib : InB W b) (la : a.length ≤ 8) (lb : b.length ≤ 8) : Ev (fun k => tallysticklaw06_QuotGcds.j0 k a b true false) true := by
  have fa := Fit.val ia la
  have fb := Fit.val ib lb
  refine Ev.succ ?_
  simp only [tallysticklaw06_QuotGcds.j0]
  refine Ev.no (by decide) (Ev.bind (Ev.const (qgcd_eq ia ib (by omega) (by omega))) ?_)
  obtain ⟨g, hg⟩ : ∃ g, g = Nat.gcd (val W a) (val W b) := ⟨_, rfl⟩
  rw [← hg]
  by_cases h0 : g = 0
  · have ha0 : val W a = 0 := Nat.eq_zero_of_gcd_eq_zero_left (by rw [← hg]; exact h0)
    have hb0 : val W b = 0 := Nat.eq_zero_of_gcd_eq_zero_right (by rw [← hg]; exact h0)
    refine Ev.yes ((len_zero W_gt).2 h0) (Ev.yes (by first | rfl | trivial) (Ev.bind (digits_ev ia (by omega)) ?_))
    rw [ha0, dig_zero]
    refine Ev.yes (by first | rfl | trivial) (Ev.bind (digits_ev ib (by omega)) ?_)
    rw [hb0, dig_zero]
    exact Ev.const rfl
  · have hp := Nat.pos_of_ne_zero h0
    have fg : Fit 8 g := by
      rcases Nat.eq_zero_or_pos (val W a) with h | h
      · rw [hg, h, Nat.gcd_zero_left]; exact fb
      · exact Fit.le fa (by rw [hg]; exact Nat.gcd_le_left _ h)
    have lg := fg.dig
    have h1 := rdiv_ev ia (dI g) (by omega) (by omega)
    have h2 := rdiv_ev ib (dI g) (by omega) (by omega)
    rw [dV, if_neg h0] at h1 h2
    have m1 : val W a % g = 0 := Nat.mod_eq_zero_of_dvd (by rw [hg]; exact Nat.gcd_dvd_left _ _)
    have m2 : val W b % g = 0 := Nat.mod_eq_zero_of_dvd (by rw [hg]; exact Nat.gcd_dvd_right _ _)
    rw [m1, dig_zero] at h1
    rw [m2, dig_zero] at h2
    have l1 := (fa.div g).dig
    have l2 := (fb.div g).dig
    have h3 := qgcd_eq (dI (val W a / g)) (dI (val W b / g)) (by omega) (by omega)
    rw [dV, dV, show Nat.gcd (val W a / g) (val W b / g) = 1 by rw [Nat.gcd_div (by rw [hg]; exact Nat.gcd_dvd_left _ _) (by rw [hg]; exact Nat.gcd_dvd_right _ _), ← hg, Nat.div_self hp], show dig W 1 = [1] by decide +kernel] at h3
    exact Ev.no (fun h => h0 ((len_zero W_gt).1 h)) (Ev.bind h1 (Ev.bind h2 (Ev.bind (Ev.const h3) (Ev.yes (by first | rfl | trivial) (Ev.yes (by first | rfl | trivial) (Ev.yes (by first | rfl | trivial) (Ev.yes (by first | rfl | trivial) (Ev.yes (by decide) (Ev.const rfl)))))))))
theorem gcds_out (a b : List Int) : Ev (fun k => tallysticklaw06_QuotGcds.j0 k a b true true) true := by
  refine Ev.succ ?_
  simp only [tallysticklaw06_QuotGcds.j0]
  exact Ev.yes (by first | rfl | trivial) (Ev.const rfl)
theorem QuotGcds : tallysticklaw06_QuotGcds.Pure := by
  intro a b _ _ wa _ _ wb
  have ia := inB_of_wf wa
  have ib := inB_of_wf wb
  refine Ev.get (F := fun k => tallysticklaw06_QuotGcds.f k a b) ?_
  unfold tallysticklaw06_QuotGcds.f
  refine Ev.bind (Ev.const shown6) ?_
  by_cases h1 : (a.length : Int) > 8
  · exact Ev.yes h1 (gcds_out a b)
  · refine Ev.no h1 ?_
    by_cases h2 : (b.length : Int) > 8
    · rw [decide_eq_true h2]; exact gcds_out a b
    · rw [decide_eq_false h2]; exact gcds_main ia ib (by omega) (by omega)
end Go.Proofs.Ytofknlpbnpokeaa.Pure
