/- RootNearer: from a number that isn't below the root a step goes not below it, and is below the number, unless that is the root. -/
import Derived.Test.YtcgcffnhlafneaaPRootA
import Derived.Test.YtcgcffnhlafneaaPa8
namespace Go.Proofs.Ytcgcffnhlafneaa.Pure
open Go.RowKit Go.Proofs.Ytcgcffnhlafneaa.Pa Go.Proofs.YtcgcffnhlafneaaW.PrintWords Go.Proofs.YtcgcffnhlafneaaW.PrintLast Go.Proofs.Ytcgcffnhlafneaa.Hand Go.Proofs.Ytcgcffnhlafneaa.Num
set_option linter.unusedVariables false
set_option linter.unusedSimpArgs false

theorem near_out (x a : List Int) : Ev (fun k => tallysticklaw12_RootNearer.j0 k x a true true) true := by
  refine Ev.succ ?_
  simp only [tallysticklaw12_RootNearer.j0]
  exact Ev.yes (by first | rfl | trivial) (Ev.const rfl)
theorem near_main {x a : List Int} (ix : InB W x) (ia : InB W a) (lx : x.length ≤ 30) (la : a.length ≤ 30) : Ev (fun k => tallysticklaw12_RootNearer.j0 k x a true false) true := by
  have fx := Fit.val ix lx
  have fa := Fit.val ia la
  have fs := fa.isq
  have hsq := sqrt_eq ia (by omega)
  have hst := step_eq ix ia (by omega) (by omega)
  have l1 := fx.digV
  have l2 := fs.digV
  refine Ev.succ ?_
  simp only [tallysticklaw12_RootNearer.j0]
  refine Ev.no (by decide) (Ev.bind (Ev.const hsq) (Ev.bind (digits_ev ix (by omega)) (Ev.bind (digits_dig_ev fs (by decide)) (Ev.bind (Ev.const hst) ?_))))
  by_cases h0 : val W x = 0
  · rw [if_pos h0, h0]
    refine Ev.no (by decide) ?_
    refine Ev.succ ?_
    simp only [tallysticklaw12_RootNearer.j1]
    exact Ev.yes (by first | rfl | trivial) (Ev.yes (by first | rfl | trivial) (Ev.no (by decide) (Ev.const (by rw [dig_zero]; rfl))))
  · rw [if_neg h0]
    have fy : Fit 31 (rstep (val W x) (val W a)) := (fx.add (fa.div (val W x))).le (Nat.div_le_self _ _)
    have l3 := fy.digV
    have g1 : isq (val W a) ≤ rstep (val W x) (val W a) := rstep_ge (Nat.pos_of_ne_zero h0)
    have g2 : isq (val W a) < val W x → rstep (val W x) (val W a) < val W x := fun h => rstep_lt h
    generalize rstep (val W x) (val W a) = y at *
    generalize isq (val W a) = s at *
    refine Ev.yes (by first | rfl | trivial) (Ev.bind (cmp_ev (by omega) (by omega)) ?_)
    refine Ev.succ ?_
    simp only [tallysticklaw12_RootNearer.j1]
    by_cases hlt : val W x < s
    · rw [cmpv_lt hlt]
      exact Ev.yes (by first | rfl | trivial) (Ev.yes (by first | rfl | trivial) (Ev.yes (by first | rfl | trivial) (Ev.const rfl)))
    · have c0 : ¬ cmpv (val W x) s < 0 := by unfold cmpv; split <;> (try split) <;> omega
      rw [decide_eq_false c0]
      have c1 : cmpv y s ≥ 0 := by unfold cmpv; split <;> (try split) <;> omega
      refine Ev.no (by decide) (Ev.bind (digits_dig_ev fy (by decide)) (Ev.yes (by first | rfl | trivial) (Ev.bind (cmp_ev (by omega) (by omega)) (Ev.yes c1 (Ev.bind (cmp_ev (by omega) (by omega)) ?_)))))
      by_cases he : val W x = s
      · rw [he, cmpv_eq]
        exact Ev.yes (by first | rfl | trivial) (Ev.const rfl)
      · have c2 : cmpv (val W x) s = 1 := cmpv_gt (by omega)
        have c3 : cmpv y (val W x) = -1 := cmpv_lt (g2 (by omega))
        rw [c2]
        refine Ev.no (by decide) (Ev.bind (cmp_ev (by omega) (by omega)) (Ev.const ?_))
        rw [c3]; rfl
theorem RootNearer : tallysticklaw12_RootNearer.Pure := by
  intro x a _ _ wx _ _ wa
  have ix := inB_of_wf wx
  have ia := inB_of_wf wa
  refine Ev.get (F := fun k => tallysticklaw12_RootNearer.f k x a) ?_
  unfold tallysticklaw12_RootNearer.f
  refine Ev.bind (Ev.const shown12) ?_
  by_cases h1 : (x.length : Int) > 30
  · exact Ev.yes h1 (near_out x a)
  · refine Ev.no h1 ?_
    by_cases h2 : (a.length : Int) > 30
    · rw [decide_eq_true h2]; exact near_out x a
    · rw [decide_eq_false h2]; exact near_main ix ia (by omega) (by omega)
end Go.Proofs.Ytcgcffnhlafneaa.Pure
