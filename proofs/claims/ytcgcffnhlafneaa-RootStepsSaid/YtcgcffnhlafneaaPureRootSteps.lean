/- RootSteps: where steps begin, and where a step goes, is as the document says. -/
import Derived.Test.YtcgcffnhlafneaaPRootA
import Derived.Test.YtcgcffnhlafneaaPa6
namespace Go.Proofs.Ytcgcffnhlafneaa.Pure
open Go.RowKit Go.Proofs.Ytcgcffnhlafneaa.Pa Go.Proofs.YtcgcffnhlafneaaW.PrintWords Go.Proofs.YtcgcffnhlafneaaW.PrintLast Go.Proofs.Ytcgcffnhlafneaa.Hand Go.Proofs.Ytcgcffnhlafneaa.Num
set_option linter.unusedVariables false
set_option linter.unusedSimpArgs false

theorem rstep_fit {x a K : Nat} (hx : Fit K x) (ha : Fit K a) : Fit (K + 1) (rstep x a) := (hx.add (ha.div x)).le (Nat.div_le_self _ _)
theorem steps_out (x a : List Int) : Ev (fun k => tallysticklaw12_RootSteps.j0 k x a true true) true := by
  refine Ev.succ ?_
  simp only [tallysticklaw12_RootSteps.j0]
  exact Ev.yes (by first | rfl | trivial) (Ev.const rfl)
theorem steps_main {x a : List Int} (ix : InB W x) (ia : InB W a) (lx : x.length ≤ 30) (la : a.length ≤ 30) : Ev (fun k => tallysticklaw12_RootSteps.j0 k x a true false) true := by
  have fx := Fit.val ix lx
  have fa := Fit.val ia la
  have h1 := step_eq ix ia (by omega) (by omega)
  have h2 := rstep_ev ix ia lx la (by decide) (by decide)
  have hsame : Ev (fun k => tallystickref04_Same.f k (if val W x = 0 then [] else dig W (rstep (val W x) (val W a))) (if val W x = 0 then [] else dig W (rstep (val W x) (val W a)))) true := by
    split
    · exact same_ev [] (by decide)
    · exact sameW_ev (rstep_fit fx fa) (by decide)
  refine Ev.succ ?_
  simp only [tallysticklaw12_RootSteps.j0]
  refine Ev.no (by decide) (Ev.bind (Ev.const h1) (Ev.bind h2 (Ev.yes (by first | rfl | trivial) ?_)))
  have hend : Ev (fun k => (root_First.f a).bind fun t340 => (tallystickref12_First.f k a).bind fun t343 => (tallystickref04_Same.f k t340 t343).bind fun t346 => some t346) true :=
    Ev.bind (Ev.const (first_eq ia (by omega))) (Ev.bind (rfirst_ev ia la (by decide) (by decide)) (Ev.bind (sameW_ev (rfirst_fit fa (by decide)) (by decide)) (Ev.const rfl)))
  by_cases h0 : val W x = 0
  · rw [if_pos h0] at hsame ⊢
    exact Ev.bind hsame (Ev.yes (by first | rfl | trivial) (Ev.yes (by first | rfl | trivial) hend))
  · rw [if_neg h0] at hsame ⊢
    exact Ev.bind hsame (Ev.yes (by first | rfl | trivial) (Ev.yes (by first | rfl | trivial) hend))
theorem RootSteps : tallysticklaw12_RootSteps.Pure := by
  intro x a _ _ wx _ _ wa
  have ix := inB_of_wf wx
  have ia := inB_of_wf wa
  refine Ev.get (F := fun k => tallysticklaw12_RootSteps.f k x a) ?_
  unfold tallysticklaw12_RootSteps.f
  refine Ev.bind (Ev.const shown12) ?_
  by_cases h1 : (x.length : Int) > 30
  · exact Ev.yes h1 (steps_out x a)
  · refine Ev.no h1 ?_
    by_cases h2 : (a.length : Int) > 30
    · rw [decide_eq_true h2]; exact steps_out x a
    · rw [decide_eq_false h2]; exact steps_main ix ia (by omega) (by omega)
end Go.Proofs.Ytcgcffnhlafneaa.Pure
