/- ProdTimes: products, the plain way and Karatsuba's, and squares, are as the document says. -/
import Derived.Test.YtgoglfojjpibnaaPProdB
import Derived.Test.YtgoglfojjpibnaaPa12
namespace Go.Proofs.Ytgoglfojjpibnaa.Pure
open Go.RowKit Go.Proofs.Ytgoglfojjpibnaa.Pa Go.Proofs.YtgoglfojjpibnaaW.PrintWords Go.Proofs.YtgoglfojjpibnaaW.PrintLast Go.Proofs.Ytgoglfojjpibnaa.Hand Go.Proofs.Ytgoglfojjpibnaa.Num
set_option linter.unusedVariables false
set_option linter.unusedSimpArgs false

theorem ProdTimes : tallysticklaw05_ProdTimes.Pure := by
  intro a b n _ _ wa _ _ wb _
  have ia := inB_of_wf wa
  have ib := inB_of_wf wb
  refine Ev.get (F := fun k => tallysticklaw05_ProdTimes.f k a b n) ?_
  unfold tallysticklaw05_ProdTimes.f
  refine Ev.bind (Ev.const shown5) (Ev.bind (Ev.const (few5 a b)) ?_)
  by_cases h : a.length ≤ 40 ∧ b.length ≤ 40
  · refine Ev.yes (decide_eq_true h) ?_
    have fab := (Fit.val ia h.1).mul (Fit.val ib h.2)
    have faa := (Fit.val ia h.1).mul (Fit.val ia h.1)
    refine Ev.bind (times_ev ia ib h.1 h.2 (by decide) (by decide)) (Ev.bind (times_ev ia ia h.1 h.1 (by decide) (by decide)) (Ev.bind (Ev.const (school_eq ia ib (by omega) (by omega))) (Ev.bind (sameW_ev fab (by decide)) ?_)))
    refine Ev.yes (by first | rfl | trivial) (Ev.bind (Ev.const (kara_eq ia ib (by omega) (by omega) n)) (Ev.bind (sameW_ev fab (by decide)) ?_))
    exact Ev.yes (by first | rfl | trivial) (Ev.yes (by first | rfl | trivial) (Ev.bind (Ev.const (square_eq ia (by omega))) (Ev.bind (sameW_ev faa (by decide)) (Ev.const rfl))))
  · exact Ev.no (by simpa using h) (Ev.const rfl)
end Go.Proofs.Ytgoglfojjpibnaa.Pure
