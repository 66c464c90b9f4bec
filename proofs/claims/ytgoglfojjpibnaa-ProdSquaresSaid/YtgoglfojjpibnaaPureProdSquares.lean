/- ProdSquares: the square of a sum is both squares and twice the product. -/
import Derived.Test.YtgoglfojjpibnaaPProdB
import Derived.Test.YtgoglfojjpibnaaPa13
namespace Go.Proofs.Ytgoglfojjpibnaa.Pure
open Go.RowKit Go.Proofs.Ytgoglfojjpibnaa.Pa Go.Proofs.YtgoglfojjpibnaaW.PrintWords Go.Proofs.YtgoglfojjpibnaaW.PrintLast Go.Proofs.Ytgoglfojjpibnaa.Hand Go.Proofs.Ytgoglfojjpibnaa.Num
set_option linter.unusedVariables false
set_option linter.unusedSimpArgs false

theorem square_sum (a b : Nat) : (a + b) * (a + b) = a * a + b * b + (a * b + a * b) := by
  rw [Nat.add_mul, Nat.mul_add, Nat.mul_add, Nat.mul_comm b a]
  omega
theorem ProdSquares : tallysticklaw05_ProdSquares.Pure := by
  intro a b _ _ wa _ _ wb
  have ia := inB_of_wf wa
  have ib := inB_of_wf wb
  refine Ev.get (F := fun k => tallysticklaw05_ProdSquares.f k a b) ?_
  unfold tallysticklaw05_ProdSquares.f
  refine Ev.bind (Ev.const shown5) (Ev.bind (Ev.const (few5 a b)) ?_)
  by_cases h : a.length ≤ 40 ∧ b.length ≤ 40
  · refine Ev.yes (decide_eq_true h) ?_
    have fa := Fit.val ia h.1
    have fb := Fit.val ib h.2
    have fs := fa.add fb
    have ls := fs.dig
    have fab := fa.mul fb
    have faa := fa.mul fa
    have fbb := fb.mul fb
    have hs := square_eq (dI (val W a + val W b)) (by omega)
    rw [dV, square_sum] at hs
    have fall := (faa.add fbb).add (fab.add fab)
    refine Ev.bind (digits_ev ia (by omega)) (Ev.bind (digits_ev ib (by omega)) (Ev.bind (Ev.const (school_eq ia ib (by omega) (by omega))) (Ev.bind (digits_dig_ev fab (by decide)) (Ev.bind (addV_ev fa fb (by decide)) (Ev.bind (words_dig_ev fs (by decide)) (Ev.bind (Ev.const hs) (Ev.bind (Ev.const (square_eq ia (by omega))) ?_)))))))
    refine Ev.bind (digits_dig_ev faa (by decide)) (Ev.bind (Ev.const (square_eq ib (by omega))) (Ev.bind (digits_dig_ev fbb (by decide)) (Ev.bind (addV_ev faa fbb (by decide)) (Ev.bind (addV_ev fab fab (by decide)) (Ev.bind (addV_ev (faa.add fbb) (fab.add fab) (by decide)) ?_)))))
    exact Ev.yes (by first | rfl | trivial) (Ev.bind (words_dig_ev fall (by decide)) (Ev.bind (sameW_ev fall (by decide)) (Ev.const rfl)))
  · exact Ev.no (by simpa using h) (Ev.const rfl)
end Go.Proofs.Ytgoglfojjpibnaa.Pure
