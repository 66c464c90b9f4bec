/- ProdMacs: added word by word, each in its place, a number's products come to the product. -/
import Derived.Test.YtgoglfojjpibnaaPProdA
import Derived.Test.YtgoglfojjpibnaaPa9
namespace Go.Proofs.Ytgoglfojjpibnaa.Pure
open Go.RowKit Go.Proofs.Ytgoglfojjpibnaa.Pa Go.Proofs.YtgoglfojjpibnaaW.PrintWords Go.Proofs.YtgoglfojjpibnaaW.PrintLast Go.Proofs.Ytgoglfojjpibnaa.Hand Go.Proofs.Ytgoglfojjpibnaa.Num
set_option linter.unusedVariables false
set_option linter.unusedSimpArgs false

theorem macs_loop {a b : List Int} (ia : InB W a) (ib : InB W b) (ha : a.length ≤ 40) (hb : b.length ≤ 40) : ∀ (d i : Nat), i + d = b.length → Ev (fun k => tallysticklaw05_ProdMacs.l0 k a b true (dig W (val W a * val W (b.take i))) (i : Int)) true
  | 0, i, h => by
    obtain rfl : i = b.length := by omega
    have fa := Fit.val ia ha
    have fb := Fit.val ib hb
    rw [List.take_length]
    refine Ev.succ ?_
    simp only [tallysticklaw05_ProdMacs.l0]
    refine Ev.no (by omega) (Ev.yes (by first | rfl | trivial) ?_)
    exact Ev.bind (digits_dig_ev (fa.mul fb) (by decide)) (Ev.bind (words_dig_ev (fa.mul fb) (by decide)) (Ev.bind (Ev.const (school_eq ia ib (by omega) (by omega))) (Ev.bind (sameW_ev (fa.mul fb) (by decide)) (Ev.const rfl))))
  | d + 1, i, h => by
    have fa := Fit.val ia ha
    have fb := Fit.val (inB_take ib i) (show (b.take i).length ≤ 40 by rw [List.length_take]; omega)
    have ll := (fa.mul fb).dig
    have hx : Wd (b.getD i 0) := inB_getD W_pos ib i
    have hm := mac_eq (dI (val W a * val W (b.take i))) ia hx (by omega) (by omega) (show ((i : Nat) : Int) ≤ 1000 by omega)
    have e : val W a * val W (b.take i) + val W a * (b.getD i 0).toNat * W ^ i = val W a * val W (b.take (i + 1)) := by
      rw [val_take_succ, Nat.mul_add, Nat.mul_assoc, Nat.mul_comm (W ^ i)]
    rw [dV, Int.toNat_natCast, e, ← rd_nat] at hm
    have ih := macs_loop ia ib ha hb d (i + 1) (by omega)
    refine Ev.succ ?_
    simp only [tallysticklaw05_ProdMacs.l0, w_succ i (show i ≤ 17592186044416 by omega)]
    exact Ev.yes (by omega) (Ev.yes (by omega) (Ev.bind (Ev.const hm) ih))
theorem ProdMacs : tallysticklaw05_ProdMacs.Pure := by
  intro a b _ _ wa _ _ wb
  have ia := inB_of_wf wa
  have ib := inB_of_wf wb
  refine Ev.get (F := fun k => tallysticklaw05_ProdMacs.f k a b) ?_
  unfold tallysticklaw05_ProdMacs.f
  refine Ev.bind (Ev.const shown5) (Ev.bind (Ev.const (few5 a b)) ?_)
  by_cases h : a.length ≤ 40 ∧ b.length ≤ 40
  · refine Ev.yes (decide_eq_true h) ?_
    have := macs_loop ia ib h.1 h.2 b.length 0 (by omega)
    rw [List.take_zero, show val W [] = 0 from rfl, Nat.mul_zero, dig_zero] at this
    exact this
  · exact Ev.no (by simpa using h) (Ev.const rfl)
end Go.Proofs.Ytgoglfojjpibnaa.Pure
