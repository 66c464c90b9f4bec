/- QuotWhole: the quotient times the divisor and what is left are what was divided; what is left is below the divisor. -/
import Derived.Test.YtofknlpbnpokeaaPQuotA
import Derived.Test.YtofknlpbnpokeaaPa7
namespace Go.Proofs.Ytofknlpbnpokeaa.Pure
open Go.RowKit Go.Proofs.Ytofknlpbnpokeaa.Pa Go.Proofs.YtofknlpbnpokeaaW.PrintWords Go.Proofs.YtofknlpbnpokeaaW.PrintLast Go.Proofs.Ytofknlpbnpokeaa.Hand Go.Proofs.Ytofknlpbnpokeaa.Num
set_option linter.unusedVariables false
set_option linter.unusedSimpArgs false

theorem QuotWhole : tallysticklaw06_QuotWhole.Pure := by
  intro a d _ ya wa _ yd wd
  have ia := inB_of_wf wa
  have id := inB_of_wf wd
  refine Ev.get (F := fun k => tallysticklaw06_QuotWhole.f k a d) ?_
  unfold tallysticklaw06_QuotWhole.f
  have hq := qdiv_eq ia id ya yd
  refine Ev.bind (Ev.const shown6) (Ev.bind (Ev.const (few6 a d)) (Ev.bind (Ev.const hq) ?_))
  by_cases h : a.length ≤ 30 ∧ d.length ≤ 30
  · refine Ev.yes (decide_eq_true h) (Ev.succ ?_)
    simp only [tallysticklaw06_QuotWhole.j0]
    have fa := Fit.val ia h.1
    have fd := Fit.val id h.2
    by_cases hz : val W d = 0
    · rw [if_pos hz]
      refine Ev.yes (by decide) (Ev.yes (by first | rfl | trivial) (Ev.yes (decide_eq_true h) (Ev.bind (digits_ev id (by omega)) ?_)))
      rw [hz, dig_zero]
      exact Ev.const rfl
    · rw [if_neg hz]
      have hp := Nat.pos_of_ne_zero hz
      have fq := fa.div (val W d)
      have fr := fa.mod (val W d)
      have lq := fq.dig
      have lr := fr.dig
      have ht := times_ev (j := 30) (k := 30) (dI (val W a / val W d)) id (by omega) h.2 (by decide) (by decide)
      rw [dV] at ht
      have hb : val W a / val W d * val W d + val W a % val W d = val W a := by rw [Nat.mul_comm]; exact Nat.div_add_mod _ _
      have fqd : Fit 30 (val W a / val W d * val W d) := Fit.le fa (Nat.div_mul_le_self _ _)
      have hadd := addV_ev fqd fr (by decide)
      rw [hb] at hadd
      have va := fa.digV
      have vd := fd.digV
      have vr := fr.digV
      have hc := cmp_ev (m := val W a) (n := val W a) (by omega) (by omega)
      rw [cmpv_eq] at hc
      have hc2 := cmp_ev (m := val W a % val W d) (n := val W d) (by omega) (by omega)
      rw [cmpv_lt (Nat.mod_lt _ hp)] at hc2
      refine Ev.no (by simp) (Ev.bind ht (Ev.bind (digits_dig_ev fqd (by decide)) (Ev.bind (digits_dig_ev fr (by decide)) (Ev.bind hadd ?_))))
      refine Ev.yes (by first | rfl | trivial) (Ev.bind (digits_ev ia (by omega)) (Ev.bind hc (Ev.yes (by first | rfl | trivial) (Ev.bind (digits_dig_ev fr (by decide)) (Ev.bind (digits_ev id (by omega)) (Ev.bind hc2 (Ev.const rfl)))))))
  · refine Ev.no (by simpa using h) (Ev.succ ?_)
    simp only [tallysticklaw06_QuotWhole.j0]
    exact Ev.yes (by first | rfl | trivial) (Ev.yes (by first | rfl | trivial) (Ev.no (by simpa using h) (Ev.const rfl)))
end Go.Proofs.Ytofknlpbnpokeaa.Pure
