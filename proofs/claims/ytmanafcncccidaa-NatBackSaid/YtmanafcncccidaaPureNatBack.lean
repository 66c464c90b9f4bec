/- NatBack: what was added is taken off again. -/
import Derived.Test.YtmanafcncccidaaPNatA
import Derived.Test.YtmanafcncccidaaPa7
namespace Go.Proofs.Ytmanafcncccidaa.Pure
open Go.RowKit Go.Proofs.Ytmanafcncccidaa.Pa Go.Proofs.YtmanafcncccidaaW.PrintWords Go.Proofs.YtmanafcncccidaaW.PrintLast Go.Proofs.Ytmanafcncccidaa.Hand Go.Proofs.Ytmanafcncccidaa.Num
set_option linter.unusedVariables false
set_option linter.unusedSimpArgs false

theorem NatBack : tallysticklaw04_NatBack.Pure := by
  intro a b _ _ wa _ _ wb
  have ia := inB_of_wf wa
  have ib := inB_of_wf wb
  refine ⟨0 + 1, ?_⟩
  unfold tallysticklaw04_NatBack.f
  rw [shown4, Option.bind_some, few_iff, Option.bind_some]
  by_cases h : a.length ≤ 40 ∧ b.length ≤ 40
  · have fa := Fit.val ia h.1
    have fb := Fit.val ib h.2
    have l1 := (fa.add fb).dig
    rw [if_pos (decide_eq_true h), add_eq ia ib (by omega) (by omega), Option.bind_some, sub_eq' (dI _) ib (by omega) (by omega), Option.bind_some, sub_eq' ia ib (by omega) (by omega), Option.bind_some, dV]
    generalize hm : val W a = m at *
    generalize hn : val W b = n at *
    rw [if_neg (show ¬ m + n < n by omega), if_neg (show ¬ m + n < n by omega), if_pos rfl, cmp_eq (dI _) ia, Option.bind_some, dV, hm, Nat.add_sub_cancel, cmpv_eq]
    rw [tallysticklaw04_NatBack.j0, if_neg (by decide), if_pos rfl, cmp_eq ia ib, Option.bind_some, hm, hn]
    by_cases c : m < n
    · rw [if_pos c, if_pos c, cmpv_lt c]; rfl
    · have l2 := (fa.le (show m - n ≤ m by omega)).dig
      rw [if_neg c, if_neg c]
      have e : m - n + n = m := by omega
      have hc : ((((0 : Int) == 0) == (decide (cmpv m n ≥ 0)))) = true := by
        by_cases d : n < m
        · rw [cmpv_gt d]; rfl
        · rw [show m = n by omega, cmpv_eq]; rfl
      rw [if_pos hc, if_pos rfl, add_eq (dI _) ib (by omega) (by omega), Option.bind_some, dV, hn, e, cmp_eq (dI _) ia, Option.bind_some, dV, hm, cmpv_eq]
      rfl
  · rw [if_neg (by simpa using h)]
end Go.Proofs.Ytmanafcncccidaa.Pure
