/- NatTells: of three numbers what is above is told alike. -/
import Derived.Test.YtmanafcncccidaaPNatA
import Derived.Test.YtmanafcncccidaaPa5
namespace Go.Proofs.Ytmanafcncccidaa.Pure
open Go.RowKit Go.Proofs.Ytmanafcncccidaa.Pa Go.Proofs.YtmanafcncccidaaW.PrintWords Go.Proofs.YtmanafcncccidaaW.PrintLast Go.Proofs.Ytmanafcncccidaa.Hand Go.Proofs.Ytmanafcncccidaa.Num
set_option linter.unusedVariables false
set_option linter.unusedSimpArgs false

theorem NatTells : tallysticklaw04_NatTells.Pure := by
  intro a b c _ _ wa _ _ wb _ _ wc
  have ia := inB_of_wf wa
  have ib := inB_of_wf wb
  have ic := inB_of_wf wc
  refine ⟨1, ?_⟩
  unfold tallysticklaw04_NatTells.f
  rw [shown4, Option.bind_some, few_iff, Option.bind_some]
  by_cases h : a.length ≤ 40 ∧ b.length ≤ 40
  · rw [if_pos (decide_eq_true h), few_iff, Option.bind_some]
    by_cases h2 : c.length ≤ 40 ∧ ([] : List Int).length ≤ 40
    · rw [decide_eq_true h2]
      unfold tallysticklaw04_NatTells.j0
      simp only [if_true, cmp_eq ia ib, cmp_eq ib ic, cmp_eq ia ic, cmp_eq ib ia, cmp_eq ia ia, add_eq ia ic (by omega) (by omega), add_eq ib ic (by omega) (by omega), cmp_eq (dI _) (dI _), dV, Option.bind_some, cmpv_add]
      have w0 : wrap64 0 = 0 := by decide +kernel
      have w1 : wrap64 1 = 1 := by decide +kernel
      have w2 : wrap64 (-1) = -1 := by decide +kernel
      generalize val W a = x
      generalize val W b = y
      generalize val W c = z
      rcases Nat.lt_trichotomy x y with h | h | h <;> rcases Nat.lt_trichotomy y z with k | k | k <;> rcases Nat.lt_trichotomy x z with l | l | l <;> first
        | (exfalso; omega)
        | (subst_vars; simp [cmpv_lt, cmpv_gt, cmpv_eq, w0, w1, w2, *]; done)
        | (subst_vars; simp [cmpv_lt, cmpv_gt, cmpv_eq, w0, w1, w2, *]; decide)
    · rw [decide_eq_false h2]; rfl
  · rw [if_neg (by simpa using h)]; rfl
end Go.Proofs.Ytmanafcncccidaa.Pure
