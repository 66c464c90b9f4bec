/- NatBits: a number that was moved up, and down by as many, is as it was. -/
import Derived.Test.YtmanafcncccidaaPNatA
import Derived.Test.YtmanafcncccidaaPa10
namespace Go.Proofs.Ytmanafcncccidaa.Pure
open Go.RowKit Go.Proofs.Ytmanafcncccidaa.Pa Go.Proofs.YtmanafcncccidaaW.PrintWords Go.Proofs.YtmanafcncccidaaW.PrintLast Go.Proofs.Ytmanafcncccidaa.Hand Go.Proofs.Ytmanafcncccidaa.Num
set_option linter.unusedVariables false
set_option linter.unusedSimpArgs false

theorem NatBits : tallysticklaw04_NatBits.Pure := by
  intro a n _ _ wa wn
  have ia := inB_of_wf wa
  refine ⟨0 + 1, ?_⟩
  unfold tallysticklaw04_NatBits.f
  rw [shown4, Option.bind_some, few_iff, Option.bind_some]
  by_cases h : a.length ≤ 40 ∧ ([] : List Int).length ≤ 40
  · rw [if_pos (decide_eq_true h)]
    by_cases hn : n < 0
    · rw [if_pos hn]; rfl
    · rw [if_neg hn]
      by_cases hk : n > 3000
      · rw [decide_eq_true hk]; rfl
      · obtain ⟨N, rfl⟩ := Int.eq_ofNat_of_zero_le (show 0 ≤ n by omega)
        have hN : N ≤ 3000 := by omega
        rw [decide_eq_false hk, tallysticklaw04_NatBits.j0, if_neg (by decide)]
        have fa := Fit.val ia h.1
        have fp : Fit 47 (2 ^ N) := Fit.pow (by omega)
        have l4 := (fa.mul fp).dig
        have hb : bl (val W a) ≤ 64 * 40 := fa.bl
        rw [shl_eq ia (by omega) (by omega), Option.bind_some, Int.toNat_natCast, if_pos rfl, shr_eq (dI _) (by omega) (by omega), Option.bind_some, dV, Int.toNat_natCast, Nat.mul_div_cancel _ (Nat.two_pow_pos N), cmp_eq (dI _) ia, Option.bind_some, dV, cmpv_eq, if_pos rfl, len_eq ia (by omega), Option.bind_some]
        by_cases hz : val W a = 0
        · rw [hz, Nat.zero_mul, dig_zero, if_pos (by decide), if_pos (by decide), low_eq (inB_nil _) (by decide) (by omega), Option.bind_some, show val W [] = 0 from rfl, Nat.zero_mod, dig_zero]
          rfl
        · have hbp : 0 < bl (val W a) := by
            rcases Nat.eq_zero_or_pos (bl (val W a)) with h0 | h0
            · have := bl_le.1 (Nat.le_of_eq h0); omega
            · exact h0
          have hbs : bl (val W a * 2 ^ N) = bl (val W a) + N := by
            have := bl_top (p := N) (q := 0) (Nat.two_pow_pos N) (x := val W a) (by omega)
            rw [Nat.zero_add, Nat.mul_comm, Nat.add_comm] at this
            exact this
          have hw : wrap64 (((bl (val W a) : Nat) : Int) + (N : Int)) = ((bl (val W a) + N : Nat) : Int) := IntWalk.wrap64_in _ (by omega)
          rw [if_neg (by omega), Option.bind_some, if_pos (by omega), len_eq (dI _) (by omega), Option.bind_some, Option.bind_some, dV, hbs, hw, if_pos rfl, low_eq (dI _) (by omega) (by omega), Option.bind_some, dV, Int.toNat_natCast, Nat.mul_mod_left, dig_zero]
          rfl
  · rw [if_neg (by simpa using h)]; rfl
end Go.Proofs.Ytmanafcncccidaa.Pure
