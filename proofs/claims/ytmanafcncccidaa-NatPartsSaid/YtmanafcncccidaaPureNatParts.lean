/- NatParts: a number is its upper part, moved up, and its lower one. -/
import Derived.Test.YtmanafcncccidaaPNatA
import Derived.Test.YtmanafcncccidaaPa9
namespace Go.Proofs.Ytmanafcncccidaa.Pure
open Go.RowKit Go.Proofs.Ytmanafcncccidaa.Pa Go.Proofs.YtmanafcncccidaaW.PrintWords Go.Proofs.YtmanafcncccidaaW.PrintLast Go.Proofs.Ytmanafcncccidaa.Hand Go.Proofs.Ytmanafcncccidaa.Num
set_option linter.unusedVariables false
set_option linter.unusedSimpArgs false

theorem NatParts : tallysticklaw04_NatParts.Pure := by
  intro a n _ _ wa wn
  have ia := inB_of_wf wa
  refine ⟨0 + 1, ?_⟩
  unfold tallysticklaw04_NatParts.f
  rw [shown4, Option.bind_some, few_iff, Option.bind_some]
  by_cases h : a.length ≤ 40 ∧ ([] : List Int).length ≤ 40
  · rw [if_pos (decide_eq_true h)]
    by_cases hn : n < 0
    · rw [if_pos hn]; rfl
    · rw [if_neg hn]
      by_cases hk : n > 3000
      · rw [decide_eq_true hk]; rfl
      · obtain ⟨N, rfl⟩ := Int.eq_ofNat_of_zero_le (show 0 ≤ n by omega)
        have hN : N ≤ 3000 := by omega
        rw [decide_eq_false hk, tallysticklaw04_NatParts.j0, if_neg (by decide)]
        have fa := Fit.val ia h.1
        have fp : Fit 47 (2 ^ N) := Fit.pow (by omega)
        have l1 := (fa.le (Nat.div_le_self (val W a) (2 ^ N))).dig
        have l2 := (fa.le (show val W a / 2 ^ N * 2 ^ N ≤ val W a from Nat.div_mul_le_self _ _)).dig
        have l3 := (fa.le (Nat.mod_le (val W a) (2 ^ N))).dig
        have l4 := (fa.mul fp).dig
        have e1 : val W a / 2 ^ N * 2 ^ N + val W a % 2 ^ N = val W a := by rw [Nat.mul_comm]; exact Nat.div_add_mod _ _
        rw [shr_eq ia (by omega) (by omega), Option.bind_some, Int.toNat_natCast, shl_eq (dI _) (by omega) (by omega), Option.bind_some, dV, Int.toNat_natCast, low_eq ia (by omega) (by omega), Option.bind_some, Int.toNat_natCast, if_pos rfl, add_eq (dI _) (dI _) (by omega) (by omega), Option.bind_some, dV, dV, e1, cmp_eq (dI _) ia, Option.bind_some, dV, cmpv_eq, if_pos rfl, len_eq (dI _) (by omega), Option.bind_some, dV]
        have hl : bl (val W a % 2 ^ N) ≤ N := bl_le.2 (Nat.mod_lt _ (Nat.two_pow_pos N))
        have hb : bl (val W a) ≤ 64 * 40 := fa.bl
        have h2 : bl (val W a * 2 ^ N) ≤ bl (val W a) + N := bl_le.2 (by
          rw [Nat.pow_add]
          exact Nat.mul_lt_mul_of_pos_right (bl_le.1 (Nat.le_refl _)) (Nat.two_pow_pos N))
        rw [if_pos (by omega), shl_eq ia (by omega) (by omega), Option.bind_some, Int.toNat_natCast, len_eq (dI _) (by omega), Option.bind_some, dV, len_eq ia (by omega), Option.bind_some]
        have hw : wrap64 (((bl (val W a) : Nat) : Int) + (N : Int)) = ((bl (val W a) + N : Nat) : Int) := IntWalk.wrap64_in _ (by omega)
        rw [hw]
        have hd : ((bl (val W a * 2 ^ N) : Nat) : Int) ≤ ((bl (val W a) + N : Nat) : Int) := Int.ofNat_le.2 h2
        rw [decide_eq_true hd]
  · rw [if_neg (by simpa using h)]; rfl
end Go.Proofs.Ytmanafcncccidaa.Pure
