/- WordShifts: a product with a power of 2 is the number moved up; how many bits it has tells it. -/
import Derived.Test.YtnmfinhmhmepdaaPWordA
import Derived.Test.YtnmfinhmhmepdaaPa5
namespace Go.Proofs.Ytnmfinhmhmepdaa.Pure
open Go.RowKit Go.Proofs.Ytnmfinhmhmepdaa.Pa Go.Proofs.YtnmfinhmhmepdaaW.PrintWords Go.Proofs.YtnmfinhmhmepdaaW.PrintMore Go.Proofs.YtnmfinhmhmepdaaW.PrintLast Go.Proofs.Ytnmfinhmhmepdaa.Hand Go.Proofs.Ytnmfinhmhmepdaa.Num
set_option linter.unusedVariables false
set_option linter.unusedSimpArgs false

theorem shl_nat (a K : Nat) (h : K ≤ 64) : shl .u64 (a : Int) (K : Int) = ((a * 2 ^ K % 18446744073709551616 : Nat) : Int) := by
  unfold shl
  have e : ((2 : Int) ^ K) = ((2 ^ K : Nat) : Int) := by simp
  rw [Int.toNat_natCast, show min K (IntKind.u64).bits = K from Nat.min_eq_left h, IntKind.wrap_u64, e, ← Int.natCast_mul]
  rfl
theorem shr_nat (a K : Nat) (h : K ≤ 64) : shr .u64 (a : Int) (K : Int) = ((a / 2 ^ K : Nat) : Int) := by
  unfold shr
  have e : ((2 : Int) ^ K) = ((2 ^ K : Nat) : Int) := by simp
  rw [Int.toNat_natCast, show min K (IntKind.u64).bits = K from Nat.min_eq_left h, e, ← Int.natCast_ediv]
theorem move_hi (a K : Nat) (hK : K ≤ 64) : a * 2 ^ K / 18446744073709551616 = a / 2 ^ (64 - K) := by
  have hW : (18446744073709551616 : Nat) = 2 ^ (64 - K) * 2 ^ K := by rw [← Nat.pow_add, show 64 - K + K = 64 by omega]
  rw [hW, Nat.mul_div_mul_right _ _ (Nat.two_pow_pos K)]
theorem bl_one {a n : Nat} (h : bl a = n + 1) : a / 2 ^ n = 1 := by
  have h1 : a < 2 ^ (n + 1) := bl_le.1 (by omega)
  have h2 : 2 ^ n ≤ a := by
    rcases Nat.lt_or_ge a (2 ^ n) with h2 | h2
    · have := bl_le.2 h2; omega
    · exact h2
  rw [Nat.pow_succ] at h1
  exact Nat.div_eq_of_lt_le (by omega) (by omega)
theorem w_less1 (s : Nat) (h : s ≤ 1000) : wrap64 (((s + 1 : Nat) : Int) - 1) = (s : Int) := by rw [IntWalk.wrap64_in _ (by omega)]; omega
theorem w_64 (s : Nat) (h : s ≤ 64) : wrap64 (64 - (s : Int)) = ((64 - s : Nat) : Int) := by rw [IntWalk.wrap64_in _ (by omega)]; omega
theorem WordShifts : tallysticklaw01_WordShifts.Pure := by
  intro a k wa wk
  have ha := wd_of wa
  refine ⟨0 + 1, ?_⟩
  unfold tallysticklaw01_WordShifts.f
  rw [shown1, Option.bind_some]
  by_cases h1 : k < 1
  · rw [if_pos h1, tallysticklaw01_WordShifts.j0, if_pos rfl]
  · rw [if_neg h1]
    by_cases h2 : k > 63
    · rw [decide_eq_true h2, tallysticklaw01_WordShifts.j0, if_pos rfl]
    · rw [decide_eq_false h2]
      obtain ⟨K, rfl⟩ := Int.eq_ofNat_of_zero_le (show 0 ≤ k by omega)
      obtain ⟨x, rfl⟩ := Int.eq_ofNat_of_zero_le ha.1
      have hK : K ≤ 63 := by omega
      have hp : 1 * 2 ^ K < 18446744073709551616 := by
        have : 2 ^ K ≤ 2 ^ 63 := Nat.pow_le_pow_right (by decide) hK
        omega
      have e1 : shl .u64 1 (K : Int) = ((2 ^ K : Nat) : Int) := by
        have := shl_nat 1 K (by omega)
        rw [Nat.mod_eq_of_lt hp, Nat.one_mul] at this
        exact this
      rw [Nat.one_mul] at hp
      have hpw : Wd ((2 ^ K : Nat) : Int) := ⟨Int.natCast_nonneg _, Int.ofNat_lt.2 hp⟩
      have hx := ha.2
      have hbl : bl x ≤ 64 := bl_le.2 (by omega)
      have e2 : mulLo (x : Int) ((2 ^ K : Nat) : Int) = shl .u64 (x : Int) (K : Int) := by rw [shl_nat x K (by omega)]; rfl
      have e3 : mulHi (x : Int) ((2 ^ K : Nat) : Int) = shr .u64 (x : Int) ((64 - K : Nat) : Int) := by
        rw [shr_nat x (64 - K) (by omega), ← move_hi x K (by omega)]; rfl
      have hK0 : (0 : Int) ≤ (K : Int) := by omega
      rw [tallysticklaw01_WordShifts.j0, if_neg (by decide), if_pos hK0, e1, wmul ha hpw, Option.bind_some, wlen ha, Option.bind_some, Int.toNat_natCast, if_pos rfl, if_pos e2, w_64 K (by omega), if_pos (by omega), if_pos e3]
      rcases Nat.eq_zero_or_pos (bl x) with h0 | h0
      · have hx0 : x < 2 ^ 0 := bl_le.1 (by omega)
        have e4 : shr .u64 (x : Int) ((bl x : Nat) : Int) = 0 := by rw [shr_nat x _ hbl, h0, show x = 0 by simpa using hx0]; rfl
        rw [if_neg (by omega), if_pos (by omega), if_pos e4, if_pos (by omega)]
      · obtain ⟨m, hm⟩ : ∃ m, bl x = m + 1 := ⟨bl x - 1, by omega⟩
        have e5 : shr .u64 (x : Int) (m : Int) = 1 := by rw [shr_nat x m (by omega), bl_one hm]; rfl
        have e4 : shr .u64 (x : Int) ((bl x : Nat) : Int) = 0 := by rw [shr_nat x _ hbl, Nat.div_eq_of_lt (bl_le.1 (Nat.le_refl _))]; rfl
        by_cases h64 : ((bl x : Nat) : Int) = 64
        · rw [if_pos h64, if_neg (by omega), hm, w_less1 m (by omega), if_pos (by omega), e5]; rfl
        · rw [if_neg h64, if_pos (by omega), if_pos e4, if_neg (by omega), hm, w_less1 m (by omega), if_pos (by omega), e5]; rfl
end Go.Proofs.Ytnmfinhmhmepdaa.Pure
