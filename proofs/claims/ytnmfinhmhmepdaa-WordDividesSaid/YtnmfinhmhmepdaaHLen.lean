/- How many bits a number has; word.Len by hand. -/
import Derived.Test.YtnmfinhmhmepdaaHWord
import Derived.Laws.BitsLemmas
import Derived.LoopTactic
namespace Go.Proofs.Ytnmfinhmhmepdaa.Hand
open Go.RowKit Go.Proofs.YtnmfinhmhmepdaaW.PrintWords Go.Proofs.YtnmfinhmhmepdaaW.PrintMore Go.Proofs.Ytnmfinhmhmepdaa.Num
set_option linter.unusedVariables false
set_option linter.unusedSimpArgs false
attribute [local go_sem] Oper.semAt_some max2_int min2_int max_two min_two

/-- How many bits a number has. -/
def bl (n : Nat) : Nat := if n = 0 then 0 else n.log2 + 1
theorem bl_le {n k : Nat} : bl n ≤ k ↔ n < 2 ^ k := by
  unfold bl
  split
  · rename_i h; subst h; simp [Nat.two_pow_pos]
  · rename_i h; exact (Nat.log2_lt h)

theorem bl_step (x k : Nat) : bl (x % 2 ^ (k + 1)) = if x / 2 ^ k % 2 = 1 then k + 1 else bl (x % 2 ^ k) := by
  rw [Nat.mod_pow_succ]
  have hr := Nat.mod_lt x (Nat.two_pow_pos k)
  split
  · rename_i h
    rw [h, Nat.mul_one]
    have h1 : bl (x % 2 ^ k + 2 ^ k) ≤ k + 1 := bl_le.2 (by rw [Nat.pow_succ]; omega)
    have h2 : ¬ bl (x % 2 ^ k + 2 ^ k) ≤ k := fun h => by have := bl_le.1 h; omega
    omega
  · rename_i h
    rw [show x / 2 ^ k % 2 = 0 by omega, Nat.mul_zero, Nat.add_zero]
theorem bit_at (x k : Nat) (hx : x < 18446744073709551616) : bits BinOp.and IntKind.u64 ((x : Int) / 2 ^ k) 1 = ((x / 2 ^ k % 2 : Nat) : Int) := by
  have e : ((x : Int) / 2 ^ k) = ((x / 2 ^ k : Nat) : Int) := by simp
  have h := bits_and_u64_nat (x / 2 ^ k) 1 (Nat.lt_of_le_of_lt (Nat.div_le_self _ _) hx) (by decide)
  rw [e]
  rw [Nat.and_one_is_mod] at h
  exact h

set_option maxRecDepth 100000 in
theorem word_len (x : Int) (hx : Wd x) (w : World) :
    Calls Try.prog 15 #[.int .u64 x] w fun e w' => e = .returned (.int .i64 (bl x.toNat)) ∧ w = w' := by
  obtain ⟨x, rfl⟩ := Int.eq_ofNat_of_zero_le hx.1
  have hb := hx.2
  go_enter Try.func15, Try.ntmps15
  go_wp2
  go_loop [3, 5] (fun t u => ∃ k : Nat, k ≤ 64 ∧ u = .int .i64 k ∧ t = .int .i64 (bl (x % 2 ^ k))) (fun _ u => 64 - (intOf u).toNat)
  case atStart => exact ⟨0, by omega, rfl, by rw [show x % 2 ^ 0 = 0 from by omega]; rfl⟩
  case round =>
    obtain ⟨k, hk, rfl, rfl⟩ := hrel
    by_cases hlt : k < 64
    · have bit_at := bit_at x k (by omega)
      have BIT := Aside0.mk bit_at
      clear bit_at
      generalize hz : bl (x % 2 ^ k) = z
      have HZ := Aside0.mk hz
      clear hz hb hx
      go_wp2
      · rename_i hq
        refine ⟨⟨k + 1, by omega, by go_num, ?_⟩, by simp [intOf]; omega⟩
        rw [BIT.out, beq_iff_eq] at hq
        rw [bl_step, if_pos (by omega)]
        rfl
      · rename_i hq
        refine ⟨⟨k + 1, by omega, by go_num, ?_⟩, by simp [intOf]; omega⟩
        rw [BIT.out, beq_eq_false_iff_ne] at hq
        rw [bl_step, if_neg (by omega), HZ.out]
    · obtain rfl : k = 64 := by omega
      have e : x % 2 ^ 64 = x := Nat.mod_eq_of_lt (by omega)
      rw [e]
      go_wp2
      go_ret
      exact ⟨rfl, rfl⟩
end Go.Proofs.Ytnmfinhmhmepdaa.Hand
