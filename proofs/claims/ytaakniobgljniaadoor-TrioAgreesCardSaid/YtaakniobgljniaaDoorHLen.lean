/- How many bits a number has; word.Len by hand. -/
import Derived.Test.YtaakniobgljniaaDoorHWord
import Derived.Laws.BitsLemmas
import Derived.LoopTactic
namespace Go.Proofs.YtaakniobgljniaaDoor.Hand
open Go.RowKit Go.Proofs.YtaakniobgljniaaDoorW.PrintWords Go.Proofs.YtaakniobgljniaaDoorW.PrintMore Go.Proofs.YtaakniobgljniaaDoor.Num
set_option linter.unusedVariables false
set_option linter.unusedSimpArgs false
attribute [local go_sem] Oper.semAt_some max2_int min2_int max_two min_two

/-- How many bits a number has. -/
def bl (n : Nat) : Nat := if n = 0 then 0 else n.log2 + 1
theorem bl_le {n k : Nat} : bl n ≤ k ↔ n < 2 ^ k := by
  unfold bl
  split
  · rename_i h; subst h; simp [Nat.two_pow_pos]
  · rename_i h; exact (Nat.log2_lt h)

theorem bl_step (x k : Nat) : bl (x % 2 ^ (k + 1)) = if x / 2 ^ k % 2 = 1 then k + 1 else bl (x % 2 ^ k) := by
  rw [Nat.mod_pow_succ]
  have hr := Nat.mod_lt x (Nat.two_pow_pos k)
  split
  · rename_i h
    rw [h, Nat.mul_one]
    have h1 : bl (x % 2 ^ k + 2 ^ k) ≤ k + 1 := bl_le.2 (by rw [Nat.pow_succ]; omega)
    have h2 : ¬ bl (x % 2 ^ k + 2 ^ k) ≤ k := fun h => by have := bl_le.1 h; omega
    omega
  · rename_i h
    rw [show x / 2 ^ k % 2 = 0 by omega, Nat.mul_zero, Nat.add_zero]
theorem bit_at (x k : Nat) (hx : x < 18446744073709551616) : bits BinOp.and IntKind.u64 ((x : Int) / 2 ^ k) 1 = ((x / 2 ^ k % 2 : Nat) : Int) := by
  have e : ((x : Int) / 2 ^ k) = ((x / 2 ^ k : Nat) : Int) := by simp
  have h := bits_and_u64_nat (x / 2 ^ k) 1 (Nat.lt_of_le_of_lt (Nat.div_le_self _ _) hx) (by decide)
  rw [e]
  rw [Nat.and_one_is_mod] at h
  exact h

end Go.Proofs.YtaakniobgljniaaDoor.Hand
