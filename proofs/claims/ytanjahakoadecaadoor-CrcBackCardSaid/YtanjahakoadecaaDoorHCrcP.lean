/- Facts of sums: another byte in one place, another sum. No program in sight. -/
import Derived.Test.YtanjahakoadecaaDoorHCrcA
namespace Go.Proofs.YtanjahakoadecaaDoor.Hand
open Go.RowKit
set_option linter.unusedVariables false
set_option linter.unusedSimpArgs false

/-! ### plain -/
theorem crcBit_lt' {v : Nat} (h : v < 4294967296) : crcBit v < 4294967296 := by
  unfold crcBit
  split
  · exact Nat.xor_lt_two_pow (n := 32) (by omega) (by omega)
  · omega
/-- A bit's step tells its number again: the polynomial's highest bit shows what was cut off. -/
theorem crcBit_inj {u v : Nat} (hu : u < 4294967296) (hv : v < 4294967296) (h : crcBit u = crcBit v) : u = v := by
  have top : ∀ x, x < 4294967296 → (crcBit x).testBit 31 = decide (x % 2 = 1) := fun x hx => by
    have hs : (x / 2).testBit 31 = false := Nat.testBit_lt_two_pow (by omega)
    unfold crcBit
    split
    · rename_i ho
      rw [Nat.testBit_xor, hs, decide_eq_true ho]; decide
    · rename_i ho
      rw [hs, decide_eq_false ho]
  have hp : decide (u % 2 = 1) = decide (v % 2 = 1) := by rw [← top u hu, ← top v hv, h]
  unfold crcBit at h
  by_cases ho : u % 2 = 1
  · have ho2 : v % 2 = 1 := by rw [decide_eq_true ho] at hp; exact of_decide_eq_true hp.symm
    rw [if_pos ho, if_pos ho2] at h
    have h2 := congrArg (· ^^^ 3988292384) h
    simp only [Nat.xor_assoc, Nat.xor_self, Nat.xor_zero] at h2
    omega
  · have ho2 : ¬ v % 2 = 1 := by rw [decide_eq_false ho] at hp; exact of_decide_eq_false hp.symm
    rw [if_neg ho, if_neg ho2] at h
    omega
theorem crcBits_lt : ∀ (n : Nat) {v : Nat}, v < 4294967296 → crcBits n v < 4294967296
  | 0, _, h => h
  | n + 1, _, h => crcBits_lt n (crcBit_lt' h)
theorem crcBits_inj : ∀ (n : Nat) {u v : Nat}, u < 4294967296 → v < 4294967296 → crcBits n u = crcBits n v → u = v
  | 0, _, _, _, _, h => h
  | n + 1, _, _, hu, hv, h => crcBit_inj hu hv (crcBits_inj n (crcBit_lt' hu) (crcBit_lt' hv) h)
theorem xor_byte_lt {v : Nat} (b : UInt8) (h : v < 4294967296) : v ^^^ b.toNat < 4294967296 := Nat.xor_lt_two_pow (n := 32) (by omega) (by have := b.toNat_lt; omega)
theorem xor_left_inj {a b c : Nat} (h : a ^^^ c = b ^^^ c) : a = b := by
  have h2 := congrArg (· ^^^ c) h
  simpa only [Nat.xor_assoc, Nat.xor_self, Nat.xor_zero] using h2
theorem xor_right_inj {a b c : Nat} (h : c ^^^ a = c ^^^ b) : a = b := xor_left_inj (c := c) (by rw [Nat.xor_comm a, Nat.xor_comm b]; exact h)
theorem crcFold_lt : ∀ (l : List UInt8) {v : Nat}, v < 4294967296 → crcFold l v < 4294967296
  | [], _, h => h
  | b :: l, _, h => crcFold_lt l (crcBits_lt 8 (xor_byte_lt b h))
theorem crcFold_inj : ∀ (l : List UInt8) {u v : Nat}, u < 4294967296 → v < 4294967296 → crcFold l u = crcFold l v → u = v
  | [], _, _, _, _, h => h
  | b :: l, _, _, hu, hv, h => xor_left_inj (crcBits_inj 8 (xor_byte_lt b hu) (xor_byte_lt b hv) (crcFold_inj l (crcBits_lt 8 (xor_byte_lt b hu)) (crcBits_lt 8 (xor_byte_lt b hv)) h))
/-- Another byte in one place: another sum. -/
theorem crcFold_set : ∀ (l : List UInt8) (i : Nat) (c : UInt8) {v : Nat} (hi : i < l.length), v < 4294967296 → l[i] ≠ c → crcFold (l.set i c) v ≠ crcFold l v
  | b :: l, 0, c, v, _, hv, hne, h => hne (by
      have h2 := xor_right_inj (crcBits_inj 8 (xor_byte_lt c hv) (xor_byte_lt b hv) (crcFold_inj l (crcBits_lt 8 (xor_byte_lt c hv)) (crcBits_lt 8 (xor_byte_lt b hv)) h))
      exact UInt8.toNat_inj.1 h2.symm)
  | b :: l, i + 1, c, v, hi, hv, hne, h => crcFold_set l i c (by simpa using hi) (crcBits_lt 8 (xor_byte_lt b hv)) (by simpa using hne) h
end Go.Proofs.YtanjahakoadecaaDoor.Hand
