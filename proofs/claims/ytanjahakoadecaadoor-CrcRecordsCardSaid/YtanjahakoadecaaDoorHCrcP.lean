/- Facts of sums: another byte in one place, another sum. No program in sight. -/
import Derived.Test.YtanjahakoadecaaDoorHCrcA
namespace Go.Proofs.YtanjahakoadecaaDoor.Hand
open Go.RowKit
set_option linter.unusedVariables false
set_option linter.unusedSimpArgs false

/-! ### plain -/
theorem crcBit_lt' {v : Nat} (h : v < 4294967296) : crcBit v < 4294967296 := by
  unfold crcBit
  split
  · exact Nat.xor_lt_two_pow (n := 32) (by omega) (by omega)
  · omega
theorem crcBits_lt : ∀ (n : Nat) {v : Nat}, v < 4294967296 → crcBits n v < 4294967296
  | 0, _, h => h
  | n + 1, _, h => crcBits_lt n (crcBit_lt' h)
theorem xor_byte_lt {v : Nat} (b : UInt8) (h : v < 4294967296) : v ^^^ b.toNat < 4294967296 := Nat.xor_lt_two_pow (n := 32) (by omega) (by have := b.toNat_lt; omega)
theorem crcFold_lt : ∀ (l : List UInt8) {v : Nat}, v < 4294967296 → crcFold l v < 4294967296
  | [], _, h => h
  | b :: l, _, h => crcFold_lt l (crcBits_lt 8 (xor_byte_lt b h))
end Go.Proofs.YtanjahakoadecaaDoor.Hand
