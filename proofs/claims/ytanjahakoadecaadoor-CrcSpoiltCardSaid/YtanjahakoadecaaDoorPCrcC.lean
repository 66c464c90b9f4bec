/- The four bytes of a sum: their number is the sum. -/
import Derived.Test.YtanjahakoadecaaDoorPCrcB
import Derived.Test.YtanjahakoadecaaDoorHCrcS
namespace Go.Proofs.YtanjahakoadecaaDoor.Pure
open Go.RowKit Go.Proofs.YtanjahakoadecaaDoor.Pb Go.Proofs.YtanjahakoadecaaDoorW.PrintWords Go.Proofs.YtanjahakoadecaaDoorW.PrintLast Go.Proofs.YtanjahakoadecaaDoorW.PrintMore Go.Proofs.YtanjahakoadecaaDoor.Hand Go.Proofs.YtanjahakoadecaaDoor.Num
set_option linter.unusedVariables false
set_option linter.unusedSimpArgs false

theorem shr_byte (V j : Nat) (hj : j ≤ 3) : (shr .u64 (V : Int) (wrap64 (8 * (j : Int)))) % 256 = ((V / 2 ^ (8 * j) % 256 : Nat) : Int) := by
  rw [w_eight j (by omega)]
  unfold shr
  rw [show min (8 * (j : Int)).toNat IntKind.u64.bits = 8 * j by show min (8 * (j : Int)).toNat 64 = 8 * j; omega]
  have e : ((2 ^ (8 * j) : Nat) : Int) = (2 : Int) ^ (8 * j) := Int.natCast_pow 2 (8 * j)
  rw [← e]
  rfl
theorem numT_four (V : Nat) : numT (V : Int) 4 = [((V / 16777216 % 256 : Nat) : Int), ((V / 65536 % 256 : Nat) : Int), ((V / 256 % 256 : Nat) : Int), ((V / 1 % 256 : Nat) : Int)] := by
  have h0 := shr_byte V 0 (by omega)
  have h1 := shr_byte V 1 (by omega)
  have h2 := shr_byte V 2 (by omega)
  have h3 := shr_byte V 3 (by omega)
  unfold numT numT numT numT numT
  rw [h0, h1, h2, h3]
  rfl
theorem numF_numT (V : Nat) (hV : V < 4294967296) : numF ((numT (V : Int) 4).map fun n => UInt8.ofNat n.toNat) 0 = V := by
  rw [numT_four]
  simp only [List.map_cons, List.map_nil, numF, Int.toNat_natCast, UInt8.toNat_ofNat']
  omega
end Go.Proofs.YtanjahakoadecaaDoor.Pure
