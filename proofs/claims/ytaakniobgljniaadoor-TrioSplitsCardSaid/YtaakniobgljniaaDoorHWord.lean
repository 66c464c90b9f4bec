/- word.Add, word.Sub, word.Mul by hand, over the model's own words for bits.Add64, bits.Sub64 and Go's text of bits.Mul64: what each answers; the world is as it was. Conditions: the arguments are words of 64 bits. -/
import Derived.Test.YtaakniobgljniaaDoorHNum
import Derived.Test.YtaakniobgljniaaDoorProg
import Derived.Test.YtaakniobgljniaaDoorWMore
import Derived.WalkKit
import Derived.KernelRfl
import Derived.Handy
import Derived.Laws.Externs
import Derived.Lib.Mul64
import Derived.Laws.Bits64b
import Derived.Shelf.Spec.BitsCarry
import Derived.Shelf.Bits.Mul64
namespace Go.Proofs.YtaakniobgljniaaDoor.Hand
open Go.Proofs Go.RowKit Go.Lib Go.Proofs.YtaakniobgljniaaDoorW.PrintWords Go.Proofs.YtaakniobgljniaaDoorW.PrintMore Go.Proofs.YtaakniobgljniaaDoor.Num
attribute [local go_sem] max2_int min2_int max_two min_two

/-- A sum's word, and what is carried. -/
def sumLo (a b c : Int) : Int := (a + b + c) % 18446744073709551616
def sumHi (a b c : Int) : Int := (a + b + c) / 18446744073709551616
/-- A difference's word, and what is borrowed. -/
def subLo (a b c : Int) : Int := (a - b - c) % 18446744073709551616
def subHi (a b c : Int) : Int := if a < b + c then 1 else 0
/-- A product's words. -/
def mulHi (a b : Int) : Int := a * b / 18446744073709551616
def mulLo (a b : Int) : Int := a * b % 18446744073709551616
/-- Is it a word? -/
def Wd (a : Int) : Prop := 0 ≤ a ∧ a < 18446744073709551616
theorem run_bits_add (x y c : Int) (hx : 0 ≤ x) (hy : 0 ≤ y) (h0 : 0 ≤ c) (h1 : c ≤ 1) (w : World) :
    (callFunc 43 #[.int .u64 x, .int .u64 y, .int .u64 c]).run Tryd.prog w = .ok (.value (.tuple #[.int .u64 (sumLo x y c), .int .u64 (sumHi x y c)])) w := by
  rw [run_callFunc_extern Tryd.func43 (by kernel_rfl) (by kernel_rfl) (by kernel_rfl) (e := add64Entry) (by kernel_rfl), run_add64 x y c hx hy h0 h1]
  rfl




theorem bits_mul (x y : Nat) (hx : x < 18446744073709551616) (hy : y < 18446744073709551616) (w : World) :
    Calls Tryd.prog 42 #[.int .u64 x, .int .u64 y] w fun e w' => e = .returned (.tuple #[.int .u64 ((x * y / 18446744073709551616 : Nat) : Int), .int .u64 ((x * y % 18446744073709551616 : Nat) : Int)]) ∧ w' = w := by
  obtain ⟨bd, bt, bw, hhi⟩ := Lib.mul64_hi x y hx hy
  have ba := Lib.half_mul_le (a := x / 4294967296) (b := y / 4294967296) (by omega) (by omega)
  have bb := Lib.half_mul_le (a := x / 4294967296) (b := y % 4294967296) (by omega) (by omega)
  have bc := Lib.half_mul_le (a := x % 4294967296) (b := y / 4294967296) (by omega) (by omega)
  have ba' : x / 4294967296 * (y / 4294967296) < 18446744073709551616 := by omega
  have bb' : x / 4294967296 * (y % 4294967296) < 18446744073709551616 := by omega
  have bc' : x % 4294967296 * (y / 4294967296) < 18446744073709551616 := by omega
  have bh1 : x / 4294967296 * (y / 4294967296) + (x / 4294967296 * (y % 4294967296) + x % 4294967296 * (y % 4294967296) / 4294967296) / 4294967296 < 18446744073709551616 := by omega
  have bh : x / 4294967296 * (y / 4294967296) + (x / 4294967296 * (y % 4294967296) + x % 4294967296 * (y % 4294967296) / 4294967296) / 4294967296 + ((x / 4294967296 * (y % 4294967296) + x % 4294967296 * (y % 4294967296) / 4294967296) % 4294967296 + x % 4294967296 * (y / 4294967296)) / 4294967296 < 18446744073709551616 := by omega
  go_enter Tryd.func42, Tryd.ntmps42
  go_wp2
  simp only [Mul64.maskN x hx, Mul64.maskN y hy, Mul64.divN, Mul64.mulN, Mul64.addN, Mul64.wrapN _ bd, Mul64.wrapN _ bb', Mul64.wrapN _ bt, Mul64.maskN _ bt, Mul64.wrapN _ bc', Mul64.wrapN _ bw, Mul64.wrapN _ ba', Mul64.wrapN _ bh1, Mul64.wrapN _ bh, Mul64.wrapM (x * y)]
  rw [hhi]
  go_ret2
  exact ⟨rfl, rfl⟩

end Go.Proofs.YtaakniobgljniaaDoor.Hand
