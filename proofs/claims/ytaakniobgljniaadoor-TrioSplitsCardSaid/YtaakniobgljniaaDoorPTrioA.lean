/- Texts joined into one: each with its own sentence of what is proved, and under which conditions. -/
import Derived.Test.YtaakniobgljniaaDoorPb0
import Derived.Test.YtaakniobgljniaaDoorPa12
import Derived.OpenShut
/- trio's laws, plain: the example, what a pair is split into, what three are joined to. -/
namespace Go.Proofs.YtaakniobgljniaaDoor.Pure
open Go.RowKit Go.Proofs.YtaakniobgljniaaDoor.Pa Go.Proofs.YtaakniobgljniaaDoor.Pb Go.Proofs.YtaakniobgljniaaDoorW.PrintWords Go.Proofs.YtaakniobgljniaaDoorW.PrintLast Go.Proofs.YtaakniobgljniaaDoor.Hand Go.Proofs.YtaakniobgljniaaDoor.Num
set_option linter.unusedVariables false
set_option linter.unusedSimpArgs false

set_option maxRecDepth 100000 in
theorem shown_true : tallysticklaw09_shown.f = some true := by kernel_rfl
theorem split_eq (x y : Nat) (hx : x < 18446744073709551616) (hy : y < 18446744073709551616) :
    trio_Split.f (x : Int) (y : Int) = some (((pn x y % 998244353 : Nat) : Int), ((pn x y % 167772161 : Nat) : Int), ((pn x y % 469762049 : Nat) : Int)) := by
  unfold trio_Split.f
  rw [if_pos (by omega), Int.toNat_natCast, Int.toNat_natCast]
theorem join_eq (a b c : Nat) (ha : a < 4294967296) (hb : b < 4294967296) (hc : c < 4294967296) :
    trio_Join.f (a : Int) (b : Int) (c : Int) = some (((jn a b c / 18446744073709551616 : Nat) : Int), ((jn a b c % 18446744073709551616 : Nat) : Int)) := by
  unfold trio_Join.f
  rw [if_pos (by omega), Int.toNat_natCast, Int.toNat_natCast, Int.toNat_natCast]
theorem bound_eq : trio_Bound.f = some (4264960, 715227917457555457) := by
  unfold trio_Bound.f
  kernel_rfl
end Go.Proofs.YtaakniobgljniaaDoor.Pure

/- The law's question whether a pair is below the bound, plain. -/
namespace Go.Proofs.YtaakniobgljniaaDoor.Pure
open Go.RowKit Go.Proofs.YtaakniobgljniaaDoor.Pa Go.Proofs.YtaakniobgljniaaDoor.Pb Go.Proofs.YtaakniobgljniaaDoorW.PrintWords Go.Proofs.YtaakniobgljniaaDoorW.PrintLast Go.Proofs.YtaakniobgljniaaDoor.Hand Go.Proofs.YtaakniobgljniaaDoor.Num
set_option linter.unusedVariables false
set_option linter.unusedSimpArgs false

end Go.Proofs.YtaakniobgljniaaDoor.Pure
