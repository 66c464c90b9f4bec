/- Texts joined into one: each with its own sentence of what is proved, and under which conditions. -/
import Derived.Test.YtaakniobgljniaaDoorPb0
import Derived.Test.YtaakniobgljniaaDoorPa12
import Derived.OpenShut
/- trio's laws, plain: the example, what a pair is split into, what three are joined to. -/
namespace Go.Proofs.YtaakniobgljniaaDoor.Pure
open Go.RowKit Go.Proofs.YtaakniobgljniaaDoor.Pa Go.Proofs.YtaakniobgljniaaDoor.Pb Go.Proofs.YtaakniobgljniaaDoorW.PrintWords Go.Proofs.YtaakniobgljniaaDoorW.PrintLast Go.Proofs.YtaakniobgljniaaDoor.Hand Go.Proofs.YtaakniobgljniaaDoor.Num
set_option linter.unusedVariables false
set_option linter.unusedSimpArgs false

set_option maxRecDepth 100000 in
theorem shown_true : tallysticklaw09_shown.f = some true := by kernel_rfl
theorem split_eq (x y : Nat) (hx : x < 18446744073709551616) (hy : y < 18446744073709551616) :
    trio_Split.f (x : Int) (y : Int) = some (((pn x y % 998244353 : Nat) : Int), ((pn x y % 167772161 : Nat) : Int), ((pn x y % 469762049 : Nat) : Int)) := by
  unfold trio_Split.f
  rw [if_pos (by omega), Int.toNat_natCast, Int.toNat_natCast]
theorem join_eq (a b c : Nat) (ha : a < 4294967296) (hb : b < 4294967296) (hc : c < 4294967296) :
    trio_Join.f (a : Int) (b : Int) (c : Int) = some (((jn a b c / 18446744073709551616 : Nat) : Int), ((jn a b c % 18446744073709551616 : Nat) : Int)) := by
  unfold trio_Join.f
  rw [if_pos (by omega), Int.toNat_natCast, Int.toNat_natCast, Int.toNat_natCast]
theorem jn_back {n : Nat} (hn : n < 78674626319836206717730817) : jn (n % 998244353) (n % 167772161) (n % 469762049) = n :=
  crt (jn_lt _ _ _) hn (by rw [jn_a]; exact Nat.mod_mod _ _) (by rw [jn_b]; exact Nat.mod_mod _ _) (by rw [jn_c]; exact Nat.mod_mod _ _)
theorem pn_parts (n : Nat) : pn (n / 18446744073709551616) (n % 18446744073709551616) = n := by unfold pn; omega
theorem bound_eq : trio_Bound.f = some (4264960, 715227917457555457) := by
  unfold trio_Bound.f
  kernel_rfl
end Go.Proofs.YtaakniobgljniaaDoor.Pure

/- The law's question whether a pair is below the bound, plain. -/
namespace Go.Proofs.YtaakniobgljniaaDoor.Pure
open Go.RowKit Go.Proofs.YtaakniobgljniaaDoor.Pa Go.Proofs.YtaakniobgljniaaDoor.Pb Go.Proofs.YtaakniobgljniaaDoorW.PrintWords Go.Proofs.YtaakniobgljniaaDoorW.PrintLast Go.Proofs.YtaakniobgljniaaDoor.Hand Go.Proofs.YtaakniobgljniaaDoor.Num
set_option linter.unusedVariables false
set_option linter.unusedSimpArgs false

theorem below_eq (x y : Nat) (hy : y < 18446744073709551616) : tallysticklaw09_below.f (x : Int) (y : Int) 4264960 715227917457555457 = some (decide (pn x y < 78674626319836206717730817)) := by
  unfold tallysticklaw09_below.f pn
  by_cases h1 : (x : Int) < 4264960
  · rw [if_pos h1, decide_eq_true (by omega)]
  · rw [if_neg h1]
    by_cases h2 : (x : Int) = 4264960
    · rw [if_pos h2]
      have e : decide ((y : Int) < 715227917457555457) = decide (x * 18446744073709551616 + y < 78674626319836206717730817) := by
        by_cases h3 : (y : Int) < 715227917457555457
        · rw [decide_eq_true h3, decide_eq_true (by omega)]
        · rw [decide_eq_false h3, decide_eq_false (by omega)]
      rw [e]
    · rw [if_neg h2, decide_eq_false (by omega)]
end Go.Proofs.YtaakniobgljniaaDoor.Pure
