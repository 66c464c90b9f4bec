/- TrioFew: numbers below all three primes are split into three of the same, and joined: for every word, every pair. -/
import Derived.Test.YtaakniobgljniaaDoorPTrioA
import Derived.Test.YtaakniobgljniaaDoorPb3
namespace Go.Proofs.YtaakniobgljniaaDoor.Pure
open Go.RowKit Go.Proofs.YtaakniobgljniaaDoor.Pa Go.Proofs.YtaakniobgljniaaDoor.Pb Go.Proofs.YtaakniobgljniaaDoorW.PrintWords Go.Proofs.YtaakniobgljniaaDoorW.PrintLast Go.Proofs.YtaakniobgljniaaDoor.Hand Go.Proofs.YtaakniobgljniaaDoor.Num
set_option linter.unusedVariables false
set_option linter.unusedSimpArgs false

theorem TrioFew (a0 a1_0 a1_1 : Int) (h0 : (Lit.int .u64 a0).wf = true) (h1 : (Lit.int .u64 a1_0).wf = true) (h2 : (Lit.int .u64 a1_1).wf = true) : tallysticklaw09_TrioFew.f a0 a1_0 a1_1 = some true := by
  have hb0 := bounds_u64 h0
  have hb1 := bounds_u64 h1
  have hb2 := bounds_u64 h2
  obtain ⟨v, rfl⟩ := Int.eq_ofNat_of_zero_le hb0.1
  obtain ⟨x, rfl⟩ := Int.eq_ofNat_of_zero_le hb1.1
  obtain ⟨y, rfl⟩ := Int.eq_ofNat_of_zero_le hb2.1
  unfold tallysticklaw09_TrioFew.f
  rw [shown_true, Option.bind_some]
  by_cases hv : (v : Int) ≥ 167772161
  · rw [if_pos hv]
  · rw [if_neg hv]
    have hlt : v < 167772161 := by omega
    have hp : pn 0 v = v := by unfold pn; omega
    have e0 := split_eq 0 v (by decide) (by omega)
    rw [hp, Nat.mod_eq_of_lt (show v < 998244353 by omega), Nat.mod_eq_of_lt hlt, Nat.mod_eq_of_lt (show v < 469762049 by omega)] at e0
    have hj : jn v v v = v := by
      have h := jn_back (n := v) (by omega)
      rwa [Nat.mod_eq_of_lt (show v < 998244353 by omega), Nat.mod_eq_of_lt hlt, Nat.mod_eq_of_lt (show v < 469762049 by omega)] at h
    have ej := join_eq v v v (by omega) (by omega) (by omega)
    rw [hj, Nat.div_eq_of_lt (show v < 18446744073709551616 by omega), Nat.mod_eq_of_lt (show v < 18446744073709551616 by omega)] at ej
    have hv32 : (v : Int) % 4294967296 = (v : Int) := by omega
    have e1 := split_eq x y (by omega) (by omega)
    have l1 : ((pn x y % 998244353 : Nat) : Int) < 998244353 := Int.ofNat_lt.2 (Nat.mod_lt _ (by decide))
    have l2 : ((pn x y % 167772161 : Nat) : Int) < 167772161 := Int.ofNat_lt.2 (Nat.mod_lt _ (by decide))
    have l3 : ((pn x y % 469762049 : Nat) : Int) < 469762049 := Int.ofNat_lt.2 (Nat.mod_lt _ (by decide))
    generalize ((pn x y % 998244353 : Nat) : Int) = u1 at *
    generalize ((pn x y % 167772161 : Nat) : Int) = u2 at *
    generalize ((pn x y % 469762049 : Nat) : Int) = u3 at *
    rw [show ((0 : Nat) : Int) = 0 from rfl] at e0 ej
    rw [e0, Option.bind_some, e1, Option.bind_some, if_pos rfl]
    dsimp only
    rw [hv32, if_pos (by simp), ej, Option.bind_some, if_pos (by simp), if_pos l1, if_pos l2, decide_eq_true l3]
end Go.Proofs.YtaakniobgljniaaDoor.Pure
