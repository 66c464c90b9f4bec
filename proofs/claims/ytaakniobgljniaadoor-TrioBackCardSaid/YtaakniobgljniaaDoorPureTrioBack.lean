/- TrioBack: what is split, and below the bound, is joined as it was; what is joined is below it, and split as it was: for every pair, every three. -/
import Derived.Test.YtaakniobgljniaaDoorPTrioA
import Derived.Test.YtaakniobgljniaaDoorPb2
namespace Go.Proofs.YtaakniobgljniaaDoor.Pure
open Go.RowKit Go.Proofs.YtaakniobgljniaaDoor.Pa Go.Proofs.YtaakniobgljniaaDoor.Pb Go.Proofs.YtaakniobgljniaaDoorW.PrintWords Go.Proofs.YtaakniobgljniaaDoorW.PrintLast Go.Proofs.YtaakniobgljniaaDoor.Hand Go.Proofs.YtaakniobgljniaaDoor.Num
set_option linter.unusedVariables false
set_option linter.unusedSimpArgs false

theorem back_end (a b c n : Nat) (hn : n = jn a b c) : (some (((pn (n / 18446744073709551616) (n % 18446744073709551616) % 998244353 : Nat) : Int) == Int.tmod (a : Int) 998244353 && (((pn (n / 18446744073709551616) (n % 18446744073709551616) % 167772161 : Nat) : Int) == Int.tmod (b : Int) 167772161 && (((pn (n / 18446744073709551616) (n % 18446744073709551616) % 469762049 : Nat) : Int) == Int.tmod (c : Int) 469762049)))) = some true := by
  rw [pn_parts, hn, jn_a, jn_b, jn_c]
  have e1 : Int.tmod (a : Int) 998244353 = ((a % 998244353 : Nat) : Int) := rfl
  have e2 : Int.tmod (b : Int) 167772161 = ((b % 167772161 : Nat) : Int) := rfl
  have e3 : Int.tmod (c : Int) 469762049 = ((c % 469762049 : Nat) : Int) := rfl
  rw [e1, e2, e3]
  simp
theorem TrioBack (a0_0 a0_1 a1_0 a1_1 a1_2 : Int) (h0 : (Lit.int .u64 a0_0).wf = true) (h1 : (Lit.int .u64 a0_1).wf = true) (h2 : (Lit.int .u32 a1_0).wf = true) (h3 : (Lit.int .u32 a1_1).wf = true) (h4 : (Lit.int .u32 a1_2).wf = true) :
    tallysticklaw09_TrioBack.f a0_0 a0_1 a1_0 a1_1 a1_2 = some true := by
  have hb0 := bounds_u64 h0
  have hb1 := bounds_u64 h1
  have hb2 := bounds_u32 h2
  have hb3 := bounds_u32 h3
  have hb4 := bounds_u32 h4
  obtain ⟨x, rfl⟩ := Int.eq_ofNat_of_zero_le hb0.1
  obtain ⟨y, rfl⟩ := Int.eq_ofNat_of_zero_le hb1.1
  obtain ⟨a, rfl⟩ := Int.eq_ofNat_of_zero_le hb2.1
  obtain ⟨b, rfl⟩ := Int.eq_ofNat_of_zero_le hb3.1
  obtain ⟨c, rfl⟩ := Int.eq_ofNat_of_zero_le hb4.1
  have hx : x < 18446744073709551616 := by omega
  have hy : y < 18446744073709551616 := by omega
  obtain ⟨n, hn⟩ : ∃ n, n = jn a b c := ⟨_, rfl⟩
  have hlt : n < 78674626319836206717730817 := by rw [hn]; exact jn_lt _ _ _
  have hend := back_end a b c n hn
  have hj := join_eq a b c (by omega) (by omega) (by omega)
  rw [← hn] at hj
  have hs := split_eq (n / 18446744073709551616) (n % 18446744073709551616) (by omega) (by omega)
  have hbl := below_eq (n / 18446744073709551616) (n % 18446744073709551616) (by omega)
  rw [pn_parts, decide_eq_true hlt] at hbl
  have hbx := below_eq x y hy
  have hsx := split_eq x y hx hy
  unfold tallysticklaw09_TrioBack.f
  rw [shown_true, Option.bind_some, bound_eq, Option.bind_some, hj, Option.bind_some]
  dsimp only
  rw [hs, Option.bind_some, hbx, Option.bind_some, hbl, Option.bind_some]
  by_cases hp : pn x y < 78674626319836206717730817
  · have hxy : x = pn x y / 18446744073709551616 ∧ y = pn x y % 18446744073709551616 := by unfold pn; omega
    have hjx := join_eq (pn x y % 998244353) (pn x y % 167772161) (pn x y % 469762049) (Nat.lt_trans (Nat.mod_lt _ (by decide)) (by decide)) (Nat.lt_trans (Nat.mod_lt _ (by decide)) (by decide)) (Nat.lt_trans (Nat.mod_lt _ (by decide)) (by decide))
    rw [jn_back hp, ← hxy.1, ← hxy.2] at hjx
    rw [if_pos (decide_eq_true hp), hsx, Option.bind_some]
    dsimp only
    rw [hjx, Option.bind_some, if_neg (by simp), if_pos rfl, if_pos rfl]
    exact hend
  · rw [if_neg (by rw [decide_eq_false hp]; decide), if_pos rfl, if_pos rfl]
    exact hend
end Go.Proofs.YtaakniobgljniaaDoor.Pure
