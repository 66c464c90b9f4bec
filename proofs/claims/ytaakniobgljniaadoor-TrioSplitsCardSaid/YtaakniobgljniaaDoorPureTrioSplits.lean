/- TrioSplits: a number modulo the three primes, the number again, and what such are below, is as the document says: for every pair, every three. -/
import Derived.Test.YtaakniobgljniaaDoorPTrioA
import Derived.Test.YtaakniobgljniaaDoorPTrioG
import Derived.Test.YtaakniobgljniaaDoorPb5
namespace Go.Proofs.YtaakniobgljniaaDoor.Pure
open Go.RowKit Go.Proofs.YtaakniobgljniaaDoor.Pa Go.Proofs.YtaakniobgljniaaDoor.Pb Go.Proofs.YtaakniobgljniaaDoorW.PrintWords Go.Proofs.YtaakniobgljniaaDoorW.PrintLast Go.Proofs.YtaakniobgljniaaDoor.Hand Go.Proofs.YtaakniobgljniaaDoor.Num
set_option linter.unusedVariables false
set_option linter.unusedSimpArgs false

theorem part_pow (m p q : Nat) (h : m - 2 < 2 ^ 31) : p * q * ((p % m * (q % m) % m) ^ (m - 2) % m) % m = p * q * pm m (p % m * (q % m) % m) 31 (m - 2) % m := by rw [pm_is m 31 (m - 2) _ h]
theorem part_unit (t m p q : Nat) (h : m - 2 < 2 ^ 31) (h1 : p * q * pm m (p % m * (q % m) % m) 31 (m - 2) % m = 1) : partN t m p q % m = t % m := by
  rw [← part_pow m p q h] at h1
  exact inv_mod h1 t
theorem part_left (t m p q : Nat) : partN t m p q % p = 0 := by
  unfold partN
  rw [Nat.mul_assoc, Nat.mul_mod_right]
theorem part_right (t m p q : Nat) : partN t m p q % q = 0 := by
  unfold partN
  rw [Nat.mul_comm p q, Nat.mul_assoc, Nat.mul_mod_right]
theorem sum_first {x y z p r : Nat} (hx : x % p = r % p) (hy : y % p = 0) (hz : z % p = 0) : (x + (y + z)) % p = r % p := by
  rw [Nat.add_mod, Nat.add_mod y, hy, hz, hx]
  simp
theorem sum_mid {x y z p r : Nat} (hx : x % p = 0) (hy : y % p = r % p) (hz : z % p = 0) : (x + (y + z)) % p = r % p := by
  rw [Nat.add_mod, Nat.add_mod y, hy, hz, hx]
  simp
theorem sum_last {x y z p r : Nat} (hx : x % p = 0) (hy : y % p = 0) (hz : z % p = r % p) : (x + (y + z)) % p = r % p := by
  rw [Nat.add_mod, Nat.add_mod y, hy, hz, hx]
  simp
set_option maxRecDepth 100000 in
theorem unit_a : 167772161 * 469762049 * pm 998244353 (167772161 % 998244353 * (469762049 % 998244353) % 998244353) 31 (998244353 - 2) % 998244353 = 1 := by decide +kernel
set_option maxRecDepth 100000 in
theorem unit_b : 998244353 * 469762049 * pm 167772161 (998244353 % 167772161 * (469762049 % 167772161) % 167772161) 31 (167772161 - 2) % 167772161 = 1 := by decide +kernel
set_option maxRecDepth 100000 in
theorem unit_c : 998244353 * 167772161 * pm 469762049 (998244353 % 469762049 * (167772161 % 469762049) % 469762049) 31 (469762049 - 2) % 469762049 = 1 := by decide +kernel
theorem sumP_a (a b c : Nat) : sumP a b c % 998244353 = a % 998244353 := sum_first (part_unit a 998244353 167772161 469762049 (by decide) unit_a) (part_left b 167772161 998244353 469762049) (part_left c 469762049 998244353 167772161)
theorem sumP_b (a b c : Nat) : sumP a b c % 167772161 = b % 167772161 := sum_mid (part_left a 998244353 167772161 469762049) (part_unit b 167772161 998244353 469762049 (by decide) unit_b) (part_right c 469762049 998244353 167772161)
theorem sumP_c (a b c : Nat) : sumP a b c % 469762049 = c % 469762049 := sum_last (part_right a 998244353 167772161 469762049) (part_right b 167772161 998244353 469762049) (part_unit c 469762049 998244353 167772161 (by decide) unit_c)
theorem sumP_is (a b c : Nat) : sumP a b c % 78674626319836206717730817 = jn a b c := by
  refine crt (Nat.mod_lt _ (by decide)) (jn_lt a b c) ?_ ?_ ?_
  · rw [Nat.mod_mod_of_dvd _ (by decide), sumP_a, jn_a]
  · rw [Nat.mod_mod_of_dvd _ (by decide), sumP_b, jn_b]
  · rw [Nat.mod_mod_of_dvd _ (by decide), sumP_c, jn_c]
theorem TrioSplits (a0_0 a0_1 a1_0 a1_1 a1_2 : Int) (h0 : (Lit.int .u64 a0_0).wf = true) (h1 : (Lit.int .u64 a0_1).wf = true) (h2 : (Lit.int .u32 a1_0).wf = true) (h3 : (Lit.int .u32 a1_1).wf = true) (h4 : (Lit.int .u32 a1_2).wf = true) :
    ∃ k, tallysticklaw09_TrioSplits.f k a0_0 a0_1 a1_0 a1_1 a1_2 = some true := by
  have hb0 := bounds_u64 h0
  have hb1 := bounds_u64 h1
  have hb2 := bounds_u32 h2
  have hb3 := bounds_u32 h3
  have hb4 := bounds_u32 h4
  obtain ⟨x, rfl⟩ := Int.eq_ofNat_of_zero_le hb0.1
  obtain ⟨y, rfl⟩ := Int.eq_ofNat_of_zero_le hb1.1
  obtain ⟨a, rfl⟩ := Int.eq_ofNat_of_zero_le hb2.1
  obtain ⟨b, rfl⟩ := Int.eq_ofNat_of_zero_le hb3.1
  obtain ⟨c, rfl⟩ := Int.eq_ofNat_of_zero_le hb4.1
  have hs := split_eq x y (by omega) (by omega)
  have hr : Ev (fun k => tallystickref09_Split.f k (x : Int) (y : Int)) (((pn x y % 998244353 : Nat) : Int), ((pn x y % 167772161 : Nat) : Int), ((pn x y % 469762049 : Nat) : Int)) := refsplit_ev x y (by omega)
  have hj := join_eq a b c (by omega) (by omega) (by omega)
  have hq := refjoin_ev a b c (by omega) (by omega) (by omega)
  rw [sumP_is] at hq
  generalize ((pn x y % 998244353 : Nat) : Int) = u1 at *
  generalize ((pn x y % 167772161 : Nat) : Int) = u2 at *
  generalize ((pn x y % 469762049 : Nat) : Int) = u3 at *
  generalize ((jn a b c / 18446744073709551616 : Nat) : Int) = v1 at *
  generalize ((jn a b c % 18446744073709551616 : Nat) : Int) = v2 at *
  refine Ev.get (Ev.congr (G := fun k => (tallystickref09_Split.f k (x : Int) (y : Int)).bind fun bt485 => (if (u1 == bt485.1 && (u2 == bt485.2.1 && (u3 == bt485.2.2))) = true then ((tallystickref09_Join.f k (a : Int) (b : Int) (c : Int)).bind fun bt490 => (if (v1 == bt490.1 && (v2 == bt490.2)) = true then (some true) else (some false))) else (some false))) (fun k => ?_) (Ev.bind hr ?_))
  · unfold tallysticklaw09_TrioSplits.f
    rw [shown_true, Option.bind_some, if_pos rfl, hs, Option.bind_some, hj, Option.bind_some, bound_eq, Option.bind_some, refbound_eq, Option.bind_some]
    rfl
  · refine Ev.congr (G := fun k => (tallystickref09_Join.f k (a : Int) (b : Int) (c : Int)).bind fun bt490 => (if (v1 == bt490.1 && (v2 == bt490.2)) = true then (some true) else (some false))) (fun k => if_pos (by simp)) (Ev.bind hq (Ev.const (if_pos (by simp))))
end Go.Proofs.YtaakniobgljniaaDoor.Pure
