/- Texts joined into one: each with its own sentence of what is proved, and under which conditions. -/
import Derived.Test.YtaakniobgljniaaDoorHMake
import Derived.Test.YtaakniobgljniaaDoorPa3
import Derived.Test.YtaakniobgljniaaDoorPa4
import Derived.IntWalk
import Derived.Test.YtaakniobgljniaaDoorPa8
import Derived.WalkSmall
/- mont: what each printed function answers, in plain numbers: everything modulo m by way of H m, what divides by 2^32. -/
namespace Go.Proofs.YtaakniobgljniaaDoor.Hand
open Go.RowKit Go.Proofs.YtaakniobgljniaaDoorW.PrintWords Go.Proofs.YtaakniobgljniaaDoor.Pa

/-- What divides by 2, 32 times. -/
def H (m : Nat) : Nat := ((m + 1) / 2) ^ 32
theorem half_mul (m : Nat) (h : m % 2 = 1) (hm : 3 ≤ m) : (2 * ((m + 1) / 2)) % m = 1 := by
  have h1 : 2 * ((m + 1) / 2) = m + 1 := by omega
  rw [h1, Nat.add_mod_left, Nat.mod_eq_of_lt (by omega)]
theorem pow_one_mod (a m : Nat) (ha : a % m = 1 % m) : ∀ k, (a ^ k) % m = 1 % m
  | 0 => by simp
  | k + 1 => by rw [Nat.pow_succ, Nat.mul_mod, pow_one_mod a m ha k, ha, ← Nat.mul_mod]
theorem R_H (m : Nat) (h : m % 2 = 1) (hm : 3 ≤ m) : (4294967296 * H m) % m = 1 := by
  have h1 : 4294967296 * H m = (2 * ((m + 1) / 2)) ^ 32 := by rw [Nat.mul_pow]; rfl
  rw [h1, pow_one_mod _ m (by rw [half_mul m h hm, Nat.mod_eq_of_lt (by omega)]), Nat.mod_eq_of_lt (by omega)]
theorem of_R {m q t : Nat} (h : m % 2 = 1) (hm : 3 ≤ m) (e : (q * 4294967296) % m = t % m) : q % m = (t * H m) % m := by
  rw [Nat.mul_mod, ← e, ← Nat.mul_mod, Nat.mul_assoc, Nat.mul_mod, R_H m h hm, Nat.mul_one, Nat.mod_mod]

theorem better_dvd {x m d : Int} (hd : d * d ∣ 4294967296) (h : d ∣ x * m - 1) : d * d ∣ (x * ((2 - m * x) % 4294967296)) % 4294967296 * m - 1 := by
  obtain ⟨q, hq⟩ := h
  obtain ⟨e, he⟩ := hd
  have h1 : (2 - m * x) % 4294967296 = 2 - m * x - 4294967296 * ((2 - m * x) / 4294967296) := by
    have := Int.emod_add_mul_ediv (2 - m * x) 4294967296; omega
  have h2 : (x * ((2 - m * x) % 4294967296)) % 4294967296 = x * ((2 - m * x) % 4294967296) - 4294967296 * ((x * ((2 - m * x) % 4294967296)) / 4294967296) := by
    have := Int.emod_add_mul_ediv (x * ((2 - m * x) % 4294967296)) 4294967296; omega
  generalize (x * ((2 - m * x) % 4294967296)) / 4294967296 = u at h2
  generalize (2 - m * x) / 4294967296 = v at h1
  rw [h2, h1]
  refine ⟨-(q * q) - e * (x * v * m + u * m), ?_⟩
  grind
theorem invs_dvd (m : Int) (hm : m % 2 = 1) : 4294967296 ∣ invs m 5 * m - 1 := by
  have h0 : (2 : Int) ∣ invs m 0 * m - 1 := by unfold invs; omega
  have h1 : (4 : Int) ∣ invs m 1 * m - 1 := better_dvd (d := 2) (by decide) h0
  have h2 : (16 : Int) ∣ invs m 2 * m - 1 := better_dvd (d := 4) (by decide) h1
  have h3 : (256 : Int) ∣ invs m 3 * m - 1 := better_dvd (d := 16) (by decide) h2
  have h4 : (65536 : Int) ∣ invs m 4 * m - 1 := better_dvd (d := 256) (by decide) h3
  exact better_dvd (d := 65536) (by decide) h4
theorem neg_dvd (m : Int) (hm : m % 2 = 1) : 4294967296 ∣ (-(invs m 5)) % 4294967296 * m + 1 := by
  obtain ⟨q, hq⟩ := invs_dvd m hm
  have h1 : (-(invs m 5)) % 4294967296 = -(invs m 5) - 4294967296 * ((-(invs m 5)) / 4294967296) := by
    have := Int.emod_add_mul_ediv (-(invs m 5)) 4294967296; omega
  generalize (-(invs m 5)) / 4294967296 = u at h1
  rw [h1]
  exact ⟨-q - u * m, by grind⟩

/-- A form's numbers: m odd, at least 3, below 2^31; n is the inverse's opposite. -/
structure Form (m n : Nat) : Prop where
  odd : m % 2 = 1
  ge : 3 ≤ m
  lt : m < 2147483648
  nlt : n < 4294967296
  dvd : 4294967296 ∣ n * m + 1

theorem u64_nat (x : Nat) (h : x < 18446744073709551616) : IntKind.u64.wrap (x : Int) = (x : Int) := IntWalk.u64_in _ (by omega)

theorem redc {m n : Nat} (F : Form m n) (one sq : Int) (t : Nat) (ht : t < m * 4294967296) : mont_Redc.f m n one sq t = some ((t * H m % m : Nat) : Int) := by
  have hm0 : ((m : Int) == 0) = false := by have := F.ge; simp; omega
  obtain ⟨k, hk⟩ : ∃ k, k = t % 4294967296 * n % 4294967296 := ⟨_, rfl⟩
  have hkR : k < 4294967296 := by rw [hk]; exact Nat.mod_lt _ (by decide)
  have hkm : k * m ≤ 4294967295 * m := Nat.mul_le_mul_right _ (by omega)
  have hlt := F.lt
  have hge := F.ge
  have hkI : ((t : Int) % 4294967296 * (n : Int)) % 4294967296 = (k : Int) := by rw [hk]; rfl
  have hw1 : IntKind.u64.wrap ((k : Int) * (m : Int)) = ((k * m : Nat) : Int) := by
    have := u64_nat (k * m) (by omega)
    push_cast at this ⊢; exact this
  have hw2 : IntKind.u64.wrap ((t : Int) + ((k * m : Nat) : Int)) = ((t + k * m : Nat) : Int) := by
    have := u64_nat (t + k * m) (by omega)
    push_cast at this ⊢; exact this
  have hwm : IntKind.u64.wrap (m : Int) = (m : Int) := u64_nat m (by omega)
  have hd : (t + k * m) % 4294967296 = 0 := by
    obtain ⟨e, he⟩ := F.dvd
    have h1 : (k * m) % 4294967296 = (t * (n * m)) % 4294967296 := by
      rw [hk, Nat.mul_mod, Nat.mod_mod, ← Nat.mul_mod, Nat.mul_assoc, Nat.mul_mod, Nat.mod_mod, ← Nat.mul_mod]
    have h2 : (t + t * (n * m)) % 4294967296 = 0 := by
      have : t + t * (n * m) = 4294967296 * (t * e) := by
        have : t * (n * m + 1) = t * (4294967296 * e) := by rw [he]
        grind
      rw [this, Nat.mul_mod_right]
    rw [Nat.add_mod, h1, ← Nat.add_mod, h2]
  obtain ⟨q, hq⟩ : ∃ q, q = (t + k * m) / 4294967296 := ⟨_, rfl⟩
  have hqR : q * 4294967296 = t + k * m := by have := Nat.div_add_mod (t + k * m) 4294967296; rw [hd] at this; rw [hq, Nat.mul_comm]; omega
  have hq2 : q < 2 * m := by omega
  have hqI : ((t + k * m : Nat) : Int) / 4294967296 % 4294967296 = (q : Int) := by omega
  have hcong : q % m = (t * H m) % m := of_R F.odd F.ge (by rw [hqR, Nat.add_mul_mod_self_right])
  unfold mont_Redc.f
  rw [hm0, hkI, hwm, hw1, hw2, hqI]
  simp only [Bool.false_and, Bool.false_eq_true, if_false]
  rw [← hcong]
  by_cases hc : (q : Int) ≥ (m : Int)
  · rw [if_pos hc, Nat.mod_eq_sub_mod (by omega), Nat.mod_eq_of_lt (by omega)]
    congr 1
    omega
  · rw [if_neg hc, Nat.mod_eq_of_lt (by omega)]

theorem cong_mul {a b c d m : Nat} (h : a % m = b % m) (k : c % m = d % m) : (a * c) % m = (b * d) % m := by
  rw [Nat.mul_mod, h, k, ← Nat.mul_mod]
/-- x R H is x modulo m. -/
theorem RH {m : Nat} (h : m % 2 = 1) (hm : 3 ≤ m) (x : Nat) : (x * (4294967296 * H m)) % m = x % m := by
  rw [Nat.mul_mod, R_H m h hm, Nat.mul_one, Nat.mod_mod]
/-- What is held for x. -/
def held (m x : Nat) : Nat := x * 4294967296 % m
theorem held_lt {m : Nat} (hm : 3 ≤ m) (x : Nat) : held m x < m := Nat.mod_lt _ (by omega)
theorem held_cong {m x y : Nat} (h : x % m = y % m) : held m x = held m y := cong_mul h rfl
/-- Out of what is held for x. -/
theorem out_held {m : Nat} (h : m % 2 = 1) (hm : 3 ≤ m) (x : Nat) : (held m x * H m) % m = x % m := by
  unfold held
  rw [Nat.mul_mod, Nat.mod_mod, ← Nat.mul_mod, Nat.mul_assoc, RH h hm]
theorem held_mul {m : Nat} (h : m % 2 = 1) (hm : 3 ≤ m) (x y : Nat) : (held m x * held m y * H m) % m = held m (x * y) := by
  unfold held
  have h1 : (x * 4294967296 % m * (y * 4294967296 % m)) % m = (x * 4294967296 * (y * 4294967296)) % m := by rw [← Nat.mul_mod]
  rw [Nat.mul_mod, h1, ← Nat.mul_mod]
  have h2 : x * 4294967296 * (y * 4294967296) * H m = x * y * 4294967296 * (4294967296 * H m) := by grind
  rw [h2, RH h hm]

variable {m n : Nat}
theorem out_spec (F : Form m n) (one sq : Int) (c : Nat) (hc : c < m) : mont_Out.f m n one sq c = some ((c * H m % m : Nat) : Int) := by
  have hlt := F.lt
  have hw : IntKind.u64.wrap (c : Int) = (c : Int) := u64_nat c (by omega)
  unfold mont_Out.f
  rw [hw, redc F one sq c (by omega)]; rfl
theorem mul_spec (F : Form m n) (one sq : Int) (c d : Nat) (hc : c < m) (hd : d < m) : mont_Mul.f m n one sq c d = some ((c * d * H m % m : Nat) : Int) := by
  have hlt := F.lt
  have hcd : c * d < m * 4294967296 := Nat.lt_of_le_of_lt (Nat.mul_le_mul_left c (Nat.le_of_lt hd)) (by rw [Nat.mul_comm]; exact Nat.mul_lt_mul_of_pos_left (by omega) (by omega))
  have hw : IntKind.u64.wrap (c : Int) = (c : Int) := u64_nat c (by omega)
  have hw2 : IntKind.u64.wrap (d : Int) = (d : Int) := u64_nat d (by omega)
  have hw3 : IntKind.u64.wrap ((c : Int) * (d : Int)) = ((c * d : Nat) : Int) := by
    have := u64_nat (c * d) (by omega)
    push_cast at this ⊢; exact this
  unfold mont_Mul.f
  rw [hw, hw2, hw3, redc F one sq _ hcd]; rfl
theorem mul_held (F : Form m n) (one sq : Int) (x y : Nat) : mont_Mul.f m n one sq (held m x) (held m y) = some ((held m (x * y) : Nat) : Int) := by
  rw [mul_spec F one sq _ _ (held_lt F.ge x) (held_lt F.ge y), held_mul F.odd F.ge]
/-- The square that a form has: R R modulo m. -/
theorem in_spec (F : Form m n) (one : Int) (a : Nat) (ha : a < 18446744073709551616) : mont_In.f m n one (4294967296 % m * (4294967296 % m) % m : Nat) a = some ((held m a : Nat) : Int) := by
  have hlt := F.lt
  have hge := F.ge
  obtain ⟨s, hs⟩ : ∃ s, s = 4294967296 % m * (4294967296 % m) % m := ⟨_, rfl⟩
  have hsl : s < m := by rw [hs]; exact Nat.mod_lt _ (by omega)
  have hal : a % m < m := Nat.mod_lt _ (by omega)
  have hp : a % m * s < m * 4294967296 := Nat.lt_of_le_of_lt (Nat.mul_le_mul_left _ (Nat.le_of_lt hsl)) (by rw [Nat.mul_comm]; exact Nat.mul_lt_mul_of_pos_left (by omega) (by omega))
  have hwm : IntKind.u64.wrap (m : Int) = (m : Int) := u64_nat m (by omega)
  have hws : IntKind.u64.wrap (s : Int) = (s : Int) := u64_nat s (by omega)
  have hta : Int.tmod (a : Int) (m : Int) = ((a % m : Nat) : Int) := by rw [Int.tmod_eq_emod_of_nonneg (by omega)]; push_cast; rfl
  have hw3 : IntKind.u64.wrap (((a % m : Nat) : Int) * (s : Int)) = ((a % m * s : Nat) : Int) := by
    have := u64_nat (a % m * s) (by omega)
    push_cast at this ⊢; exact this
  unfold mont_In.f
  rw [← hs, if_neg (by omega), hwm, if_neg (by omega), hta, hws, hw3, redc F one s _ hp]
  simp only [Option.bind_some]
  congr 2
  unfold held
  have h1 : (a % m * s) % m = (a * (4294967296 * 4294967296)) % m := by
    rw [Nat.mul_mod, Nat.mod_mod, hs, Nat.mod_mod, ← Nat.mul_mod 4294967296, ← Nat.mul_mod]
  rw [Nat.mul_mod, h1, ← Nat.mul_mod]
  have h2 : a * (4294967296 * 4294967296) * H m = a * 4294967296 * (4294967296 * H m) := by grind
  rw [h2, RH F.odd F.ge]
theorem make_form {a0 : Nat} (h : a0 % 2 = 1) (h3 : 3 ≤ a0) (hl : a0 < 2147483648) :
    ∃ n : Nat, Form a0 n ∧ mont_Make.f a0 = some ((a0 : Int), (n : Int), ((4294967296 % a0 : Nat) : Int), ((4294967296 % a0 * (4294967296 % a0) % a0 : Nat) : Int), 0) := by
  have hd := neg_dvd (a0 : Int) (by omega)
  obtain ⟨n, hn⟩ := Int.eq_ofNat_of_zero_le (show 0 ≤ (-(invs (a0 : Int) 5)) % 4294967296 by omega)
  have hn2 : n < 4294967296 := by omega
  rw [hn] at hd
  refine ⟨n, ⟨h, h3, hl, hn2, ?_⟩, ?_⟩
  · have : ((4294967296 : Nat) : Int) ∣ ((n * a0 + 1 : Nat) : Int) := hd
    exact Int.natCast_dvd_natCast.1 this
  · unfold mont_Make.f
    rw [if_pos (by omega), if_neg (by omega), hn]
    rfl
/-- One is what is held for 1. -/
theorem one_held (m : Nat) : 4294967296 % m = held m 1 := by unfold held; rw [Nat.one_mul]
end Go.Proofs.YtaakniobgljniaaDoor.Hand

/- mont.Pow and the reference's Turn, Half, Pow: what each answers, in plain numbers. -/
namespace Go.Proofs.YtaakniobgljniaaDoor.Hand
open Go.RowKit Go.Proofs.YtaakniobgljniaaDoorW.PrintWords Go.Proofs.YtaakniobgljniaaDoorW.PrintMore Go.Proofs.YtaakniobgljniaaDoor.Pa

theorem tmod_nat (a b : Nat) : Int.tmod (a : Int) (b : Int) = ((a % b : Nat) : Int) := by rw [Int.tmod_eq_emod_of_nonneg (by omega)]; rfl
theorem tdiv_nat (a b : Nat) : Int.tdiv (a : Int) (b : Int) = ((a / b : Nat) : Int) := by rw [Int.tdiv_eq_ediv_of_nonneg (by omega)]; rfl
theorem prod_lt {a b m : Nat} (ha : a < m) (hb : b < m) (hm : m < 2147483648) : a * b < 18446744073709551616 :=
  Nat.lt_of_le_of_lt (Nat.mul_le_mul (Nat.le_of_lt ha) (Nat.le_of_lt hb)) (Nat.lt_of_le_of_lt (Nat.mul_le_mul (Nat.le_of_lt hm) (Nat.le_of_lt hm)) (by decide))

theorem turn_is (m a b : Nat) (hm : 0 < m) (hl : m < 2147483648) : tallystickref03_Turn.f m a b = some ((a * b % m : Nat) : Int) := by
  have hwm : IntKind.u64.wrap (m : Int) = (m : Int) := u64_nat m (by omega)
  have hm0 : ¬ (m : Int) = 0 := by omega
  have hp := prod_lt (Nat.mod_lt a hm) (Nat.mod_lt b hm) hl
  have h3 : IntKind.u64.wrap (((a % m : Nat) : Int) * ((b % m : Nat) : Int)) = ((a % m * (b % m) : Nat) : Int) := u64_nat _ hp
  unfold tallystickref03_Turn.f
  rw [hwm, if_neg hm0, tmod_nat, tmod_nat, h3, tmod_nat, ← Nat.mul_mod]


theorem rpow_l0 {m : Nat} (h3 : 3 ≤ m) (hl : m < 2147483648) (d : Nat) : ∀ (k a n v : Nat), n < 2 ^ d → d < k → v < m → d ≤ 64 →
    tallystickref03_Pow.l0 k m a n v = some ((v * a ^ n % m : Nat) : Int) := by
  induction d with
  | zero =>
    intro k a n v hn hk hv _
    obtain ⟨k, rfl⟩ : ∃ j, k = j + 1 := ⟨k - 1, by omega⟩
    obtain rfl : n = 0 := by simpa using hn
    have h0 : ¬ ((0 : Nat) : Int) > 0 := by omega
    rw [tallystickref03_Pow.l0, if_neg h0, Nat.pow_zero, Nat.mul_one, Nat.mod_eq_of_lt hv]
  | succ d ih =>
    intro k a n v hn hk hv hd
    obtain ⟨k, rfl⟩ : ∃ j, k = j + 1 := ⟨k - 1, by omega⟩
    have hp : 2 ^ d ≤ 9223372036854775808 := Nat.le_trans (Nat.pow_le_pow_right (by omega) (show d ≤ 63 by omega)) (by decide)
    rw [Nat.pow_succ] at hn
    generalize 2 ^ d = p at *
    rw [tallystickref03_Pow.l0]
    by_cases h0 : (n : Int) > 0
    · have t2 : Int.tmod (n : Int) 2 = ((n % 2 : Nat) : Int) := tmod_nat n 2
      have w2 : Int.tdiv (n : Int) 2 = ((n / 2 : Nat) : Int) := tdiv_nat _ 2
      have w3 : IntKind.u64.wrap ((n / 2 : Nat) : Int) = ((n / 2 : Nat) : Int) := u64_nat _ (by omega)
      have sq : ∀ z, ((a * a % m) ^ z) % m = (a ^ (2 * z)) % m := by
        intro z
        rw [Nat.pow_mod, Nat.mod_mod, ← Nat.pow_mod, Nat.pow_mul, Nat.pow_two]
      rw [if_pos h0, t2, w2, w3]
      by_cases hc : n % 2 = 1
      · have hc' : ((n % 2 : Nat) : Int) = 1 := by omega
        rw [if_pos hc', turn_is m v a (by omega) hl, Option.bind_some, turn_is m a a (by omega) hl, Option.bind_some, ih k _ (n / 2) (v * a % m) (by omega) (by omega) (Nat.mod_lt _ (by omega)) (by omega)]
        congr 2
        have e : n = 2 * (n / 2) + 1 := by omega
        rw [Nat.mul_mod, Nat.mod_mod, sq, ← Nat.mul_mod]
        conv => rhs; rw [e]
        rw [Nat.pow_succ, Nat.mul_comm (a ^ (2 * (n / 2))) a, ← Nat.mul_assoc]
      · have hc' : ¬ ((n % 2 : Nat) : Int) = 1 := by omega
        rw [if_neg hc', turn_is m a a (by omega) hl, Option.bind_some, ih k _ (n / 2) v (by omega) (by omega) hv (by omega)]
        congr 2
        have e : n = 2 * (n / 2) := by omega
        rw [Nat.mul_mod, sq, ← Nat.mul_mod]
        conv => rhs; rw [e]
    · obtain rfl : n = 0 := by omega
      rw [if_neg h0, Nat.pow_zero, Nat.mul_one, Nat.mod_eq_of_lt hv]
theorem rpow_is {m : Nat} (h3 : 3 ≤ m) (hl : m < 2147483648) (k a n : Nat) (hk : 64 < k) (hn : n < 18446744073709551616) : tallystickref03_Pow.f k m a n = some ((a ^ n % m : Nat) : Int) := by
  have hwm : IntKind.u64.wrap (m : Int) = (m : Int) := u64_nat m (by omega)
  have hm0 : ¬ (m : Int) = 0 := by omega
  have h1 : (1 : Int) % (m : Int) = ((1 : Nat) : Int) := Int.emod_eq_of_lt (by omega) (by omega)
  unfold tallystickref03_Pow.f
  rw [hwm, if_neg hm0, h1, rpow_l0 h3 hl 64 k a n 1 hn hk (by omega) (by omega), Nat.one_mul]

variable {m n : Nat}
theorem pow_l0 (F : Form m n) (one sq : Int) (x N : Nat) (d : Nat) : ∀ (k i : Nat), i + d = 64 → d < k → N < 18446744073709551616 →
    mont_Pow.l0 k (held m x) N (held m (x ^ (N / 2 ^ d))) i m n one sq = some ((held m (x ^ N) : Nat) : Int) := by
  induction d with
  | zero =>
    intro k i hi hk hN
    obtain ⟨k, rfl⟩ : ∃ j, k = j + 1 := ⟨k - 1, by omega⟩
    have hn : ¬ (i : Int) < 64 := by omega
    rw [mont_Pow.l0, if_neg hn, Nat.pow_zero, Nat.div_one]
  | succ d ih =>
    intro k i hi hk hN
    obtain ⟨k, rfl⟩ : ∃ j, k = j + 1 := ⟨k - 1, by omega⟩
    have hp : (i : Int) < 64 := by omega
    have w6 : wrap64 ((i : Int) + 1) = ((i + 1 : Nat) : Int) := by unfold wrap64; omega
    have w7 : wrap64 (63 - (i : Int)) = ((d : Nat) : Int) := by unfold wrap64; omega
    have h0 : (0 : Int) ≤ ((d : Nat) : Int) := by omega
    have hs : shr .u64 (N : Int) ((d : Nat) : Int) = ((N / 2 ^ d : Nat) : Int) := by
      unfold shr
      have : min ((d : Nat) : Int).toNat IntKind.u64.bits = d := by
        rw [Int.toNat_natCast]; exact Nat.min_eq_left (by show d ≤ 64; omega)
      rw [this]
      have : (2 : Int) ^ d = ((2 ^ d : Nat) : Int) := by rw [Int.natCast_pow]; rfl
      rw [this]; rfl
    have hl : N / 2 ^ d ≤ N := Nat.div_le_self _ _
    have ha : Go.bits .and .u64 ((N / 2 ^ d : Nat) : Int) 1 = ((N / 2 ^ d % 2 : Nat) : Int) := by
      generalize N / 2 ^ d = y at hl ⊢
      rw [and_one_u64 _ (by omega) (by omega)]; rfl
    have e2 : N / 2 ^ (d + 1) = N / 2 ^ d / 2 := by rw [Nat.pow_succ, Nat.div_div_eq_div_mul]
    have ih' := ih k (i + 1) (by omega) (by omega) hN
    rw [mont_Pow.l0, if_pos hp, mul_held F, Option.bind_some, w7, if_pos h0, hs, ha, w6, e2]
    generalize N / 2 ^ d = y at *
    have e3 : x ^ (y / 2) * x ^ (y / 2) = x ^ (2 * (y / 2)) := by rw [← Nat.pow_add]; congr 1; omega
    rw [e3]
    by_cases hc : y % 2 = 1
    · have hc' : ((y % 2 : Nat) : Int) = 1 := by omega
      rw [if_pos hc', mul_held F, Option.bind_some, ← Nat.pow_succ]
      have e4 : (2 * (y / 2)).succ = y := by omega
      rw [e4]; exact ih'
    · have hc' : ¬ ((y % 2 : Nat) : Int) = 1 := by omega
      rw [if_neg hc']
      have e4 : 2 * (y / 2) = y := by omega
      rw [e4]; exact ih'
theorem pow_held (F : Form m n) (sq : Int) (k x N : Nat) (hk : 64 < k) (hN : N < 18446744073709551616) : mont_Pow.f k m n (held m 1 : Nat) sq (held m x : Nat) N = some ((held m (x ^ N) : Nat) : Int) := by
  unfold mont_Pow.f
  have := pow_l0 F ((held m 1 : Nat) : Int) sq x N 64 k 0 rfl hk hN
  rw [Nat.div_eq_of_lt hN, Nat.pow_zero] at this
  exact this
end Go.Proofs.YtaakniobgljniaaDoor.Hand

/- Fermat's theorem, in plain numbers, and that the three numbers are primes. -/
namespace Go.Proofs.YtaakniobgljniaaDoor.Fermat
def ch : Nat → Nat → Nat
  | _, 0 => 1
  | 0, _ + 1 => 0
  | n + 1, k + 1 => ch n k + ch n (k + 1)
theorem ch_zero (n : Nat) : ch n 0 = 1 := by cases n <;> rfl
theorem ch_above : ∀ (n k : Nat), n < k → ch n k = 0
  | 0, k + 1, _ => rfl
  | n + 1, k + 1, h => by rw [ch, ch_above n k (by omega), ch_above n (k + 1) (by omega)]
theorem ch_self : ∀ n : Nat, ch n n = 1
  | 0 => rfl
  | n + 1 => by rw [ch, ch_self n, ch_above n (n + 1) (by omega)]
theorem ch_mul : ∀ (n k : Nat), (k + 1) * ch (n + 1) (k + 1) = (n + 1) * ch n k
  | 0, 0 => rfl
  | 0, k + 1 => by rw [ch_above 0 (k + 1) (by omega), ch_above (0 + 1) (k + 1 + 1) (by omega)]; simp
  | n + 1, 0 => by
    have := ch_mul n 0
    rw [ch_zero] at this ⊢
    rw [show ch (n + 1 + 1) (0 + 1) = ch (n + 1) 0 + ch (n + 1) (0 + 1) from rfl, ch_zero]
    omega
  | n + 1, k + 1 => by
    have h1 := ch_mul n k
    have h2 := ch_mul n (k + 1)
    rw [show ch (n + 1 + 1) (k + 1 + 1) = ch (n + 1) (k + 1) + ch (n + 1) (k + 1 + 1) from rfl]
    have h3 : ch (n + 1) (k + 1) = ch n k + ch n (k + 1) := rfl
    generalize ch (n + 1) (k + 1 + 1) = z at *
    generalize ch n k = u at *
    generalize ch n (k + 1) = v at *
    rw [h3] at h1 ⊢
    grind
/-- The sum of a binomial's first terms. -/
def bs (n a : Nat) : Nat → Nat
  | 0 => ch n 0
  | m + 1 => bs n a m + ch n (m + 1) * a ^ (m + 1)
theorem bs_succ (n a : Nat) : ∀ m, bs (n + 1) a (m + 1) = bs n a (m + 1) + a * bs n a m
  | 0 => by
    simp only [bs, ch_zero]
    rw [show ch (n + 1) (0 + 1) = ch n 0 + ch n (0 + 1) from rfl, ch_zero]
    grind
  | m + 1 => by
    have ih := bs_succ n a m
    rw [bs, ih, show ch (n + 1) (m + 1 + 1) = ch n (m + 1) + ch n (m + 1 + 1) from rfl]
    rw [show bs n a (m + 1 + 1) = bs n a (m + 1) + ch n (m + 1 + 1) * a ^ (m + 1 + 1) from rfl, show bs n a (m + 1) = bs n a m + ch n (m + 1) * a ^ (m + 1) from rfl]
    grind
theorem bs_pow (a : Nat) : ∀ (n m : Nat), n ≤ m → bs n a m = (a + 1) ^ n
  | 0, 0, _ => rfl
  | 0, m + 1, _ => by rw [bs, bs_pow a 0 m (by omega), ch_above 0 (m + 1) (by omega)]; simp
  | n + 1, m + 1, h => by
    rw [bs_succ, bs_pow a n (m + 1) (by omega), bs_pow a n m (by omega), Nat.pow_succ]
    grind
/-- Below p all numbers have no divisor in common with it. -/
def Prime (p : Nat) : Prop := 1 < p ∧ ∀ k, 0 < k → k < p → Nat.Coprime p k
theorem ch_dvd {p : Nat} (hp : Prime p) {k : Nat} (h0 : 0 < k) (h1 : k < p) : p ∣ ch p k := by
  obtain ⟨k, rfl⟩ : ∃ j, k = j + 1 := ⟨k - 1, by omega⟩
  obtain ⟨q, hq⟩ : ∃ j, p = j + 1 := ⟨p - 1, by omega⟩
  have h2 := ch_mul q k
  rw [← hq] at h2
  exact (hp.2 (k + 1) h0 h1).dvd_of_dvd_mul_left (h2 ▸ Nat.dvd_mul_right p _)
theorem bs_mod {p : Nat} (hp : Prime p) (a : Nat) : ∀ m, m < p → bs p a m % p = 1 % p
  | 0, _ => by rw [bs, ch_zero]
  | m + 1, h => by
    obtain ⟨c, hc⟩ := ch_dvd hp (k := m + 1) (by omega) h
    rw [bs, hc, Nat.mul_assoc, Nat.add_mul_mod_self_left, bs_mod hp a m (by omega)]
theorem dream {p : Nat} (hp : Prime p) (a : Nat) : (a + 1) ^ p % p = (a ^ p + 1) % p := by
  obtain ⟨q, hq⟩ : ∃ j, p = j + 1 := ⟨p - 1, by have := hp.1; omega⟩
  have h1 := bs_pow a p p (Nat.le_refl _)
  have h2 : bs p a p = bs p a q + ch p p * a ^ p := by
    have : bs p a (q + 1) = bs p a q + ch p (q + 1) * a ^ (q + 1) := rfl
    rwa [← hq] at this
  rw [← h1, h2, ch_self, Nat.one_mul, Nat.add_mod, bs_mod hp a q (by omega), ← Nat.add_mod, Nat.add_comm]
theorem pow_self {p : Nat} (hp : Prime p) : ∀ a : Nat, a ^ p % p = a % p
  | 0 => by rw [Nat.zero_pow (by have := hp.1; omega)]
  | a + 1 => by rw [dream hp, Nat.add_mod, pow_self hp a, ← Nat.add_mod]
theorem fermat {p : Nat} (hp : Prime p) {a : Nat} (h : a % p ≠ 0) : a ^ (p - 1) % p = 1 := by
  have hp1 := hp.1
  have hco : Nat.Coprime p a := by
    have := hp.2 (a % p) (by omega) (Nat.mod_lt _ (by omega))
    have h2 : Nat.gcd p a = Nat.gcd p (a % p) := by rw [Nat.gcd_comm p a, Nat.gcd_comm p (a % p), ← Nat.gcd_rec, Nat.gcd_comm]
    rw [Nat.coprime_iff_gcd_eq_one] at *
    rw [h2]; exact this
  have h1 := pow_self hp a
  have ha0 : 0 < a := by
    rcases Nat.eq_zero_or_pos a with h0 | h0
    · subst h0; simp at h
    · exact h0
  have hpos : 0 < a ^ (p - 1) := Nat.pow_pos ha0
  have h2 : p ∣ a * (a ^ (p - 1) - 1) := by
    have e : a ^ p = a * a ^ (p - 1) := by
      obtain ⟨q, rfl⟩ : ∃ j, p = j + 1 := ⟨p - 1, by omega⟩
      rw [Nat.pow_succ, Nat.mul_comm]; rfl
    rw [Nat.mul_sub, Nat.mul_one, ← e]
    exact Nat.dvd_of_mod_eq_zero (Nat.sub_mod_eq_zero_of_mod_eq h1)
  obtain ⟨c, hc⟩ := hco.dvd_of_dvd_mul_left h2
  have h3 : a ^ (p - 1) = 1 + p * c := by omega
  rw [h3, Nat.add_mul_mod_self_left, Nat.mod_eq_of_lt hp1]

/-- None of the 2^k numbers from lo on divides p. -/
def chk (p : Nat) : Nat → Nat → Bool
  | 0, lo => p % lo != 0
  | k + 1, lo => chk p k lo && chk p k (lo + 2 ^ k)
theorem chk_spec (p : Nat) : ∀ (k lo d : Nat), chk p k lo = true → lo ≤ d → d < lo + 2 ^ k → p % d ≠ 0
  | 0, lo, d, h, h1, h2 => by
    obtain rfl : d = lo := by simp at h2; omega
    simpa [chk] using h
  | k + 1, lo, d, h, h1, h2 => by
    rw [chk, Bool.and_eq_true] at h
    rw [Nat.pow_succ] at h2
    rcases Nat.lt_or_ge d (lo + 2 ^ k) with h3 | h3
    · exact chk_spec p k lo d h.1 h1 h3
    · exact chk_spec p k (lo + 2 ^ k) d h.2 h3 (by omega)
theorem prime_of {p : Nat} (h1 : 1 < p) (hl : p < 32770 * 32770) (h : chk p 15 2 = true) : Prime p := by
  refine ⟨h1, fun k h0 hk => ?_⟩
  rw [Nat.coprime_iff_gcd_eq_one]
  have no : ∀ d, 2 ≤ d → d < 32770 → d ∣ p → False := fun d a b c => chk_spec p 15 2 d h a b (Nat.mod_eq_zero_of_dvd c)
  obtain ⟨g, hg⟩ : ∃ g, g = Nat.gcd p k := ⟨_, rfl⟩
  have hgp : g ∣ p := hg ▸ Nat.gcd_dvd_left p k
  have hgk : g ∣ k := hg ▸ Nat.gcd_dvd_right p k
  have hgl : g ≤ k := Nat.le_of_dvd h0 hgk
  have hg0 : 0 < g := Nat.pos_of_dvd_of_pos hgk h0
  rw [← hg]
  obtain ⟨c, hc⟩ := hgp
  rcases Nat.lt_or_ge g 2 with h2 | h2
  · omega
  · exfalso
    rcases Nat.lt_or_ge g 32770 with h3 | h3
    · exact no g h2 h3 ⟨c, hc⟩
    · rcases Nat.lt_or_ge c 32770 with h4 | h4
      · refine no c ?_ h4 ⟨g, by rw [hc, Nat.mul_comm]⟩
        rcases Nat.lt_or_ge c 2 with h5 | h5
        · rcases (show c = 0 ∨ c = 1 by omega) with rfl | rfl
          · omega
          · omega
        · exact h5
      · have := Nat.mul_le_mul h3 h4
        omega
theorem primeA : Prime 998244353 := prime_of (by decide) (by decide) (by decide +kernel)
theorem primeB : Prime 167772161 := prime_of (by decide) (by decide) (by decide +kernel)
theorem primeC : Prime 469762049 := prime_of (by decide) (by decide) (by decide +kernel)
end Go.Proofs.YtaakniobgljniaaDoor.Fermat
