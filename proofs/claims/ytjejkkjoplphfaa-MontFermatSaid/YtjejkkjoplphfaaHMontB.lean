/- mont.Pow and the reference's Turn, Half, Pow: what each answers, in plain numbers. -/
import Derived.Test.YtjejkkjoplphfaaHMontA
import Derived.WalkSmall
namespace Go.Proofs.Ytjejkkjoplphfaa.Hand
open Go.RowKit Go.Proofs.YtjejkkjoplphfaaW.PrintWords Go.Proofs.YtjejkkjoplphfaaW.PrintMore Go.Proofs.Ytjejkkjoplphfaa.Pa

theorem tmod_nat (a b : Nat) : Int.tmod (a : Int) (b : Int) = ((a % b : Nat) : Int) := by rw [Int.tmod_eq_emod_of_nonneg (by omega)]; rfl
theorem tdiv_nat (a b : Nat) : Int.tdiv (a : Int) (b : Int) = ((a / b : Nat) : Int) := by rw [Int.tdiv_eq_ediv_of_nonneg (by omega)]; rfl
theorem prod_lt {a b m : Nat} (ha : a < m) (hb : b < m) (hm : m < 2147483648) : a * b < 18446744073709551616 :=
  Nat.lt_of_le_of_lt (Nat.mul_le_mul (Nat.le_of_lt ha) (Nat.le_of_lt hb)) (Nat.lt_of_le_of_lt (Nat.mul_le_mul (Nat.le_of_lt hm) (Nat.le_of_lt hm)) (by decide))

theorem turn_is (m a b : Nat) (hm : 0 < m) (hl : m < 2147483648) : tallystickref03_Turn.f m a b = some ((a * b % m : Nat) : Int) := by
  have hwm : IntKind.u64.wrap (m : Int) = (m : Int) := u64_nat m (by omega)
  have hm0 : ¬ (m : Int) = 0 := by omega
  have hp := prod_lt (Nat.mod_lt a hm) (Nat.mod_lt b hm) hl
  have h3 : IntKind.u64.wrap (((a % m : Nat) : Int) * ((b % m : Nat) : Int)) = ((a % m * (b % m) : Nat) : Int) := u64_nat _ hp
  unfold tallystickref03_Turn.f
  rw [hwm, if_neg hm0, tmod_nat, tmod_nat, h3, tmod_nat, ← Nat.mul_mod]

theorem half_l0 {m : Nat} (hm : m % 2 = 1) (h3 : 3 ≤ m) (hl : m < 2147483648) (d : Nat) : ∀ (k i a : Nat), i + d = 32 → d < k → a < m →
    tallystickref03_Half.l0 k m a i = some ((a * ((m + 1) / 2) ^ d % m : Nat) : Int) := by
  have hwm : IntKind.u64.wrap (m : Int) = (m : Int) := u64_nat m (by omega)
  have hh := half_mul m hm h3
  induction d with
  | zero =>
    intro k i a hi hk ha
    obtain ⟨k, rfl⟩ : ∃ j, k = j + 1 := ⟨k - 1, by omega⟩
    have hn : ¬ (i : Int) < 32 := by omega
    rw [tallystickref03_Half.l0, if_neg hn, Nat.pow_zero, Nat.mul_one, Nat.mod_eq_of_lt ha]
  | succ d ih =>
    intro k i a hi hk ha
    obtain ⟨k, rfl⟩ : ∃ j, k = j + 1 := ⟨k - 1, by omega⟩
    have hp : (i : Int) < 32 := by omega
    have w6 : wrap64 ((i : Int) + 1) = ((i + 1 : Nat) : Int) := by unfold wrap64; omega
    have t2 : Int.tmod (a : Int) 2 = ((a % 2 : Nat) : Int) := tmod_nat a 2
    have step : ∀ b : Nat, (2 * b) % m = a % m → b < m → (b * ((m + 1) / 2) ^ d % m) = (a * ((m + 1) / 2) ^ (d + 1) % m) := by
      intro b hb hbl
      have h1 : (a * ((m + 1) / 2)) % m = b % m := by
        rw [Nat.mul_mod, ← hb, ← Nat.mul_mod]
        have : 2 * b * ((m + 1) / 2) = b * (2 * ((m + 1) / 2)) := by rw [Nat.mul_comm 2 b, Nat.mul_assoc]
        rw [this, Nat.mul_mod, hh, Nat.mul_one, Nat.mod_mod]
      rw [Nat.pow_succ, Nat.mul_comm (((m + 1) / 2) ^ d), ← Nat.mul_assoc]
      exact cong_mul h1.symm rfl
    rw [tallystickref03_Half.l0, if_pos hp, t2, w6]
    by_cases hc : a % 2 = 1
    · have hc' : ((a % 2 : Nat) : Int) = 1 := by omega
      have w1 : IntKind.u64.wrap ((a : Int) + (m : Int)) = ((a + m : Nat) : Int) := u64_nat _ (by omega)
      have w2 : Int.tdiv ((a + m : Nat) : Int) 2 = (((a + m) / 2 : Nat) : Int) := tdiv_nat _ 2
      have w3 : IntKind.u64.wrap (((a + m) / 2 : Nat) : Int) = (((a + m) / 2 : Nat) : Int) := u64_nat _ (by omega)
      rw [if_pos hc', hwm, w1, w2, w3, ih k (i + 1) ((a + m) / 2) (by omega) (by omega) (by omega), step ((a + m) / 2) (by
        have : 2 * ((a + m) / 2) = a + m := by omega
        rw [this, Nat.add_mod_right]) (by omega)]
    · have hc' : ¬ ((a % 2 : Nat) : Int) = 1 := by omega
      have w2 : Int.tdiv (a : Int) 2 = ((a / 2 : Nat) : Int) := tdiv_nat _ 2
      have w3 : IntKind.u64.wrap ((a / 2 : Nat) : Int) = ((a / 2 : Nat) : Int) := u64_nat _ (by omega)
      rw [if_neg hc', w2, w3, ih k (i + 1) (a / 2) (by omega) (by omega) (by omega), step (a / 2) (by
        have : 2 * (a / 2) = a := by omega
        rw [this]) (by omega)]
theorem half_is {m : Nat} (hm : m % 2 = 1) (h3 : 3 ≤ m) (hl : m < 2147483648) (k a : Nat) (hk : 32 < k) : tallystickref03_Half.f k m a = some ((a * H m % m : Nat) : Int) := by
  have hwm : IntKind.u64.wrap (m : Int) = (m : Int) := u64_nat m (by omega)
  have hm0 : ¬ (m : Int) = 0 := by omega
  have := half_l0 hm h3 hl 32 k 0 (a % m) rfl hk (Nat.mod_lt _ (by omega))
  unfold tallystickref03_Half.f
  rw [hwm, if_neg hm0, tmod_nat]
  refine this.trans ?_
  rw [Nat.mul_mod, Nat.mod_mod, ← Nat.mul_mod]; rfl

theorem rpow_l0 {m : Nat} (h3 : 3 ≤ m) (hl : m < 2147483648) (d : Nat) : ∀ (k a n v : Nat), n < 2 ^ d → d < k → v < m → d ≤ 64 →
    tallystickref03_Pow.l0 k m a n v = some ((v * a ^ n % m : Nat) : Int) := by
  induction d with
  | zero =>
    intro k a n v hn hk hv _
    obtain ⟨k, rfl⟩ : ∃ j, k = j + 1 := ⟨k - 1, by omega⟩
    obtain rfl : n = 0 := by simpa using hn
    have h0 : ¬ ((0 : Nat) : Int) > 0 := by omega
    rw [tallystickref03_Pow.l0, if_neg h0, Nat.pow_zero, Nat.mul_one, Nat.mod_eq_of_lt hv]
  | succ d ih =>
    intro k a n v hn hk hv hd
    obtain ⟨k, rfl⟩ : ∃ j, k = j + 1 := ⟨k - 1, by omega⟩
    have hp : 2 ^ d ≤ 9223372036854775808 := Nat.le_trans (Nat.pow_le_pow_right (by omega) (show d ≤ 63 by omega)) (by decide)
    rw [Nat.pow_succ] at hn
    generalize 2 ^ d = p at *
    rw [tallystickref03_Pow.l0]
    by_cases h0 : (n : Int) > 0
    · have t2 : Int.tmod (n : Int) 2 = ((n % 2 : Nat) : Int) := tmod_nat n 2
      have w2 : Int.tdiv (n : Int) 2 = ((n / 2 : Nat) : Int) := tdiv_nat _ 2
      have w3 : IntKind.u64.wrap ((n / 2 : Nat) : Int) = ((n / 2 : Nat) : Int) := u64_nat _ (by omega)
      have sq : ∀ z, ((a * a % m) ^ z) % m = (a ^ (2 * z)) % m := by
        intro z
        rw [Nat.pow_mod, Nat.mod_mod, ← Nat.pow_mod, Nat.pow_mul, Nat.pow_two]
      rw [if_pos h0, t2, w2, w3]
      by_cases hc : n % 2 = 1
      · have hc' : ((n % 2 : Nat) : Int) = 1 := by omega
        rw [if_pos hc', turn_is m v a (by omega) hl, Option.bind_some, turn_is m a a (by omega) hl, Option.bind_some, ih k _ (n / 2) (v * a % m) (by omega) (by omega) (Nat.mod_lt _ (by omega)) (by omega)]
        congr 2
        have e : n = 2 * (n / 2) + 1 := by omega
        rw [Nat.mul_mod, Nat.mod_mod, sq, ← Nat.mul_mod]
        conv => rhs; rw [e]
        rw [Nat.pow_succ, Nat.mul_comm (a ^ (2 * (n / 2))) a, ← Nat.mul_assoc]
      · have hc' : ¬ ((n % 2 : Nat) : Int) = 1 := by omega
        rw [if_neg hc', turn_is m a a (by omega) hl, Option.bind_some, ih k _ (n / 2) v (by omega) (by omega) hv (by omega)]
        congr 2
        have e : n = 2 * (n / 2) := by omega
        rw [Nat.mul_mod, sq, ← Nat.mul_mod]
        conv => rhs; rw [e]
    · obtain rfl : n = 0 := by omega
      rw [if_neg h0, Nat.pow_zero, Nat.mul_one, Nat.mod_eq_of_lt hv]
theorem rpow_is {m : Nat} (h3 : 3 ≤ m) (hl : m < 2147483648) (k a n : Nat) (hk : 64 < k) (hn : n < 18446744073709551616) : tallystickref03_Pow.f k m a n = some ((a ^ n % m : Nat) : Int) := by
  have hwm : IntKind.u64.wrap (m : Int) = (m : Int) := u64_nat m (by omega)
  have hm0 : ¬ (m : Int) = 0 := by omega
  have h1 : (1 : Int) % (m : Int) = ((1 : Nat) : Int) := Int.emod_eq_of_lt (by omega) (by omega)
  unfold tallystickref03_Pow.f
  rw [hwm, if_neg hm0, h1, rpow_l0 h3 hl 64 k a n 1 hn hk (by omega) (by omega), Nat.one_mul]

variable {m n : Nat}
theorem pow_l0 (F : Form m n) (one sq : Int) (x N : Nat) (d : Nat) : ∀ (k i : Nat), i + d = 64 → d < k → N < 18446744073709551616 →
    mont_Pow.l0 k (held m x) N (held m (x ^ (N / 2 ^ d))) i m n one sq = some ((held m (x ^ N) : Nat) : Int) := by
  induction d with
  | zero =>
    intro k i hi hk hN
    obtain ⟨k, rfl⟩ : ∃ j, k = j + 1 := ⟨k - 1, by omega⟩
    have hn : ¬ (i : Int) < 64 := by omega
    rw [mont_Pow.l0, if_neg hn, Nat.pow_zero, Nat.div_one]
  | succ d ih =>
    intro k i hi hk hN
    obtain ⟨k, rfl⟩ : ∃ j, k = j + 1 := ⟨k - 1, by omega⟩
    have hp : (i : Int) < 64 := by omega
    have w6 : wrap64 ((i : Int) + 1) = ((i + 1 : Nat) : Int) := by unfold wrap64; omega
    have w7 : wrap64 (63 - (i : Int)) = ((d : Nat) : Int) := by unfold wrap64; omega
    have h0 : (0 : Int) ≤ ((d : Nat) : Int) := by omega
    have hs : shr .u64 (N : Int) ((d : Nat) : Int) = ((N / 2 ^ d : Nat) : Int) := by
      unfold shr
      have : min ((d : Nat) : Int).toNat IntKind.u64.bits = d := by
        rw [Int.toNat_natCast]; exact Nat.min_eq_left (by show d ≤ 64; omega)
      rw [this]
      have : (2 : Int) ^ d = ((2 ^ d : Nat) : Int) := by rw [Int.natCast_pow]; rfl
      rw [this]; rfl
    have hl : N / 2 ^ d ≤ N := Nat.div_le_self _ _
    have ha : Go.bits .and .u64 ((N / 2 ^ d : Nat) : Int) 1 = ((N / 2 ^ d % 2 : Nat) : Int) := by
      generalize N / 2 ^ d = y at hl ⊢
      rw [and_one_u64 _ (by omega) (by omega)]; rfl
    have e2 : N / 2 ^ (d + 1) = N / 2 ^ d / 2 := by rw [Nat.pow_succ, Nat.div_div_eq_div_mul]
    have ih' := ih k (i + 1) (by omega) (by omega) hN
    rw [mont_Pow.l0, if_pos hp, mul_held F, Option.bind_some, w7, if_pos h0, hs, ha, w6, e2]
    generalize N / 2 ^ d = y at *
    have e3 : x ^ (y / 2) * x ^ (y / 2) = x ^ (2 * (y / 2)) := by rw [← Nat.pow_add]; congr 1; omega
    rw [e3]
    by_cases hc : y % 2 = 1
    · have hc' : ((y % 2 : Nat) : Int) = 1 := by omega
      rw [if_pos hc', mul_held F, Option.bind_some, ← Nat.pow_succ]
      have e4 : (2 * (y / 2)).succ = y := by omega
      rw [e4]; exact ih'
    · have hc' : ¬ ((y % 2 : Nat) : Int) = 1 := by omega
      rw [if_neg hc']
      have e4 : 2 * (y / 2) = y := by omega
      rw [e4]; exact ih'
theorem pow_held (F : Form m n) (sq : Int) (k x N : Nat) (hk : 64 < k) (hN : N < 18446744073709551616) : mont_Pow.f k m n (held m 1 : Nat) sq (held m x : Nat) N = some ((held m (x ^ N) : Nat) : Int) := by
  unfold mont_Pow.f
  have := pow_l0 F ((held m 1 : Nat) : Int) sq x N 64 k 0 rfl hk hN
  rw [Nat.div_eq_of_lt hN, Nat.pow_zero] at this
  exact this
end Go.Proofs.Ytjejkkjoplphfaa.Hand
