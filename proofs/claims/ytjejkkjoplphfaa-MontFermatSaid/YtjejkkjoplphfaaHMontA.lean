/- mont: what each printed function answers, in plain numbers: everything modulo m by way of H m, what divides by 2^32. -/
import Derived.Test.YtjejkkjoplphfaaHMake
import Derived.Test.YtjejkkjoplphfaaPa2
import Derived.IntWalk
namespace Go.Proofs.Ytjejkkjoplphfaa.Hand
open Go.RowKit Go.Proofs.YtjejkkjoplphfaaW.PrintWords Go.Proofs.Ytjejkkjoplphfaa.Pa

/-- What divides by 2, 32 times. -/
def H (m : Nat) : Nat := ((m + 1) / 2) ^ 32
theorem half_mul (m : Nat) (h : m % 2 = 1) (hm : 3 ≤ m) : (2 * ((m + 1) / 2)) % m = 1 := by
  have h1 : 2 * ((m + 1) / 2) = m + 1 := by omega
  rw [h1, Nat.add_mod_left, Nat.mod_eq_of_lt (by omega)]
theorem pow_one_mod (a m : Nat) (ha : a % m = 1 % m) : ∀ k, (a ^ k) % m = 1 % m
  | 0 => by simp
  | k + 1 => by rw [Nat.pow_succ, Nat.mul_mod, pow_one_mod a m ha k, ha, ← Nat.mul_mod]
theorem R_H (m : Nat) (h : m % 2 = 1) (hm : 3 ≤ m) : (4294967296 * H m) % m = 1 := by
  have h1 : 4294967296 * H m = (2 * ((m + 1) / 2)) ^ 32 := by rw [Nat.mul_pow]; rfl
  rw [h1, pow_one_mod _ m (by rw [half_mul m h hm, Nat.mod_eq_of_lt (by omega)]), Nat.mod_eq_of_lt (by omega)]
theorem of_R {m q t : Nat} (h : m % 2 = 1) (hm : 3 ≤ m) (e : (q * 4294967296) % m = t % m) : q % m = (t * H m) % m := by
  rw [Nat.mul_mod, ← e, ← Nat.mul_mod, Nat.mul_assoc, Nat.mul_mod, R_H m h hm, Nat.mul_one, Nat.mod_mod]

theorem better_dvd {x m d : Int} (hd : d * d ∣ 4294967296) (h : d ∣ x * m - 1) : d * d ∣ (x * ((2 - m * x) % 4294967296)) % 4294967296 * m - 1 := by
  obtain ⟨q, hq⟩ := h
  obtain ⟨e, he⟩ := hd
  have h1 : (2 - m * x) % 4294967296 = 2 - m * x - 4294967296 * ((2 - m * x) / 4294967296) := by
    have := Int.emod_add_mul_ediv (2 - m * x) 4294967296; omega
  have h2 : (x * ((2 - m * x) % 4294967296)) % 4294967296 = x * ((2 - m * x) % 4294967296) - 4294967296 * ((x * ((2 - m * x) % 4294967296)) / 4294967296) := by
    have := Int.emod_add_mul_ediv (x * ((2 - m * x) % 4294967296)) 4294967296; omega
  generalize (x * ((2 - m * x) % 4294967296)) / 4294967296 = u at h2
  generalize (2 - m * x) / 4294967296 = v at h1
  rw [h2, h1]
  refine ⟨-(q * q) - e * (x * v * m + u * m), ?_⟩
  grind
theorem invs_dvd (m : Int) (hm : m % 2 = 1) : 4294967296 ∣ invs m 5 * m - 1 := by
  have h0 : (2 : Int) ∣ invs m 0 * m - 1 := by unfold invs; omega
  have h1 : (4 : Int) ∣ invs m 1 * m - 1 := better_dvd (d := 2) (by decide) h0
  have h2 : (16 : Int) ∣ invs m 2 * m - 1 := better_dvd (d := 4) (by decide) h1
  have h3 : (256 : Int) ∣ invs m 3 * m - 1 := better_dvd (d := 16) (by decide) h2
  have h4 : (65536 : Int) ∣ invs m 4 * m - 1 := better_dvd (d := 256) (by decide) h3
  exact better_dvd (d := 65536) (by decide) h4
theorem neg_dvd (m : Int) (hm : m % 2 = 1) : 4294967296 ∣ (-(invs m 5)) % 4294967296 * m + 1 := by
  obtain ⟨q, hq⟩ := invs_dvd m hm
  have h1 : (-(invs m 5)) % 4294967296 = -(invs m 5) - 4294967296 * ((-(invs m 5)) / 4294967296) := by
    have := Int.emod_add_mul_ediv (-(invs m 5)) 4294967296; omega
  generalize (-(invs m 5)) / 4294967296 = u at h1
  rw [h1]
  exact ⟨-q - u * m, by grind⟩

/-- A form's numbers: m odd, at least 3, below 2^31; n is the inverse's opposite. -/
structure Form (m n : Nat) : Prop where
  odd : m % 2 = 1
  ge : 3 ≤ m
  lt : m < 2147483648
  nlt : n < 4294967296
  dvd : 4294967296 ∣ n * m + 1

theorem u64_nat (x : Nat) (h : x < 18446744073709551616) : IntKind.u64.wrap (x : Int) = (x : Int) := IntWalk.u64_in _ (by omega)

theorem redc {m n : Nat} (F : Form m n) (one sq : Int) (t : Nat) (ht : t < m * 4294967296) : mont_Redc.f m n one sq t = some ((t * H m % m : Nat) : Int) := by
  have hm0 : ((m : Int) == 0) = false := by have := F.ge; simp; omega
  obtain ⟨k, hk⟩ : ∃ k, k = t % 4294967296 * n % 4294967296 := ⟨_, rfl⟩
  have hkR : k < 4294967296 := by rw [hk]; exact Nat.mod_lt _ (by decide)
  have hkm : k * m ≤ 4294967295 * m := Nat.mul_le_mul_right _ (by omega)
  have hlt := F.lt
  have hge := F.ge
  have hkI : ((t : Int) % 4294967296 * (n : Int)) % 4294967296 = (k : Int) := by rw [hk]; rfl
  have hw1 : IntKind.u64.wrap ((k : Int) * (m : Int)) = ((k * m : Nat) : Int) := by
    have := u64_nat (k * m) (by omega)
    push_cast at this ⊢; exact this
  have hw2 : IntKind.u64.wrap ((t : Int) + ((k * m : Nat) : Int)) = ((t + k * m : Nat) : Int) := by
    have := u64_nat (t + k * m) (by omega)
    push_cast at this ⊢; exact this
  have hwm : IntKind.u64.wrap (m : Int) = (m : Int) := u64_nat m (by omega)
  have hd : (t + k * m) % 4294967296 = 0 := by
    obtain ⟨e, he⟩ := F.dvd
    have h1 : (k * m) % 4294967296 = (t * (n * m)) % 4294967296 := by
      rw [hk, Nat.mul_mod, Nat.mod_mod, ← Nat.mul_mod, Nat.mul_assoc, Nat.mul_mod, Nat.mod_mod, ← Nat.mul_mod]
    have h2 : (t + t * (n * m)) % 4294967296 = 0 := by
      have : t + t * (n * m) = 4294967296 * (t * e) := by
        have : t * (n * m + 1) = t * (4294967296 * e) := by rw [he]
        grind
      rw [this, Nat.mul_mod_right]
    rw [Nat.add_mod, h1, ← Nat.add_mod, h2]
  obtain ⟨q, hq⟩ : ∃ q, q = (t + k * m) / 4294967296 := ⟨_, rfl⟩
  have hqR : q * 4294967296 = t + k * m := by have := Nat.div_add_mod (t + k * m) 4294967296; rw [hd] at this; rw [hq, Nat.mul_comm]; omega
  have hq2 : q < 2 * m := by omega
  have hqI : ((t + k * m : Nat) : Int) / 4294967296 % 4294967296 = (q : Int) := by omega
  have hcong : q % m = (t * H m) % m := of_R F.odd F.ge (by rw [hqR, Nat.add_mul_mod_self_right])
  unfold mont_Redc.f
  rw [hm0, hkI, hwm, hw1, hw2, hqI]
  simp only [Bool.false_and, Bool.false_eq_true, if_false]
  rw [← hcong]
  by_cases hc : (q : Int) ≥ (m : Int)
  · rw [if_pos hc, Nat.mod_eq_sub_mod (by omega), Nat.mod_eq_of_lt (by omega)]
    congr 1
    omega
  · rw [if_neg hc, Nat.mod_eq_of_lt (by omega)]

/-- Modulo m a product's parts may be taken. -/
theorem mul_mod3 (a b c m : Nat) : (a % m * b * c) % m = (a * b * c) % m := by
  rw [Nat.mul_assoc, Nat.mul_mod, Nat.mod_mod, ← Nat.mul_mod, Nat.mul_assoc]
theorem cong_mul {a b c d m : Nat} (h : a % m = b % m) (k : c % m = d % m) : (a * c) % m = (b * d) % m := by
  rw [Nat.mul_mod, h, k, ← Nat.mul_mod]
/-- x R H is x modulo m. -/
theorem RH {m : Nat} (h : m % 2 = 1) (hm : 3 ≤ m) (x : Nat) : (x * (4294967296 * H m)) % m = x % m := by
  rw [Nat.mul_mod, R_H m h hm, Nat.mul_one, Nat.mod_mod]
/-- What is held for x. -/
def held (m x : Nat) : Nat := x * 4294967296 % m
theorem held_lt {m : Nat} (hm : 3 ≤ m) (x : Nat) : held m x < m := Nat.mod_lt _ (by omega)
theorem held_cong {m x y : Nat} (h : x % m = y % m) : held m x = held m y := cong_mul h rfl
/-- Out of what is held for x. -/
theorem out_held {m : Nat} (h : m % 2 = 1) (hm : 3 ≤ m) (x : Nat) : (held m x * H m) % m = x % m := by
  unfold held
  rw [Nat.mul_mod, Nat.mod_mod, ← Nat.mul_mod, Nat.mul_assoc, RH h hm]
theorem held_out {m : Nat} (h : m % 2 = 1) (hm : 3 ≤ m) {c : Nat} (hc : c < m) : held m (c * H m % m) = c := by
  unfold held
  rw [Nat.mul_mod, Nat.mod_mod, ← Nat.mul_mod, Nat.mul_assoc, Nat.mul_comm (H m), RH h hm, Nat.mod_eq_of_lt hc]
theorem held_mul {m : Nat} (h : m % 2 = 1) (hm : 3 ≤ m) (x y : Nat) : (held m x * held m y * H m) % m = held m (x * y) := by
  unfold held
  have h1 : (x * 4294967296 % m * (y * 4294967296 % m)) % m = (x * 4294967296 * (y * 4294967296)) % m := by rw [← Nat.mul_mod]
  rw [Nat.mul_mod, h1, ← Nat.mul_mod]
  have h2 : x * 4294967296 * (y * 4294967296) * H m = x * y * 4294967296 * (4294967296 * H m) := by grind
  rw [h2, RH h hm]

variable {m n : Nat}
theorem out_spec (F : Form m n) (one sq : Int) (c : Nat) (hc : c < m) : mont_Out.f m n one sq c = some ((c * H m % m : Nat) : Int) := by
  have hlt := F.lt
  have hw : IntKind.u64.wrap (c : Int) = (c : Int) := u64_nat c (by omega)
  unfold mont_Out.f
  rw [hw, redc F one sq c (by omega)]; rfl
theorem mul_spec (F : Form m n) (one sq : Int) (c d : Nat) (hc : c < m) (hd : d < m) : mont_Mul.f m n one sq c d = some ((c * d * H m % m : Nat) : Int) := by
  have hlt := F.lt
  have hcd : c * d < m * 4294967296 := Nat.lt_of_le_of_lt (Nat.mul_le_mul_left c (Nat.le_of_lt hd)) (by rw [Nat.mul_comm]; exact Nat.mul_lt_mul_of_pos_left (by omega) (by omega))
  have hw : IntKind.u64.wrap (c : Int) = (c : Int) := u64_nat c (by omega)
  have hw2 : IntKind.u64.wrap (d : Int) = (d : Int) := u64_nat d (by omega)
  have hw3 : IntKind.u64.wrap ((c : Int) * (d : Int)) = ((c * d : Nat) : Int) := by
    have := u64_nat (c * d) (by omega)
    push_cast at this ⊢; exact this
  unfold mont_Mul.f
  rw [hw, hw2, hw3, redc F one sq _ hcd]; rfl
theorem mul_held (F : Form m n) (one sq : Int) (x y : Nat) : mont_Mul.f m n one sq (held m x) (held m y) = some ((held m (x * y) : Nat) : Int) := by
  rw [mul_spec F one sq _ _ (held_lt F.ge x) (held_lt F.ge y), held_mul F.odd F.ge]
/-- The square that a form has: R R modulo m. -/
theorem in_spec (F : Form m n) (one : Int) (a : Nat) (ha : a < 18446744073709551616) : mont_In.f m n one (4294967296 % m * (4294967296 % m) % m : Nat) a = some ((held m a : Nat) : Int) := by
  have hlt := F.lt
  have hge := F.ge
  obtain ⟨s, hs⟩ : ∃ s, s = 4294967296 % m * (4294967296 % m) % m := ⟨_, rfl⟩
  have hsl : s < m := by rw [hs]; exact Nat.mod_lt _ (by omega)
  have hal : a % m < m := Nat.mod_lt _ (by omega)
  have hp : a % m * s < m * 4294967296 := Nat.lt_of_le_of_lt (Nat.mul_le_mul_left _ (Nat.le_of_lt hsl)) (by rw [Nat.mul_comm]; exact Nat.mul_lt_mul_of_pos_left (by omega) (by omega))
  have hwm : IntKind.u64.wrap (m : Int) = (m : Int) := u64_nat m (by omega)
  have hws : IntKind.u64.wrap (s : Int) = (s : Int) := u64_nat s (by omega)
  have hta : Int.tmod (a : Int) (m : Int) = ((a % m : Nat) : Int) := by rw [Int.tmod_eq_emod_of_nonneg (by omega)]; push_cast; rfl
  have hw3 : IntKind.u64.wrap (((a % m : Nat) : Int) * (s : Int)) = ((a % m * s : Nat) : Int) := by
    have := u64_nat (a % m * s) (by omega)
    push_cast at this ⊢; exact this
  unfold mont_In.f
  rw [← hs, if_neg (by omega), hwm, if_neg (by omega), hta, hws, hw3, redc F one s _ hp]
  simp only [Option.bind_some]
  congr 2
  unfold held
  have h1 : (a % m * s) % m = (a * (4294967296 * 4294967296)) % m := by
    rw [Nat.mul_mod, Nat.mod_mod, hs, Nat.mod_mod, ← Nat.mul_mod 4294967296, ← Nat.mul_mod]
  rw [Nat.mul_mod, h1, ← Nat.mul_mod]
  have h2 : a * (4294967296 * 4294967296) * H m = a * 4294967296 * (4294967296 * H m) := by grind
  rw [h2, RH F.odd F.ge]
theorem make_form {a0 : Nat} (h : a0 % 2 = 1) (h3 : 3 ≤ a0) (hl : a0 < 2147483648) :
    ∃ n : Nat, Form a0 n ∧ mont_Make.f a0 = some ((a0 : Int), (n : Int), ((4294967296 % a0 : Nat) : Int), ((4294967296 % a0 * (4294967296 % a0) % a0 : Nat) : Int), 0) := by
  have hd := neg_dvd (a0 : Int) (by omega)
  obtain ⟨n, hn⟩ := Int.eq_ofNat_of_zero_le (show 0 ≤ (-(invs (a0 : Int) 5)) % 4294967296 by omega)
  have hn2 : n < 4294967296 := by omega
  rw [hn] at hd
  refine ⟨n, ⟨h, h3, hl, hn2, ?_⟩, ?_⟩
  · have : ((4294967296 : Nat) : Int) ∣ ((n * a0 + 1 : Nat) : Int) := hd
    exact Int.natCast_dvd_natCast.1 this
  · unfold mont_Make.f
    rw [if_pos (by omega), if_neg (by omega), hn]
    rfl
theorem make_bad {a0 : Nat} (hr : a0 < 4294967296) (h : a0 % 2 = 0 ∨ a0 < 3 ∨ 2147483648 ≤ a0) : mont_Make.f a0 = some (0, 0, 0, 0, 1) := by
  unfold mont_Make.f
  rw [if_pos (by omega), if_pos (by omega)]
theorem shown_true : tallysticklaw03_shown.f = some true := by decide +kernel
/-- One is what is held for 1. -/
theorem one_held (m : Nat) : 4294967296 % m = held m 1 := by unfold held; rw [Nat.one_mul]
end Go.Proofs.Ytjejkkjoplphfaa.Hand
