/- MontForms: which numbers have a form, and which one, is as the reference says: for every number of 32 bits. -/
import Derived.Test.YtjejkkjoplphfaaHMontA
import Derived.Test.YtjejkkjoplphfaaPa3
import Derived.OpenShut
namespace Go.Proofs.Ytjejkkjoplphfaa.Pure
open Go.RowKit Go.Proofs.Ytjejkkjoplphfaa.Pa Go.Proofs.YtjejkkjoplphfaaW.PrintWords Go.Proofs.YtjejkkjoplphfaaW.PrintLast Go.Proofs.Ytjejkkjoplphfaa.Hand

theorem turn_spec (m a b : Nat) (hm : 0 < m) (hl : m < 2147483648) : tallystickref03_Turn.f m a b = some ((a % m * (b % m) % m : Nat) : Int) := by
  have hwm : IntKind.u64.wrap (m : Int) = (m : Int) := u64_nat m (by omega)
  have h1 : Int.tmod (a : Int) (m : Int) = ((a % m : Nat) : Int) := by rw [Int.tmod_eq_emod_of_nonneg (by omega)]; rfl
  have h2 : Int.tmod (b : Int) (m : Int) = ((b % m : Nat) : Int) := by rw [Int.tmod_eq_emod_of_nonneg (by omega)]; rfl
  have ha : a % m < m := Nat.mod_lt _ hm
  have hb : b % m < m := Nat.mod_lt _ hm
  have hp : a % m * (b % m) < 18446744073709551616 := Nat.lt_of_le_of_lt (Nat.mul_le_mul (Nat.le_of_lt ha) (Nat.le_of_lt hb)) (Nat.lt_of_le_of_lt (Nat.mul_le_mul (Nat.le_of_lt hl) (Nat.le_of_lt hl)) (by decide))
  have h3 : IntKind.u64.wrap (((a % m : Nat) : Int) * ((b % m : Nat) : Int)) = ((a % m * (b % m) : Nat) : Int) := u64_nat _ hp
  have h4 : Int.tmod ((a % m * (b % m) : Nat) : Int) (m : Int) = ((a % m * (b % m) % m : Nat) : Int) := by rw [Int.tmod_eq_emod_of_nonneg (by omega)]; rfl
  unfold tallystickref03_Turn.f
  rw [hwm, if_neg (by omega), h1, h2, h3, h4]

theorem ref_l0 {m : Nat} (hm : m % 2 = 1) (h3 : 3 ≤ m) (hl : m < 2147483648) (d : Nat) : ∀ (k i neg : Nat), i + d = 32 → d < k → neg < 2 ^ i → 2 ^ i ∣ neg * m + 1 →
    ∃ n : Nat, n < 4294967296 ∧ 4294967296 ∣ n * m + 1 ∧
      tallystickref03_Make.l0 k m neg ((2 ^ i : Nat) : Int) i = some ((m : Int), (n : Int), ((4294967296 % m : Nat) : Int), ((4294967296 % m * (4294967296 % m) % m : Nat) : Int), 0) := by
  have hwm : IntKind.u64.wrap (m : Int) = (m : Int) := u64_nat m (by omega)
  induction d with
  | zero =>
    intro k i neg hi hk hn hd
    obtain ⟨k, rfl⟩ : ∃ j, k = j + 1 := ⟨k - 1, by omega⟩
    obtain rfl : i = 32 := by omega
    refine ⟨neg, hn, hd, ?_⟩
    have h1 : 4294967296 % m < m := Nat.mod_lt _ (by omega)
    have h2 : 4294967296 % m * (4294967296 % m) % m < m := Nat.mod_lt _ (by omega)
    have h4 : ((neg : Nat) : Int) % 4294967296 = (neg : Int) := by omega
    have h5 : (4294967296 : Int) % (m : Int) = ((4294967296 % m : Nat) : Int) := rfl
    have h6 : ((4294967296 % m : Nat) : Int) % 4294967296 = ((4294967296 % m : Nat) : Int) := Int.emod_eq_of_lt (by omega) (by omega)
    have h7 : ((4294967296 % m * (4294967296 % m) % m : Nat) : Int) % 4294967296 = ((4294967296 % m * (4294967296 % m) % m : Nat) : Int) := Int.emod_eq_of_lt (by omega) (by omega)
    rw [tallystickref03_Make.l0, if_neg (by omega), hwm, if_neg (by omega), h5, turn_spec m _ _ (by omega) hl, Option.bind_some, h4, h6, Nat.mod_mod, h7]
  | succ d ih =>
    intro k i neg hi hk hn hd
    obtain ⟨k, rfl⟩ : ∃ j, k = j + 1 := ⟨k - 1, by omega⟩
    have hi32 : (i : Int) < 32 := by omega
    have hp : 2 ^ i ≤ 2147483648 := Nat.le_trans (Nat.pow_le_pow_right (by omega) (show i ≤ 31 by omega)) (by decide)
    have hp0 : 0 < 2 ^ i := Nat.two_pow_pos i
    have ih' := ih k (i + 1)
    rw [Nat.pow_succ] at ih'
    have w6 : wrap64 ((i : Int) + 1) = ((i + 1 : Nat) : Int) := by unfold wrap64; omega
    rw [tallystickref03_Make.l0, if_pos hi32, w6]
    generalize 2 ^ i = p at *
    have hne : ¬ ((p : Nat) : Int) = 0 := by omega
    obtain ⟨q, hq⟩ := hd
    have hnm : neg * m < 18446744073709551616 := Nat.lt_of_le_of_lt (Nat.mul_le_mul (Nat.le_of_lt (Nat.lt_of_lt_of_le hn hp)) (Nat.le_of_lt hl)) (by decide)
    have w1 : IntKind.u64.wrap ((neg : Int) * (m : Int)) = ((neg * m : Nat) : Int) := u64_nat _ hnm
    have hq0 : 0 < q := by
      rcases Nat.eq_zero_or_pos q with h | h
      · rw [h] at hq; omega
      · exact h
    have hdv : neg * m / p = q - 1 := by
      have : neg * m = (p - 1) + p * (q - 1) := by
        have : p * q = p * (q - 1) + p := by
          obtain ⟨z, rfl⟩ : ∃ z, q = z + 1 := ⟨q - 1, by omega⟩
          simp [Nat.mul_add]
        omega
      rw [this, Nat.add_mul_div_left _ _ hp0, Nat.div_eq_of_lt (by omega)]; omega
    have w2 : Int.tdiv ((neg * m : Nat) : Int) ((p : Nat) : Int) = ((q - 1 : Nat) : Int) := by
      rw [Int.tdiv_eq_ediv_of_nonneg (by omega), ← hdv]; rfl
    have hql : q - 1 < 18446744073709551616 := by rw [← hdv]; exact Nat.lt_of_le_of_lt (Nat.div_le_self _ _) hnm
    have w3 : IntKind.u64.wrap ((q - 1 : Nat) : Int) = ((q - 1 : Nat) : Int) := u64_nat _ hql
    have w4 : Int.tmod ((q - 1 : Nat) : Int) 2 = (((q - 1) % 2 : Nat) : Int) := by rw [Int.tmod_eq_emod_of_nonneg (by omega)]; rfl
    have w5 : IntKind.u64.wrap (((p : Nat) : Int) + ((p : Nat) : Int)) = ((p * 2 : Nat) : Int) := by
      have := u64_nat (p + p) (by omega)
      rw [Nat.mul_two]; exact this
    rw [if_neg hne, hwm, w1, w2, w3, w4, w5]
    by_cases hc : (q - 1) % 2 = 0
    · have w7 : IntKind.u64.wrap ((neg : Int) + ((p : Nat) : Int)) = ((neg + p : Nat) : Int) := u64_nat _ (by omega)
      have hc' : (((q - 1) % 2 : Nat) : Int) = 0 := by omega
      rw [if_pos hc', w7]
      refine ih' (neg + p) (by omega) (by omega) (by omega) ?_
      obtain ⟨z, hz⟩ : ∃ z, q + m = 2 * z := ⟨(q + m) / 2, by omega⟩
      refine ⟨z, ?_⟩
      rw [Nat.add_mul]
      have h1 : neg * m + p * m + 1 = p * (q + m) := by rw [Nat.mul_add, ← hq]; omega
      rw [h1, hz, Nat.mul_assoc]
    · have hc' : ¬ (((q - 1) % 2 : Nat) : Int) = 0 := by omega
      rw [if_neg hc']
      refine ih' neg (by omega) (by omega) (by omega) ?_
      obtain ⟨z, hz⟩ : ∃ z, q = 2 * z := ⟨q / 2, by omega⟩
      refine ⟨z, ?_⟩
      rw [hq, hz, Nat.mul_assoc]

theorem neg_unique {m a b : Nat} (hm : m % 2 = 1) (ha : a < 4294967296) (hb : b < 4294967296) (h : 4294967296 ∣ a * m + 1) (h' : 4294967296 ∣ b * m + 1) : a = b := by
  have key : ∀ x y : Nat, x ≤ y → x < 4294967296 → y < 4294967296 → 4294967296 ∣ x * m + 1 → 4294967296 ∣ y * m + 1 → x = y := by
    intro x y hxy hx hy h1 h2
    have h3 : 4294967296 ∣ (y - x) * m := by
      have := Nat.dvd_sub h2 h1
      rw [Nat.sub_mul]
      have e : y * m + 1 - (x * m + 1) = y * m - x * m := by omega
      rwa [e] at this
    have hco : Nat.Coprime 4294967296 m := by
      have h2 : Nat.Coprime 2 m := by rw [Nat.coprime_iff_gcd_eq_one, Nat.gcd_rec, hm]; rfl
      exact Nat.Coprime.pow_left 32 h2
    have h4 := hco.dvd_of_dvd_mul_right h3
    have := Nat.eq_zero_of_dvd_of_lt h4 (by omega)
    omega
  rcases Nat.le_total a b with hab | hab
  · exact key a b hab ha hb h h'
  · exact (key b a hab hb ha h' h).symm

theorem MontForms : tallysticklaw03_MontForms.Pure := by
  intro a0 hw
  have hb := bounds_u32 hw
  obtain ⟨m, rfl⟩ := Int.eq_ofNat_of_zero_le hb.1
  have ht2 : Int.tmod (m : Int) 2 = ((m % 2 : Nat) : Int) := by rw [Int.tmod_eq_emod_of_nonneg (by omega)]; rfl
  by_cases h : m % 2 = 0 ∨ m < 3 ∨ 2147483648 ≤ m
  · refine ⟨0, ?_⟩
    have hmay : tallystickref03_May.f (m : Int) = some false := by
      unfold tallystickref03_May.f
      rw [ht2]
      by_cases h1 : ((m % 2 : Nat) : Int) = 1
      · rw [if_pos h1]
        by_cases h2 : (m : Int) ≥ 3
        · rw [if_pos h2, decide_eq_false (by omega)]
        · rw [if_neg h2]
      · rw [if_neg h1]
    unfold tallysticklaw03_MontForms.f
    rw [shown_true, Option.bind_some, make_bad (by omega) h, Option.bind_some]
    unfold tallystickref03_Make.f
    rw [hmay, Option.bind_some, if_neg (by simp), Option.bind_some, if_pos rfl]
    rfl
  · obtain ⟨n, F, e⟩ := make_form (a0 := m) (by omega) (by omega) (by omega)
    obtain ⟨n', hn, hd, e'⟩ := ref_l0 F.odd F.ge F.lt 32 33 0 0 rfl (by omega) (by simp) (by simp)
    obtain rfl : n = n' := neg_unique F.odd F.nlt hn F.dvd hd
    have hge := F.ge
    have hlt := F.lt
    have hodd := F.odd
    have hmay : tallystickref03_May.f (m : Int) = some true := by
      unfold tallystickref03_May.f
      rw [ht2, if_pos (by omega), if_pos (by omega), decide_eq_true (by omega)]
    have e'' : tallystickref03_Make.l0 33 (m : Int) 0 1 0 = some ((m : Int), (n : Int), ((4294967296 % m : Nat) : Int), ((4294967296 % m * (4294967296 % m) % m : Nat) : Int), 0) := e'
    refine ⟨33, ?_⟩
    unfold tallysticklaw03_MontForms.f
    rw [shown_true, Option.bind_some, e, Option.bind_some]
    unfold tallystickref03_Make.f
    rw [hmay, Option.bind_some, if_pos rfl, e'', Option.bind_some, if_pos rfl]
    simp only [beq_self_eq_true, Bool.and_self, if_true]
end Go.Proofs.Ytjejkkjoplphfaa.Pure
