/- Fermat's theorem, in plain numbers, and that the three numbers are primes. -/
namespace Go.Proofs.Ytjejkkjoplphfaa.Fermat
def ch : Nat → Nat → Nat
  | _, 0 => 1
  | 0, _ + 1 => 0
  | n + 1, k + 1 => ch n k + ch n (k + 1)
theorem ch_zero (n : Nat) : ch n 0 = 1 := by cases n <;> rfl
theorem ch_above : ∀ (n k : Nat), n < k → ch n k = 0
  | 0, k + 1, _ => rfl
  | n + 1, k + 1, h => by rw [ch, ch_above n k (by omega), ch_above n (k + 1) (by omega)]
theorem ch_self : ∀ n : Nat, ch n n = 1
  | 0 => rfl
  | n + 1 => by rw [ch, ch_self n, ch_above n (n + 1) (by omega)]
theorem ch_mul : ∀ (n k : Nat), (k + 1) * ch (n + 1) (k + 1) = (n + 1) * ch n k
  | 0, 0 => rfl
  | 0, k + 1 => by rw [ch_above 0 (k + 1) (by omega), ch_above (0 + 1) (k + 1 + 1) (by omega)]; simp
  | n + 1, 0 => by
    have := ch_mul n 0
    rw [ch_zero] at this ⊢
    rw [show ch (n + 1 + 1) (0 + 1) = ch (n + 1) 0 + ch (n + 1) (0 + 1) from rfl, ch_zero]
    omega
  | n + 1, k + 1 => by
    have h1 := ch_mul n k
    have h2 := ch_mul n (k + 1)
    rw [show ch (n + 1 + 1) (k + 1 + 1) = ch (n + 1) (k + 1) + ch (n + 1) (k + 1 + 1) from rfl]
    have h3 : ch (n + 1) (k + 1) = ch n k + ch n (k + 1) := rfl
    generalize ch (n + 1) (k + 1 + 1) = z at *
    generalize ch n k = u at *
    generalize ch n (k + 1) = v at *
    rw [h3] at h1 ⊢
    grind
/-- The sum of a binomial's first terms. -/
def bs (n a : Nat) : Nat → Nat
  | 0 => ch n 0
  | m + 1 => bs n a m + ch n (m + 1) * a ^ (m + 1)
theorem bs_succ (n a : Nat) : ∀ m, bs (n + 1) a (m + 1) = bs n a (m + 1) + a * bs n a m
  | 0 => by
    simp only [bs, ch_zero]
    rw [show ch (n + 1) (0 + 1) = ch n 0 + ch n (0 + 1) from rfl, ch_zero]
    grind
  | m + 1 => by
    have ih := bs_succ n a m
    rw [bs, ih, show ch (n + 1) (m + 1 + 1) = ch n (m + 1) + ch n (m + 1 + 1) from rfl]
    rw [show bs n a (m + 1 + 1) = bs n a (m + 1) + ch n (m + 1 + 1) * a ^ (m + 1 + 1) from rfl, show bs n a (m + 1) = bs n a m + ch n (m + 1) * a ^ (m + 1) from rfl]
    grind
theorem bs_pow (a : Nat) : ∀ (n m : Nat), n ≤ m → bs n a m = (a + 1) ^ n
  | 0, 0, _ => rfl
  | 0, m + 1, _ => by rw [bs, bs_pow a 0 m (by omega), ch_above 0 (m + 1) (by omega)]; simp
  | n + 1, m + 1, h => by
    rw [bs_succ, bs_pow a n (m + 1) (by omega), bs_pow a n m (by omega), Nat.pow_succ]
    grind
/-- Below p all numbers have no divisor in common with it. -/
def Prime (p : Nat) : Prop := 1 < p ∧ ∀ k, 0 < k → k < p → Nat.Coprime p k
theorem ch_dvd {p : Nat} (hp : Prime p) {k : Nat} (h0 : 0 < k) (h1 : k < p) : p ∣ ch p k := by
  obtain ⟨k, rfl⟩ : ∃ j, k = j + 1 := ⟨k - 1, by omega⟩
  obtain ⟨q, hq⟩ : ∃ j, p = j + 1 := ⟨p - 1, by omega⟩
  have h2 := ch_mul q k
  rw [← hq] at h2
  exact (hp.2 (k + 1) h0 h1).dvd_of_dvd_mul_left (h2 ▸ Nat.dvd_mul_right p _)
theorem bs_mod {p : Nat} (hp : Prime p) (a : Nat) : ∀ m, m < p → bs p a m % p = 1 % p
  | 0, _ => by rw [bs, ch_zero]
  | m + 1, h => by
    obtain ⟨c, hc⟩ := ch_dvd hp (k := m + 1) (by omega) h
    rw [bs, hc, Nat.mul_assoc, Nat.add_mul_mod_self_left, bs_mod hp a m (by omega)]
theorem dream {p : Nat} (hp : Prime p) (a : Nat) : (a + 1) ^ p % p = (a ^ p + 1) % p := by
  obtain ⟨q, hq⟩ : ∃ j, p = j + 1 := ⟨p - 1, by have := hp.1; omega⟩
  have h1 := bs_pow a p p (Nat.le_refl _)
  have h2 : bs p a p = bs p a q + ch p p * a ^ p := by
    have : bs p a (q + 1) = bs p a q + ch p (q + 1) * a ^ (q + 1) := rfl
    rwa [← hq] at this
  rw [← h1, h2, ch_self, Nat.one_mul, Nat.add_mod, bs_mod hp a q (by omega), ← Nat.add_mod, Nat.add_comm]
theorem pow_self {p : Nat} (hp : Prime p) : ∀ a : Nat, a ^ p % p = a % p
  | 0 => by rw [Nat.zero_pow (by have := hp.1; omega)]
  | a + 1 => by rw [dream hp, Nat.add_mod, pow_self hp a, ← Nat.add_mod]
theorem fermat {p : Nat} (hp : Prime p) {a : Nat} (h : a % p ≠ 0) : a ^ (p - 1) % p = 1 := by
  have hp1 := hp.1
  have hco : Nat.Coprime p a := by
    have := hp.2 (a % p) (by omega) (Nat.mod_lt _ (by omega))
    have h2 : Nat.gcd p a = Nat.gcd p (a % p) := by rw [Nat.gcd_comm p a, Nat.gcd_comm p (a % p), ← Nat.gcd_rec, Nat.gcd_comm]
    rw [Nat.coprime_iff_gcd_eq_one] at *
    rw [h2]; exact this
  have h1 := pow_self hp a
  have ha0 : 0 < a := by
    rcases Nat.eq_zero_or_pos a with h0 | h0
    · subst h0; simp at h
    · exact h0
  have hpos : 0 < a ^ (p - 1) := Nat.pow_pos ha0
  have h2 : p ∣ a * (a ^ (p - 1) - 1) := by
    have e : a ^ p = a * a ^ (p - 1) := by
      obtain ⟨q, rfl⟩ : ∃ j, p = j + 1 := ⟨p - 1, by omega⟩
      rw [Nat.pow_succ, Nat.mul_comm]; rfl
    rw [Nat.mul_sub, Nat.mul_one, ← e]
    exact Nat.dvd_of_mod_eq_zero (Nat.sub_mod_eq_zero_of_mod_eq h1)
  obtain ⟨c, hc⟩ := hco.dvd_of_dvd_mul_left h2
  have h3 : a ^ (p - 1) = 1 + p * c := by omega
  rw [h3, Nat.add_mul_mod_self_left, Nat.mod_eq_of_lt hp1]

/-- None of the 2^k numbers from lo on divides p. -/
def chk (p : Nat) : Nat → Nat → Bool
  | 0, lo => p % lo != 0
  | k + 1, lo => chk p k lo && chk p k (lo + 2 ^ k)
theorem chk_spec (p : Nat) : ∀ (k lo d : Nat), chk p k lo = true → lo ≤ d → d < lo + 2 ^ k → p % d ≠ 0
  | 0, lo, d, h, h1, h2 => by
    obtain rfl : d = lo := by simp at h2; omega
    simpa [chk] using h
  | k + 1, lo, d, h, h1, h2 => by
    rw [chk, Bool.and_eq_true] at h
    rw [Nat.pow_succ] at h2
    rcases Nat.lt_or_ge d (lo + 2 ^ k) with h3 | h3
    · exact chk_spec p k lo d h.1 h1 h3
    · exact chk_spec p k (lo + 2 ^ k) d h.2 h3 (by omega)
theorem prime_of {p : Nat} (h1 : 1 < p) (hl : p < 32770 * 32770) (h : chk p 15 2 = true) : Prime p := by
  refine ⟨h1, fun k h0 hk => ?_⟩
  rw [Nat.coprime_iff_gcd_eq_one]
  have no : ∀ d, 2 ≤ d → d < 32770 → d ∣ p → False := fun d a b c => chk_spec p 15 2 d h a b (Nat.mod_eq_zero_of_dvd c)
  obtain ⟨g, hg⟩ : ∃ g, g = Nat.gcd p k := ⟨_, rfl⟩
  have hgp : g ∣ p := hg ▸ Nat.gcd_dvd_left p k
  have hgk : g ∣ k := hg ▸ Nat.gcd_dvd_right p k
  have hgl : g ≤ k := Nat.le_of_dvd h0 hgk
  have hg0 : 0 < g := Nat.pos_of_dvd_of_pos hgk h0
  rw [← hg]
  obtain ⟨c, hc⟩ := hgp
  rcases Nat.lt_or_ge g 2 with h2 | h2
  · omega
  · exfalso
    rcases Nat.lt_or_ge g 32770 with h3 | h3
    · exact no g h2 h3 ⟨c, hc⟩
    · rcases Nat.lt_or_ge c 32770 with h4 | h4
      · refine no c ?_ h4 ⟨g, by rw [hc, Nat.mul_comm]⟩
        rcases Nat.lt_or_ge c 2 with h5 | h5
        · rcases (show c = 0 ∨ c = 1 by omega) with rfl | rfl
          · omega
          · omega
        · exact h5
      · have := Nat.mul_le_mul h3 h4
        omega
theorem primeA : Prime 998244353 := prime_of (by decide) (by decide) (by decide +kernel)
theorem primeB : Prime 167772161 := prime_of (by decide) (by decide) (by decide +kernel)
theorem primeC : Prime 469762049 := prime_of (by decide) (by decide) (by decide +kernel)
end Go.Proofs.Ytjejkkjoplphfaa.Fermat
