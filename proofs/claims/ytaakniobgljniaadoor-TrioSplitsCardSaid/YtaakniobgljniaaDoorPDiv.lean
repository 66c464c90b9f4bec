/- A long division's one figure (Knuth's), in plain numbers: the guess is never too small, and is put right by at most two steps. -/
import Derived.Test.YtaakniobgljniaaDoorHNum
namespace Go.Proofs.YtaakniobgljniaaDoor.Pure
open Go.Proofs.YtaakniobgljniaaDoor.Num

/-- 2^32, under a name. -/
def B : Nat := 4294967296
theorem B_eq : B = 4294967296 := rfl
theorem B_pos : 0 < B := by decide
/-- How a guess stands: q times the divisor's upper half, and r, is what is divided by it; q is not too small. -/
structure Kn (y1 y0 u d q r : Nat) : Prop where
  e : q * y1 + r = u
  ge : (u * B + d) / (y1 * B + y0) ≤ q
theorem kn_cmp {y1 y0 u d q r : Nat} (e : q * y1 + r = u) : B * r + d < q * y0 ↔ u * B + d < q * (y1 * B + y0) := by
  have h1 : u * B = q * y1 * B + B * r := by rw [← e, Nat.add_mul, Nat.mul_comm r]
  rw [Nat.mul_add, ← Nat.mul_assoc, h1]
  omega
theorem kn_stop {y1 y0 u d q r : Nat} (h : Kn y1 y0 u d q r) (hy : 0 < y1) (hc : ¬ B * r + d < q * y0) : q = (u * B + d) / (y1 * B + y0) := by
  rw [kn_cmp h.e] at hc
  have hp : 0 < y1 * B + y0 := Nat.lt_of_lt_of_le (Nat.mul_pos hy B_pos) (Nat.le_add_right _ _)
  exact Nat.le_antisymm ((Nat.le_div_iff_mul_le hp).2 (by omega)) h.ge
theorem kn_lt {y1 y0 u d : Nat} (hu : u < y1 * B + y0) (hd : d < B) : (u * B + d) / (y1 * B + y0) < B := by
  refine Nat.div_lt_of_lt_mul ?_
  have h1 : (u + 1) * B ≤ (y1 * B + y0) * B := Nat.mul_le_mul_right B hu
  rw [Nat.add_mul, Nat.one_mul] at h1
  omega
theorem kn_go {y1 y0 u d q r : Nat} (h : Kn y1 y0 u d q r) (hu : u < y1 * B + y0) (hd : d < B) (hc : B ≤ q ∨ B * r + d < q * y0) : 0 < q ∧ Kn y1 y0 u d (q - 1) (r + y1) := by
  have hlt : (u * B + d) / (y1 * B + y0) < q := by
    rcases hc with hc | hc
    · exact Nat.lt_of_lt_of_le (kn_lt hu hd) hc
    · rw [kn_cmp h.e] at hc
      exact (Nat.div_lt_iff_lt_mul (Nat.pos_of_ne_zero fun h0 => by rw [h0, Nat.mul_zero] at hc; omega)).2 hc
  have hq : 0 < q := Nat.lt_of_le_of_lt (Nat.zero_le _) hlt
  refine ⟨hq, ?_, Nat.le_sub_one_of_lt hlt⟩
  obtain ⟨p, rfl⟩ : ∃ p, q = p + 1 := ⟨q - 1, by omega⟩
  have he := h.e
  rw [Nat.add_mul, Nat.one_mul] at he
  rw [Nat.add_sub_cancel]
  omega
theorem kn_break {y1 y0 u d q r : Nat} (h : Kn y1 y0 u d q r) (hy : 0 < y1) (h0 : y0 < B) (hq : q ≤ B) (hr : B ≤ r) : q = (u * B + d) / (y1 * B + y0) := by
  refine kn_stop h hy ?_
  have h1 : q * y0 ≤ B * B := Nat.mul_le_mul hq (Nat.le_of_lt h0)
  have h2 : B * B ≤ B * r := Nat.mul_le_mul_left B hr
  omega
theorem kn_first {y1 y0 u d : Nat} (hy : 2147483648 ≤ y1) (h0 : y0 < B) (hu : u < y1 * B + y0) (hd : d < B) : Kn y1 y0 u d (u / y1) (u % y1) ∧ u / y1 ≤ B + 1 := by
  have hp : 0 < y1 := by omega
  refine ⟨⟨by rw [Nat.mul_comm]; exact Nat.div_add_mod u y1, ?_⟩, ?_⟩
  · have h1 : (u * B + d) / (y1 * B + y0) ≤ (u * B + d) / (y1 * B) := Nat.div_le_div_left (Nat.le_add_right _ _) (Nat.mul_pos hp B_pos)
    have h2 : (u * B + d) / (y1 * B) = u / y1 := by
      rw [Nat.mul_comm y1, ← Nat.div_div_eq_div_mul, Nat.add_comm, Nat.add_mul_div_right _ _ B_pos, Nat.div_eq_of_lt hd, Nat.zero_add]
    omega
  · have h3 : u < y1 * (B + 2) := by
      rw [Nat.mul_add]
      have := B_eq
      omega
    have := Nat.div_lt_of_lt_mul h3
    omega
/-- What is left behind a figure, modulo 2^64. -/
theorem kn_rest {N v q : Nat} (hv : 0 < v) (hq : q = N / v) (hb : v ≤ 18446744073709551616) : (N % 18446744073709551616 + 18446744073709551616 - q * v % 18446744073709551616) % 18446744073709551616 = N % v := by
  have h1 := Nat.div_add_mod N v
  have h2 := Nat.mod_lt N hv
  subst hq
  have h3 : N / v * v = v * (N / v) := Nat.mul_comm _ _
  rw [h3]
  generalize v * (N / v) = p at *
  generalize N % v = r at *
  omega
/-- Two figures are a quotient. -/
theorem kn_two {v u d1 d0 : Nat} (hv : 0 < v) : (u * B + d1) / v * B + ((u * B + d1) % v * B + d0) / v = ((u * B + d1) * B + d0) / v ∧ ((u * B + d1) % v * B + d0) % v = ((u * B + d1) * B + d0) % v := by
  generalize u * B + d1 = N
  have h1 := Nat.div_add_mod N v
  have e : N * B + d0 = N % v * B + d0 + v * (N / v * B) := by
    have h2 : N * B = v * (N / v) * B + N % v * B := by rw [← Nat.add_mul, h1]
    rw [h2, Nat.mul_assoc]
    omega
  rw [e, Nat.add_mul_div_left _ _ hv, Nat.add_mul_mod_self_left]
  exact ⟨Nat.add_comm _ _, rfl⟩
/-- Moved up both: the same quotient, the rest moved up. -/
theorem kn_moved {n y p : Nat} (hp : 0 < p) : n * p / (y * p) = n / y ∧ n * p % (y * p) / p = n % y := by
  refine ⟨Nat.mul_div_mul_right _ _ hp, ?_⟩
  rw [Nat.mul_mod_mul_right, Nat.mul_div_cancel _ hp]
end Go.Proofs.YtaakniobgljniaaDoor.Pure
