/- MontFermat: modulo the three primes a number to the prime less 1 is One, unless it is 0; what was divided by 2^32 and multiplied by it is as it was: for every two words. -/
import Derived.Test.YtjejkkjoplphfaaHMontB
import Derived.Test.YtjejkkjoplphfaaHFermat
import Derived.Test.YtjejkkjoplphfaaPa9
import Derived.OpenShut
namespace Go.Proofs.Ytjejkkjoplphfaa.Pure
open Go.RowKit Go.Proofs.Ytjejkkjoplphfaa.Pa Go.Proofs.YtjejkkjoplphfaaW.PrintWords Go.Proofs.YtjejkkjoplphfaaW.PrintLast Go.Proofs.Ytjejkkjoplphfaa.Hand Go.Proofs.Ytjejkkjoplphfaa.Fermat

theorem fermat_j1 (p : Nat) (hp : Prime p) (hodd : p % 2 = 1) (h3 : 3 ≤ p) (hl : p < 2147483648) (a : Nat) (ha : a < 18446744073709551616) (k : Nat) (hk : 65 < k) :
    tallysticklaw03_MontFermat.j1 k a true p = some true := by
  obtain ⟨k, rfl⟩ : ∃ j, k = j + 1 := ⟨k - 1, by omega⟩
  obtain ⟨n, F, e⟩ := make_form hodd h3 hl
  have hwm : IntKind.u64.wrap (p : Int) = (p : Int) := u64_nat p (by omega)
  have hw1 : IntKind.u64.wrap ((p : Int) - 1) = ((p - 1 : Nat) : Int) := by
    have e1 : (p : Int) - 1 = ((p - 1 : Nat) : Int) := by omega
    rw [e1, u64_nat _ (by omega)]
  have hc := held_lt h3 a
  have ho : a % p < p := Nat.mod_lt _ (by omega)
  have hs : 4294967296 % p * (4294967296 % p) % p < p := Nat.mod_lt _ (by omega)
  have hback : a % p * (4294967296 % p * (4294967296 % p) % p) * H p % p = held p a := by
    unfold held
    have h1 : (a % p * (4294967296 % p * (4294967296 % p) % p)) % p = (a * (4294967296 * 4294967296)) % p := by
      rw [Nat.mul_mod, Nat.mod_mod, Nat.mod_mod, ← Nat.mul_mod 4294967296, ← Nat.mul_mod]
    rw [Nat.mul_mod, h1, ← Nat.mul_mod]
    have h2 : a * (4294967296 * 4294967296) * H p = a * 4294967296 * (4294967296 * H p) := by grind
    rw [h2, RH hodd h3]
  have hout : held p a * H p % p = a % p := out_held hodd h3 a
  rw [tallysticklaw03_MontFermat.j1, e, Option.bind_some, in_spec F _ a ha, Option.bind_some, hwm, hw1, one_held, pow_held F _ k a (p - 1) (by omega) (by omega), Option.bind_some, out_spec F _ _ _ hc, Option.bind_some, hout]
  rw [one_held] at hback hs
  rw [mul_spec F _ _ _ _ ho hs, Option.bind_some, hback, if_pos rfl, if_pos rfl]
  by_cases h0 : ((held p a : Nat) : Int) = 0
  · have hz : a % p = 0 := by rw [← hout]; have : held p a = 0 := by omega
                              rw [this, Nat.zero_mul, Nat.zero_mod]
    have hpw : ((held p (a ^ (p - 1)) : Nat) : Int) = 0 := by
      have : a ^ (p - 1) % p = 0 % p := by rw [Nat.pow_mod, hz, Nat.zero_pow (by omega)]
      rw [held_cong this]
      unfold held; rw [Nat.zero_mul, Nat.zero_mod]; rfl
    rw [if_pos h0, if_pos hpw]
    simp only [beq_self_eq_true]
  · have hnz : a % p ≠ 0 := by
      intro hz
      apply h0
      have : a % p = 0 % p := by rw [hz, Nat.zero_mod]
      rw [held_cong this]
      unfold held; rw [Nat.zero_mul, Nat.zero_mod]; rfl
    have hpw : ((held p (a ^ (p - 1)) : Nat) : Int) = ((held p 1 : Nat) : Int) := by
      have : a ^ (p - 1) % p = 1 % p := by rw [fermat hp hnz, Nat.mod_eq_of_lt (by omega)]
      rw [held_cong this]
    rw [if_neg h0, if_pos hpw]
    simp only [beq_self_eq_true]

theorem MontFermat : tallysticklaw03_MontFermat.Pure := by
  intro a0 a1 hw0 hw1
  have hb1 := bounds_u64 hw1
  obtain ⟨a, rfl⟩ := Int.eq_ofNat_of_zero_le hb1.1
  refine ⟨100, ?_⟩
  unfold tallysticklaw03_MontFermat.f
  rw [shown_true, Option.bind_some]
  have hA := fermat_j1 998244353 primeA (by decide) (by decide) (by decide) a (by omega) 99 (by decide)
  have hB := fermat_j1 167772161 primeB (by decide) (by decide) (by decide) a (by omega) 99 (by decide)
  have hC := fermat_j1 469762049 primeC (by decide) (by decide) (by decide) a (by omega) 99 (by decide)
  by_cases h1 : a0 = 1
  · rw [if_pos h1, tallysticklaw03_MontFermat.j0, if_neg (by omega)]
    exact hB
  · rw [if_neg h1, tallysticklaw03_MontFermat.j0]
    by_cases h2 : a0 = 2
    · rw [if_pos h2]; exact hC
    · rw [if_neg h2]; exact hA
end Go.Proofs.Ytjejkkjoplphfaa.Pure
