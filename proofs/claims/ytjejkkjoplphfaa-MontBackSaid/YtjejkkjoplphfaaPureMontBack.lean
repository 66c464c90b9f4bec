/- MontBack: what is taken in comes out as it was; all answers are below the number: for every number of 32 bits, every two words. -/
import Derived.Test.YtjejkkjoplphfaaHMontA
import Derived.Test.YtjejkkjoplphfaaPa5
import Derived.OpenShut
namespace Go.Proofs.Ytjejkkjoplphfaa.Pure
open Go.RowKit Go.Proofs.Ytjejkkjoplphfaa.Pa Go.Proofs.YtjejkkjoplphfaaW.PrintWords Go.Proofs.YtjejkkjoplphfaaW.PrintLast Go.Proofs.Ytjejkkjoplphfaa.Hand

theorem MontBack : tallysticklaw03_MontBack.Pure := by
  intro a0 a1 a2 hw hw1 hw2
  have hb := bounds_u32 hw
  have hb1 := bounds_u64 hw1
  have hb2 := bounds_u64 hw2
  obtain ⟨m, rfl⟩ := Int.eq_ofNat_of_zero_le hb.1
  obtain ⟨a, rfl⟩ := Int.eq_ofNat_of_zero_le hb1.1
  obtain ⟨b, rfl⟩ := Int.eq_ofNat_of_zero_le hb2.1
  unfold tallysticklaw03_MontBack.f
  rw [shown_true, Option.bind_some]
  by_cases h : m % 2 = 0 ∨ m < 3 ∨ 2147483648 ≤ m
  · have ht2 : Int.tmod (m : Int) 2 = ((m % 2 : Nat) : Int) := by rw [Int.tmod_eq_emod_of_nonneg (by omega)]; rfl
    rw [make_bad (by omega) h, Option.bind_some, if_neg (by decide), if_pos rfl, ht2]
    by_cases h1 : ((m % 2 : Nat) : Int) = 0
    · rw [if_pos h1]
    · rw [if_neg h1]
      by_cases h2 : (m : Int) < 3
      · rw [if_pos h2]
      · have h3 : (m : Int) ≥ 2147483648 := by omega
        rw [if_neg h2, decide_eq_true h3]
  · obtain ⟨n, F, e⟩ := make_form (a0 := m) (by omega) (by omega) (by omega)
    have hlt := F.lt
    have hge := F.ge
    have hc := held_lt hge a
    have hd := held_lt hge b
    have hp := held_lt hge (a * b)
    have hc' : ((held m a : Nat) : Int) < (m : Int) := by omega
    have hd' : ((held m b : Nat) : Int) < (m : Int) := by omega
    have hp' : ((held m (a * b) : Nat) : Int) < (m : Int) := by omega
    have hwm : IntKind.u64.wrap (m : Int) = (m : Int) := u64_nat m (by omega)
    have hm0 : ¬ (m : Int) = 0 := by omega
    have hal : a % m < m := Nat.mod_lt _ (by omega)
    have hbl : b % m < m := Nat.mod_lt _ (by omega)
    have ta : Int.tmod (a : Int) (m : Int) = ((a % m : Nat) : Int) := by rw [Int.tmod_eq_emod_of_nonneg (by omega)]; rfl
    have tb : Int.tmod (b : Int) (m : Int) = ((b % m : Nat) : Int) := by rw [Int.tmod_eq_emod_of_nonneg (by omega)]; rfl
    have wa : IntKind.u64.wrap ((a % m : Nat) : Int) = ((a % m : Nat) : Int) := u64_nat _ (by omega)
    have hpl : a % m * (b % m) < 18446744073709551616 := Nat.lt_of_le_of_lt (Nat.mul_le_mul (Nat.le_of_lt hal) (Nat.le_of_lt hbl)) (Nat.lt_of_le_of_lt (Nat.mul_le_mul (Nat.le_of_lt hlt) (Nat.le_of_lt hlt)) (by decide))
    have wp : IntKind.u64.wrap (((a % m : Nat) : Int) * ((b % m : Nat) : Int)) = ((a % m * (b % m) : Nat) : Int) := u64_nat _ hpl
    have tp : Int.tmod ((a % m * (b % m) : Nat) : Int) (m : Int) = ((a % m * (b % m) % m : Nat) : Int) := by rw [Int.tmod_eq_emod_of_nonneg (by omega)]; rfl
    have hab : a * b % m < m := Nat.mod_lt _ (by omega)
    have wab : IntKind.u64.wrap ((a * b % m : Nat) : Int) = ((a * b % m : Nat) : Int) := u64_nat _ (by omega)
    rw [e, Option.bind_some, if_pos rfl, in_spec F _ a (by omega), Option.bind_some, in_spec F _ b (by omega), Option.bind_some, mul_held F, Option.bind_some, if_pos rfl, if_pos hc', if_pos hd', if_pos hp',
      out_spec F _ _ _ hc, Option.bind_some, hwm, if_neg hm0, out_held F.odd hge, wa, ta, if_pos rfl, out_spec F _ _ _ hp, Option.bind_some, out_held F.odd hge, wab, tb, wp, tp, ← Nat.mul_mod]
    simp only [beq_self_eq_true]
end Go.Proofs.Ytjejkkjoplphfaa.Pure
