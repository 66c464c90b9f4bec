/- MontSums: a product of two that are held, taken out, is the product of what comes out; One comes out as 1: for every three numbers of 32 bits. -/
import Derived.Test.YtjejkkjoplphfaaHMontA
import Derived.Test.YtjejkkjoplphfaaPa6
import Derived.OpenShut
namespace Go.Proofs.Ytjejkkjoplphfaa.Pure
open Go.RowKit Go.Proofs.Ytjejkkjoplphfaa.Pa Go.Proofs.YtjejkkjoplphfaaW.PrintWords Go.Proofs.YtjejkkjoplphfaaW.PrintLast Go.Proofs.Ytjejkkjoplphfaa.Hand

theorem MontSums : tallysticklaw03_MontSums.Pure := by
  intro a0 a1 a2 hw hw1 hw2
  have hb := bounds_u32 hw
  have hb1 := bounds_u32 hw1
  have hb2 := bounds_u32 hw2
  obtain ⟨m, rfl⟩ := Int.eq_ofNat_of_zero_le hb.1
  obtain ⟨a, rfl⟩ := Int.eq_ofNat_of_zero_le hb1.1
  obtain ⟨b, rfl⟩ := Int.eq_ofNat_of_zero_le hb2.1
  refine ⟨1, ?_⟩
  unfold tallysticklaw03_MontSums.f
  rw [shown_true, Option.bind_some]
  by_cases h : m % 2 = 0 ∨ m < 3 ∨ 2147483648 ≤ m
  · rw [make_bad (by omega) h, Option.bind_some, if_neg (by decide), tallysticklaw03_MontSums.j0, if_pos rfl]
  · obtain ⟨n, F, e⟩ := make_form (a0 := m) (by omega) (by omega) (by omega)
    rw [e, Option.bind_some, if_pos rfl]
    by_cases h1 : (a : Int) ≥ (m : Int)
    · rw [if_pos h1, tallysticklaw03_MontSums.j0, if_pos rfl]
    · rw [if_neg h1, tallysticklaw03_MontSums.j0]
      by_cases h2 : (b : Int) ≥ (m : Int)
      · rw [if_pos (decide_eq_true h2)]
      · have hlt := F.lt
        have hge := F.ge
        have hwm : IntKind.u64.wrap (m : Int) = (m : Int) := u64_nat m (by omega)
        have hm0 : ¬ (m : Int) = 0 := by omega
        obtain ⟨x, hx⟩ : ∃ x, x = a * H m % m := ⟨_, rfl⟩
        obtain ⟨y, hy⟩ : ∃ y, y = b * H m % m := ⟨_, rfl⟩
        have hxl : x < m := by rw [hx]; exact Nat.mod_lt _ (by omega)
        have hyl : y < m := by rw [hy]; exact Nat.mod_lt _ (by omega)
        have ea : a = held m x := by rw [hx, held_out F.odd hge (by omega)]
        have eb : b = held m y := by rw [hy, held_out F.odd hge (by omega)]
        have hc := held_lt hge x
        have hd := held_lt hge y
        have hp := held_lt hge (x * y)
        have h1l := held_lt hge 1
        have wx : IntKind.u64.wrap (x : Int) = (x : Int) := u64_nat _ (by omega)
        have wy : IntKind.u64.wrap (y : Int) = (y : Int) := u64_nat _ (by omega)
        have hpl : x * y < 18446744073709551616 := Nat.lt_of_le_of_lt (Nat.mul_le_mul (Nat.le_of_lt hxl) (Nat.le_of_lt hyl)) (Nat.lt_of_le_of_lt (Nat.mul_le_mul (Nat.le_of_lt hlt) (Nat.le_of_lt hlt)) (by decide))
        have wp : IntKind.u64.wrap ((x : Int) * (y : Int)) = ((x * y : Nat) : Int) := u64_nat _ hpl
        have tp : Int.tmod ((x * y : Nat) : Int) (m : Int) = ((x * y % m : Nat) : Int) := by rw [Int.tmod_eq_emod_of_nonneg (by omega)]; rfl
        have hab : x * y % m < m := Nat.mod_lt _ (by omega)
        have wab : IntKind.u64.wrap ((x * y % m : Nat) : Int) = ((x * y % m : Nat) : Int) := u64_nat _ (by omega)
        have h11 : ((1 % m : Nat) : Int) = 1 := by rw [Nat.mod_eq_of_lt (by omega)]; rfl
        have e1 := in_spec F ((4294967296 % m : Nat) : Int) 1 (by omega)
        have hxm : held m x * H m % m = x := by rw [out_held F.odd hge, Nat.mod_eq_of_lt hxl]
        have hym : held m y * H m % m = y := by rw [out_held F.odd hge, Nat.mod_eq_of_lt hyl]
        have nh2 : ¬ decide ((b : Int) ≥ (m : Int)) = true := by simpa using h2
        rw [if_neg nh2]
        rw [ea, eb, out_spec F _ _ _ hc, Option.bind_some, out_spec F _ _ _ hd, Option.bind_some, hwm, if_neg hm0, if_pos rfl, mul_held F, Option.bind_some, out_spec F _ _ _ hp, Option.bind_some,
          out_held F.odd hge, hxm, hym, wx, wy, wp, tp, wab, if_pos rfl, one_held, out_spec F _ _ _ h1l, Option.bind_some, out_held F.odd hge, if_pos h11]
        rw [one_held] at e1
        have e1' : mont_In.f (m : Int) (n : Int) ((held m 1 : Nat) : Int) ((held m 1 * held m 1 % m : Nat) : Int) 1 = some ((held m 1 : Nat) : Int) := e1
        rw [e1', Option.bind_some]
        simp only [beq_self_eq_true]
end Go.Proofs.Ytjejkkjoplphfaa.Pure
