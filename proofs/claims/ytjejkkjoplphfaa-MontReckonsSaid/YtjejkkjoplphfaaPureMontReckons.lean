/- MontReckons: what is divided by 2^32, taken in, taken out, multiplied, and a power, is as the reference says: for every number of 32 bits, every words. -/
import Derived.Test.YtjejkkjoplphfaaHMontB
import Derived.Test.YtjejkkjoplphfaaPa8
import Derived.OpenShut
namespace Go.Proofs.Ytjejkkjoplphfaa.Pure
open Go.RowKit Go.Proofs.Ytjejkkjoplphfaa.Pa Go.Proofs.YtjejkkjoplphfaaW.PrintWords Go.Proofs.YtjejkkjoplphfaaW.PrintLast Go.Proofs.Ytjejkkjoplphfaa.Hand

theorem MontReckons (a0 a1 a2 a3 a4 : Int) (hw0 : (Lit.int .u32 a0).wf = true) (hw1 : (Lit.int .u64 a1).wf = true) (hw2 : (Lit.int .u32 a2).wf = true) (hw3 : (Lit.int .u64 a3).wf = true) (hw4 : (Lit.int .u64 a4).wf = true) :
    ∃ k, tallysticklaw03_MontReckons.f k a0 a1 a2 a3 a4 = some true := by
  have hb := bounds_u32 hw0
  have hb1 := bounds_u64 hw1
  have hb2 := bounds_u32 hw2
  have hb3 := bounds_u64 hw3
  have hb4 := bounds_u64 hw4
  obtain ⟨m, rfl⟩ := Int.eq_ofNat_of_zero_le hb.1
  obtain ⟨a, rfl⟩ := Int.eq_ofNat_of_zero_le hb1.1
  obtain ⟨b, rfl⟩ := Int.eq_ofNat_of_zero_le hb2.1
  obtain ⟨t, rfl⟩ := Int.eq_ofNat_of_zero_le hb3.1
  obtain ⟨N, rfl⟩ := Int.eq_ofNat_of_zero_le hb4.1
  refine ⟨100, ?_⟩
  unfold tallysticklaw03_MontReckons.f
  rw [shown_true, Option.bind_some]
  by_cases h : m % 2 = 0 ∨ m < 3 ∨ 2147483648 ≤ m
  · rw [make_bad (by omega) h, Option.bind_some, if_neg (by decide), tallysticklaw03_MontReckons.j0, if_pos rfl]
  · obtain ⟨n, F, e⟩ := make_form (a0 := m) (by omega) (by omega) (by omega)
    have hlt := F.lt
    have hge := F.ge
    have hodd := F.odd
    have hwm : IntKind.u64.wrap (m : Int) = (m : Int) := u64_nat m (by omega)
    rw [e, Option.bind_some, if_pos rfl]
    by_cases h1 : (b : Int) ≥ (m : Int)
    · rw [if_pos h1, tallysticklaw03_MontReckons.j0, if_pos rfl]
    · rw [if_neg h1, tallysticklaw03_MontReckons.j0, hwm]
      by_cases h2 : (t : Int) / 4294967296 ≥ (m : Int)
      · rw [if_pos (decide_eq_true h2)]
      · have nh2 : ¬ decide ((t : Int) / 4294967296 ≥ (m : Int)) = true := by simpa using h2
        have htl : t < m * 4294967296 := by omega
        obtain ⟨y, hy⟩ : ∃ y, y = b * H m % m := ⟨_, rfl⟩
        have eb : b = held m y := by rw [hy, held_out hodd hge (by omega)]
        have hyl : y < m := by rw [hy]; exact Nat.mod_lt _ (by omega)
        have hal := held_lt hge a
        have hbl := held_lt hge y
        have hpl := held_lt hge (y * a)
        have hNl := held_lt hge (y ^ N)
        have htm : t * H m % m < m := Nat.mod_lt _ (by omega)
        have hym : held m y * H m % m = y := by rw [out_held hodd hge, Nat.mod_eq_of_lt hyl]
        have wb : IntKind.u64.wrap ((held m y : Nat) : Int) = ((held m y : Nat) : Int) := u64_nat _ (by omega)
        have wy : IntKind.u64.wrap (y : Int) = (y : Int) := u64_nat _ (by omega)
        have wt : IntKind.u64.wrap ((t * H m % m : Nat) : Int) = ((t * H m % m : Nat) : Int) := u64_nat _ (by omega)
        have wa : IntKind.u64.wrap ((held m a : Nat) : Int) = ((held m a : Nat) : Int) := u64_nat _ (by omega)
        have wp : IntKind.u64.wrap ((held m (y * a) : Nat) : Int) = ((held m (y * a) : Nat) : Int) := u64_nat _ (by omega)
        have wN : IntKind.u64.wrap ((held m (y ^ N) : Nat) : Int) = ((held m (y ^ N) : Nat) : Int) := u64_nat _ (by omega)
        have ma : ((held m a : Nat) : Int) % 4294967296 = ((held m a : Nat) : Int) := Int.emod_eq_of_lt (by omega) (by omega)
        have wba : IntKind.u64.wrap (((held m y : Nat) : Int) * ((held m a : Nat) : Int)) = ((held m y * held m a : Nat) : Int) := u64_nat _ (prod_lt hbl hal hlt)
        have hR : ((4294967296 : Nat) : Int) = 4294967296 := rfl
        have e1 : tallystickref03_Turn.f (m : Int) (a : Int) 4294967296 = some ((held m a : Nat) : Int) := turn_is m a 4294967296 (by omega) hlt
        have e2 : tallystickref03_Turn.f (m : Int) ((y ^ N % m : Nat) : Int) 4294967296 = some ((held m (y ^ N) : Nat) : Int) := by
          refine (turn_is m (y ^ N % m) 4294967296 (by omega) hlt).trans ?_
          unfold held
          rw [Nat.mul_mod, Nat.mod_mod, ← Nat.mul_mod]
        rw [if_neg nh2, eb, e1, Option.bind_some, wb, half_is hodd hge hlt 99 _ (by omega), Option.bind_some, hym, rpow_is hge hlt 99 y N (by omega) (by omega), Option.bind_some, e2, Option.bind_some, if_pos rfl,
          redc F _ _ t htl, Option.bind_some, half_is hodd hge hlt 99 t (by omega), Option.bind_some, wt, if_pos rfl, in_spec F _ a (by omega), Option.bind_some, wa, if_pos rfl, out_spec F _ _ _ hbl, Option.bind_some, hym,
          Option.bind_some, wy, if_pos rfl, ma, mul_held F, Option.bind_some, wba, half_is hodd hge hlt 99 _ (by omega), Option.bind_some, held_mul hodd hge, wp, if_pos rfl, one_held, pow_held F _ 99 y N (by omega) (by omega), Option.bind_some, wN]
        simp only [beq_self_eq_true]
end Go.Proofs.Ytjejkkjoplphfaa.Pure
