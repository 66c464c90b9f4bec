/- MontLaws: products hang on no order; One changes nothing; powers add up: for every number of 32 bits, every four words. -/
import Derived.Test.YtjejkkjoplphfaaHMontB
import Derived.Test.YtjejkkjoplphfaaPa7
import Derived.OpenShut
namespace Go.Proofs.Ytjejkkjoplphfaa.Pure
open Go.RowKit Go.Proofs.Ytjejkkjoplphfaa.Pa Go.Proofs.YtjejkkjoplphfaaW.PrintWords Go.Proofs.YtjejkkjoplphfaaW.PrintLast Go.Proofs.Ytjejkkjoplphfaa.Hand

theorem MontLaws (a0 a1 a2 a3 a4 : Int) (hw0 : (Lit.int .u32 a0).wf = true) (hw1 : (Lit.int .u64 a1).wf = true) (hw2 : (Lit.int .u64 a2).wf = true) (hw3 : (Lit.int .u64 a3).wf = true) (hw4 : (Lit.int .u64 a4).wf = true) :
    ∃ k, tallysticklaw03_MontLaws.f k a0 a1 a2 a3 a4 = some true := by
  have hb := bounds_u32 hw0
  have hb1 := bounds_u64 hw1
  have hb2 := bounds_u64 hw2
  have hb3 := bounds_u64 hw3
  have hb4 := bounds_u64 hw4
  obtain ⟨m, rfl⟩ := Int.eq_ofNat_of_zero_le hb.1
  obtain ⟨a, rfl⟩ := Int.eq_ofNat_of_zero_le hb1.1
  obtain ⟨b, rfl⟩ := Int.eq_ofNat_of_zero_le hb2.1
  obtain ⟨i, rfl⟩ := Int.eq_ofNat_of_zero_le hb3.1
  obtain ⟨j, rfl⟩ := Int.eq_ofNat_of_zero_le hb4.1
  refine ⟨100, ?_⟩
  unfold tallysticklaw03_MontLaws.f
  rw [shown_true, Option.bind_some]
  by_cases h : m % 2 = 0 ∨ m < 3 ∨ 2147483648 ≤ m
  · rw [make_bad (by omega) h, Option.bind_some, if_neg (by decide), tallysticklaw03_MontLaws.j0, if_pos rfl]
  · obtain ⟨n, F, e⟩ := make_form (a0 := m) (by omega) (by omega) (by omega)
    rw [e, Option.bind_some, if_pos rfl]
    by_cases h1 : (i : Int) > 4611686018427387904
    · rw [if_pos h1, tallysticklaw03_MontLaws.j0, if_pos rfl]
    · rw [if_neg h1, tallysticklaw03_MontLaws.j0]
      by_cases h2 : (j : Int) > 4611686018427387904
      · rw [if_pos (decide_eq_true h2)]
      · have nh2 : ¬ decide ((j : Int) > 4611686018427387904) = true := by simpa using h2
        have hw : IntKind.u64.wrap ((i : Int) + (j : Int)) = ((i + j : Nat) : Int) := u64_nat _ (by omega)
        rw [if_neg nh2, in_spec F _ a (by omega), Option.bind_some, in_spec F _ b (by omega), Option.bind_some, if_pos rfl, mul_held F, Option.bind_some, mul_held F, Option.bind_some, Nat.mul_comm b a, if_pos rfl, one_held, mul_held F, Option.bind_some,
          Nat.mul_one, if_pos rfl, hw, pow_held F _ 99 a (i + j) (by omega) (by omega), Option.bind_some, pow_held F _ 99 a i (by omega) (by omega), Option.bind_some, pow_held F _ 99 a j (by omega) (by omega), Option.bind_some, mul_held F, Option.bind_some, Nat.pow_add]
        simp only [beq_self_eq_true]
end Go.Proofs.Ytjejkkjoplphfaa.Pure
