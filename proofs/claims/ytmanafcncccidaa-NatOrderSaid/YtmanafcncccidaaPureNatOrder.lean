/- NatOrder: what comes out is in order. -/
import Derived.Test.YtmanafcncccidaaPNatA
import Derived.Test.YtmanafcncccidaaPa12
namespace Go.Proofs.Ytmanafcncccidaa.Pure
open Go.RowKit Go.Proofs.Ytmanafcncccidaa.Pa Go.Proofs.YtmanafcncccidaaW.PrintWords Go.Proofs.YtmanafcncccidaaW.PrintLast Go.Proofs.Ytmanafcncccidaa.Hand Go.Proofs.Ytmanafcncccidaa.Num
set_option linter.unusedVariables false
set_option linter.unusedSimpArgs false

theorem ordered_dig (n : Nat) (h : (dig W n).length ≤ 1000) : tallysticklaw04_ordered.f (dig W n) = some true := by
  unfold tallysticklaw04_ordered.f
  have ho := dig_ord W_gt n
  generalize dig W n = l at *
  by_cases h0 : (l.length : Int) = 0
  · rw [if_pos h0]
  · obtain ⟨k, hk⟩ : ∃ k, l.length = k + 1 := ⟨l.length - 1, by omega⟩
    have hw : wrap64 ((l.length : Int) - 1) = (k : Int) := by rw [IntWalk.wrap64_in _ (by omega)]; omega
    have hr : rd l (k : Int) ≠ 0 := by
      rcases ho with ho | ho
      · subst ho; simp at hk
      · rw [List.getLastD_eq_getLast?, List.getLast?_eq_getElem?, hk, Nat.add_sub_cancel] at ho
        show l.getD (k : Int).toNat 0 ≠ 0
        rwa [Int.toNat_natCast, List.getD_eq_getElem?_getD]
    rw [if_neg h0, hw, if_pos (by omega), if_pos (by omega)]
    congr 1
    exact bne_iff_ne.2 hr
theorem NatOrder (a b : List Int) (n x : Int) (_ : a.length ≤ maxLen) (wa : ∀ x ∈ a, (Lit.int .u64 x).wf = true) (_ : b.length ≤ maxLen) (wb : ∀ x ∈ b, (Lit.int .u64 x).wf = true) (wn : (Lit.int .i64 n).wf = true) (wx : (Lit.int .u64 x).wf = true) :
    ∃ k, tallysticklaw04_NatOrder.f k a b n x = some true := by
  have ia := inB_of_wf wa
  have ib := inB_of_wf wb
  have hx : Wd x := by have := bounds_u64 wx; unfold Wd; omega
  refine ⟨0 + 1 + 1, ?_⟩
  unfold tallysticklaw04_NatOrder.f
  rw [shown4, Option.bind_some, few_iff, Option.bind_some]
  by_cases h : a.length ≤ 40 ∧ b.length ≤ 40
  · rw [if_pos (decide_eq_true h)]
    by_cases hk : n > 3000
    · rw [decide_eq_true hk]; rfl
    · have hN : n.toNat ≤ 3000 := by omega
      have fa := Fit.val ia h.1
      have fb := Fit.val ib h.2
      have fp : Fit 47 (2 ^ n.toNat) := Fit.pow (by omega)
      have l0 := fa.dig
      have l1 := (fa.le (Nat.div_le_self (val W a) (2 ^ n.toNat))).dig
      have l3 := (fa.le (Nat.mod_le (val W a) (2 ^ n.toNat))).dig
      have l4 := (fa.mul fp).dig
      have l5 := (fa.add fb).dig
      have l6 := (fa.le (Nat.sub_le (val W a) (val W b))).dig
      have fx : Fit 1 x.toNat := by unfold Fit; rw [Nat.pow_one, W_eq]; have := hx.2; have := hx.1; omega
      have l7 := (fa.mul fx).dig
      have e0 : tallysticklaw04_ordered.f ((if val W a < val W b then [] else dig W (val W a - val W b))) = some true := by
        split
        · rfl
        · exact ordered_dig _ (by omega)
      rw [decide_eq_false hk, tallysticklaw04_NatOrder.j0, if_neg (by decide), sub_eq' ia ib (by omega) (by omega), Option.bind_some, norm_eq ia, Option.bind_some, ordered_dig _ (by omega), Option.bind_some, if_pos rfl, add_eq ia ib (by omega) (by omega), Option.bind_some, ordered_dig _ (by omega), Option.bind_some, if_pos rfl, e0, Option.bind_some,
        tallysticklaw04_NatOrder.j1, shl_eq ia (by omega) (by omega), Option.bind_some, ordered_dig _ (by omega), Option.bind_some, if_pos rfl, shr_eq ia (by omega) (by omega), Option.bind_some, ordered_dig _ (by omega), Option.bind_some, if_pos rfl, low_eq ia (by omega) (by omega), Option.bind_some, ordered_dig _ (by omega), Option.bind_some, if_pos rfl, if_pos rfl, if_pos rfl,
        scale_eq ia hx (by omega), Option.bind_some, ordered_dig _ (by omega), Option.bind_some]
  · rw [if_neg (by simpa using h)]; rfl
end Go.Proofs.Ytmanafcncccidaa.Pure
