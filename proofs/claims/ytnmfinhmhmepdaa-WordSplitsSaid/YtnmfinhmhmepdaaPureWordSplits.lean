/- WordSplits: a product of a sum is the sum of the products. -/
import Derived.Test.YtnmfinhmhmepdaaPWordA
import Derived.Test.YtnmfinhmhmepdaaPa4
namespace Go.Proofs.Ytnmfinhmhmepdaa.Pure
open Go.RowKit Go.Proofs.Ytnmfinhmhmepdaa.Pa Go.Proofs.YtnmfinhmhmepdaaW.PrintWords Go.Proofs.YtnmfinhmhmepdaaW.PrintMore Go.Proofs.YtnmfinhmhmepdaaW.PrintLast Go.Proofs.Ytnmfinhmhmepdaa.Hand Go.Proofs.Ytnmfinhmhmepdaa.Num
set_option linter.unusedVariables false
set_option linter.unusedSimpArgs false

theorem splits_sum {a b c : Int} (ha : Wd a) (hb : Wd b) (hc : Wd c) :
    let s := sumLo b c 0
    let x := sumHi b c 0
    sumLo (mulLo a b) (mulLo a c) 0 = mulLo a s ∧ sumLo (mulHi a b) (mulHi a c) (sumHi (mulLo a b) (mulLo a c) 0) = sumLo (mulHi a s) (IntKind.u64.wrap (a * x)) 0 ∧
      sumHi (mulHi a b) (mulHi a c) (sumHi (mulLo a b) (mulLo a c) 0) = sumHi (mulHi a s) (IntKind.u64.wrap (a * x)) 0 := by
  intro s x
  have hx := sumHi_le hb hc (Int.le_refl 0) (by omega : (0 : Int) ≤ 1)
  have hs := sum_eq b c 0
  have hh1 := mulHi_wd ha hb
  have hh2 := mulHi_wd ha hc
  have hh3 := mulHi_wd ha (sumLo_wd b c 0)
  have hP : a * s + 18446744073709551616 * (a * x) = a * b + a * c := by
    have e : a * (s + 18446744073709551616 * x) = a * (b + c + 0) := by rw [show s + 18446744073709551616 * x = b + c + 0 from hs]
    rw [Int.add_zero, Int.mul_add, Int.mul_add, Int.mul_left_comm] at e
    exact e
  have hax : a * x = 0 ∧ x = 0 ∨ a * x = a ∧ x = 1 := by
    have : x = 0 ∨ x = 1 := by have := hx.1; have := hx.2; omega
    rcases this with h | h
    · exact .inl ⟨by rw [h, Int.mul_zero], h⟩
    · exact .inr ⟨by rw [h, Int.mul_one], h⟩
  rw [IntKind.wrap_u64]
  clear hs hx
  unfold Wd at *
  change 0 ≤ mulHi a s ∧ _ at hh3
  unfold mulHi at hh1 hh2 hh3
  unfold mulHi mulLo sumHi sumLo
  generalize a * s = P at *
  generalize a * b = Q at *
  generalize a * c = R at *
  generalize a * x = T at *
  omega
theorem WordSplits : tallysticklaw01_WordSplits.Pure := by
  intro a b c wa wb wc
  have ha := wd_of wa
  have hb := wd_of wb
  have hc := wd_of wc
  have hs := sumLo_wd b c 0
  have hx := sumHi_le hb hc (Int.le_refl 0) (by omega : (0 : Int) ≤ 1)
  have hy := sumHi_le (mulLo_wd a b) (mulLo_wd a c) (Int.le_refl 0) (by omega : (0 : Int) ≤ 1)
  have hyw : Wd (sumHi (mulLo a b) (mulLo a c) 0) := by unfold Wd; omega
  have hm : Wd (IntKind.u64.wrap (a * sumHi b c 0)) := by rw [IntKind.wrap_u64]; unfold Wd; omega
  have h := splits_sum ha hb hc
  unfold tallysticklaw01_WordSplits.f
  rw [shown1, Option.bind_some, wadd hb hc wd0, Option.bind_some, cut1_0, wmul ha hs, Option.bind_some, wmul ha hb, Option.bind_some, wmul ha hc, Option.bind_some, wadd (mulLo_wd _ _) (mulLo_wd _ _) wd0, Option.bind_some, cut1_0,
    wadd (mulHi_wd ha hb) (mulHi_wd ha hc) hyw, Option.bind_some, cut1_small hy.2, wadd (mulHi_wd ha hs) hm wd0, Option.bind_some, cut1_0, if_pos rfl, if_pos h.1, if_pos h.2.1, h.2.2, beq_self_eq_true]
end Go.Proofs.Ytnmfinhmhmepdaa.Pure
