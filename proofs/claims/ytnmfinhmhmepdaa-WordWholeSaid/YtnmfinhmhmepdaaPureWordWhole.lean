/- WordWhole: the quotient times the divisor and what is left are what was divided; what is left is below the divisor. -/
import Derived.Test.YtnmfinhmhmepdaaPWordA
import Derived.Test.YtnmfinhmhmepdaaPa3
namespace Go.Proofs.Ytnmfinhmhmepdaa.Pure
open Go.RowKit Go.Proofs.Ytnmfinhmhmepdaa.Pa Go.Proofs.YtnmfinhmhmepdaaW.PrintWords Go.Proofs.YtnmfinhmhmepdaaW.PrintMore Go.Proofs.YtnmfinhmhmepdaaW.PrintLast Go.Proofs.Ytnmfinhmhmepdaa.Hand Go.Proofs.Ytnmfinhmhmepdaa.Num
set_option linter.unusedVariables false
set_option linter.unusedSimpArgs false

theorem whole_sum {q d r hi lo : Int} (h : q * d + r = hi * 18446744073709551616 + lo) (hr : Wd r) (hlo : Wd lo) (hhi : Wd hi) :
    IntKind.u64.wrap (mulHi q d + sumHi (mulLo q d) r 0) = hi ∧ sumLo (mulLo q d) r 0 = lo := by
  rw [IntKind.wrap_u64]
  unfold Wd at *
  unfold mulHi mulLo sumHi sumLo
  generalize q * d = p at *
  omega
theorem WordWhole : tallysticklaw01_WordWhole.Pure := by
  intro a b c wa wb wc
  have ha := wd_of wa
  have hb := wd_of wb
  have hc := wd_of wc
  unfold tallysticklaw01_WordWhole.f
  rw [shown1, Option.bind_some, wdiv ha hb hc, Option.bind_some]
  by_cases c0 : c = 0
  · rw [show divW a b c = (0, 0, 2) by unfold divW; rw [if_pos c0], if_neg (by decide), if_pos rfl, if_pos (by subst c0; rfl), if_pos c0]
  · by_cases c1 : c ≤ a
    · have hz : ((c == 0) == ((1 : Int) == 2)) = true := by rw [show (c == 0) = false by simpa using c0]; rfl
      rw [show divW a b c = (0, 0, 1) by unfold divW; rw [if_neg c0, if_pos c1], if_neg (by decide), if_pos rfl, if_pos hz, if_neg c0, decide_eq_true (show a ≥ c from c1)]
    · obtain ⟨x, rfl⟩ := Int.eq_ofNat_of_zero_le ha.1
      obtain ⟨y, rfl⟩ := Int.eq_ofNat_of_zero_le hb.1
      obtain ⟨z, rfl⟩ := Int.eq_ofNat_of_zero_le hc.1
      obtain ⟨q, r, hd, h1, h2, h3, _, _⟩ := divW_some (x := x) (y := y) (z := z) (by omega) (by have := hb.2; omega)
      have hq : Wd (q : Int) := by unfold Wd; omega
      have hr : Wd (r : Int) := by have := hc.2; unfold Wd; omega
      have hs := whole_sum (q := q) (d := z) (r := r) (hi := x) (lo := y) (by
        have : ((q * z + r : Nat) : Int) = ((x * 18446744073709551616 + y : Nat) : Int) := by rw [h1]
        simpa using this) hr hb ha
      rw [hd, if_pos rfl, wmul hq hc, Option.bind_some, wadd (mulLo_wd _ _) hr wd0, Option.bind_some, if_pos rfl, if_pos (by show ((r : Nat) : Int) < (z : Int); omega), cut1_0]
      show (if IntKind.u64.wrap (mulHi (q : Int) (z : Int) + sumHi (mulLo (q : Int) (z : Int)) (r : Int) 0) = (x : Int) then some (sumLo (mulLo (q : Int) (z : Int)) (r : Int) 0 == (y : Int)) else some false) = some true
      rw [if_pos hs.1, hs.2, beq_self_eq_true]
end Go.Proofs.Ytnmfinhmhmepdaa.Pure
