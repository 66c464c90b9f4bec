/- QuotWords: by a word and by a number of one word it is divided alike. -/
import Derived.Test.YtofknlpbnpokeaaPQuotA
import Derived.Test.YtofknlpbnpokeaaPa10
namespace Go.Proofs.Ytofknlpbnpokeaa.Pure
open Go.RowKit Go.Proofs.Ytofknlpbnpokeaa.Pa Go.Proofs.YtofknlpbnpokeaaW.PrintWords Go.Proofs.YtofknlpbnpokeaaW.PrintLast Go.Proofs.Ytofknlpbnpokeaa.Hand Go.Proofs.Ytofknlpbnpokeaa.Num
set_option linter.unusedVariables false
set_option linter.unusedSimpArgs false

theorem QuotWords : tallysticklaw06_QuotWords.Pure := by
  intro a x _ ya wa wx
  have ia := inB_of_wf wa
  have hx := wd_of_wf wx
  obtain ⟨ix, vx⟩ := one_word hx
  refine Ev.get (F := fun k => tallysticklaw06_QuotWords.f k a x) ?_
  unfold tallysticklaw06_QuotWords.f
  refine Ev.bind (Ev.const shown6) (Ev.bind (Ev.const (few6 a [])) ?_)
  by_cases h : a.length ≤ 30 ∧ ([] : List Int).length ≤ 30
  · have hq := qdiv_eq ia ix (by omega) (by show 1 * 8 ≤ _; decide)
    rw [vx] at hq
    have hb := by_eq ia hx (by omega)
    have fa := Fit.val ia h.1
    refine Ev.yes (decide_eq_true h) (Ev.bind (Ev.const hb) (Ev.bind (Ev.const hq) ?_))
    by_cases hz : x = 0
    · subst hz
      rw [if_pos rfl, if_pos (show Int.toNat 0 = 0 from rfl)]
      have i0 : InB W [(0 : Int)] := inB_cons.2 ⟨by rw [W_eq]; omega, inB_nil _⟩
      have hdg := digits_ev i0 (by decide)
      rw [show val W [(0 : Int)] = 0 from rfl] at hdg
      refine Ev.bind hdg (Ev.bind (words_dig_ev (k := 1) (Nat.pow_pos W_pos) (by decide)) ?_)
      refine Ev.yes (by first | rfl | trivial) (Ev.yes (by first | rfl | trivial) (Ev.yes (by decide) (Ev.bind (same_ev [] (by decide)) (Ev.yes (by first | rfl | trivial) (Ev.no (by decide) (Ev.const rfl))))))
    · have hz2 : x.toNat ≠ 0 := by have := hx.1; omega
      rw [if_neg hz, if_neg hz2]
      have hrl : val W a % x.toNat < 18446744073709551616 := Nat.lt_trans (Nat.mod_lt _ (by omega)) (by have := hx.2; omega)
      obtain ⟨ir, vr⟩ := one_word (x := ((val W a % x.toNat : Nat) : Int)) (by unfold Wd; omega)
      rw [Int.toNat_natCast] at vr
      have hdg := digits_ev ir (show 1 ≤ 1000000000 by decide)
      rw [vr] at hdg
      refine Ev.bind hdg (Ev.bind (words_dig_ev (fa.mod _) (by decide)) ?_)
      have hne : (x != 0) = true := by simpa using hz
      refine Ev.yes (by first | rfl | trivial) (Ev.yes (by first | rfl | trivial) (Ev.yes (by rw [hne]; rfl) (Ev.bind (sameW_ev (fa.div _) (by decide)) (Ev.yes (by first | rfl | trivial) (Ev.yes (by first | rfl | trivial) (Ev.bind (sameW_ev (fa.mod _) (by decide)) (Ev.const rfl)))))))
  · exact Ev.no (by simpa using h) (Ev.const rfl)
end Go.Proofs.Ytofknlpbnpokeaa.Pure
