/- QuotDivides: quotients, by words and numbers, and what is left, are as the document says. -/
import Derived.Test.YtofknlpbnpokeaaPQuotA
import Derived.Test.YtofknlpbnpokeaaPa11
namespace Go.Proofs.Ytofknlpbnpokeaa.Pure
open Go.RowKit Go.Proofs.Ytofknlpbnpokeaa.Pa Go.Proofs.YtofknlpbnpokeaaW.PrintWords Go.Proofs.YtofknlpbnpokeaaW.PrintLast Go.Proofs.Ytofknlpbnpokeaa.Hand Go.Proofs.Ytofknlpbnpokeaa.Num
set_option linter.unusedVariables false
set_option linter.unusedSimpArgs false

theorem QuotDivides : tallysticklaw06_QuotDivides.Pure := by
  intro a d x _ ya wa _ yd wd wx
  have ia := inB_of_wf wa
  have id := inB_of_wf wd
  have hx := wd_of_wf wx
  obtain ⟨ix, vx⟩ := one_word hx
  refine Ev.get (F := fun k => tallysticklaw06_QuotDivides.f k a d x) ?_
  unfold tallysticklaw06_QuotDivides.f
  refine Ev.bind (Ev.const shown6) (Ev.bind (Ev.const (few6 a d)) ?_)
  by_cases h : a.length ≤ 30 ∧ d.length ≤ 30
  · have fa := Fit.val ia h.1
    have fd := Fit.val id h.2
    have h1 := qdiv_eq ia id ya yd
    have h2 := rdiv_ev ia id (by omega) (by omega)
    have h3 := by_eq ia hx (by omega)
    have h4 := rdiv_ev ia ix (by omega) (by show 1 ≤ 200; decide)
    obtain ⟨g, hg1, hg2⟩ := guess_ev ia id (by omega) (by omega)
    rw [vx] at h4
    have l1 := (fa.div (val W d)).dig
    have l2 := (fa.mod (val W d)).dig
    obtain ⟨D, hD⟩ : ∃ D : List Int × List Int × Int, D = if val W d = 0 then ([], [], 2) else (dig W (val W a / val W d), dig W (val W a % val W d), 0) := ⟨_, rfl⟩
    have d1 : D.1.length ≤ 1000000 := by rw [hD]; split <;> simp <;> omega
    have d2 : D.2.1.length ≤ 1000000 := by rw [hD]; split <;> simp <;> omega
    rw [← hD] at h1 h2
    obtain ⟨B, hB⟩ : ∃ B : List Int × Int × Int, B = if x = 0 then ([], 0, 2) else (dig W (val W a / x.toNat), ((val W a % x.toNat : Nat) : Int), 0) := ⟨_, rfl⟩
    obtain ⟨R, hR⟩ : ∃ R : List Int × List Int × Int, R = if x.toNat = 0 then ([], [], 2) else (dig W (val W a / x.toNat), dig W (val W a % x.toNat), 0) := ⟨_, rfl⟩
    rw [← hB] at h3
    rw [← hR] at h4
    have l3 := (fa.div x.toNat).dig
    obtain ⟨e1, e2, e3, e4, e5⟩ : B.1 = R.1 ∧ B.2.2 = R.2.2 ∧ R.2.1 = dig W B.2.1.toNat ∧ Wd B.2.1 ∧ R.1.length ≤ 1000000 := by
      by_cases hz : x = 0
      · have hz2 : x.toNat = 0 := by rw [hz]; rfl
        rw [if_pos hz] at hB
        rw [if_pos hz2] at hR
        rw [hB, hR]
        exact ⟨rfl, rfl, by rw [show Int.toNat 0 = 0 from rfl, dig_zero], by unfold Wd; simp only; omega, by simp⟩
      · have hz2 : x.toNat ≠ 0 := by have := hx.1; omega
        rw [if_neg hz] at hB
        rw [if_neg hz2] at hR
        rw [hB, hR]
        have hrl : val W a % x.toNat < 18446744073709551616 := Nat.lt_trans (Nat.mod_lt _ (by omega)) (by have := hx.2; omega)
        exact ⟨rfl, rfl, by rw [Int.toNat_natCast], by unfold Wd; simp only; omega, by simp; omega⟩
    obtain ⟨ir, vr⟩ := one_word e4
    have hdg := digits_ev ir (show 1 ≤ 1000000000 by decide)
    rw [vr] at hdg
    have fw : Fit 1 B.2.1.toNat := by have := e4.2; show _ < W ^ 1; rw [Nat.pow_one, W_eq]; omega
    have hs1 := same_ev _ d1
    have hs2 := same_ev _ d2
    have hs3 := same_ev _ e5
    have hs4 := sameW_ev fw (by decide)
    rw [← e3] at hs4
    have hw := words_dig_ev fw (by decide)
    rw [← e3] at hw
    clear hD hB hR l1 l2 l3
    refine Ev.yes (decide_eq_true h) (Ev.bind (Ev.const h1) (Ev.bind h2 (Ev.bind (Ev.const h3) (Ev.bind h4 (Ev.bind hs1 (Ev.yes (by first | rfl | trivial) (Ev.bind hs2 (Ev.yes (by first | rfl | trivial) ?_))))))))
    rw [e1]
    refine Ev.bind hs3 (Ev.yes (by first | rfl | trivial) (Ev.bind hdg (Ev.bind hw (Ev.bind hs4 ?_))))
    refine Ev.yes (by first | rfl | trivial) (Ev.yes (by first | rfl | trivial) (Ev.yes (by first | rfl | trivial) (Ev.yes e2 (Ev.bind hg1 (Ev.bind hg2 (Ev.const (by simp)))))))
  · exact Ev.no (by simpa using h) (Ev.const rfl)
end Go.Proofs.Ytofknlpbnpokeaa.Pure
