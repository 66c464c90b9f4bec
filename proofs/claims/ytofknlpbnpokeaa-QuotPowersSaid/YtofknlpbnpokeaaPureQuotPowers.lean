/- QuotPowers: greatest divisors, and powers, are as the document says. -/
import Derived.Test.YtofknlpbnpokeaaPQuotA
import Derived.Test.YtofknlpbnpokeaaPa13
namespace Go.Proofs.Ytofknlpbnpokeaa.Pure
open Go.RowKit Go.Proofs.Ytofknlpbnpokeaa.Pa Go.Proofs.YtofknlpbnpokeaaW.PrintWords Go.Proofs.YtofknlpbnpokeaaW.PrintLast Go.Proofs.Ytofknlpbnpokeaa.Hand Go.Proofs.Ytofknlpbnpokeaa.Num
set_option linter.unusedVariables false
set_option linter.unusedSimpArgs false

theorem fit_words {x m N : Nat} (h : x ≤ W ^ m) (hm : m < N) : Fit N x := Nat.lt_of_le_of_lt h (Nat.pow_lt_pow_right W_gt hm)
theorem pow_words {v l i N : Nat} (h : Fit l v) (hi : l * i < N) : Fit N (v ^ i) := by
  have h1 := Nat.pow_le_pow_left (Nat.le_of_lt h) i
  rw [← Nat.pow_mul] at h1
  exact Nat.lt_of_le_of_lt h1 (Nat.pow_lt_pow_right W_gt hi)
theorem quo_small (b : Nat) (hb : 0 < b) : wrap64 ((262144 : Int) / (b : Int)) = 262144 / (b : Int) := by
  have h1 : (0 : Int) ≤ 262144 / (b : Int) := Int.ediv_nonneg (by omega) (by omega)
  have h2 : 262144 / (b : Int) ≤ 262144 := Int.ediv_le_self _ (by omega)
  exact IntWalk.wrap64_in _ (by omega)
/-- The document's power, of few bits or much too long. -/
theorem rpow_ev {a : List Int} (ia : InB W a) (la : a.length ≤ 30) (n : Int) (hn : n ≤ 40 ∨ 0 < bl (val W a) ∧ 262144 / (bl (val W a) : Int) < n) : Ev (fun k => tallystickref06_Pow.f k a n) (powV (val W a) n) := by
  have fa := Fit.val ia la
  have va := fa.digV
  have hb := fa.bl
  unfold tallystickref06_Pow.f powV
  by_cases h0 : n < 0
  · rw [if_pos h0]
    exact Ev.yes h0 (Ev.const rfl)
  · rw [if_neg h0]
    refine Ev.no h0 (Ev.bind (digits_ev ia (by omega)) (Ev.bind (bits_ev (by omega)) ?_))
    have long : ∀ x, Ev (fun k => tallystickref06_Pow.j0 k n x true) ([], 4) := fun x => by
      refine Ev.succ ?_
      simp only [tallystickref06_Pow.j0]
      exact Ev.yes (by first | rfl | trivial) (Ev.const rfl)
    have short : ¬ (0 < bl (val W a) ∧ 262144 / (bl (val W a) : Int) < n) → Ev (fun k => tallystickref06_Pow.j0 k n (dig V (val W a)) false) (dig W (val W a ^ n.toNat), 0) := fun hs => by
      have hn40 : n ≤ 40 := by
        rcases hn with h | h
        · exact h
        · exact absurd h hs
      obtain ⟨m, rfl⟩ := Int.eq_ofNat_of_zero_le (show 0 ≤ n by omega)
      rw [Int.toNat_natCast]
      refine Ev.succ ?_
      simp only [tallystickref06_Pow.j0]
      refine Ev.no (by decide) ?_
      have h := rpow_loop (n := m) fa (by decide) (by omega) (fun i hi => by
        exact pow_words fa (by omega)) m 0 (by omega)
      rw [Nat.pow_zero, show dig V 1 = [1] by decide +kernel] at h
      exact h
    by_cases hb0 : 0 < bl (val W a)
    · refine Ev.yes (by omega) (Ev.no (by omega) ?_)
      rw [quo_small _ hb0]
      by_cases hl : 262144 / (bl (val W a) : Int) < n
      · rw [if_pos ⟨hb0, hl⟩, decide_eq_true hl]
        exact long _
      · rw [if_neg (fun h => hl h.2), decide_eq_false hl]
        exact short (fun h => hl h.2)
    · rw [if_neg (fun h => hb0 h.1)]
      exact Ev.no (by omega) (short (fun h => hb0 h.1))
theorem powV_len {a : List Int} (ia : InB W a) (la : a.length ≤ 30) (n : Int) (hn : n ≤ 40 ∨ 0 < bl (val W a) ∧ 262144 / (bl (val W a) : Int) < n) : (powV (val W a) n).1.length ≤ 1000000 := by
  have fa := Fit.val ia la
  unfold powV
  split
  · simp
  · split
    · simp
    · rename_i h0 hs
      have hn40 : n ≤ 40 := by
        rcases hn with h | h
        · exact h
        · exact absurd h hs
      have h1 := Nat.pow_le_pow_left (Nat.le_of_lt fa) n.toNat
      rw [← Nat.pow_mul] at h1
      have f : Fit 5000 (val W a ^ n.toNat) := fit_words h1 (by omega)
      have := f.dig
      show (dig W (val W a ^ n.toNat)).length ≤ _
      omega
theorem pows_j3 {a : List Int} (ia : InB W a) (la : a.length ≤ 30) (n : Int) (hn : n ≤ 40 ∨ 0 < bl (val W a) ∧ 262144 / (bl (val W a) : Int) < n) : Ev (fun k => tallysticklaw06_QuotPowers.j3 k a n true true false) true := by
  refine Ev.succ ?_
  simp only [tallysticklaw06_QuotPowers.j3]
  exact Ev.no (by decide) (Ev.bind (Ev.const (qpow_eq ia (by omega) n)) (Ev.bind (rpow_ev ia la n hn) (Ev.yes (by first | rfl | trivial) (Ev.yes (by first | rfl | trivial) (Ev.bind (same_ev _ (powV_len ia la n hn)) (Ev.yes (by first | rfl | trivial) (Ev.const (by simp))))))))
theorem pows_j3t (a : List Int) (n : Int) : Ev (fun k => tallysticklaw06_QuotPowers.j3 k a n true true true) true := by
  refine Ev.succ ?_
  simp only [tallysticklaw06_QuotPowers.j3]
  exact Ev.yes (by first | rfl | trivial) (Ev.yes (by first | rfl | trivial) (Ev.const rfl))
theorem pows_j2t (a : List Int) (n : Int) (x : List Int) : Ev (fun k => tallysticklaw06_QuotPowers.j2 k a n true x true true) true := by
  refine Ev.succ ?_
  simp only [tallysticklaw06_QuotPowers.j2]
  exact Ev.yes (by first | rfl | trivial) (Ev.yes (by first | rfl | trivial) (Ev.const rfl))
theorem pows_j1t (a b : List Int) (n : Int) (x : List Int) : Ev (fun k => tallysticklaw06_QuotPowers.j1 k a b n true x true) true := by
  refine Ev.succ ?_
  simp only [tallysticklaw06_QuotPowers.j1]
  exact Ev.yes (by first | rfl | trivial) (Ev.const rfl)
theorem pows_j0t (a b : List Int) (n : Int) : Ev (fun k => tallysticklaw06_QuotPowers.j0 k a b n true true) true := by
  refine Ev.succ ?_
  simp only [tallysticklaw06_QuotPowers.j0]
  exact Ev.yes (by first | rfl | trivial) (Ev.const rfl)
theorem pows_j1 {a b : List Int} (ia : InB W a) (ib : InB W b) (la : a.length ≤ 30) (lb : b.length ≤ 30) (n : Int) : Ev (fun k => tallysticklaw06_QuotPowers.j1 k a b n true (dig V (val W a)) false) true := by
  have fa := Fit.val ia la
  have fb := Fit.val ib lb
  have va := fa.digV
  have fg : Fit 30 (Nat.gcd (val W a) (val W b)) := by
    rcases Nat.eq_zero_or_pos (val W a) with h | h
    · rw [h, Nat.gcd_zero_left]; exact fb
    · exact Fit.le fa (Nat.gcd_le_left _ h)
  refine Ev.succ ?_
  simp only [tallysticklaw06_QuotPowers.j1]
  refine Ev.no (by decide) (Ev.bind (Ev.const (qgcd_eq ia ib (by omega) (by omega))) (Ev.bind (rgcd_ev ia ib (by omega) (by omega)) (Ev.bind (sameW_ev fg (by decide)) ?_)))
  by_cases h40 : n > 40
  · refine Ev.yes h40 (Ev.bind (bits_ev (by omega)) ?_)
    by_cases hb : bl (val W a) = 0
    · rw [hb]
      exact pows_j2t a n _
    · have hbz : (((bl (val W a) : Nat) : Int) == 0) = false := by rw [beq_eq_false_iff_ne]; omega
      rw [hbz]
      refine Ev.succ ?_
      simp only [tallysticklaw06_QuotPowers.j2]
      refine Ev.no (by decide) (Ev.yes h40 (Ev.bind (bits_ev (by omega)) (Ev.no (by omega) ?_)))
      rw [quo_small _ (Nat.pos_of_ne_zero hb)]
      by_cases hl : n ≤ 262144 / (bl (val W a) : Int)
      · rw [decide_eq_true hl]
        exact pows_j3t a n
      · rw [decide_eq_false hl]
        exact pows_j3 ia la n (.inr ⟨Nat.pos_of_ne_zero hb, by omega⟩)
  · refine Ev.no h40 (Ev.succ ?_)
    simp only [tallysticklaw06_QuotPowers.j2]
    exact Ev.no (by decide) (Ev.no h40 (pows_j3 ia la n (.inl (by omega))))
theorem pows_j0 {a b : List Int} (ia : InB W a) (ib : InB W b) (la : a.length ≤ 30) (lb : b.length ≤ 30) (n : Int) : Ev (fun k => tallysticklaw06_QuotPowers.j0 k a b n true false) true := by
  have fa := Fit.val ia la
  have va := fa.digV
  have hb := fa.bl
  refine Ev.succ ?_
  simp only [tallysticklaw06_QuotPowers.j0]
  refine Ev.no (by decide) (Ev.bind (digits_ev ia (by omega)) ?_)
  by_cases h40 : n > 40
  · refine Ev.yes h40 (Ev.bind (bits_ev (by omega)) ?_)
    rw [w_succ (bl (val W a)) (by omega)]
    refine Ev.no (by omega) ?_
    by_cases hl : wrap64 (262144 / ((bl (val W a) + 1 : Nat) : Int)) ≥ n
    · rw [decide_eq_true hl]
      exact pows_j1t a b n _
    · rw [decide_eq_false hl]
      exact pows_j1 ia ib la lb n
  · exact Ev.no h40 (pows_j1 ia ib la lb n)
theorem QuotPowers : tallysticklaw06_QuotPowers.Pure := by
  intro a b n _ _ wa _ _ wb _
  have ia := inB_of_wf wa
  have ib := inB_of_wf wb
  refine Ev.get (F := fun k => tallysticklaw06_QuotPowers.f k a b n) ?_
  unfold tallysticklaw06_QuotPowers.f
  refine Ev.bind (Ev.const shown6) (Ev.bind (Ev.const (few6 a b)) ?_)
  by_cases h : a.length ≤ 30 ∧ b.length ≤ 30
  · refine Ev.yes (decide_eq_true h) ?_
    by_cases h40 : n > 40
    · refine Ev.yes h40 ?_
      by_cases hl : (a.length : Int) < 1
      · rw [decide_eq_true hl]; exact pows_j0t a b n
      · rw [decide_eq_false hl]; exact pows_j0 ia ib h.1 h.2 n
    · exact Ev.no h40 (pows_j0 ia ib h.1 h.2 n)
  · exact Ev.no (by simpa using h) (pows_j0t a b n)
end Go.Proofs.Ytofknlpbnpokeaa.Pure
