/- QuotSteps: a power is the one ahead times the number. -/
import Derived.Test.YtofknlpbnpokeaaPQuotA
import Derived.Test.YtofknlpbnpokeaaPa12
namespace Go.Proofs.Ytofknlpbnpokeaa.Pure
open Go.RowKit Go.Proofs.Ytofknlpbnpokeaa.Pa Go.Proofs.YtofknlpbnpokeaaW.PrintWords Go.Proofs.YtofknlpbnpokeaaW.PrintLast Go.Proofs.Ytofknlpbnpokeaa.Hand Go.Proofs.Ytofknlpbnpokeaa.Num
set_option linter.unusedVariables false
set_option linter.unusedSimpArgs false

/-- A power of which the bits are not too many. -/
theorem pow_in {v : Nat} {n : Nat} {B : Nat} (hb : bl v ≤ B) (hn : B * n ≤ 262144) : powV v (n : Int) = (dig W (v ^ n), 0) := by
  unfold powV
  rw [if_neg (by omega), if_neg, Int.toNat_natCast]
  rintro ⟨h1, h2⟩
  have h3 : (n : Int) ≤ 262144 / (bl v : Int) := Int.le_ediv_of_mul_le (by omega) (show ((n * bl v : Nat) : Int) ≤ ((262144 : Nat) : Int) from Int.ofNat_le.2 (by
    rw [Nat.mul_comm]
    exact Nat.le_trans (Nat.mul_le_mul_right _ hb) hn))
  omega
theorem steps_out (a : List Int) (n : Int) : Ev (fun k => tallysticklaw06_QuotSteps.j0 k a n true true) true := by
  refine Ev.succ ?_
  simp only [tallysticklaw06_QuotSteps.j0]
  exact Ev.yes (by first | rfl | trivial) (Ev.const rfl)
theorem steps_main {a : List Int} (ia : InB W a) (la : a.length ≤ 8) (m : Nat) (hm : m ≤ 11) : Ev (fun k => tallysticklaw06_QuotSteps.j0 k a ((m + 1 : Nat) : Int) true false) true := by
  have fa := Fit.val ia la
  have hb := fa.bl
  have h1 := qpow_eq ia (by omega) ((m + 1 : Nat) : Int)
  have h2 := qpow_eq ia (by omega) (m : Int)
  rw [pow_in hb (by omega)] at h1
  rw [pow_in hb (by omega)] at h2
  have fp : ∀ n, n ≤ 12 → Fit 96 (val W a ^ n) := fun n hn => by
    have h := Nat.pow_le_pow_left (Nat.le_of_lt fa) n
    rw [← Nat.pow_mul] at h
    rcases Nat.eq_zero_or_pos n with h0 | h0
    · subst h0; exact Nat.lt_of_lt_of_le (show val W a ^ 0 < W ^ 1 by rw [Nat.pow_zero]; decide) (Nat.pow_le_pow_right W_pos (show 1 ≤ 96 by decide))
    · exact Nat.lt_of_lt_of_le (Nat.pow_lt_pow_left fa (by omega)) (by rw [← Nat.pow_mul]; exact Nat.pow_le_pow_right W_pos (by omega))
  have lp := (fp m (by omega)).dig
  have ht := times_ev (j := 96) (k := 8) (dI (val W a ^ m)) ia (by omega) la (by decide) (by decide)
  rw [dV, ← Nat.pow_succ] at ht
  refine Ev.succ ?_
  simp only [tallysticklaw06_QuotSteps.j0]
  rw [w_pred m (by omega)]
  exact Ev.no (by decide) (Ev.bind (Ev.const h1) (Ev.bind (Ev.const h2) (Ev.yes (by first | rfl | trivial) (Ev.yes (by first | rfl | trivial) (Ev.yes (by first | rfl | trivial) (Ev.bind ht (Ev.bind (sameW_ev (fp (m + 1) (by omega)) (by decide)) (Ev.const rfl))))))))
theorem QuotSteps : tallysticklaw06_QuotSteps.Pure := by
  intro a n _ _ wa _
  have ia := inB_of_wf wa
  refine Ev.get (F := fun k => tallysticklaw06_QuotSteps.f k a n) ?_
  unfold tallysticklaw06_QuotSteps.f
  refine Ev.bind (Ev.const shown6) ?_
  by_cases h1 : (a.length : Int) > 8
  · exact Ev.yes h1 (steps_out a n)
  · refine Ev.no h1 ?_
    by_cases h2 : n < 1
    · exact Ev.yes h2 (steps_out a n)
    · refine Ev.no h2 ?_
      by_cases h3 : n > 12
      · rw [decide_eq_true h3]; exact steps_out a n
      · rw [decide_eq_false h3]
        obtain ⟨m, rfl⟩ : ∃ m : Nat, n = ((m + 1 : Nat) : Int) := ⟨(n - 1).toNat, by omega⟩
        exact steps_main ia (by omega) m (by omega)
end Go.Proofs.Ytofknlpbnpokeaa.Pure
