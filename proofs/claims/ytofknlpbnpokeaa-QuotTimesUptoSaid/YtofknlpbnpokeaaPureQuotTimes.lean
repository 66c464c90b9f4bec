/- QuotTimes: what was multiplied is divided again, and nothing is left; with a little added as much is left. (Of rows of at most 1048576 words.) -/
import Derived.Test.YtofknlpbnpokeaaPQuotA
import Derived.Test.YtofknlpbnpokeaaPa8
namespace Go.Proofs.Ytofknlpbnpokeaa.Pure
open Go.RowKit Go.Proofs.Ytofknlpbnpokeaa.Pa Go.Proofs.YtofknlpbnpokeaaW.PrintWords Go.Proofs.YtofknlpbnpokeaaW.PrintLast Go.Proofs.Ytofknlpbnpokeaa.Hand Go.Proofs.Ytofknlpbnpokeaa.Num
set_option linter.unusedVariables false
set_option linter.unusedSimpArgs false

theorem times_out (a d : List Int) (x : Int) (v : List Int) : Ev (fun k => tallysticklaw06_QuotTimes.j0 k a d x true v true) true := by
  refine Ev.succ ?_
  simp only [tallysticklaw06_QuotTimes.j0]
  exact Ev.yes (by first | rfl | trivial) (Ev.const rfl)
theorem div_add_little {A D y : Nat} (hD : 0 < D) (hy : y < D) : (A * D + y) / D = A ∧ (A * D + y) % D = y := by
  rw [Nat.mul_comm, Nat.mul_add_div hD, Nat.div_eq_of_lt hy, Nat.add_zero, Nat.mul_add_mod, Nat.mod_eq_of_lt hy]
  exact ⟨rfl, rfl⟩
theorem times_main {a d : List Int} {x : Int} (ia : InB W a) (id : InB W d) (hx : Wd x) (la : a.length ≤ 30) (ld : d.length ≤ 30) (h0 : val W d ≠ 0) : Ev (fun k => tallysticklaw06_QuotTimes.j0 k a d x true (dig V (val W d)) false) true := by
  have fa := Fit.val ia la
  have fd := Fit.val id ld
  have hD := Nat.pos_of_ne_zero h0
  obtain ⟨ix, vx⟩ := one_word hx
  have fp := fa.mul fd
  have lp := fp.dig
  have h1 := qdiv_eq (dI (val W a * val W d)) id (by omega) (by omega)
  rw [dV, if_neg h0, Nat.mul_div_cancel _ hD, Nat.mul_mod_left, dig_zero] at h1
  have vd := fd.digV
  have fx : Fit 30 x.toNat := by
    have := hx.2
    exact Nat.lt_of_lt_of_le (show x.toNat < W ^ 1 by rw [Nat.pow_one, W_eq]; omega) (Nat.pow_le_pow_right W_pos (by decide))
  have vxl := fx.digV
  have hdx := digits_ev ix (show 1 ≤ 1000000000 by decide)
  rw [vx] at hdx
  refine Ev.succ ?_
  simp only [tallysticklaw06_QuotTimes.j0]
  refine Ev.no (by decide) (Ev.bind (times_ev ia id la ld (by decide) (by decide)) (Ev.bind (Ev.const h1) (Ev.yes (by first | rfl | trivial) (Ev.no (by simp) (Ev.bind (digits_ev ia (by omega)) (Ev.bind (words_dig_ev fa (by decide)) (Ev.bind (sameW_ev fa (by decide)) ?_)))))))
  refine Ev.succ ?_
  simp only [tallysticklaw06_QuotTimes.j1]
  refine Ev.no (by decide) (Ev.bind hdx (Ev.bind (cmp_ev (by omega) (by omega)) ?_))
  by_cases hc : x.toNat < val W d
  · rw [cmpv_lt hc]
    have f2 : Fit 60 (val W a * val W d + x.toNat) := by
      have h2 : val W a * val W d + x.toNat < (val W a + 1) * val W d := by rw [Nat.add_mul, Nat.one_mul]; omega
      exact Nat.lt_of_lt_of_le h2 (by
        rw [show (60 : Nat) = 30 + 30 from rfl, Nat.pow_add]
        exact Nat.mul_le_mul fa (Nat.le_of_lt fd))
    have l2 := f2.dig
    obtain ⟨e1, e2⟩ := div_add_little (A := val W a) hD hc
    have h3 := qdiv_eq (dI (val W a * val W d + x.toNat)) id (by omega) (by omega)
    rw [dV, if_neg h0, e1, e2] at h3
    have hadd := addV_ev (fp.mono (show 30 + 30 ≤ 60 by decide)) (fx.mono (show 30 ≤ 60 by decide)) (by decide)
    refine Ev.no (by decide) (Ev.bind (digits_dig_ev fp (by decide)) (Ev.bind hadd (Ev.bind (words_dig_ev f2 (by decide)) (Ev.bind (Ev.const h3) ?_))))
    refine Ev.yes (by first | rfl | trivial) (Ev.yes (by first | rfl | trivial) (Ev.bind (sameW_ev fa (by decide)) (Ev.yes (by first | rfl | trivial) (Ev.bind (words_dig_ev fx (by decide)) (Ev.bind (sameW_ev fx (by decide)) (Ev.const rfl))))))
  · exact Ev.yes (by unfold cmpv; split <;> (try split) <;> omega) (Ev.const rfl)
theorem QuotTimesUpto (a d : List Int) (x : Int) (_ : a.length ≤ maxLen) (wa : ∀ x ∈ a, (Lit.int .u64 x).wf = true) (_ : a.length * 8 ≤ 140737488351232) (ua : a.length ≤ 1048576)
    (_ : d.length ≤ maxLen) (wd : ∀ x ∈ d, (Lit.int .u64 x).wf = true) (_ : d.length * 8 ≤ 140737488351232) (ud : d.length ≤ 1048576) (wx : (Lit.int .u64 x).wf = true) : ∃ k, tallysticklaw06_QuotTimes.f k a d x = some true := by
  have ia := inB_of_wf wa
  have id := inB_of_wf wd
  have hx := wd_of_wf wx
  refine Ev.get (F := fun k => tallysticklaw06_QuotTimes.f k a d x) ?_
  unfold tallysticklaw06_QuotTimes.f
  refine Ev.bind (Ev.const shown6) (Ev.bind (Ev.const (few6 a d)) (Ev.bind (digits_ev id (by omega)) ?_))
  by_cases h : a.length ≤ 30 ∧ d.length ≤ 30
  · refine Ev.yes (decide_eq_true h) ?_
    by_cases h0 : val W d = 0
    · have hl : (((dig V (val W d)).length : Int) == 0) = true := by rw [h0, dig_zero]; rfl
      rw [hl]
      exact times_out a d x _
    · have hl : (((dig V (val W d)).length : Int) == 0) = false := by
        rw [beq_eq_false_iff_ne]
        exact fun hh => h0 ((len_zero V_gt).1 hh)
      rw [hl]
      exact times_main ia id hx h.1 h.2 h0
  · exact Ev.no (by simpa using h) (times_out a d x _)
end Go.Proofs.Ytofknlpbnpokeaa.Pure
