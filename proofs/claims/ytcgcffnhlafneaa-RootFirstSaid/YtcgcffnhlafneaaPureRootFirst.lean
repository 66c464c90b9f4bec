/- RootFirst: where steps begin isn't below the root, and below twice the root and 2. -/
import Derived.Test.YtcgcffnhlafneaaPRootA
import Derived.Test.YtcgcffnhlafneaaPa10
namespace Go.Proofs.Ytcgcffnhlafneaa.Pure
open Go.RowKit Go.Proofs.Ytcgcffnhlafneaa.Pa Go.Proofs.YtcgcffnhlafneaaW.PrintWords Go.Proofs.YtcgcffnhlafneaaW.PrintLast Go.Proofs.Ytcgcffnhlafneaa.Hand Go.Proofs.Ytcgcffnhlafneaa.Num
set_option linter.unusedVariables false
set_option linter.unusedSimpArgs false

theorem rfirst_le (n : Nat) : rfirst n ≤ 2 * isq n + 2 := by
  unfold rfirst
  rcases Nat.eq_zero_or_pos (bl n) with h | h
  · rw [h]; exact Nat.le_trans (show 2 ^ ((0 + 1) / 2) ≤ 2 by decide) (Nat.le_add_left _ _)
  · have h1 : 2 ^ (bl n - 1) ≤ n := by
      rcases Nat.lt_or_ge n (2 ^ (bl n - 1)) with g | g
      · have := bl_le.2 g; omega
      · exact g
    obtain ⟨M, hM⟩ : ∃ M, (bl n + 1) / 2 = M + 1 := ⟨(bl n + 1) / 2 - 1, by omega⟩
    have h2 : 2 ^ M * 2 ^ M ≤ n := by
      rw [← Nat.pow_add]
      exact Nat.le_trans (Nat.pow_le_pow_right (by decide) (by omega)) h1
    have h3 := isq_ge.1 h2
    rw [hM, Nat.pow_succ]
    omega
theorem RootFirst : tallysticklaw12_RootFirst.Pure := by
  intro a _ _ wa
  have ia := inB_of_wf wa
  refine Ev.get (F := fun k => tallysticklaw12_RootFirst.f k a) ?_
  unfold tallysticklaw12_RootFirst.f
  refine Ev.bind (Ev.const shown12) ?_
  by_cases h1 : (a.length : Int) > 20
  · exact Ev.yes h1 (Ev.const rfl)
  · have la : a.length ≤ 20 := by omega
    have fa := Fit.val ia la
    have fs := fa.isq
    have ff := rfirst_fit fa (by decide)
    have g1 := rfirst_ge (val W a)
    have g2 := rfirst_le (val W a)
    have hsq := sqrt_eq ia (by omega)
    have hfi := first_eq ia (by omega)
    generalize rfirst (val W a) = f at *
    generalize isq (val W a) = s at *
    have f2 : Fit 21 2 := Nat.lt_of_lt_of_le (show 2 < W ^ 1 by decide) (Nat.pow_le_pow_right W_pos (by decide))
    have fss := fs.add fs
    have fsum := fss.add f2
    have l1 := ff.digV
    have l2 := fs.digV
    have l3 := fsum.digV
    have hadd := addV_ev fss f2 (by decide)
    rw [← two_digit] at hadd
    have c1 : cmpv f s ≥ 0 := by unfold cmpv; split <;> (try split) <;> omega
    have c2 : cmpv f (s + s + 2) ≤ 0 := by unfold cmpv; split <;> (try split) <;> omega
    exact Ev.no h1 (Ev.bind (Ev.const hsq) (Ev.bind (digits_dig_ev fs (by decide)) (Ev.bind (Ev.const hfi) (Ev.bind (digits_dig_ev ff (by decide)) (Ev.yes (by first | rfl | trivial) (Ev.bind (cmp_ev (by omega) (by omega)) (Ev.yes c1 (Ev.bind (addV_ev fs fs (by decide)) (Ev.bind hadd (Ev.bind (cmp_ev (by omega) (by omega)) (Ev.const (by rw [decide_eq_true c2])))))))))))) 
end Go.Proofs.Ytcgcffnhlafneaa.Pure
