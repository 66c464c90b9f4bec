/- RootRises: a greater number's root isn't less; four times a number's is twice the root, or 1 more. -/
import Derived.Test.YtcgcffnhlafneaaPRootS
import Derived.Test.YtcgcffnhlafneaaPa9
namespace Go.Proofs.Ytcgcffnhlafneaa.Pure
open Go.RowKit Go.Proofs.Ytcgcffnhlafneaa.Pa Go.Proofs.YtcgcffnhlafneaaW.PrintWords Go.Proofs.YtcgcffnhlafneaaW.PrintLast Go.Proofs.Ytcgcffnhlafneaa.Hand Go.Proofs.Ytcgcffnhlafneaa.Num
set_option linter.unusedVariables false
set_option linter.unusedSimpArgs false

theorem four_digit : ([4] : List Int) = dig V 4 := by decide +kernel
theorem one_digit : ([1] : List Int) = dig V 1 := by decide +kernel
theorem isq_four (n : Nat) : isq (n * 4) = isq n * 2 ∨ isq (n * 4) = isq n * 2 + 1 := by
  obtain ⟨h1, h2⟩ := isq_spec n
  obtain ⟨g1, g2⟩ := isq_spec (n * 4)
  have a1 : isq n * 2 ≤ isq (n * 4) := isq_ge.1 (by rw [Nat.mul_mul_mul_comm]; omega)
  have a2 : isq (n * 4) < (isq n + 1) * 2 := by
    rcases Nat.lt_or_ge (isq (n * 4)) ((isq n + 1) * 2) with h | h
    · exact h
    · have h3 := Nat.mul_le_mul h h
      rw [Nat.mul_mul_mul_comm] at h3
      omega
  omega
theorem rises_out (a b : List Int) : Ev (fun k => tallysticklaw12_RootRises.j0 k a b true true) true := by
  refine Ev.succ ?_
  simp only [tallysticklaw12_RootRises.j0]
  exact Ev.yes (by first | rfl | trivial) (Ev.const rfl)
theorem rises_main {a b : List Int} (ia : InB W a) (ib : InB W b) (la : a.length ≤ 20) (lb : b.length ≤ 20) : Ev (fun k => tallysticklaw12_RootRises.j0 k a b true false) true := by
  have fa := Fit.val ia la
  have fb := Fit.val ib lb
  have fs := fa.isq
  have hsq := sqrt_eq ia (by omega)
  have hda := digits_ev ia (show a.length ≤ 1000000000 by omega)
  have hdb := digits_ev ib (show b.length ≤ 1000000000 by omega)
  have f21 : ∀ n, n < W → Fit 21 n := fun n h => Nat.lt_of_lt_of_le (show n < W ^ 1 by rwa [Nat.pow_one]) (Nat.pow_le_pow_right W_pos (by decide))
  have fsum := fa.add fb
  have ffour := fa.mul (f21 4 (by decide))
  have ft := fsum.isq
  have fg := ffour.isq
  have ls := fsum.dig
  have lf := ffour.dig
  have hs2 := sqrt_eq (dI (val W a + val W b)) (by omega)
  have hs4 := sqrt_eq (dI (val W a * 4)) (by omega)
  rw [dV] at hs2 hs4
  have hm4 := mulV_ev (fa.mono (show 20 ≤ 21 by decide)) (f21 4 (by decide)) (by decide)
  rw [← four_digit] at hm4
  have g1 : isq (val W a) ≤ isq (val W a + val W b) := isq_mono (Nat.le_add_right _ _)
  have g2 := isq_four (val W a)
  have hadd1 := addV_ev fa fb (by decide)
  have hw1 := words_dig_ev fsum (by decide)
  have hw4 := words_dig_ev ffour (by decide)
  generalize isq (val W a + val W b) = t at *
  generalize isq (val W a * 4) = g at *
  generalize isq (val W a) = s at *
  have fd := (fs.mono (show 20 ≤ 21 by decide)).mul (f21 2 (by decide))
  have hm2 := mulV_ev (fs.mono (show 20 ≤ 21 by decide)) (f21 2 (by decide)) (by decide)
  rw [← two_digit] at hm2
  have f1 : Fit 42 1 := (f21 1 (by decide)).mono (by decide)
  have fd1 := (fd.mono (show 21 + 21 ≤ 42 by decide)).add f1
  have hadd := addV_ev (fd.mono (show 21 + 21 ≤ 42 by decide)) f1 (by decide)
  rw [← one_digit] at hadd
  have l1 := ft.digV
  have l2 := fs.digV
  have l3 := fg.digV
  have l4 := fd.digV
  have l5 := fd1.digV
  have c1 : cmpv t s ≥ 0 := by unfold cmpv; split <;> (try split) <;> omega
  refine Ev.succ ?_
  simp only [tallysticklaw12_RootRises.j0]
  refine Ev.no (by decide) (Ev.bind hda (Ev.bind hdb (Ev.bind hadd1 (Ev.bind (Ev.const hsq) (Ev.bind hw1 (Ev.bind (Ev.const hs2) (Ev.bind hm4 (Ev.bind hw4 (Ev.bind (Ev.const hs4) (Ev.bind (digits_dig_ev fs (by decide)) (Ev.bind hm2 (Ev.bind (digits_dig_ev fg (by decide)) ?_))))))))))))
  refine Ev.yes (by first | rfl | trivial) (Ev.bind (digits_dig_ev ft (by decide)) (Ev.bind (digits_dig_ev fs (by decide)) (Ev.bind (cmp_ev (by omega) (by omega)) (Ev.yes c1 (Ev.bind (cmp_ev (by omega) (by omega)) ?_)))))
  rcases g2 with h | h
  · rw [h, cmpv_eq]
    exact Ev.yes (by first | rfl | trivial) (Ev.const rfl)
  · have c2 : cmpv g (s * 2) = 1 := cmpv_gt (by omega)
    rw [c2]
    refine Ev.no (by decide) (Ev.bind hadd (Ev.bind (cmp_ev (by omega) (by omega)) (Ev.const ?_)))
    rw [h, cmpv_eq]; rfl
theorem RootRises : tallysticklaw12_RootRises.Pure := by
  intro a b _ _ wa _ _ wb
  have ia := inB_of_wf wa
  have ib := inB_of_wf wb
  refine Ev.get (F := fun k => tallysticklaw12_RootRises.f k a b) ?_
  unfold tallysticklaw12_RootRises.f
  refine Ev.bind (Ev.const shown12) ?_
  by_cases h1 : (a.length : Int) > 20
  · exact Ev.yes h1 (rises_out a b)
  · refine Ev.no h1 ?_
    by_cases h2 : (b.length : Int) > 20
    · rw [decide_eq_true h2]; exact rises_out a b
    · rw [decide_eq_false h2]; exact rises_main ia ib (by omega) (by omega)
end Go.Proofs.Ytcgcffnhlafneaa.Pure
