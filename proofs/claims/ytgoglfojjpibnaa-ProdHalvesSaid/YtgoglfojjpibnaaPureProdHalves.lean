/- ProdHalves: a number's halves are together the number; the lower one has no more words than was asked for. -/
import Derived.Test.YtgoglfojjpibnaaPProdA
import Derived.Test.YtgoglfojjpibnaaPa8
namespace Go.Proofs.Ytgoglfojjpibnaa.Pure
open Go.RowKit Go.Proofs.Ytgoglfojjpibnaa.Pa Go.Proofs.YtgoglfojjpibnaaW.PrintWords Go.Proofs.YtgoglfojjpibnaaW.PrintLast Go.Proofs.Ytgoglfojjpibnaa.Hand Go.Proofs.Ytgoglfojjpibnaa.Num
set_option linter.unusedVariables false
set_option linter.unusedSimpArgs false

theorem w_64n (n : Nat) (h : n ≤ 100000) : wrap64 (64 * (n : Int)) = ((64 * n : Nat) : Int) := w_nat (64 * n) (by omega)
theorem halves_ev {a : List Int} (ia : InB W a) (ha : a.length ≤ 40) {n : Nat} (hn : n ≤ 60) : Ev (fun k => tallysticklaw05_ProdHalves.j0 k a (n : Int) true false) true := by
  have fa := Fit.val ia ha
  have fh := fa.le (Nat.div_le_self (val W a) (W ^ n))
  have fl := fa.le (Nat.mod_le (val W a) (W ^ n))
  have fp : Fit 61 (W ^ n) := Fit.powW (by omega)
  have hh := half_eq ia (n : Int)
  rw [Int.toNat_natCast] at hh
  have ll : (dig W (val W a % W ^ n)).length ≤ n := dig_length_le W_gt (Nat.mod_lt _ (Nat.pow_pos W_pos))
  have hp := pow_ev (n := 64 * n) (by omega)
  rw [← W_pow] at hp
  have e : val W a / W ^ n * W ^ n + val W a % W ^ n = val W a := by rw [Nat.mul_comm]; exact Nat.div_add_mod _ _
  have fm := fh.mul fp
  have hc := cmp_ev (m := val W a / W ^ n * W ^ n + val W a % W ^ n) (n := val W a) (by rw [e]; have := fa.digV; omega) (by have := fa.digV; omega)
  rw [e, cmpv_eq] at hc
  have hadd := addV_ev (k := 101) (fm.mono (by decide)) (fl.mono (by decide)) (by decide)
  rw [e] at hadd
  refine Ev.succ ?_
  simp only [tallysticklaw05_ProdHalves.j0, w_64n n (show n ≤ 100000 by omega)]
  refine Ev.no (by decide) (Ev.bind (Ev.const hh) (Ev.bind (digits_dig_ev fh (by decide)) (Ev.bind hp (Ev.bind (trimV_ev fp (by decide)) (Ev.bind (mulV_ev (fh.mono (by decide)) fp (by decide)) ?_)))))
  refine Ev.yes (by first | rfl | trivial) (Ev.yes (Int.ofNat_le.2 ll) ?_)
  exact Ev.bind (digits_dig_ev fl (by decide)) (Ev.bind hadd (Ev.bind (digits_ev ia (by omega)) (Ev.bind hc (Ev.const rfl))))
theorem ProdHalves : tallysticklaw05_ProdHalves.Pure := by
  intro a n _ _ wa wn
  have ia := inB_of_wf wa
  refine Ev.get (F := fun k => tallysticklaw05_ProdHalves.f k a n) ?_
  unfold tallysticklaw05_ProdHalves.f
  have hno : Ev (fun k => tallysticklaw05_ProdHalves.j0 k a n true true) true := Ev.succ (Ev.congr (G := fun _ => some true) (fun k => by rw [tallysticklaw05_ProdHalves.j0, if_pos rfl]) (Ev.const rfl))
  refine Ev.bind (Ev.const shown5) (Ev.bind (Ev.const (few5 a [])) ?_)
  by_cases h : a.length ≤ 40 ∧ ([] : List Int).length ≤ 40
  · refine Ev.yes (decide_eq_true h) ?_
    by_cases h1 : n < 0
    · exact Ev.yes h1 hno
    · refine Ev.no h1 ?_
      by_cases h2 : n > 60
      · rw [decide_eq_true h2]; exact hno
      · rw [decide_eq_false h2]
        obtain ⟨n, rfl⟩ := Int.eq_ofNat_of_zero_le (show 0 ≤ n by omega)
        exact halves_ev ia h.1 (by omega)
  · exact Ev.no (by simpa using h) hno
end Go.Proofs.Ytgoglfojjpibnaa.Pure
