/- NatMoves: numbers moved up and down, and their lowest bits, are as the document says. -/
import Derived.Test.YtmanafcncccidaaPNatG
import Derived.Test.YtmanafcncccidaaPa6
namespace Go.Proofs.Ytmanafcncccidaa.Pure
open Go.RowKit Go.Proofs.Ytmanafcncccidaa.Pa Go.Proofs.YtmanafcncccidaaW.PrintWords Go.Proofs.YtmanafcncccidaaW.PrintLast Go.Proofs.Ytmanafcncccidaa.Hand Go.Proofs.Ytmanafcncccidaa.Num
set_option linter.unusedVariables false
set_option linter.unusedSimpArgs false

theorem Ev.yes {α : Type} {c : Prop} [Decidable c] {A B : Nat → Option α} {r : α} (h : c) (hA : Ev A r) : Ev (fun k => if c then A k else B k) r := Ev.congr (fun k => if_pos h) hA
theorem Ev.no {α : Type} {c : Prop} [Decidable c] {A B : Nat → Option α} {r : α} (h : ¬ c) (hB : Ev B r) : Ev (fun k => if c then A k else B k) r := Ev.congr (fun k => if_neg h) hB
theorem Fit.digV {k n : Nat} (h : Fit k n) : (Num.dig V n).length ≤ 4 * k := dig_length_le V_gt (by rw [Nat.pow_mul, V_four]; exact h)
theorem dIV (n : Nat) : InB V (dig V n) := dig_inB V_gt n
theorem dVV (n : Nat) : val V (dig V n) = n := val_dig V_gt n
theorem words_dig_ev {n k : Nat} (h : Fit k n) (hk : k ≤ 10000) : Ev (fun k => tallystickref04_Words.f k (dig V n)) (dig W n) := by
  have := words_ev (dIV n) (Nat.le_trans h.digV (show 4 * k ≤ 1000000 by omega))
  rwa [dVV] at this
theorem moves_ev {a : List Int} (ia : InB W a) (ha : a.length ≤ 40) {n : Int} (hn : n ≤ 3000) : Ev (fun k => tallysticklaw04_NatMoves.j1 k a n true ((n.toNat : Nat) : Int)) true := by
  have hN : n.toNat ≤ 3000 := by omega
  have fa := Fit.val ia ha
  have fp : Fit 47 (2 ^ n.toNat) := Fit.pow (by omega)
  have la := fa.digV
  have lp := fp.digV
  have l1 := (fa.le (Nat.div_le_self (val W a) (2 ^ n.toNat))).dig
  have l2 := (fa.le (Nat.mod_le (val W a) (2 ^ n.toNat))).dig
  have l3 := (fa.mul fp).dig
  have hdiv := div_ev (dIV (val W a)) (by omega) (Nat.two_pow_pos n.toNat) (by omega)
  rw [dVV] at hdiv
  have hmul := mul_ev (dIV (val W a)) (dIV (2 ^ n.toNat)) (by omega) (by omega)
  rw [dVV, dVV] at hmul
  refine Ev.succ ?_
  simp only [tallysticklaw04_NatMoves.j1]
  refine Ev.bind (digits_ev ia (by omega)) (Ev.bind (pow_ev hN) (Ev.bind hdiv (Ev.bind (Ev.const (shr_eq ia (by omega) hn)) (Ev.bind (words_dig_ev (fa.le (Nat.div_le_self _ _)) (by decide)) (Ev.bind (same_ev _ (by omega)) (Ev.bind (Ev.const (low_eq ia (by omega) hn)) (Ev.bind (words_dig_ev (fa.le (Nat.mod_le _ _)) (by decide)) (Ev.bind (same_ev _ (by omega)) ?_))))))))
  refine Ev.yes (by first | rfl | trivial) (Ev.yes (by first | rfl | trivial) (Ev.yes (by first | rfl | trivial) ?_))
  exact Ev.bind (Ev.const (shl_eq ia (by omega) hn)) (Ev.bind hmul (Ev.bind (words_dig_ev (fa.mul fp) (by decide)) (Ev.bind (same_ev _ (by omega)) (Ev.const rfl))))
theorem NatMoves : tallysticklaw04_NatMoves.Pure := by
  intro a n _ _ wa wn
  have ia := inB_of_wf wa
  refine Ev.get (F := fun k => tallysticklaw04_NatMoves.f k a n) ?_
  unfold tallysticklaw04_NatMoves.f
  refine Ev.bind (Ev.const shown4) (Ev.bind (Ev.const (few_iff a [])) ?_)
  by_cases h : a.length ≤ 40 ∧ ([] : List Int).length ≤ 40
  · refine Ev.yes (decide_eq_true h) ?_
    by_cases hk : n > 3000
    · rw [decide_eq_true hk]
      exact Ev.succ (Ev.congr (G := fun _ => some true) (fun k => by rw [tallysticklaw04_NatMoves.j0, if_pos rfl]) (Ev.const rfl))
    · rw [decide_eq_false hk]
      have hm := moves_ev ia h.1 (n := n) (by omega)
      by_cases hn : n < 0
      · refine Ev.succ (Ev.congr (fun k => ?_) hm)
        rw [tallysticklaw04_NatMoves.j0, if_neg (by decide), if_pos hn, show ((n.toNat : Nat) : Int) = 0 by omega]
      · refine Ev.succ (Ev.congr (fun k => ?_) hm)
        rw [tallysticklaw04_NatMoves.j0, if_neg (by decide), if_neg hn, show ((n.toNat : Nat) : Int) = n by omega]
  · refine Ev.no (by simpa using h) ?_
    exact Ev.succ (Ev.congr (G := fun _ => some true) (fun k => by rw [tallysticklaw04_NatMoves.j0, if_pos rfl]) (Ev.const rfl))
end Go.Proofs.Ytmanafcncccidaa.Pure
