/- What the laws of prod reckon with, in plain numbers. -/
import Derived.Test.YtgoglfojjpibnaaPNatG
import Derived.Test.YtgoglfojjpibnaaPa1
import Derived.Test.YtgoglfojjpibnaaPa3
import Derived.Test.YtgoglfojjpibnaaPa4
import Derived.Test.YtgoglfojjpibnaaPa5
namespace Go.Proofs.Ytgoglfojjpibnaa.Pure
open Go.RowKit Go.Proofs.Ytgoglfojjpibnaa.Pa Go.Proofs.YtgoglfojjpibnaaW.PrintWords Go.Proofs.YtgoglfojjpibnaaW.PrintLast Go.Proofs.Ytgoglfojjpibnaa.Hand Go.Proofs.Ytgoglfojjpibnaa.Num
set_option linter.unusedVariables false
set_option linter.unusedSimpArgs false

theorem Ev.yes {α : Type} {c : Prop} [Decidable c] {A B : Nat → Option α} {r : α} (h : c) (hA : Ev A r) : Ev (fun k => if c then A k else B k) r := Ev.congr (fun k => if_pos h) hA
theorem Ev.no {α : Type} {c : Prop} [Decidable c] {A B : Nat → Option α} {r : α} (h : ¬ c) (hB : Ev B r) : Ev (fun k => if c then A k else B k) r := Ev.congr (fun k => if_neg h) hB
theorem Fit.digV {k n : Nat} (h : Fit k n) : (Num.dig V n).length ≤ 4 * k := dig_length_le V_gt (by rw [Nat.pow_mul, V_four]; exact h)
theorem dIV (n : Nat) : InB V (dig V n) := dig_inB V_gt n
theorem dVV (n : Nat) : val V (dig V n) = n := val_dig V_gt n
theorem words_dig_ev {n k : Nat} (h : Fit k n) (hk : k ≤ 10000) : Ev (fun k => tallystickref04_Words.f k (dig V n)) (dig W n) := by
  have := words_ev (dIV n) (Nat.le_trans h.digV (show 4 * k ≤ 1000000 by omega))
  rwa [dVV] at this
theorem digits_dig_ev {n k : Nat} (h : Fit k n) (hk : k ≤ 10000) : Ev (fun k => tallystickref04_Digits.f k (dig W n)) (dig V n) := by
  have := digits_ev (dI n) (Nat.le_trans h.dig (show k ≤ 1000000 by omega))
  rwa [dV] at this
theorem addV_ev {m n k : Nat} (hm : Fit k m) (hn : Fit k n) (hk : k ≤ 10000) : Ev (fun k => tallystickref04_Add.f k (dig V m) (dig V n)) (dig V (m + n)) := by
  have lm := hm.digV
  have ln := hn.digV
  have h := add_ev (dIV m) (dIV n) (max (dig V m).length (dig V n).length) (Nat.le_max_left _ _) (Nat.le_max_right _ _) (by omega) (by omega) _ 0 [] 0 (Nat.zero_add _) (inB_nil _) rfl (by omega) rfl
  rw [dVV, dVV] at h
  exact h
theorem mulV_ev {m n k : Nat} (hm : Fit k m) (hn : Fit k n) (hk : k ≤ 10000) : Ev (fun k => tallystickref04_Mul.f k (dig V m) (dig V n)) (dig V (m * n)) := by
  have lm := hm.digV
  have ln := hn.digV
  have h := mul_ev (dIV m) (dIV n) (by omega) (by omega)
  rwa [dVV, dVV] at h
theorem trimV_ev {n k : Nat} (hn : Fit k n) (hk : k ≤ 10000) : Ev (fun k => tallystickref04_Trim.f k (dig V n)) (dig V n) := by
  have ln := hn.digV
  have h := trim_ev (dIV n) (by omega)
  rwa [dVV] at h
theorem sameW_ev {n k : Nat} (h : Fit k n) (hk : k ≤ 10000) : Ev (fun k => tallystickref04_Same.f k (dig W n) (dig W n)) true := same_ev _ (by have := h.dig; omega)
theorem shown5 : tallysticklaw05_shown.f = some true := by decide +kernel
theorem few5 (a b : List Int) : tallysticklaw05_few.f a b = some (decide (a.length ≤ 40 ∧ b.length ≤ 40)) := by
  unfold tallysticklaw05_few.f
  by_cases h : a.length ≤ 40
  · rw [if_pos (by omega)]
    congr 1
    rw [decide_eq_decide]
    omega
  · rw [if_neg (by omega)]
    congr 1
    rw [eq_comm, decide_eq_false_iff_not]
    omega
theorem school_eq {a b : List Int} (ha : InB W a) (hb : InB W b) (la : a.length ≤ 1000) (lb : b.length ≤ 1000) : prod_School.f a b = some (dig W (val W a * val W b)) := by
  unfold prod_School.f PLIM; rw [if_pos ⟨inb_of ha, inb_of hb, by omega, by omega⟩]
theorem mac_eq {a b : List Int} {x n : Int} (ha : InB W a) (hb : InB W b) (hx : Wd x) (la : a.length ≤ 1000) (lb : b.length ≤ 1000) (hn : n ≤ 1000) : prod_Mac.f a b x n = some (dig W (val W a + val W b * x.toNat * W ^ n.toNat)) := by
  unfold prod_Mac.f MLIM; rw [if_pos ⟨inb_of ha, inb_of hb, wd_iff.2 hx, by omega, by omega, by omega⟩]
theorem half_eq {a : List Int} (ha : InB W a) (n : Int) : prod_Half.f a n = some (dig W (val W a / W ^ n.toNat), dig W (val W a % W ^ n.toNat)) := by
  unfold prod_Half.f; rw [if_pos (inb_of ha)]
theorem Fit.powW {n k : Nat} (h : n < k) : Fit k (W ^ n) := Nat.pow_lt_pow_right W_gt h
theorem times_ev {a b : List Int} {j k : Nat} (ia : InB W a) (ib : InB W b) (ha : a.length ≤ j) (hb : b.length ≤ k) (hj : j ≤ 2000) (hk : k ≤ 2000) : Ev (fun k => tallystickref05_Times.f k a b) (dig W (val W a * val W b)) := by
  have fa := Fit.val ia ha
  have fb := Fit.val ib hb
  unfold tallystickref05_Times.f
  exact Ev.bind (digits_ev ia (by omega)) (Ev.bind (digits_ev ib (by omega)) (Ev.bind (mulV_ev (fa.mono (Nat.le_max_left j k)) (fb.mono (Nat.le_max_right j k)) (by omega)) (Ev.bind (words_dig_ev (fa.mul fb) (by omega)) (Ev.const rfl))))
end Go.Proofs.Ytgoglfojjpibnaa.Pure
