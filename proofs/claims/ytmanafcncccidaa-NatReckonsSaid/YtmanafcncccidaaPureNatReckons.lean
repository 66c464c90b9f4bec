/- NatReckons: numbers in order, which is above, sums, differences, products with a word, how many bits, are as the document says. -/
import Derived.Test.YtmanafcncccidaaPNatF
import Derived.Test.YtmanafcncccidaaPa11
namespace Go.Proofs.Ytmanafcncccidaa.Pure
open Go.RowKit Go.Proofs.Ytmanafcncccidaa.Pa Go.Proofs.YtmanafcncccidaaW.PrintWords Go.Proofs.YtmanafcncccidaaW.PrintLast Go.Proofs.Ytmanafcncccidaa.Hand Go.Proofs.Ytmanafcncccidaa.Num
set_option linter.unusedVariables false
set_option linter.unusedSimpArgs false

theorem Ev.yes {α : Type} {c : Prop} [Decidable c] {A B : Nat → Option α} {r : α} (h : c) (hA : Ev A r) : Ev (fun k => if c then A k else B k) r := Ev.congr (fun k => if_pos h) hA
theorem Ev.no {α : Type} {c : Prop} [Decidable c] {A B : Nat → Option α} {r : α} (h : ¬ c) (hB : Ev B r) : Ev (fun k => if c then A k else B k) r := Ev.congr (fun k => if_neg h) hB
theorem Fit.digV {k n : Nat} (h : Fit k n) : (Num.dig V n).length ≤ 4 * k := dig_length_le V_gt (by rw [Nat.pow_mul, V_four]; exact h)
theorem dIV (n : Nat) : InB V (dig V n) := dig_inB V_gt n
theorem dVV (n : Nat) : val V (dig V n) = n := val_dig V_gt n
theorem words_dig_ev {n k : Nat} (h : Fit k n) (hk : k ≤ 10000) : Ev (fun k => tallystickref04_Words.f k (dig V n)) (dig W n) := by
  have := words_ev (dIV n) (Nat.le_trans h.digV (show 4 * k ≤ 1000000 by omega))
  rwa [dVV] at this
theorem less_ev {a b : List Int} (ia : InB W a) (ib : InB W b) (ha : a.length ≤ 40) (hb : b.length ≤ 40) : Ev (fun k => tallystickref04_Less.f k a b) (if val W a < val W b then [] else dig W (val W a - val W b), if val W a < val W b then 3 else 0) := by
  have fa := Fit.val ia ha
  have fb := Fit.val ib hb
  have la := fa.digV
  have lb := fb.digV
  unfold tallystickref04_Less.f
  refine Ev.bind (digits_ev ia (by omega)) (Ev.bind (digits_ev ib (by omega)) (Ev.bind (cmp_ev (by omega) (by omega)) ?_))
  by_cases c : val W a < val W b
  · rw [if_pos c, if_pos c, cmpv_lt c]
    exact Ev.yes (by decide) (Ev.const rfl)
  · rw [if_neg c, if_neg c]
    refine Ev.no ?_ ?_
    · rcases Nat.lt_or_ge (val W b) (val W a) with d | d
      · rw [cmpv_gt d]; decide
      · rw [show val W a = val W b by omega, cmpv_eq]; decide
    · have hs := sub_f_ev (dIV (val W a)) (dIV (val W b)) (by omega) (by
        rcases Nat.lt_or_ge (dig V (val W a)).length (dig V (val W b)).length with d | d
        · have := dig_len_lt d; omega
        · exact d) (by rw [dVV, dVV]; omega)
      rw [dVV, dVV] at hs
      exact Ev.bind hs (Ev.bind (words_dig_ev (fa.le (Nat.sub_le _ _)) (by decide)) (Ev.const rfl))
theorem NatReckons : tallysticklaw04_NatReckons.Pure := by
  intro a b x _ _ wa _ _ wb wx
  have ia := inB_of_wf wa
  have ib := inB_of_wf wb
  have hx : Wd x := by have := bounds_u64 wx; unfold Wd; omega
  refine Ev.get (F := fun k => tallysticklaw04_NatReckons.f k a b x) ?_
  unfold tallysticklaw04_NatReckons.f
  refine Ev.bind (Ev.const shown4) (Ev.bind (Ev.const (few_iff a b)) ?_)
  by_cases h : a.length ≤ 40 ∧ b.length ≤ 40
  · refine Ev.yes (decide_eq_true h) ?_
    have fa := Fit.val ia h.1
    have fb := Fit.val ib h.2
    have la := fa.digV
    have lb := fb.digV
    have lw := fa.dig
    have ls := (fa.add fb).dig
    have ld := (fa.le (Nat.sub_le (val W a) (val W b))).dig
    have fx : Fit 1 x.toNat := by unfold Fit; rw [Nat.pow_one, W_eq]; have := hx.2; have := hx.1; omega
    have lp := (fa.mul fx).dig
    have ix : InB W [x] := inB_cons.2 ⟨wd_inb hx, inB_nil _⟩
    have vx : val W [x] = x.toNat := by simp [val]
    have hadd := add_ev (dIV (val W a)) (dIV (val W b)) (max (dig V (val W a)).length (dig V (val W b)).length) (Nat.le_max_left _ _) (Nat.le_max_right _ _) (by omega) (by omega) _ 0 [] 0 (Nat.zero_add _) (inB_nil _) rfl (by omega) rfl
    rw [dVV, dVV] at hadd
    have hmul := mul_ev (dIV (val W a)) (dIV x.toNat) (by omega) (Nat.le_trans fx.digV (show 4 * 1 ≤ 100000 by decide))
    rw [dVV, dVV] at hmul
    have hdx := digits_ev ix (show [x].length ≤ 1000000 by simp)
    rw [vx] at hdx
    have sd : Ev (fun k => tallystickref04_Same.f k (if val W a < val W b then [] else dig W (val W a - val W b)) (if val W a < val W b then [] else dig W (val W a - val W b))) true := same_ev _ (by
      split
      · exact Nat.zero_le _
      · omega)
    refine Ev.bind (digits_ev ia (by omega)) (Ev.bind (digits_ev ib (by omega)) (Ev.bind (Ev.const (sub_eq' ia ib (by omega) (by omega))) (Ev.bind (less_ev ia ib h.1 h.2) (Ev.bind (Ev.const (norm_eq ia)) (Ev.bind (words_dig_ev fa (by decide)) (Ev.bind (same_ev _ (by omega)) (Ev.bind (Ev.const (add_eq ia ib (by omega) (by omega))) (Ev.bind hadd (Ev.bind (words_dig_ev (fa.add fb) (by decide)) (Ev.bind (same_ev _ (by omega)) (Ev.bind sd ?_)))))))))))
    refine Ev.yes rfl ?_
    have hbeq : ((if val W a < val W b then (3 : Int) else 0) == (if val W a < val W b then (3 : Int) else 0)) = true := beq_self_eq_true _
    refine Ev.succ ?_
    simp only [tallysticklaw04_NatReckons.j0]
    refine Ev.bind (Ev.const (scale_eq ia hx (by omega))) (Ev.bind hdx (Ev.bind hmul (Ev.bind (words_dig_ev (fa.mul fx) (by decide)) (Ev.bind (same_ev _ (by omega)) ?_))))
    refine Ev.yes (by first | rfl | trivial) (Ev.yes (by first | rfl | trivial) (Ev.yes (by first | rfl | trivial) (Ev.yes hbeq (Ev.yes (by first | rfl | trivial) ?_))))
    refine Ev.bind (Ev.const (cmp_eq ia ib)) (Ev.bind (cmp_ev (by omega) (by omega)) (Ev.yes rfl ?_))
    refine Ev.bind (Ev.const (len_eq ia (by omega))) (Ev.bind (bits_ev (by omega)) (Ev.const ?_))
    rw [beq_self_eq_true]
  · exact Ev.no (by simpa using h) (Ev.const rfl)
end Go.Proofs.Ytmanafcncccidaa.Pure
