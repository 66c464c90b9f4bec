/- Facts under the laws of roots: what the functions and the document answer. -/
import Derived.Test.YtcgcffnhlafneaaPQuotA
import Derived.Test.YtcgcffnhlafneaaHRootB
import Derived.Test.YtcgcffnhlafneaaPa5
import Derived.Test.YtcgcffnhlafneaaPa4
import Derived.Test.YtcgcffnhlafneaaPa5
import Derived.Test.YtcgcffnhlafneaaPa5
import Derived.Test.YtcgcffnhlafneaaPa1
namespace Go.Proofs.Ytcgcffnhlafneaa.Pure
open Go.RowKit Go.Proofs.Ytcgcffnhlafneaa.Pa Go.Proofs.YtcgcffnhlafneaaW.PrintWords Go.Proofs.YtcgcffnhlafneaaW.PrintLast Go.Proofs.Ytcgcffnhlafneaa.Hand Go.Proofs.Ytcgcffnhlafneaa.Num
set_option linter.unusedVariables false
set_option linter.unusedSimpArgs false

theorem sqrt_eq {a : List Int} (ha : InB W a) (la : a.length ≤ 1000) : root_Sqrt.f a = some (dig W (isq (val W a)), dig W (val W a - isq (val W a) * isq (val W a))) := by
  unfold root_Sqrt.f RLIM; rw [if_pos ⟨inb_of ha, by omega⟩]
theorem first_eq {a : List Int} (ha : InB W a) (la : a.length ≤ 1000) : root_First.f a = some (dig W (rfirst (val W a))) := by
  unfold root_First.f PLIM; rw [if_pos ⟨inb_of ha, by omega⟩]
theorem step_eq {x a : List Int} (hx : InB W x) (ha : InB W a) (lx : x.length ≤ 1000) (la : a.length ≤ 1000) : root_Step.f x a = some (if val W x = 0 then ([], 2) else (dig W (rstep (val W x) (val W a)), 0)) := by
  unfold root_Step.f PLIM; rw [if_pos ⟨inb_of hx, inb_of ha, by omega, by omega⟩]
theorem isq_ten : isq 10 = 3 := isq_of (by decide) (by decide)
theorem shown12 : tallysticklaw12_shown.f = some true := by
  unfold tallysticklaw12_shown.f
  have h10 : val W [(10 : Int)] = 10 := by decide +kernel
  rw [sqrt_eq (a := [10]) (inB_cons.2 ⟨by rw [W_eq]; omega, inB_nil _⟩) (by decide), h10, isq_ten]
  decide +kernel
theorem Fit.isq {k n : Nat} (h : Fit k n) : Fit k (Hand.isq n) := h.le (isq_le_self n)
theorem isq_ge {n y : Nat} : y * y ≤ n ↔ y ≤ isq n := by
  constructor
  · intro h
    rcases Nat.lt_or_ge (isq n) y with h1 | h1
    · have := Nat.mul_le_mul (show isq n + 1 ≤ y from h1) (show isq n + 1 ≤ y from h1)
      have := (isq_spec n).2
      omega
    · exact h1
  · intro h
    exact Nat.le_trans (Nat.mul_le_mul h h) (isq_spec n).1
theorem bit_even {s p : Nat} (hp : 0 < p) (h : s / (p * 2) * (p * 2) + p ≤ s) : s / p * p = s / (p * 2) * (p * 2) + p := by
  rw [← Nat.div_div_eq_div_mul] at h ⊢
  have h1 : s / p / 2 * (p * 2) = s / p / 2 * 2 * p := by rw [Nat.mul_assoc, Nat.mul_comm 2 p]
  rw [h1] at h ⊢
  have h2 : s / p / 2 * 2 * p + p = (s / p / 2 * 2 + 1) * p := by rw [Nat.add_mul, Nat.one_mul]
  rw [h2] at h ⊢
  have h3 : s / p / 2 * 2 + 1 ≤ s / p := (Nat.le_div_iff_mul_le hp).2 h
  rw [show s / p / 2 * 2 + 1 = s / p by omega]
theorem bit_odd {s p : Nat} (hp : 0 < p) (h : ¬ s / (p * 2) * (p * 2) + p ≤ s) : s / p * p = s / (p * 2) * (p * 2) := by
  rw [← Nat.div_div_eq_div_mul] at h ⊢
  have h1 : s / p / 2 * (p * 2) = s / p / 2 * 2 * p := by rw [Nat.mul_assoc, Nat.mul_comm 2 p]
  rw [h1] at h ⊢
  have h2 : s / p / 2 * 2 * p + p = (s / p / 2 * 2 + 1) * p := by rw [Nat.add_mul, Nat.one_mul]
  rw [h2] at h
  have h3 : ¬ s / p / 2 * 2 + 1 ≤ s / p := fun g => h ((Nat.le_div_iff_mul_le hp).1 g)
  rw [show s / p / 2 * 2 = s / p by omega]
theorem w_less (j : Nat) (h : j ≤ 17592186044416) : wrap64 ((j : Int) - 1) = (j : Int) - 1 := IntWalk.wrap64_in _ (by omega)
theorem rroot_loop {n K : Nat} (hn : Fit K n) (hK : K ≤ 100) : ∀ j, j ≤ 64 * K + 2 → Ev (fun k => tallystickref12_root.l0 k (dig V n) (dig V (isq n / 2 ^ j * 2 ^ j)) ((j : Int) - 1)) (dig V (isq n)) := by
  intro j
  induction j with
  | zero =>
    intro _
    refine Ev.succ ?_
    simp only [tallystickref12_root.l0]
    exact Ev.no (by omega) (Ev.const (by rw [Nat.pow_zero, Nat.div_one, Nat.mul_one]))
  | succ j ih =>
    intro hj
    have ih := ih (by omega)
    have hp : 0 < 2 ^ j := Nat.pow_pos (by decide)
    have fp : Fit (K + 1) (2 ^ j) := Fit.pow (by omega)
    have fx : Fit (K + 1) (isq n / (2 ^ j * 2) * (2 ^ j * 2)) := (hn.isq.le (Nat.div_mul_le_self _ _)).mono (by omega)
    have fy := fx.add fp
    have fyy := fy.mul fy
    have l1 := fyy.digV
    have l2 := hn.digV
    have hadd := addV_ev fx fp (by omega)
    have hmul := mulV_ev fy fy (by omega)
    have hcmp := cmp_ev (m := (isq n / (2 ^ j * 2) * (2 ^ j * 2) + 2 ^ j) * (isq n / (2 ^ j * 2) * (2 ^ j * 2) + 2 ^ j)) (n := n) (by omega) (by omega)
    rw [Nat.pow_succ, show ((j + 1 : Nat) : Int) - 1 = (j : Int) by omega]
    refine Ev.succ ?_
    simp only [tallystickref12_root.l0]
    rw [w_less j (by omega)]
    refine Ev.yes (by omega) (Ev.bind (pow_ev (by omega)) (Ev.bind (trimV_ev fp (by omega)) (Ev.bind hadd (Ev.bind hmul (Ev.bind hcmp ?_)))))
    by_cases hy : (isq n / (2 ^ j * 2) * (2 ^ j * 2) + 2 ^ j) * (isq n / (2 ^ j * 2) * (2 ^ j * 2) + 2 ^ j) ≤ n
    · refine Ev.yes (by unfold cmpv; split <;> (try split) <;> omega) ?_
      rw [← bit_even hp (isq_ge.1 hy)]
      exact ih
    · refine Ev.no (by unfold cmpv; split <;> (try split) <;> omega) ?_
      rw [← bit_odd hp (fun h => hy (isq_ge.2 h))]
      exact ih
theorem isq_bits {n : Nat} : isq n < 2 ^ (bl n / 2 + 2) := by
  rcases Nat.lt_or_ge (isq n) (2 ^ (bl n / 2 + 2)) with h | h
  · exact h
  · have h1 := Nat.mul_le_mul h h
    rw [← Nat.pow_add] at h1
    have h2 := (isq_spec n).1
    have h3 : n < 2 ^ bl n := bl_le.1 (Nat.le_refl _)
    have h4 : 2 ^ bl n ≤ 2 ^ (bl n / 2 + 2 + (bl n / 2 + 2)) := Nat.pow_le_pow_right (by decide) (by omega)
    omega
theorem rroot_ev {n K : Nat} (hn : Fit K n) (hK : K ≤ 100) : Ev (fun k => tallystickref12_root.f k (dig V n)) (dig V (isq n)) := by
  have hb := hn.bl
  have l2 := hn.digV
  unfold tallystickref12_root.f
  refine Ev.bind (bits_ev (by omega)) ?_
  have h := rroot_loop hn hK (bl n / 2 + 2) (by omega)
  rw [Nat.div_eq_of_lt isq_bits, Nat.zero_mul, dig_zero] at h
  have e : wrap64 (wrap64 (Int.tdiv ((bl n : Nat) : Int) 2) + 1) = ((bl n / 2 + 2 : Nat) : Int) - 1 := by
    rw [show Int.tdiv ((bl n : Nat) : Int) 2 = ((bl n / 2 : Nat) : Int) from rfl, w_nat _ (by omega), w_succ _ (by omega)]
    omega
  rw [e]
  exact h
theorem subV_ev {m n k : Nat} (hm : Fit k m) (hle : n ≤ m) (hk : k ≤ 10000) : Ev (fun k => tallystickref04_Sub.f k (dig V m) (dig V n)) (dig V (m - n)) := by
  have l1 := hm.digV
  have h := sub_f_ev (dIV m) (dIV n) (by omega) (dig_length_le V_gt (Nat.lt_of_le_of_lt hle (by
    have h1 := val_lt V_pos (dIV m)
    rwa [dVV] at h1))) (by rw [dVV, dVV]; exact hle)
  rwa [dVV, dVV] at h
theorem rsqrt_ev {a : List Int} {K : Nat} (ia : InB W a) (la : a.length ≤ K) (hK : K ≤ 100) : Ev (fun k => tallystickref12_Sqrt.f k a) (dig W (isq (val W a)), dig W (val W a - isq (val W a) * isq (val W a))) := by
  have fa := Fit.val ia la
  have fs := fa.isq
  unfold tallystickref12_Sqrt.f
  exact Ev.bind (digits_ev ia (by omega)) (Ev.bind (rroot_ev fa hK) (Ev.bind (words_dig_ev fs (by omega)) (Ev.bind (mulV_ev fs fs (by omega)) (Ev.bind (subV_ev fa (isq_spec _).1 (by omega)) (Ev.bind (words_dig_ev (fa.le (Nat.sub_le _ _)) (by omega)) (Ev.const rfl))))))
theorem rfirst_fit {n K : Nat} (hn : Fit K n) (hK : 0 < K) : Fit (K + 1) (rfirst n) := by
  have hb := hn.bl
  exact Fit.pow (by omega)
theorem rfirst_ev {a : List Int} {K : Nat} (ia : InB W a) (la : a.length ≤ K) (hK : K ≤ 100) (hK0 : 0 < K) : Ev (fun k => tallystickref12_First.f k a) (dig W (rfirst (val W a))) := by
  have fa := Fit.val ia la
  have l2 := fa.digV
  have hb := fa.bl
  unfold tallystickref12_First.f
  refine Ev.bind (digits_ev ia (by omega)) (Ev.bind (bits_ev (by omega)) ?_)
  have e : wrap64 (Int.tdiv (wrap64 (((bl (val W a) : Nat) : Int) + 1)) 2) = (((bl (val W a) + 1) / 2 : Nat) : Int) := by
    rw [w_succ _ (by omega), show Int.tdiv ((bl (val W a) + 1 : Nat) : Int) 2 = (((bl (val W a) + 1) / 2 : Nat) : Int) from rfl, w_nat _ (by omega)]
  rw [e]
  exact Ev.bind (pow_ev (by omega)) (Ev.bind (words_dig_ev (rfirst_fit fa hK0) (by omega)) (Ev.const rfl))
theorem two_digit : ([2] : List Int) = dig V 2 := by decide +kernel
theorem rstep_ev {x a : List Int} {K : Nat} (ix : InB W x) (ia : InB W a) (lx : x.length ≤ K) (la : a.length ≤ K) (hK : K ≤ 100) (hK0 : 0 < K) : Ev (fun k => tallystickref12_Step.f k x a) (if val W x = 0 then ([], 2) else (dig W (rstep (val W x) (val W a)), 0)) := by
  have fx := Fit.val ix lx
  have fa := Fit.val ia la
  unfold tallystickref12_Step.f
  refine Ev.bind (digits_ev ix (by omega)) ?_
  by_cases h0 : val W x = 0
  · rw [if_pos h0]
    exact Ev.yes ((len_zero V_gt).2 h0) (Ev.const rfl)
  · rw [if_neg h0]
    have f2 : Fit (K + 1) 2 := Nat.lt_of_lt_of_le (show 2 < W ^ 1 by decide) (Nat.pow_le_pow_right W_pos (by omega))
    have fs := fx.add (fa.div (val W x))
    have hd := divV_ev fs f2 (by omega) (by decide)
    rw [← two_digit] at hd
    exact Ev.no (fun h => h0 ((len_zero V_gt).1 h)) (Ev.bind (digits_ev ia (by omega)) (Ev.bind (divV_ev fa fx (by omega) (Nat.pos_of_ne_zero h0)) (Ev.bind (addV_ev fx (fa.div _) (by omega)) (Ev.bind hd (Ev.bind (words_dig_ev (fs.div 2) (by omega)) (Ev.const rfl))))))
end Go.Proofs.Ytcgcffnhlafneaa.Pure
