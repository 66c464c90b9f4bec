/- Texts joined into one: each with its own sentence of what is proved, and under which conditions. -/
import Derived.Test.YtaakniobgljniaaDoorPa7
import Derived.Test.YtaakniobgljniaaDoorPa8
import Derived.Test.YtaakniobgljniaaDoorPa9
import Derived.Test.YtaakniobgljniaaDoorPa10
import Derived.Test.YtaakniobgljniaaDoorPEv
import Derived.OpenShut
import Derived.IntWalk
/- What the laws of nat reckon with, in plain numbers. -/
namespace Go.Proofs.YtaakniobgljniaaDoor.Pure
open Go.RowKit Go.Proofs.YtaakniobgljniaaDoor.Pa Go.Proofs.YtaakniobgljniaaDoorW.PrintWords Go.Proofs.YtaakniobgljniaaDoorW.PrintLast Go.Proofs.YtaakniobgljniaaDoor.Hand Go.Proofs.YtaakniobgljniaaDoor.Num
set_option linter.unusedVariables false
set_option linter.unusedSimpArgs false

/-- A number of few words. -/
def Fit (k n : Nat) : Prop := n < W ^ k
theorem Fit.val {a : List Int} (h : InB W a) {k : Nat} (hk : a.length ≤ k) : Fit k (val W a) := Nat.lt_of_lt_of_le (val_lt W_pos h) (Nat.pow_le_pow_right W_pos hk)
theorem Fit.mono {j k n : Nat} (h : Fit j n) (hk : j ≤ k) : Fit k n := Nat.lt_of_lt_of_le h (Nat.pow_le_pow_right W_pos hk)
theorem Fit.add {k m n : Nat} (h : Fit k m) (g : Fit k n) : Fit (k + 1) (m + n) := by
  unfold Fit at *
  rw [Nat.pow_succ]
  have := W_gt
  have : W ^ k * 2 ≤ W ^ k * W := Nat.mul_le_mul_left _ this
  omega
theorem Fit.dig {k n : Nat} (h : Fit k n) : (dig W n).length ≤ k := dig_length_le W_gt h
theorem W_pow (k : Nat) : W ^ k = 2 ^ (64 * k) := by rw [Nat.pow_mul]; rfl
theorem Fit.bl {k n : Nat} (h : Fit k n) : Hand.bl n ≤ 64 * k := bl_le.2 (by rw [← W_pow]; exact h)
theorem val_snoc (B : Nat) (l : List Int) (x : Int) : val B (l ++ [x]) = val B l + B ^ l.length * x.toNat := by rw [val_append]; simp [val]
def cmpv (m n : Nat) : Int := if m < n then -1 else if n < m then 1 else 0
theorem cmpv_lt {m n : Nat} (h : m < n) : cmpv m n = -1 := if_pos h
theorem cmpv_eq (m : Nat) : cmpv m m = 0 := by unfold cmpv; rw [if_neg (by omega), if_neg (by omega)]
theorem cmpv_gt {m n : Nat} (h : n < m) : cmpv m n = 1 := by unfold cmpv; rw [if_neg (by omega), if_pos h]
end Go.Proofs.YtaakniobgljniaaDoor.Pure

/- The document's functions for nat, in plain numbers: rows of digits to the base 2^16 are rows of numbers; fuel: from some number of rounds on. -/
namespace Go.Proofs.YtaakniobgljniaaDoor.Pure
open Go.RowKit Go.Proofs.YtaakniobgljniaaDoor.Pa Go.Proofs.YtaakniobgljniaaDoorW.PrintWords Go.Proofs.YtaakniobgljniaaDoorW.PrintLast Go.Proofs.YtaakniobgljniaaDoor.Hand Go.Proofs.YtaakniobgljniaaDoor.Num
set_option linter.unusedVariables false
set_option linter.unusedSimpArgs false

/-- 2^16, under a name. -/
def V : Nat := 65536
theorem V_eq : V = 65536 := rfl
theorem V_gt : 1 < V := by decide
theorem V_pos : 0 < V := by decide
theorem V_four : V ^ 4 = W := by decide +kernel
/-! ### Trim -/
theorem trim_end {l : List Int} (hi : InB V l) (hl : l.length ≤ 17592186044400) (n : Nat) (hn : n ≤ l.length) (h0 : n = 0 ∨ l.getD (n - 1) 0 ≠ 0) (hz : ∀ j, n ≤ j → l.getD j 0 = 0) :
    (if 0 ≤ (n : Int) then (if (n : Int) ≤ (l.length : Int) then (if ([] : List Int).length + (l.take ((n : Int)).toNat).length < 17592186044416 then (some ([] ++ (l.take ((n : Int)).toNat))) else (none)) else (none)) else (none)) = some (dig V (val V l)) := by
  obtain ⟨ho, hv⟩ := take_norm (B := V) hn h0 hz
  have e := dig_of V_gt (inB_take hi n) ho hv
  rw [if_pos (by omega), if_pos (by omega), Int.toNat_natCast, if_pos (by simp; omega), List.nil_append, e]
theorem trim_loop {l : List Int} (hi : InB V l) (hl : l.length ≤ 17592186044400) : ∀ n, n ≤ l.length → (∀ j, n ≤ j → l.getD j 0 = 0) → Ev (fun k => tallystickref04_Trim.l0 k l (n : Int)) (dig V (val V l))
  | 0, hn, hz => Ev.succ (Ev.congr (G := fun _ => some (dig V (val V l))) (fun k => by
      rw [tallystickref04_Trim.l0, if_neg (by decide), Option.bind_some]
      exact trim_end hi hl 0 hn (.inl rfl) hz) (Ev.const rfl))
  | n + 1, hn, hz => by
    refine Ev.succ (Ev.congr (G := fun k => if rd l (n : Int) = 0 then tallystickref04_Trim.l0 k l (n : Int) else some (dig V (val V l))) (fun k => ?_) ?_)
    · rw [tallystickref04_Trim.l0, if_pos (by omega), w_pred n (by omega), if_pos (by omega), if_pos (by omega)]
      by_cases h : rd l (n : Int) = 0
      · rw [if_pos h, if_pos h]
      · rw [if_neg h, if_neg h, Option.bind_some]
        exact trim_end hi hl (n + 1) hn (.inr h) hz
    · by_cases h : rd l (n : Int) = 0
      · refine Ev.congr (G := fun k => tallystickref04_Trim.l0 k l (n : Int)) (fun k => if_pos h) ?_
        exact trim_loop hi hl n (by omega) fun j hj => by
          rcases Nat.lt_or_ge n j with h1 | h1
          · exact hz j h1
          · obtain rfl : j = n := by omega
            exact h
      · exact Ev.congr (G := fun _ => some (dig V (val V l))) (fun k => if_neg h) (Ev.const rfl)
theorem trim_ev {l : List Int} (hi : InB V l) (hl : l.length ≤ 17592186044400) : Ev (fun k => tallystickref04_Trim.f k l) (dig V (val V l)) :=
  trim_loop hi hl l.length (Nat.le_refl _) fun j hj => by rw [List.getD_eq_getElem?_getD, List.getElem?_eq_none hj]; rfl

/-! ### Digits -/
def dg : Nat → Nat → List Int
  | 0, _ => []
  | d + 1, w => ((w % 65536 : Nat) : Int) :: dg d (w / 65536)
theorem dg_length : ∀ d w, (dg d w).length = d
  | 0, _ => rfl
  | d + 1, w => by simp [dg, dg_length d]
theorem dg_inB : ∀ d w, InB V (dg d w)
  | 0, _ => inB_nil _
  | d + 1, w => inB_cons.2 ⟨by have := V_eq; omega, dg_inB d _⟩
theorem dg_val : ∀ d w, val V (dg d w) = w % V ^ d
  | 0, w => by simp [dg, val, Nat.mod_one]
  | d + 1, w => by
    rw [dg, val, dg_val d, Int.toNat_natCast, Nat.pow_succ, Nat.mul_comm (V ^ d) V, Nat.mod_mul]
    rfl
theorem digits_inner {a : List Int} {i : Int} {r : List Int} : ∀ (d j : Nat) (out : List Int) (w : Nat), j + d = 4 → out.length + d < 17592186044416 → w < 18446744073709551616 → Ev (fun k => tallystickref04_Digits.l0 k a (out ++ dg d w) (wrap64 (i + 1))) r →
    Ev (fun k => tallystickref04_Digits.l1 k a out i (w : Int) (j : Int)) r
  | 0, j, out, w, hj, _, _, h => by
    obtain rfl : j = 4 := by omega
    refine Ev.succ (Ev.congr (fun k => ?_) h)
    rw [tallystickref04_Digits.l1, if_neg (by decide)]
    simp [dg]
  | d + 1, j, out, w, hj, ho, hw, h => by
    have e1 : wrap64 (Int.tmod (w : Int) 65536) = ((w % 65536 : Nat) : Int) := IntWalk.wrap64_in ((w % 65536 : Nat) : Int) (by omega)
    have e2 : IntKind.u64.wrap (Int.tdiv (w : Int) 65536) = ((w / 65536 : Nat) : Int) := by
      rw [show Int.tdiv (w : Int) 65536 = ((w / 65536 : Nat) : Int) from rfl, IntKind.wrap_u64]; omega
    refine Ev.succ (Ev.congr (fun k => ?_) (digits_inner d (j + 1) (out ++ [((w % 65536 : Nat) : Int)]) (w / 65536) (by omega) (by simp; omega) (by omega) (by simpa [dg] using h)))
    rw [tallystickref04_Digits.l1, if_pos (by omega), if_pos (by omega), e1, e2, w_succ j (by omega)]
theorem digits_loop {a : List Int} (ha : InB W a) (hl : a.length ≤ 1000000000) : ∀ (d i : Nat) (out : List Int), i + d = a.length → InB V out → out.length = 4 * i → val V out = val W (a.take i) → Ev (fun k => tallystickref04_Digits.l0 k a out (i : Int)) (dig V (val W a))
  | 0, i, out, hi, h1, h2, h3 => by
    obtain rfl : i = a.length := by omega
    rw [List.take_length] at h3
    rw [← h3]
    refine Ev.succ (Ev.congr (G := fun k => (tallystickref04_Trim.f k out).bind fun t => some t) (fun k => ?_) (Ev.bind (trim_ev h1 (by omega)) (Ev.const rfl)))
    rw [tallystickref04_Digits.l0, if_neg (by omega)]
  | d + 1, i, out, hi, h1, h2, h3 => by
    have hw : Wd (a.getD i 0) := inB_getD W_pos ha i
    obtain ⟨w, hwe⟩ := Int.eq_ofNat_of_zero_le hw.1
    have hw2 : w < 18446744073709551616 := by have := hw.2; omega
    have hs := val_take_succ W a i
    rw [hwe, Int.toNat_natCast] at hs
    have hp : V ^ (4 * i) = W ^ i := by rw [Nat.pow_mul, V_four]
    refine Ev.succ (Ev.congr (G := fun k => tallystickref04_Digits.l1 k a out (i : Int) (w : Int) ((0 : Nat) : Int)) (fun k => ?_) (digits_inner 4 0 out w (by omega) (by omega) hw2 ?_))
    · rw [tallystickref04_Digits.l0, if_pos (by omega), if_pos (by omega), rd_nat, hwe]; rfl
    · rw [w_succ i (by omega)]
      exact digits_loop ha hl d (i + 1) _ (by omega) (inB_append.2 ⟨h1, dg_inB _ _⟩) (by rw [List.length_append, h2, dg_length]; omega) (by rw [val_append, h2, hp, dg_val, V_four, Nat.mod_eq_of_lt (show w < W from hw2), h3, hs])
theorem digits_ev {a : List Int} (ha : InB W a) (hl : a.length ≤ 1000000000) : Ev (fun k => tallystickref04_Digits.f k a) (dig V (val W a)) :=
  digits_loop ha hl a.length 0 [] (by omega) (inB_nil _) rfl rfl
end Go.Proofs.YtaakniobgljniaaDoor.Pure

/- The document's functions for nat, in plain numbers: sums, differences, which is above, products, powers of 2. -/
namespace Go.Proofs.YtaakniobgljniaaDoor.Pure
open Go.RowKit Go.Proofs.YtaakniobgljniaaDoor.Pa Go.Proofs.YtaakniobgljniaaDoorW.PrintWords Go.Proofs.YtaakniobgljniaaDoorW.PrintLast Go.Proofs.YtaakniobgljniaaDoor.Hand Go.Proofs.YtaakniobgljniaaDoor.Num
set_option linter.unusedVariables false
set_option linter.unusedSimpArgs false

theorem digit_eq (l : List Int) (i : Nat) : tallystickref04_digit.f l (i : Int) = some (l.getD i 0) := by
  unfold tallystickref04_digit.f
  by_cases h : i < l.length
  · rw [if_pos (by omega), if_pos (by omega), rd_nat]
  · rw [if_neg (by omega), List.getD_eq_getElem?_getD, List.getElem?_eq_none (by omega)]; rfl
theorem dgt {l : List Int} (h : InB V l) (i : Nat) : ∃ x : Nat, l.getD i 0 = (x : Int) ∧ x < 65536 := by
  have := inB_getD V_pos h i
  obtain ⟨x, hx⟩ := Int.eq_ofNat_of_zero_le this.1
  refine ⟨x, hx, ?_⟩
  have h2 := this.2
  rw [hx, V_eq] at h2
  omega
theorem tdiv_n (s : Nat) : Int.tdiv (s : Int) 65536 = ((s / 65536 : Nat) : Int) := rfl
theorem tmod_n (s : Nat) : Int.tmod (s : Int) 65536 = ((s % 65536 : Nat) : Int) := rfl
theorem w_nat (s : Nat) (h : s ≤ 9223372036854775807) : wrap64 (s : Int) = (s : Int) := IntWalk.wrap64_in _ (by omega)
theorem w_add (s t : Nat) (h : s + t ≤ 9223372036854775807) : wrap64 ((s : Int) + (t : Int)) = ((s + t : Nat) : Int) := w_nat (s + t) h
theorem w_mul (s t : Nat) (h : s * t ≤ 9223372036854775807) : wrap64 ((s : Int) * (t : Int)) = ((s * t : Nat) : Int) := w_nat (s * t) h
theorem take_all {l : List Int} {i : Nat} (h : l.length ≤ i) : l.take i = l := List.take_of_length_le h

theorem mod_dg (s : Nat) : 0 ≤ ((s % 65536 : Nat) : Int) ∧ ((s % 65536 : Nat) : Int) < (V : Int) := by have := V_eq; omega
theorem carry_le {u v c : Nat} (hu : u < 65536) (hv : v < 65536) (hc : c ≤ 1) : (u + v + c) / 65536 ≤ 1 := by omega
theorem w_sum {u v c : Nat} (hu : u < 65536) (hv : v < 65536) (hc : c ≤ 1) : wrap64 (wrap64 ((u : Int) + (v : Int)) + (c : Int)) = ((u + v + c : Nat) : Int) := by rw [w_add u v (by omega), w_add (u + v) c (by omega)]
theorem split_V (s : Nat) : s % 65536 + V * (s / 65536) = s := Nat.mod_add_div s 65536
theorem carry_step (p A B O u v c : Nat) (h : O + p * c = A + B) : O + p * ((u + v + c) % 65536) + p * V * ((u + v + c) / 65536) = A + p * u + (B + p * v) := by
  have h1 := split_V (u + v + c)
  have h2 : p * ((u + v + c) % 65536) + p * V * ((u + v + c) / 65536) = p * u + p * v + p * c := by rw [Nat.mul_assoc, ← Nat.mul_add, h1, Nat.mul_add, Nat.mul_add]
  omega
/-! ### Add -/
theorem add_ev {x y : List Int} (hx : InB V x) (hy : InB V y) (M : Nat) (lx : x.length ≤ M) (ly : y.length ≤ M) (hMx : M = x.length ∨ M = y.length) (hM : M ≤ 1000000) : ∀ (d i : Nat) (out : List Int) (c : Nat), i + d = M + 1 → InB V out → out.length = i → c ≤ 1 → val V out + V ^ i * c = val V (x.take i) + val V (y.take i) →
    Ev (fun k => tallystickref04_Add.l0 k x y out (c : Int) (i : Int)) (dig V (val V x + val V y)) := by
  have fin : ∀ (i : Nat) (out : List Int), M ≤ i → i ≤ M + 1 → InB V out → out.length = i → val V out = val V (x.take i) + val V (y.take i) → Ev (fun k => tallystickref04_Add.l0 k x y out ((0 : Nat) : Int) (i : Int)) (dig V (val V x + val V y)) := by
    intro i out h1 h1b h2 h3 h4
    rw [take_all (by omega), take_all (by omega)] at h4
    rw [← h4]
    refine Ev.succ (Ev.congr (G := fun k => tallystickref04_Add.j1 k x y out ((0 : Nat) : Int) (i : Int) false) (fun k => ?_) (Ev.succ (Ev.congr (G := fun k => (tallystickref04_Trim.f k out).bind fun t => some t) (fun k => ?_) (Ev.bind (trim_ev h2 (by omega)) (Ev.const rfl)))))
    · rw [tallystickref04_Add.l0, if_neg (by omega), if_neg (by omega)]; rfl
    · rw [tallystickref04_Add.j1, if_neg (by decide)]
  intro d
  induction d with
  | zero =>
    intro i out c h1 h2 h3 h4 h5
    have hc : c = 0 := by
      rcases Nat.eq_zero_or_pos c with h0 | h0
      · exact h0
      · obtain rfl : c = 1 := by omega
        rw [take_all (by omega), take_all (by omega)] at h5
        have e1 := Nat.lt_of_lt_of_le (val_lt V_pos hx) (Nat.pow_le_pow_right V_pos lx)
        have e2 := Nat.lt_of_lt_of_le (val_lt V_pos hy) (Nat.pow_le_pow_right V_pos ly)
        obtain rfl : i = M + 1 := by omega
        have e3 := Nat.mul_le_mul_left (V ^ M) (show 2 ≤ V by decide)
        rw [Nat.pow_succ] at h5
        omega
    subst hc
    exact fin i out (by omega) (by omega) h2 h3 (by omega)
  | succ d ih =>
    intro i out c h1 h2 h3 h4 h5
    by_cases hgo : i < M ∨ c = 1
    · obtain ⟨u, hu, hu2⟩ := dgt hx i
      obtain ⟨v, hv, hv2⟩ := dgt hy i
      have s1 := val_take_succ V x i
      have s2 := val_take_succ V y i
      rw [hu, Int.toNat_natCast] at s1
      rw [hv, Int.toNat_natCast] at s2
      have hcc : (u + v + c) / 65536 ≤ 1 := carry_le hu2 hv2 h4
      have step := ih (i + 1) (out ++ [(((u + v + c) % 65536 : Nat) : Int)]) ((u + v + c) / 65536) (by omega) (inB_append.2 ⟨h2, inB_cons.2 ⟨mod_dg _, inB_nil _⟩⟩) (by simp [h3]) hcc (by
        rw [val_snoc, h3, Int.toNat_natCast, s1, s2, Nat.pow_succ]
        exact carry_step _ _ _ _ _ _ _ h5)
      have hlen : out.length < 17592186044416 := by rw [h3]; exact Nat.lt_of_le_of_lt (show i ≤ 1000001 by omega) (by decide)
      have hi2 : i ≤ 17592186044416 := Nat.le_trans (show i ≤ 1000001 by omega) (by decide)
      have run : Ev (fun k => tallystickref04_Add.j1 k x y out (c : Int) (i : Int) true) (dig V (val V x + val V y)) := by
        refine Ev.succ (Ev.congr (fun k => ?_) step)
        rw [tallystickref04_Add.j1, if_pos rfl, digit_eq, Option.bind_some, digit_eq, Option.bind_some, hu, hv, if_pos hlen, w_sum hu2 hv2 h4, tmod_n, tdiv_n, w_nat _ (Nat.le_trans hcc (by decide)), w_succ i hi2]
      refine Ev.succ (Ev.congr (fun k => ?_) run)
      rw [tallystickref04_Add.l0]
      by_cases g1 : (i : Int) < (x.length : Int)
      · rw [if_pos g1]
      · rw [if_neg g1]
        by_cases g2 : (i : Int) < (y.length : Int)
        · rw [if_pos g2]
        · rw [if_neg g2]
          by_cases g3 : c = 1
          · subst g3; rfl
          · exfalso
            omega
    · obtain rfl : c = 0 := by omega
      exact fin i out (by omega) (by omega) h2 h3 (by omega)
end Go.Proofs.YtaakniobgljniaaDoor.Pure

/- The document's functions for nat, in plain numbers: differences, which is above, the same, how many bits. -/
namespace Go.Proofs.YtaakniobgljniaaDoor.Pure
open Go.RowKit Go.Proofs.YtaakniobgljniaaDoor.Pa Go.Proofs.YtaakniobgljniaaDoorW.PrintWords Go.Proofs.YtaakniobgljniaaDoorW.PrintLast Go.Proofs.YtaakniobgljniaaDoor.Hand Go.Proofs.YtaakniobgljniaaDoor.Num
set_option linter.unusedVariables false
set_option linter.unusedSimpArgs false

/-! ### Sub -/
theorem w_dif {u v b : Nat} (hu : u < 65536) (hv : v < 65536) (hb : b ≤ 1) : wrap64 (wrap64 ((u : Int) - (v : Int)) - (b : Int)) = (u : Int) - (v : Int) - (b : Int) := by
  rw [show wrap64 ((u : Int) - (v : Int)) = (u : Int) - (v : Int) from IntWalk.wrap64_in _ (by omega)]
  exact IntWalk.wrap64_in _ (by omega)
theorem borrow_step (p A B O u v b s t : Nat) (h : O + B = A + p * b) (hs : s + v + b = u + V * t) : O + p * s + (B + p * v) = A + p * u + p * V * t := by
  have h2 : p * s + p * v + p * b = p * u + p * V * t := by rw [Nat.mul_assoc, ← Nat.mul_add, ← Nat.mul_add, hs, Nat.mul_add]
  omega
theorem sub_ev {x y : List Int} (hx : InB V x) (hy : InB V y) (hl : x.length ≤ 1000000) (hyx : y.length ≤ x.length) (hle : val V y ≤ val V x) : ∀ (d i : Nat) (out : List Int) (b : Nat), i + d = x.length → InB V out → out.length = i → b ≤ 1 → val V out + val V (y.take i) = val V (x.take i) + V ^ i * b →
    Ev (fun k => tallystickref04_Sub.l0 k x y out (b : Int) (i : Int)) (dig V (val V x - val V y)) := by
  intro d
  induction d with
  | zero =>
    intro i out b h1 h2 h3 h4 h5
    obtain rfl : i = x.length := by omega
    rw [List.take_length, take_all hyx] at h5
    have hlo := val_lt V_pos h2
    rw [h3] at hlo
    have hb : b = 0 := by
      rcases Nat.eq_zero_or_pos b with h0 | h0
      · exact h0
      · obtain rfl : b = 1 := by omega
        omega
    subst hb
    have he : val V out = val V x - val V y := by omega
    rw [← he]
    have hol : out.length ≤ 17592186044400 := by rw [h3]; exact Nat.le_trans hl (by decide)
    refine Ev.succ (Ev.congr (G := fun k => (tallystickref04_Trim.f k out).bind fun t => some t) (fun k => ?_) (Ev.bind (trim_ev h2 hol) (Ev.const rfl)))
    rw [tallystickref04_Sub.l0, if_neg (by omega)]
  | succ d ih =>
    intro i out b h1 h2 h3 h4 h5
    obtain ⟨u, hu, hu2⟩ := dgt hx i
    obtain ⟨v, hv, hv2⟩ := dgt hy i
    have s1 := val_take_succ V x i
    have s2 := val_take_succ V y i
    rw [hu, Int.toNat_natCast] at s1
    rw [hv, Int.toNat_natCast] at s2
    have hlen : out.length < 17592186044416 := by rw [h3]; exact Nat.lt_of_le_of_lt (show i ≤ 1000000 by omega) (by decide)
    have hi2 : i ≤ 17592186044416 := Nat.le_trans (show i ≤ 1000000 by omega) (by decide)
    have hii : (i : Int) < (x.length : Int) := by omega
    by_cases hneg : u < v + b
    · have hs : (u + 65536 - v - b) + v + b = u + V * 1 := by rw [V_eq]; omega
      have step := ih (i + 1) (out ++ [((u + 65536 - v - b : Nat) : Int)]) 1 (by omega) (inB_append.2 ⟨h2, inB_cons.2 ⟨by have := V_eq; clear h5 s1 s2 hle; omega, inB_nil _⟩⟩) (by simp [h3]) (by omega) (by
        rw [val_snoc, h3, Int.toNat_natCast, s1, s2, Nat.pow_succ]
        exact borrow_step _ _ _ _ _ _ _ _ _ h5 hs)
      refine Ev.succ (Ev.congr (fun k => ?_) step)
      have hw : (u : Int) - (v : Int) - (b : Int) + 65536 = ((u + 65536 - v - b : Nat) : Int) := by omega
      rw [tallystickref04_Sub.l0, if_pos hii, if_pos (by omega), digit_eq, Option.bind_some, rd_nat, hu, hv, w_dif hu2 hv2 h4, if_pos (by omega), if_pos hlen, hw, w_nat _ (by omega), w_succ i hi2]
      rfl
    · have hs : (u - v - b) + v + b = u + V * 0 := by omega
      have step := ih (i + 1) (out ++ [((u - v - b : Nat) : Int)]) 0 (by omega) (inB_append.2 ⟨h2, inB_cons.2 ⟨by have := V_eq; clear h5 s1 s2 hle; omega, inB_nil _⟩⟩) (by simp [h3]) (by omega) (by
        rw [val_snoc, h3, Int.toNat_natCast, s1, s2, Nat.pow_succ]
        exact borrow_step _ _ _ _ _ _ _ _ _ h5 hs)
      refine Ev.succ (Ev.congr (fun k => ?_) step)
      have hw : (u : Int) - (v : Int) - (b : Int) = ((u - v - b : Nat) : Int) := by omega
      rw [tallystickref04_Sub.l0, if_pos hii, if_pos (by omega), digit_eq, Option.bind_some, rd_nat, hu, hv, w_dif hu2 hv2 h4, if_neg (by omega), if_pos hlen, hw, w_succ i hi2]
      rfl
theorem sub_f_ev {x y : List Int} (hx : InB V x) (hy : InB V y) (hl : x.length ≤ 1000000) (hyx : y.length ≤ x.length) (hle : val V y ≤ val V x) : Ev (fun k => tallystickref04_Sub.f k x y) (dig V (val V x - val V y)) :=
  sub_ev hx hy hl hyx hle x.length 0 [] 0 (by omega) (inB_nil _) rfl (by omega) rfl

/-! ### Cmp -/
theorem cmp_loop {x y : List Int} (hx : InB V x) (hy : InB V y) (hl : x.length = y.length) (hm : x.length ≤ 1000000) : ∀ i, i ≤ x.length → x.drop i = y.drop i → Ev (fun k => tallystickref04_Cmp.l0 k x y ((i : Int) - 1)) (cmpv (val V x) (val V y))
  | 0, _, h => by
    rw [List.drop_zero, List.drop_zero] at h
    subst h
    rw [cmpv_eq]
    refine Ev.succ (Ev.congr (G := fun _ => some 0) (fun k => ?_) (Ev.const rfl))
    rw [tallystickref04_Cmp.l0, if_neg (by decide)]
  | i + 1, hi, h => by
    obtain ⟨u, hu, hu2⟩ := dgt hx i
    obtain ⟨v, hv, hv2⟩ := dgt hy i
    have s1 := val_take_succ V x i
    have s2 := val_take_succ V y i
    rw [hu, Int.toNat_natCast] at s1
    rw [hv, Int.toNat_natCast] at s2
    have t1 := val_take_drop V x (i + 1) hi
    have t2 := val_take_drop V y (i + 1) (by omega)
    rw [h] at t1
    have l1 := val_lt V_pos (inB_take hx i)
    have l2 := val_lt V_pos (inB_take hy i)
    rw [List.length_take, Nat.min_eq_left (by omega)] at l1 l2
    have hi0 : ((i + 1 : Nat) : Int) - 1 = (i : Int) := by omega
    have hw : wrap64 ((i : Int) - 1) = (i : Int) - 1 := IntWalk.wrap64_in _ (by omega)
    have key : ∀ k, tallystickref04_Cmp.l0 (k + 1) x y (((i + 1 : Nat) : Int) - 1) = if u < v then some (-1) else if v < u then some 1 else tallystickref04_Cmp.l0 k x y ((i : Int) - 1) := fun k => by
      rw [hi0, tallystickref04_Cmp.l0, if_pos (by omega), if_pos (by omega), if_pos (by omega), if_pos (by omega), rd_nat, rd_nat, hu, hv, hw]
      by_cases c : u < v
      · rw [if_pos (by omega), if_pos c]
      · rw [if_neg (by omega), if_neg c]
        by_cases e : v < u
        · rw [if_pos (by omega), if_pos e]
        · rw [if_neg (by omega), if_neg e]
    clear hw hi0
    rcases Nat.lt_trichotomy u v with c | c | c
    · have hlt : val V x < val V y := by
        have := Nat.mul_le_mul_left (V ^ i) c
        rw [Nat.mul_succ] at this
        omega
      rw [cmpv_lt hlt]
      exact Ev.succ (Ev.congr (G := fun _ => some (-1)) (fun k => by rw [key k, if_pos c]) (Ev.const rfl))
    · subst c
      refine Ev.succ (Ev.congr (G := fun k => tallystickref04_Cmp.l0 k x y ((i : Int) - 1)) (fun k => by rw [key k, if_neg (by omega), if_neg (by omega)]) (cmp_loop hx hy hl hm i (by omega) ?_))
      rw [List.drop_eq_getElem_cons (by omega), List.drop_eq_getElem_cons (show i < y.length by omega), h]
      congr 1
      rw [List.getD_eq_getElem?_getD, List.getElem?_eq_getElem (show i < x.length by omega)] at hu
      rw [List.getD_eq_getElem?_getD, List.getElem?_eq_getElem (show i < y.length by omega)] at hv
      exact (show x[i] = (u : Int) from hu).trans (show y[i] = (u : Int) from hv).symm
    · have hlt : val V y < val V x := by
        have := Nat.mul_le_mul_left (V ^ i) c
        rw [Nat.mul_succ] at this
        omega
      rw [cmpv_gt hlt]
      exact Ev.succ (Ev.congr (G := fun _ => some 1) (fun k => by rw [key k, if_neg (by omega), if_pos c]) (Ev.const rfl))
theorem dig_len_lt {m n : Nat} (h : (dig V m).length < (dig V n).length) : m < n := by
  have h1 := val_lt V_pos (dig_inB V_gt m)
  rw [val_dig V_gt] at h1
  rcases Nat.lt_or_ge m n with h2 | h2
  · exact h2
  · have := dig_length_le V_gt (Nat.lt_of_le_of_lt h2 h1)
    omega
theorem cmp_ev {m n : Nat} (h1 : (dig V m).length ≤ 1000000) (h2 : (dig V n).length ≤ 1000000) : Ev (fun k => tallystickref04_Cmp.f k (dig V m) (dig V n)) (cmpv m n) := by
  by_cases h : (dig V m).length = (dig V n).length
  · have h3 := cmp_loop (dig_inB V_gt m) (dig_inB V_gt n) h h1 (dig V m).length (Nat.le_refl _) (by rw [List.drop_length, h, List.drop_length])
    rw [val_dig V_gt, val_dig V_gt] at h3
    refine Ev.congr (fun k => ?_) h3
    unfold tallystickref04_Cmp.f
    rw [if_pos (by omega), show wrap64 (((dig V m).length : Int) - 1) = ((dig V m).length : Int) - 1 from IntWalk.wrap64_in _ (by omega)]
  · by_cases c : (dig V m).length < (dig V n).length
    · rw [cmpv_lt (dig_len_lt c)]
      refine Ev.congr (G := fun _ => some (-1)) (fun k => ?_) (Ev.const rfl)
      unfold tallystickref04_Cmp.f
      rw [if_neg (by omega), if_pos (by omega)]
    · rw [cmpv_gt (dig_len_lt (show (dig V n).length < (dig V m).length by omega))]
      refine Ev.congr (G := fun _ => some 1) (fun k => ?_) (Ev.const rfl)
      unfold tallystickref04_Cmp.f
      rw [if_neg (by omega), if_neg (by omega)]

/-! ### Same -/
end Go.Proofs.YtaakniobgljniaaDoor.Pure

/- The document's functions for nat, in plain numbers: products, how many bits, words. -/
namespace Go.Proofs.YtaakniobgljniaaDoor.Pure
open Go.RowKit Go.Proofs.YtaakniobgljniaaDoor.Pa Go.Proofs.YtaakniobgljniaaDoorW.PrintWords Go.Proofs.YtaakniobgljniaaDoorW.PrintLast Go.Proofs.YtaakniobgljniaaDoor.Hand Go.Proofs.YtaakniobgljniaaDoor.Num
set_option linter.unusedVariables false
set_option linter.unusedSimpArgs false

/-! ### Mul -/
theorem mul_step (O O' P o m c Z : Nat) (h : O + P * c = Z) (hset : O' + P * o = O + P * ((o + m + c) % 65536)) : O' + P * V * ((o + m + c) / 65536) = Z + P * m := by
  have h1 := split_V (o + m + c)
  have h2 : P * ((o + m + c) % 65536) + P * V * ((o + m + c) / 65536) = P * o + P * m + P * c := by rw [Nat.mul_assoc, ← Nat.mul_add, h1, Nat.mul_add, Nat.mul_add]
  omega
theorem mul_small {o u v c : Nat} (ho : o < 65536) (hu : u < 65536) (hv : v < 65536) (hc : c < 65536) : u * v ≤ 4294836225 ∧ (o + u * v + c) / 65536 < 65536 := by
  have : u * v ≤ 65535 * 65535 := Nat.mul_le_mul (by omega) (by omega)
  omega
theorem w_mulsum {o u v c : Nat} (ho : o < 65536) (hu : u < 65536) (hv : v < 65536) (hc : c < 65536) : wrap64 (wrap64 ((o : Int) + wrap64 ((u : Int) * (v : Int))) + (c : Int)) = ((o + u * v + c : Nat) : Int) := by
  have := (mul_small ho hu hv hc).1
  rw [w_mul u v (by omega), w_add o (u * v) (by omega), w_add (o + u * v) c (by omega)]
theorem mul_inner {x y r : List Int} (hx : InB V x) (hy : InB V y) (lx : x.length ≤ 100000) (ly : y.length ≤ 100000) (i : Nat) (hi : i < x.length) (u : Nat) (hu : x.getD i 0 = (u : Int)) (hu2 : u < 65536)
    (hnext : ∀ out, InB V out → out.length = x.length + y.length + 1 → val V out = val V (x.take (i + 1)) * val V y → Ev (fun k => tallystickref04_Mul.l0 k x y out ((i + 1 : Nat) : Int)) r) :
    ∀ (d j : Nat) (out : List Int) (c : Nat), j + d = y.length + 1 → InB V out → out.length = x.length + y.length + 1 → c < 65536 → val V out + V ^ (i + j) * c = val V (x.take i) * val V y + V ^ i * (u * val V (y.take j)) →
      Ev (fun k => tallystickref04_Mul.l1 k x y out (i : Int) (c : Int) (j : Int)) r := by
  have s1 := val_take_succ V x i
  rw [hu, Int.toNat_natCast] at s1
  have fin : ∀ (j : Nat) (out : List Int), y.length ≤ j → j ≤ y.length + 1 → InB V out → out.length = x.length + y.length + 1 → val V out = val V (x.take i) * val V y + V ^ i * (u * val V (y.take j)) → Ev (fun k => tallystickref04_Mul.l1 k x y out (i : Int) ((0 : Nat) : Int) (j : Int)) r := by
    intro j out h1 h1b h2 h3 h4
    rw [take_all (l := y) h1] at h4
    have hv : val V out = val V (x.take (i + 1)) * val V y := by rw [s1, Nat.add_mul, Nat.mul_assoc]; exact h4
    refine Ev.succ (Ev.congr (fun k => ?_) (hnext out h2 h3 hv))
    rw [tallystickref04_Mul.l1, if_neg (by omega), if_neg (by decide), w_succ i (by omega)]
  intro d
  induction d with
  | zero =>
    intro j out c h1 h2 h3 h4 h5
    have hc : c = 0 := by
      rcases Nat.eq_zero_or_pos c with h0 | h0
      · exact h0
      · exfalso
        rw [take_all (l := y) (i := j) (by omega), ← Nat.mul_assoc, ← Nat.add_mul, ← s1] at h5
        have e1 := val_lt V_pos (inB_take hx (i + 1))
        have e2 := val_lt V_pos hy
        rw [List.length_take, Nat.min_eq_left (by omega)] at e1
        have e3 := Nat.mul_lt_mul_of_lt_of_lt e1 e2
        rw [← Nat.pow_add] at e3
        have e4 : V ^ (i + j) = V ^ (i + 1 + y.length) := by rw [show i + j = i + 1 + y.length by omega]
        rw [e4] at h5
        have e5 := Nat.mul_le_mul_left (V ^ (i + 1 + y.length)) h0
        rw [Nat.succ_eq_add_one, Nat.zero_add, Nat.mul_one] at e5
        generalize val V (x.take (i + 1)) * val V y = z at *
        omega
    subst hc
    exact fin j out (by omega) (by omega) h2 h3 (by simpa using h5)
  | succ d ih =>
    intro j out c h1 h2 h3 h4 h5
    by_cases hgo : j < y.length ∨ 0 < c
    · obtain ⟨v, hv, hv2⟩ := dgt hy j
      obtain ⟨o, ho, ho2⟩ := dgt h2 (i + j)
      have s2 := val_take_succ V y j
      rw [hv, Int.toNat_natCast] at s2
      have hij : i + j < out.length := by omega
      have hset := val_set V out (i + j) (((o + u * v + c) % 65536 : Nat) : Int) hij
      rw [ho, Int.toNat_natCast, Int.toNat_natCast] at hset
      have hcc := (mul_small ho2 hu2 hv2 h4).2
      have step := ih (j + 1) (out.set (i + j) (((o + u * v + c) % 65536 : Nat) : Int)) ((o + u * v + c) / 65536) (by omega) (inB_set h2 _ (mod_dg _)) (by rw [List.length_set]; exact h3) hcc (by
        rw [← Nat.add_assoc, Nat.pow_succ, mul_step _ _ _ _ _ _ _ h5 hset, s2, Nat.mul_add u, Nat.mul_add (V ^ i), Nat.add_assoc]
        congr 2
        rw [Nat.pow_add, Nat.mul_assoc, Nat.mul_left_comm u])
      have hijI : ((i : Int) + (j : Int)) = ((i + j : Nat) : Int) := rfl
      have hii : (i : Int) < (x.length : Int) := by omega
      have hij2 : ((i + j : Nat) : Int) < (out.length : Int) := by omega
      have hw := fun (k : Nat) => show wrap64 ((i : Int) + (j : Int)) = ((i + j : Nat) : Int) from w_add i j (by omega)
      refine Ev.succ (Ev.congr (fun k => ?_) step)
      rw [tallystickref04_Mul.l1]
      by_cases g : (j : Int) < (y.length : Int)
      · rw [if_pos g, hw 0, if_pos (by omega), if_pos hij2, if_pos (by omega), if_pos hii, digit_eq, Option.bind_some, rd_nat, rd_nat, ho, hu, hv, w_mulsum ho2 hu2 hv2 h4, tmod_n, tdiv_n, w_nat _ (Nat.le_trans (Nat.le_of_lt hcc) (by decide)), w_succ j (by omega), Int.toNat_natCast]
      · rw [if_neg g, if_pos (by omega), hw 0, if_pos (by omega), if_pos hij2, if_pos (by omega), if_pos hii, digit_eq, Option.bind_some, rd_nat, rd_nat, ho, hu, hv, w_mulsum ho2 hu2 hv2 h4, tmod_n, tdiv_n, w_nat _ (Nat.le_trans (Nat.le_of_lt hcc) (by decide)), w_succ j (by omega), Int.toNat_natCast]
    · obtain rfl : c = 0 := by omega
      exact fin j out (by omega) (by omega) h2 h3 (by simpa using h5)
theorem mul_loop {x y : List Int} (hx : InB V x) (hy : InB V y) (lx : x.length ≤ 100000) (ly : y.length ≤ 100000) : ∀ (d i : Nat) (out : List Int), i + d = x.length → InB V out → out.length = x.length + y.length + 1 → val V out = val V (x.take i) * val V y →
    Ev (fun k => tallystickref04_Mul.l0 k x y out (i : Int)) (dig V (val V x * val V y)) := by
  intro d
  induction d with
  | zero =>
    intro i out h1 h2 h3 h4
    rw [take_all (by omega)] at h4
    rw [← h4]
    refine Ev.succ (Ev.congr (G := fun k => (tallystickref04_Trim.f k out).bind fun t => some t) (fun k => ?_) (Ev.bind (trim_ev h2 (by omega)) (Ev.const rfl)))
    rw [tallystickref04_Mul.l0, if_neg (by omega)]
  | succ d ih =>
    intro i out h1 h2 h3 h4
    obtain ⟨u, hu, hu2⟩ := dgt hx i
    refine Ev.succ (Ev.congr (fun k => ?_) (mul_inner hx hy lx ly i (by omega) u hu hu2 (fun out' g1 g2 g3 => ih (i + 1) out' (by omega) g1 g2 g3) (y.length + 1) 0 out 0 (by omega) h2 h3 (by omega) (by rw [h4]; simp [val])))
    rw [tallystickref04_Mul.l0, if_pos (by omega)]
    rfl
theorem mul_ev {x y : List Int} (hx : InB V x) (hy : InB V y) (lx : x.length ≤ 100000) (ly : y.length ≤ 100000) : Ev (fun k => tallystickref04_Mul.f k x y) (dig V (val V x * val V y)) := by
  refine Ev.congr (fun k => ?_) (mul_loop hx hy lx ly x.length 0 (List.replicate (x.length + y.length + 1) 0) (by omega) (inB_replicate V_pos _) (by simp) (by rw [val_replicate, List.take_zero]; simp [val]))
  unfold tallystickref04_Mul.f
  rw [w_add x.length y.length (by omega), w_succ (x.length + y.length) (by omega), if_pos (by omega), Int.toNat_natCast, if_pos (by omega)]
  rfl

/-! ### Bits -/
end Go.Proofs.YtaakniobgljniaaDoor.Pure

/- The document's functions for nat, in plain numbers: rows of words out of digits; powers of 2. -/
namespace Go.Proofs.YtaakniobgljniaaDoor.Pure
open Go.RowKit Go.Proofs.YtaakniobgljniaaDoor.Pa Go.Proofs.YtaakniobgljniaaDoorW.PrintWords Go.Proofs.YtaakniobgljniaaDoorW.PrintLast Go.Proofs.YtaakniobgljniaaDoor.Hand Go.Proofs.YtaakniobgljniaaDoor.Num
set_option linter.unusedVariables false
set_option linter.unusedSimpArgs false

theorem dig_getD {B : Nat} (hB : 1 < B) : ∀ (i n : Nat), (dig B n).getD i 0 = ((n / B ^ i % B : Nat) : Int)
  | i, 0 => by rw [dig_zero, Nat.zero_div, Nat.zero_mod]; simp
  | 0, n + 1 => by rw [dig_pos hB (by omega), Nat.pow_zero, Nat.div_one]; rfl
  | i + 1, n + 1 => by
    rw [dig_pos hB (by omega), List.getD_cons_succ, dig_getD hB i _, Nat.div_div_eq_div_mul, Nat.pow_succ, Nat.mul_comm B]
/-- The words of n, of whose digits those from i on have been put in. -/
def wat (n i j : Nat) : Nat := n / V ^ (max i (4 * j)) % V ^ (4 * j + 4 - max i (4 * j))
def wordsAt (n i m : Nat) : List Int := (List.range m).map fun j => ((wat n i j : Nat) : Int)
theorem wordsAt_length (n i m : Nat) : (wordsAt n i m).length = m := by simp [wordsAt]
theorem wordsAt_getD (n i m j : Nat) (h : j < m) : (wordsAt n i m).getD j 0 = ((wat n i j : Nat) : Int) := by
  rw [List.getD_eq_getElem?_getD]; simp [wordsAt, h]
theorem wat_lt (n i j : Nat) : wat n i j < 18446744073709551616 := by
  have h1 : wat n i j < V ^ (4 * j + 4 - max i (4 * j)) := Nat.mod_lt _ (Nat.pow_pos V_pos)
  have h2 : V ^ (4 * j + 4 - max i (4 * j)) ≤ V ^ 4 := Nat.pow_le_pow_right V_pos (by omega)
  rw [V_four, W_eq] at h2
  omega
theorem wat_step (n i : Nat) : 65536 * wat n (i + 1) (i / 4) + n / V ^ i % V = wat n i (i / 4) := by
  have e1 : max (i + 1) (4 * (i / 4)) = i + 1 := by omega
  have e2 : max i (4 * (i / 4)) = i := by omega
  have e3 : 4 * (i / 4) + 4 - i = (4 * (i / 4) + 4 - (i + 1)) + 1 := by omega
  unfold wat
  rw [e1, e2, e3, Nat.pow_succ V (4 * (i / 4) + 4 - (i + 1)), Nat.mul_comm _ V, Nat.mod_mul, Nat.div_div_eq_div_mul, ← Nat.pow_succ, Nat.add_comm]
  rfl
theorem wat_other (n i j : Nat) (h : j ≠ i / 4) : wat n (i + 1) j = wat n i j := by
  unfold wat
  rcases Nat.lt_or_ge (4 * j) (i + 1) with h1 | h1
  · have e1 : 4 * j + 4 - max (i + 1) (4 * j) = 0 := by omega
    have e2 : 4 * j + 4 - max i (4 * j) = 0 := by omega
    rw [e1, e2, Nat.pow_zero, Nat.mod_one, Nat.mod_one]
  · rw [show max (i + 1) (4 * j) = max i (4 * j) by omega]
theorem wordsAt_set (n i m : Nat) (h : i / 4 < m) : (wordsAt n (i + 1) m).set (i / 4) ((wat n i (i / 4) : Nat) : Int) = wordsAt n i m := by
  refine List.ext_getElem (by simp [wordsAt]) fun j h1 h2 => ?_
  rw [List.getElem_set]
  split
  · rename_i e; subst e; simp [wordsAt]
  · rename_i e
    simp [wordsAt, wat_other n i j (by omega)]
theorem words_loop {n m L : Nat} (hL : (dig V n).length = L) (hm : m = (L + 3) / 4) (hb : L ≤ 1000000) : ∀ i, i ≤ L → Ev (fun k => tallystickref04_Words.l0 k (dig V n) (wordsAt n i m) ((i : Int) - 1)) (wordsAt n 0 m)
  | 0, _ => Ev.succ (Ev.congr (G := fun _ => some (wordsAt n 0 m)) (fun k => by rw [tallystickref04_Words.l0, if_neg (by decide)]) (Ev.const rfl))
  | i + 1, hi => by
    have h1 : i / 4 < m := by omega
    have hq : wrap64 (Int.tdiv (i : Int) 4) = ((i / 4 : Nat) : Int) := by rw [show Int.tdiv (i : Int) 4 = ((i / 4 : Nat) : Int) from rfl, w_nat _ (by omega)]
    have ha := wat_lt n (i + 1) (i / 4)
    have hst := wat_step n i
    have hlt := wat_lt n i (i / 4)
    have hdl : n / V ^ i % V < 65536 := Nat.mod_lt _ V_pos
    have hw : IntKind.u64.wrap (IntKind.u64.wrap (65536 * ((wat n (i + 1) (i / 4) : Nat) : Int)) + IntKind.u64.wrap ((n / V ^ i % V : Nat) : Int)) = ((wat n i (i / 4) : Nat) : Int) := by
      rw [IntKind.wrap_u64, IntKind.wrap_u64, IntKind.wrap_u64]
      generalize wat n (i + 1) (i / 4) = p at *
      generalize wat n i (i / 4) = q at *
      generalize n / V ^ i % V = t at *
      omega
    have hi0 : ((i + 1 : Nat) : Int) - 1 = (i : Int) := by omega
    have hp : wrap64 ((i : Int) - 1) = (i : Int) - 1 := IntWalk.wrap64_in _ (by omega)
    refine Ev.succ (Ev.congr (fun k => ?_) (words_loop hL hm hb i (by omega)))
    rw [hi0, tallystickref04_Words.l0, if_pos (by omega), hq, if_pos (by omega), if_pos (by rw [wordsAt_length]; omega), if_pos (by omega), if_pos (by omega), Int.toNat_natCast, rd_nat, rd_nat, wordsAt_getD _ _ _ _ h1, dig_getD V_gt, hw, wordsAt_set n i m h1, hp]
theorem words_dig {n m L : Nat} (hL : (dig V n).length = L) (hm : m = (L + 3) / 4) : wordsAt n 0 m = dig W n := by
  have hn := val_lt V_pos (dig_inB V_gt n)
  rw [val_dig V_gt, hL] at hn
  have hVW : ∀ k, V ^ (4 * k) = W ^ k := fun k => by rw [Nat.pow_mul, V_four]
  have hup : n < W ^ m := by rw [← hVW]; exact Nat.lt_of_lt_of_le hn (Nat.pow_le_pow_right V_pos (by omega))
  have h1 := dig_length_le W_gt hup
  have hlen : (dig W n).length = m := by
    rcases Nat.eq_zero_or_pos m with h0 | h0
    · omega
    · have hlo : W ^ (m - 1) ≤ n := by
        rcases Nat.lt_or_ge n (W ^ (m - 1)) with h2 | h2
        · exfalso
          rw [← hVW] at h2
          have := dig_length_le V_gt h2
          omega
        · exact h2
      have := dig_length_lt W_gt hlo
      omega
  refine List.ext_getElem (by rw [wordsAt_length, hlen]) fun j h2 h3 => ?_
  have e1 := dig_getD W_gt j n
  rw [List.getD_eq_getElem?_getD, List.getElem?_eq_getElem h3] at e1
  have e2 : (dig W n)[j] = ((n / W ^ j % W : Nat) : Int) := e1
  rw [e2]
  have e3 : wat n 0 j = n / W ^ j % W := by
    unfold wat
    rw [show max 0 (4 * j) = 4 * j by omega, show 4 * j + 4 - 4 * j = 4 by omega, V_four, hVW]
  simp [wordsAt, e3]
theorem words_ev {l : List Int} (hi : InB V l) (hl : l.length ≤ 1000000) : Ev (fun k => tallystickref04_Words.f k l) (dig W (val V l)) := by
  have hd := dig_length_le V_gt (val_lt V_pos hi)
  generalize hn : val V l = n at *
  obtain ⟨L, hL⟩ : ∃ L, L = (dig V n).length := ⟨_, rfl⟩
  obtain ⟨m, hm⟩ : ∃ m, m = (L + 3) / 4 := ⟨_, rfl⟩
  have hLb : L ≤ 1000000 := by omega
  have hw : wrap64 (Int.tdiv (wrap64 ((L : Int) + 3)) 4) = ((m : Nat) : Int) := by
    rw [show wrap64 ((L : Int) + 3) = ((L + 3 : Nat) : Int) from w_nat (L + 3) (by omega), show Int.tdiv ((L + 3 : Nat) : Int) 4 = (((L + 3) / 4 : Nat) : Int) from rfl, w_nat _ (by omega), hm]
  have hp : wrap64 ((L : Int) - 1) = (L : Int) - 1 := IntWalk.wrap64_in _ (by omega)
  have h0 : List.replicate m (0 : Int) = wordsAt n L m := by
    refine List.ext_getElem (by simp [wordsAt]) fun j h1 h2 => ?_
    have hj : j < m := by simpa using h1
    have hv := val_lt V_pos (dig_inB V_gt n)
    rw [val_dig V_gt, ← hL] at hv
    have e : wat n L j = 0 := by
      unfold wat
      rw [show max L (4 * j) = L by omega, Nat.div_eq_of_lt hv, Nat.zero_mod]
    simp [wordsAt, e]
  have hwl := words_loop hL.symm hm hLb L (Nat.le_refl _)
  rw [words_dig hL.symm hm, ← h0] at hwl
  have ht := trim_ev hi (by omega)
  rw [hn] at ht
  refine Ev.bind ht (Ev.congr (fun k => ?_) hwl)
  rw [← hL, hw, if_pos (by omega), Int.toNat_natCast, if_pos (by omega), hp]

/-! ### Power -/
end Go.Proofs.YtaakniobgljniaaDoor.Pure

/- The document's functions for nat, in plain numbers: quotients. -/
namespace Go.Proofs.YtaakniobgljniaaDoor.Pure
open Go.RowKit Go.Proofs.YtaakniobgljniaaDoor.Pa Go.Proofs.YtaakniobgljniaaDoorW.PrintWords Go.Proofs.YtaakniobgljniaaDoorW.PrintLast Go.Proofs.YtaakniobgljniaaDoor.Hand Go.Proofs.YtaakniobgljniaaDoor.Num
set_option linter.unusedVariables false
set_option linter.unusedSimpArgs false

theorem one_dig {s : Nat} (h : s < 65536) : InB V [(s : Int)] ∧ val V [(s : Int)] = s := ⟨inB_cons.2 ⟨by have := V_eq; omega, inB_nil _⟩, by simp [val]⟩
theorem w_mid {a b : Nat} (ha : a < 65536) (hb : b < 65536) : wrap64 (Int.tdiv (wrap64 (wrap64 ((a : Int) + (b : Int)) + 1)) 2) = (((a + b + 1) / 2 : Nat) : Int) := by
  rw [w_add a b (by omega), w_succ (a + b) (by omega), show Int.tdiv ((a + b + 1 : Nat) : Int) 2 = (((a + b + 1) / 2 : Nat) : Int) from rfl, w_nat _ (by omega)]
theorem div_inner {x q : List Int} {D Rv i : Nat} {r : List Int × List Int} (hD : 0 < D) (hDl : (dig V D).length ≤ 90000) (hRl : (dig V Rv).length ≤ 90000) (hi : i < q.length) (hib : i ≤ 1000000)
    (hnext : Ev (fun k => tallystickref04_Div.l0 k x (dig V D) (q.set i ((Rv / D : Nat) : Int)) (dig V (Rv % D)) ((i : Int) - 1)) r) :
    ∀ (d a b : Nat), b ≤ a + d → a ≤ b → b < 65536 → D * a ≤ Rv → Rv < D * (b + 1) → Ev (fun k => tallystickref04_Div.l1 k x (dig V D) q (dig V Rv) (i : Int) (a : Int) (b : Int)) r := by
  have mulEv : ∀ s : Nat, s < 65536 → Ev (fun k => tallystickref04_Mul.f k (dig V D) (dig V s)) (dig V (D * s)) := fun s hs => by
    have hl : (dig V s).length ≤ 1 := dig_length_le V_gt (by rw [Nat.pow_one]; exact hs)
    have := mul_ev (dig_inB V_gt D) (dig_inB V_gt s) (by omega) (Nat.le_trans hl (by decide))
    rwa [val_dig V_gt, val_dig V_gt] at this
  have trimEv : ∀ s : Nat, s < 65536 → Ev (fun k => tallystickref04_Trim.f k [(s : Int)]) (dig V s) := fun s hs => by
    have := trim_ev (one_dig hs).1 (by simp)
    rwa [(one_dig hs).2] at this
  have lenEv : ∀ s : Nat, s < 65536 → (dig V (D * s)).length ≤ 1000000 := fun s hs => by
    have h1 := val_lt V_pos (dig_inB V_gt D)
    rw [val_dig V_gt] at h1
    have h2 : D * s < V ^ ((dig V D).length + 1) := by
      rw [Nat.pow_succ]
      exact Nat.mul_lt_mul_of_lt_of_lt h1 hs
    have := dig_length_le V_gt h2
    omega
  have hp : wrap64 ((i : Int) - 1) = (i : Int) - 1 := IntWalk.wrap64_in _ (by omega)
  have HP := hp
  intro d
  induction d with
  | zero =>
    intro a b h1 h2 h3 h4 h5
    obtain rfl : a = b := by omega
    have e1 : Rv / D = a := by
      refine (Nat.div_eq_iff hD).2 ?_
      rw [Nat.mul_add, Nat.mul_one, Nat.mul_comm D a] at h5
      rw [Nat.mul_comm D a] at h4
      exact ⟨h4, by omega⟩
    have e2 : Rv - D * a = Rv % D := by rw [← e1]; exact (Nat.mod_eq_sub_mul_div).symm
    rw [e1] at hnext
    have hle : (dig V (D * a)).length ≤ (dig V Rv).length := by
      rcases Nat.lt_or_ge (dig V Rv).length (dig V (D * a)).length with g | g
      · have := dig_len_lt g; omega
      · exact g
    have hs := sub_f_ev (dig_inB V_gt Rv) (dig_inB V_gt (D * a)) (by omega) hle (by rw [val_dig V_gt, val_dig V_gt]; exact h4)
    rw [val_dig V_gt, val_dig V_gt, e2] at hs
    refine Ev.succ (Ev.congr (G := fun k => (tallystickref04_Trim.f k [(a : Int)]).bind fun t => (tallystickref04_Mul.f k (dig V D) t).bind fun t2 => (tallystickref04_Sub.f k (dig V Rv) t2).bind fun t3 => tallystickref04_Div.l0 k x (dig V D) (q.set i (a : Int)) t3 ((i : Int) - 1)) (fun k => ?_) (Ev.bind (trimEv a h3) (Ev.bind (mulEv a h3) (Ev.bind hs hnext))))
    rw [tallystickref04_Div.l1, if_neg (by omega), if_pos (by omega), if_pos (by omega), Int.toNat_natCast, HP]
  | succ d ih =>
    intro a b h1 h2 h3 h4 h5
    by_cases hab : a < b
    · have hm : (a + b + 1) / 2 < 65536 := by omega
      have hcmp := cmp_ev (m := D * ((a + b + 1) / 2)) (n := Rv) (lenEv _ hm) (by omega)
      have hw := w_mid (a := a) (b := b) (by omega) h3
      have key : ∀ k, tallystickref04_Div.l1 (k + 1) x (dig V D) q (dig V Rv) (i : Int) (a : Int) (b : Int) = (tallystickref04_Trim.f k [(((a + b + 1) / 2 : Nat) : Int)]).bind fun t => (tallystickref04_Mul.f k (dig V D) t).bind fun t2 => (tallystickref04_Cmp.f k t2 (dig V Rv)).bind fun t3 =>
          if t3 ≤ 0 then tallystickref04_Div.l1 k x (dig V D) q (dig V Rv) (i : Int) (((a + b + 1) / 2 : Nat) : Int) (b : Int) else tallystickref04_Div.l1 k x (dig V D) q (dig V Rv) (i : Int) (a : Int) (wrap64 ((((a + b + 1) / 2 : Nat) : Int) - 1)) := fun k => by
        rw [tallystickref04_Div.l1, if_pos (by omega), hw]
      clear hw
      refine Ev.succ (Ev.congr key (Ev.bind (trimEv _ hm) (Ev.bind (mulEv _ hm) (Ev.bind hcmp ?_))))
      by_cases c : D * ((a + b + 1) / 2) ≤ Rv
      · have hc : cmpv (D * ((a + b + 1) / 2)) Rv ≤ 0 := by
          rcases Nat.lt_or_ge (D * ((a + b + 1) / 2)) Rv with g | g
          · rw [cmpv_lt g]; decide
          · rw [show D * ((a + b + 1) / 2) = Rv by omega, cmpv_eq]; decide
        exact Ev.congr (fun k => if_pos hc) (ih _ b (by omega) (by omega) h3 c h5)
      · have hc : ¬ cmpv (D * ((a + b + 1) / 2)) Rv ≤ 0 := by rw [cmpv_gt (by omega)]; decide
        have hpm : wrap64 ((((a + b + 1) / 2 : Nat) : Int) - 1) = (((a + b + 1) / 2 - 1 : Nat) : Int) := by rw [IntWalk.wrap64_in _ (by omega)]; omega
        rw [hpm]
        clear hpm
        refine Ev.congr (fun k => if_neg hc) (ih a ((a + b + 1) / 2 - 1) (by omega) (by omega) (by omega) h4 ?_)
        rw [show (a + b + 1) / 2 - 1 + 1 = (a + b + 1) / 2 by omega]
        omega
    · exact ih a b (by omega) h2 h3 h4 h5
theorem div_split (D x S : Nat) (hD : 0 < D) : (x + V * S) / D = (x + V * (S % D)) / D + V * (S / D) ∧ (x + V * S) % D = (x + V * (S % D)) % D := by
  have h1 : x + V * S = x + V * (S % D) + D * (V * (S / D)) := by
    have := Nat.mod_add_div S D
    have e : V * S = V * (S % D) + V * (D * (S / D)) := by rw [← Nat.mul_add, this]
    rw [e, Nat.mul_left_comm V D]
    omega
  rw [h1]
  exact ⟨Nat.add_mul_div_left _ _ hD, Nat.add_mul_mod_self_left _ _ _⟩
theorem div_loop {x : List Int} {D : Nat} (hx : InB V x) (hxl : x.length ≤ 1000) (hD : 0 < D) (hDl : (dig V D).length ≤ 1000) : ∀ (i : Nat) (q : List Int), i ≤ x.length → InB V q → q.length = x.length → val V (q.drop i) = val V (x.drop i) / D →
    Ev (fun k => tallystickref04_Div.l0 k x (dig V D) q (dig V (val V (x.drop i) % D)) ((i : Int) - 1)) (dig V (val V x / D), dig V (val V x % D))
  | 0, q, hi, hq, hql, hv => by
    rw [List.drop_zero, List.drop_zero] at hv
    have ht := trim_ev hq (by omega)
    rw [hv] at ht
    refine Ev.succ (Ev.congr (G := fun k => (tallystickref04_Trim.f k q).bind fun t => some (t, dig V (val V (x.drop 0) % D))) (fun k => ?_) (Ev.bind ht (Ev.const ?_)))
    · rw [tallystickref04_Div.l0, if_neg (by decide)]
    · rw [List.drop_zero]
  | i + 1, q, hi, hq, hql, hv => by
    obtain ⟨u, hu, hu2⟩ := dgt hx i
    have hdx : x.drop i = (u : Int) :: x.drop (i + 1) := by
      rw [List.drop_eq_getElem_cons (by omega)]
      congr 1
      rw [List.getD_eq_getElem?_getD, List.getElem?_eq_getElem (show i < x.length by omega)] at hu
      exact hu
    obtain ⟨S, hS⟩ : ∃ S, S = val V (x.drop (i + 1)) := ⟨_, rfl⟩
    rw [← hS] at hv ⊢
    have hvx : val V (x.drop i) = u + V * S := by rw [hdx, val, Int.toNat_natCast, hS]
    obtain ⟨e1, e2⟩ := div_split D u S hD
    obtain ⟨Rv, hRv⟩ : ∃ Rv, Rv = u + V * (S % D) := ⟨_, rfl⟩
    rw [← hRv] at e1 e2
    have hmod := Nat.mod_lt S hD
    have hRlt : Rv < D * (65535 + 1) := by
      have := Nat.mul_le_mul_left V hmod
      rw [Nat.mul_succ] at this
      have := V_eq
      rw [hRv, Nat.mul_comm D]
      show u + V * (S % D) < V * D
      omega
    have hDv := val_lt V_pos (dig_inB V_gt D)
    rw [val_dig V_gt] at hDv
    have hRl : (dig V Rv).length ≤ 1001 := Nat.le_trans (dig_length_le V_gt (k := (dig V D).length + 1) (by
      rw [Nat.pow_succ]
      exact Nat.lt_of_lt_of_le hRlt (Nat.mul_le_mul_right _ (Nat.le_of_lt hDv)))) (by omega)
    have hsd : (dig V (S % D)).length ≤ 1000 := Nat.le_trans (dig_length_le V_gt (Nat.lt_trans hmod hDv)) hDl
    have hqd : Rv / D < 65536 := Nat.div_lt_of_lt_mul hRlt
    have hset : (q.set i ((Rv / D : Nat) : Int)).drop i = ((Rv / D : Nat) : Int) :: q.drop (i + 1) := by
      rw [List.drop_set, if_neg (Nat.lt_irrefl _), Nat.sub_self, List.drop_eq_getElem_cons (show i < q.length by omega), List.set_cons_zero]
    have hnext := div_loop hx hxl hD hDl i (q.set i ((Rv / D : Nat) : Int)) (by omega) (inB_set hq i ⟨Int.natCast_nonneg _, by have := V_eq; omega⟩) (by rw [List.length_set]; exact hql) (by rw [hset, val, hv, hvx, e1, Int.toNat_natCast])
    rw [hvx, e2] at hnext
    have hin := div_inner (x := x) (q := q) (i := i) hD (Nat.le_trans hDl (by decide)) (Nat.le_trans hRl (by decide)) (by omega) (by omega) hnext 65535 0 65535 (by omega) (by omega) (by omega) (by omega) hRlt
    have hcat : InB V ([(u : Int)] ++ dig V (S % D)) := inB_append.2 ⟨(one_dig hu2).1, dig_inB V_gt _⟩
    have hcv : val V ([(u : Int)] ++ dig V (S % D)) = Rv := by
      show val V ((u : Int) :: dig V (S % D)) = Rv
      rw [val, val_dig V_gt, Int.toNat_natCast, hRv]
    have ht := trim_ev hcat (by simp; omega)
    rw [hcv] at ht
    have hi0 : ((i + 1 : Nat) : Int) - 1 = (i : Int) := by omega
    rw [hi0]
    refine Ev.succ (Ev.congr (G := fun k => (tallystickref04_Trim.f k ([(u : Int)] ++ dig V (S % D))).bind fun t => tallystickref04_Div.l1 k x (dig V D) q t (i : Int) ((0 : Nat) : Int) ((65535 : Nat) : Int)) (fun k => ?_) (Ev.bind ht hin))
    rw [tallystickref04_Div.l0, if_pos (by omega), if_pos (by omega), if_pos (by omega), Option.bind_some, rd_nat, hu, if_pos (by simp; omega)]
    rfl
theorem div_ev {x : List Int} {D : Nat} (hx : InB V x) (hxl : x.length ≤ 1000) (hD : 0 < D) (hDl : (dig V D).length ≤ 1000) : Ev (fun k => tallystickref04_Div.f k x (dig V D)) (dig V (val V x / D), dig V (val V x % D)) := by
  have h := div_loop hx hxl hD hDl x.length (List.replicate x.length 0) (Nat.le_refl _) (inB_replicate V_pos _) (by simp) (by rw [List.drop_of_length_le (by simp), List.drop_length]; simp [val])
  rw [List.drop_length, show val V [] % D = 0 from Nat.zero_mod D, dig_zero] at h
  refine Ev.congr (fun k => ?_) h
  unfold tallystickref04_Div.f
  rw [if_pos (by omega), Int.toNat_natCast, if_pos (by omega), show wrap64 ((x.length : Int) - 1) = (x.length : Int) - 1 from IntWalk.wrap64_in _ (by omega)]
end Go.Proofs.YtaakniobgljniaaDoor.Pure
