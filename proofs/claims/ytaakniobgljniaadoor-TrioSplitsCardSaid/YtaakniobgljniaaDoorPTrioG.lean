/- Texts joined into one: each with its own sentence of what is proved, and under which conditions. -/
import Derived.Test.YtaakniobgljniaaDoorPNatG
import Derived.Test.YtaakniobgljniaaDoorPa7
import Derived.Test.YtaakniobgljniaaDoorHFermat
import Derived.Test.YtaakniobgljniaaDoorPa4
import Derived.Test.YtaakniobgljniaaDoorPa8
import Derived.Test.YtaakniobgljniaaDoorPa9
import Derived.Test.YtaakniobgljniaaDoorPa10
import Derived.Test.YtaakniobgljniaaDoorPa11
/- The document's quotient of two words by one, bit by bit; a pair modulo a prime. -/
namespace Go.Proofs.YtaakniobgljniaaDoor.Pure
open Go.RowKit Go.Proofs.YtaakniobgljniaaDoor.Pa Go.Proofs.YtaakniobgljniaaDoorW.PrintWords Go.Proofs.YtaakniobgljniaaDoorW.PrintMore Go.Proofs.YtaakniobgljniaaDoorW.PrintLast Go.Proofs.YtaakniobgljniaaDoor.Hand Go.Proofs.YtaakniobgljniaaDoor.Num
set_option linter.unusedVariables false
set_option linter.unusedSimpArgs false

theorem u_nat (s : Nat) (h : s < 18446744073709551616) : IntKind.u64.wrap (s : Int) = (s : Int) := by rw [IntKind.wrap_u64]; omega
theorem Ev.no {α : Type} {c : Prop} [Decidable c] {A B : Nat → Option α} {r : α} (h : ¬ c) (hB : Ev B r) : Ev (fun k => if c then A k else B k) r := Ev.congr (fun k => if_neg h) hB
/-! ### The document's quotient, bit by bit -/
theorem dv_q (q : Nat) (h : q < 9223372036854775808) : IntKind.u64.wrap ((q : Int) + (q : Int)) = ((2 * q : Nat) : Int) ∧ IntKind.u64.wrap (IntKind.u64.wrap ((q : Int) + (q : Int)) + 1) = ((2 * q + 1 : Nat) : Int) := by
  rw [IntKind.wrap_u64, IntKind.wrap_u64]; omega
theorem dv_r0 (r : Nat) (h : r < 9223372036854775808) : IntKind.u64.wrap ((r : Int) + (r : Int)) = ((2 * r : Nat) : Int) ∧ IntKind.u64.wrap (IntKind.u64.wrap ((r : Int) + (r : Int)) + 1) = ((2 * r + 1 : Nat) : Int) := dv_q r h
theorem dv_s0 (r d : Nat) (hr : r < d) (hd : d < 18446744073709551616) (h : d ≤ 2 * r) : IntKind.u64.wrap (IntKind.u64.wrap ((r : Int) + (r : Int)) - (d : Int)) = ((2 * r - d : Nat) : Int) := by
  rw [IntKind.wrap_u64, IntKind.wrap_u64]; omega
theorem dv_s1 (r d : Nat) (hr : r < d) (hd : d < 18446744073709551616) (h : d ≤ 2 * r + 1) : IntKind.u64.wrap (IntKind.u64.wrap (IntKind.u64.wrap ((r : Int) + (r : Int)) + 1) - (d : Int)) = ((2 * r + 1 - d : Nat) : Int) := by
  rw [IntKind.wrap_u64, IntKind.wrap_u64, IntKind.wrap_u64]; omega
theorem dv_x (x p : Nat) (hx : x < 18446744073709551616) (h : p ≤ x) : IntKind.u64.wrap ((x : Int) - (p : Int)) = ((x - p : Nat) : Int) := by
  rw [IntKind.wrap_u64]; omega
theorem dv_half (n : Nat) : 2 ^ (n + 1) / 2 = 2 ^ n := by rw [Nat.pow_succ]; omega
/-- One bit's step, in plain numbers. -/
theorem dv_step {q d r x p N b : Nat} (hN : (q * d + r) * (p * 2) + (x + b * p) = N) (q' r' : Nat) (h : q' * d + r' = 2 * (q * d + r) + b) : (q' * d + r') * p + x = N := by
  rw [h, ← hN, Nat.add_mul, Nat.mul_comm p 2, ← Nat.mul_assoc, Nat.mul_comm (q * d + r) 2]
  omega
theorem div01_ev {d N : Nat} (hd0 : 0 < d) (hd : d < 18446744073709551616) : ∀ (n i x q r : Nat), i + n = 64 → x < 2 ^ n → r < d → q < 2 ^ i → (q * d + r) * 2 ^ n + x = N →
    Ev (fun k => tallystickref01_Div.l0 k (x : Int) (d : Int) (q : Int) (r : Int) ((2 ^ n / 2 : Nat) : Int) (i : Int)) (((N / d : Nat) : Int), ((N % d : Nat) : Int), 0)
  | 0, i, x, q, r, hi, hx, hr, hq, hN => by
    have hx0 : x = 0 := by simpa using hx
    subst hx0
    rw [Nat.pow_zero, Nat.mul_one, Nat.add_zero] at hN
    have e1 : N / d = q := by rw [← hN, Nat.mul_comm, Nat.mul_add_div hd0, Nat.div_eq_of_lt hr, Nat.add_zero]
    have e2 : N % d = r := by rw [← hN, Nat.mul_comm, Nat.mul_add_mod, Nat.mod_eq_of_lt hr]
    rw [e1, e2]
    exact Ev.succ (Ev.congr (G := fun _ => some ((q : Int), (r : Int), 0)) (fun k => by rw [tallystickref01_Div.l0, if_neg (by omega)]) (Ev.const rfl))
  | n + 1, i, x, q, r, hi, hx, hr, hq, hN => by
    have hp := Nat.two_pow_pos n
    have hp2 : 2 ^ (n + 1) ≤ 2 ^ 64 := Nat.pow_le_pow_right (by decide) (by omega)
    have hq2 : 2 ^ i ≤ 2 ^ 63 := Nat.pow_le_pow_right (by decide) (by omega)
    have hpi : 2 ^ (i + 1) = 2 ^ i * 2 := Nat.pow_succ _ _
    rw [dv_half]
    rw [Nat.pow_succ] at hx hN hp2
    have ih := div01_ev (d := d) (N := N) hd0 hd n (i + 1)
    have hb : IntKind.u64.wrap (Int.tdiv ((2 ^ n : Nat) : Int) 2) = ((2 ^ n / 2 : Nat) : Int) := by
      rw [show Int.tdiv ((2 ^ n : Nat) : Int) 2 = ((2 ^ n / 2 : Nat) : Int) from rfl]
      exact u_nat _ (by generalize 2 ^ n = p at *; omega)
    have hw := w_succ i (by omega)
    rw [hpi] at ih
    generalize 2 ^ n / 2 = p2 at *
    generalize 2 ^ n = p at *
    generalize 2 ^ i = t at *
    obtain ⟨hq0, hq1⟩ := dv_q q (by omega)
    have hi64 : (i : Int) < 64 := by omega
    by_cases hxp : p ≤ x
    · have hx1 := dv_x x p (by omega) hxp
      have hge : ((x : Nat) : Int) ≥ (p : Int) := by omega
      have hN1 : (q * d + r) * (p * 2) + ((x - p) + 1 * p) = N := by rw [← hN]; congr 1; omega
      by_cases hdr : d ≤ 2 * r + 1
      · have hs := dv_s1 r d hr hd hdr
        have hih := ih (x - p) (2 * q + 1) (2 * r + 1 - d) (by omega) (by omega) (by omega) (by omega) (dv_step hN1 _ _ (by
          rw [Nat.add_mul, Nat.one_mul, Nat.mul_assoc]; omega))
        refine Ev.succ (Ev.congr (fun k => ?_) hih)
        by_cases ht : r < 9223372036854775808
        · have hr1 := (dv_r0 r ht).2
          rw [tallystickref01_Div.l0, if_pos hi64, if_pos hge, if_neg (by omega), hs, hr1, if_pos (by omega), hx1, hq1, hb, hw]
        · rw [tallystickref01_Div.l0, if_pos hi64, if_pos hge, if_pos (by omega), hs, hx1, hq1, hb, hw]
      · have hr1 := (dv_r0 r (by omega)).2
        have hih := ih (x - p) (2 * q) (2 * r + 1) (by omega) (by omega) (by omega) (by omega) (dv_step hN1 _ _ (by
          rw [Nat.mul_assoc]; omega))
        refine Ev.succ (Ev.congr (fun k => ?_) hih)
        rw [tallystickref01_Div.l0, if_pos hi64, if_pos hge, if_neg (by omega), hr1, if_neg (by omega), hx1, hq0, hb, hw]
    · have hge : ¬ ((x : Nat) : Int) ≥ (p : Int) := by omega
      have hN1 : (q * d + r) * (p * 2) + (x + 0 * p) = N := by rw [← hN]; congr 1; omega
      by_cases hdr : d ≤ 2 * r
      · have hs := dv_s0 r d hr hd hdr
        have hih := ih x (2 * q + 1) (2 * r - d) (by omega) (by omega) (by omega) (by omega) (dv_step hN1 _ _ (by
          rw [Nat.add_mul, Nat.one_mul, Nat.mul_assoc]; omega))
        refine Ev.succ (Ev.congr (fun k => ?_) hih)
        by_cases ht : r < 9223372036854775808
        · have hr1 := (dv_r0 r ht).1
          rw [tallystickref01_Div.l0, if_pos hi64, if_neg hge, if_neg (by omega), hs, hr1, if_pos (by omega), hq1, hb, hw]
        · rw [tallystickref01_Div.l0, if_pos hi64, if_neg hge, if_pos (by omega), hs, hq1, hb, hw]
      · have hr1 := (dv_r0 r (by omega)).1
        have hih := ih x (2 * q) (2 * r) (by omega) (by omega) (by omega) (by omega) (dv_step hN1 _ _ (by
          rw [Nat.mul_assoc]; omega))
        refine Ev.succ (Ev.congr (fun k => ?_) hih)
        rw [tallystickref01_Div.l0, if_pos hi64, if_neg hge, if_neg (by omega), hr1, if_neg (by omega), hq0, hb, hw]
theorem refdiv_is {x y z N : Nat} (h : x < z) (hy : y < 18446744073709551616) (hz : z < 18446744073709551616) (hN : x * 18446744073709551616 + y = N) : Ev (fun k => tallystickref01_Div.f k (x : Int) (y : Int) (z : Int)) (((N / z : Nat) : Int), ((N % z : Nat) : Int), 0) := by
  have c0 : ¬ (z : Int) = 0 := by omega
  have c1 : ¬ (x : Int) ≥ (z : Int) := by omega
  have hm : Ev (fun k => tallystickref01_Div.l0 k (y : Int) (z : Int) 0 (x : Int) 9223372036854775808 0) (((N / z : Nat) : Int), ((N % z : Nat) : Int), 0) := div01_ev (by omega) hz 64 0 y 0 x (by omega) hy h (by decide) (by rw [Nat.zero_mul, Nat.zero_add]; exact hN)
  refine Ev.congr (fun k => ?_) hm
  unfold tallystickref01_Div.f
  rw [if_neg c0, if_neg c1]
/-- The document's pair modulo a prime. -/
theorem refmod_one (x y m : Nat) (hy : y < 18446744073709551616) (h0 : 0 < m) (hm : m < 4294967296) : Ev (fun k => tallystickref09_mod.f k (x : Int) (y : Int) (m : Int)) (((x * 18446744073709551616 + y) % m : Nat) : Int) := by
  have hlt : x % m < m := Nat.mod_lt _ h0
  have e : (x % m * 18446744073709551616 + y) % m = (x * 18446744073709551616 + y) % m := by rw [Nat.add_mod, Nat.mul_mod, Nat.mod_mod, ← Nat.mul_mod, ← Nat.add_mod]
  obtain ⟨N, hN⟩ : ∃ N, x % m * 18446744073709551616 + y = N := ⟨_, rfl⟩
  have h := refdiv_is (x := x % m) (y := y) (z := m) hlt hy (by omega) hN
  rw [hN] at e
  rw [e] at h
  have hr : (x * 18446744073709551616 + y) % m < m := Nat.mod_lt _ h0
  generalize (x * 18446744073709551616 + y) % m = r at *
  unfold tallystickref09_mod.f
  have m0 : ¬ (m : Int) = 0 := by omega
  refine Ev.no m0 (Ev.bind (a := (((N / m : Nat) : Int), (r : Int), 0)) h (Ev.const ?_))
  show some ((r : Int) % 4294967296) = some (r : Int)
  rw [Int.emod_eq_of_lt (by omega) (by omega)]
theorem refsplit_ev (x y : Nat) (hy : y < 18446744073709551616) : Ev (fun k => tallystickref09_Split.f k (x : Int) (y : Int)) ((((x * 18446744073709551616 + y) % 998244353 : Nat) : Int), (((x * 18446744073709551616 + y) % 167772161 : Nat) : Int), (((x * 18446744073709551616 + y) % 469762049 : Nat) : Int)) := by
  unfold tallystickref09_Split.f
  exact Ev.bind (refmod_one x y 998244353 hy (by decide) (by decide)) (Ev.bind (refmod_one x y 167772161 hy (by decide) (by decide)) (Ev.bind (refmod_one x y 469762049 hy (by decide) (by decide)) (Ev.const rfl)))
theorem refbound_eq : tallystickref09_Bound.f = some (4264960, 715227917457555457) := by
  unfold tallystickref09_Bound.f
  kernel_rfl
end Go.Proofs.YtaakniobgljniaaDoor.Pure

/- The document's number of three, plain: three parts, each 0 modulo the two other primes, together modulo the bound. -/
namespace Go.Proofs.YtaakniobgljniaaDoor.Pure
open Go.RowKit Go.Proofs.YtaakniobgljniaaDoor.Pa Go.Proofs.YtaakniobgljniaaDoorW.PrintWords Go.Proofs.YtaakniobgljniaaDoorW.PrintMore Go.Proofs.YtaakniobgljniaaDoorW.PrintLast Go.Proofs.YtaakniobgljniaaDoor.Hand Go.Proofs.YtaakniobgljniaaDoor.Num
set_option linter.unusedVariables false
set_option linter.unusedSimpArgs false

theorem Fit.digV {k n : Nat} (h : Fit k n) : (Num.dig V n).length ≤ 4 * k := dig_length_le V_gt (by rw [Nat.pow_mul, V_four]; exact h)
theorem dIV (n : Nat) : InB V (dig V n) := dig_inB V_gt n
theorem dVV (n : Nat) : val V (dig V n) = n := val_dig V_gt n
theorem words_dig_ev {n k : Nat} (h : Fit k n) (hk : k ≤ 10000) : Ev (fun k => tallystickref04_Words.f k (dig V n)) (dig W n) := by
  have := words_ev (dIV n) (Nat.le_trans h.digV (show 4 * k ≤ 1000000 by omega))
  rwa [dVV] at this
theorem addV_ev {m n k : Nat} (hm : Fit k m) (hn : Fit k n) (hk : k ≤ 10000) : Ev (fun k => tallystickref04_Add.f k (dig V m) (dig V n)) (dig V (m + n)) := by
  have lm := hm.digV
  have ln := hn.digV
  have h := add_ev (dIV m) (dIV n) (max (dig V m).length (dig V n).length) (Nat.le_max_left _ _) (Nat.le_max_right _ _) (by omega) (by omega) _ 0 [] 0 (Nat.zero_add _) (inB_nil _) rfl (by omega) rfl
  rw [dVV, dVV] at h
  exact h
theorem mulV_ev {m n k : Nat} (hm : Fit k m) (hn : Fit k n) (hk : k ≤ 10000) : Ev (fun k => tallystickref04_Mul.f k (dig V m) (dig V n)) (dig V (m * n)) := by
  have lm := hm.digV
  have ln := hn.digV
  have h := mul_ev (dIV m) (dIV n) (by omega) (by omega)
  rwa [dVV, dVV] at h
theorem one_in {x : Nat} (h : x < 18446744073709551616) : InB W [(x : Int)] := inB_cons.2 ⟨by have := W_eq; omega, inB_nil _⟩
theorem one_digits_ev {x : Nat} (h : x < 18446744073709551616) : Ev (fun k => tallystickref04_Digits.f k [(x : Int)]) (dig V x) := by
  have := digits_ev (one_in h) (by simp)
  rwa [show val W [(x : Int)] = x by simp [val]] at this
theorem two_digits_ev {x y : Nat} (hx : x < 18446744073709551616) (hy : y < 18446744073709551616) : Ev (fun k => tallystickref04_Digits.f k [(x : Int), (y : Int)]) (dig V (x + 18446744073709551616 * y)) := by
  have := digits_ev (inB_cons.2 ⟨⟨by omega, by have := W_eq; omega⟩, one_in hy⟩ : InB W [(x : Int), (y : Int)]) (by simp)
  rwa [show val W [(x : Int), (y : Int)] = x + 18446744073709551616 * y by simp [val, W_eq]] at this
theorem fit_two {n : Nat} (h : n < 340282366920938463463374607431768211456) : Fit 2 n := by
  unfold Fit
  rw [W_eq]
  exact h
theorem turn_is (m x y : Nat) (hm : 0 < m) (hl : m < 2147483648) : tallystickref03_Turn.f (m : Int) (x : Int) (y : Int) = some ((x % m * (y % m) % m : Nat) : Int) := by
  have wm : IntKind.u64.wrap (m : Int) = (m : Int) := u64_nat m (by omega)
  have h1 : x % m < m := Nat.mod_lt _ hm
  have h2 : y % m < m := Nat.mod_lt _ hm
  have hp := prod_lt h1 h2 hl
  unfold tallystickref03_Turn.f
  rw [wm, if_neg (by omega), tmod_nat, tmod_nat]
  have e : IntKind.u64.wrap (((x % m : Nat) : Int) * ((y % m : Nat) : Int)) = ((x % m * (y % m) : Nat) : Int) := u64_nat _ hp
  rw [e, tmod_nat]
/-- A part. -/
def partN (t m p q : Nat) : Nat := p * q * (t % m * (((p % m * (q % m) % m) ^ (m - 2) % m) % m) % m)
theorem part_ev (t m p q : Nat) (ht : t < 4294967296) (hm : 3 ≤ m) (hl : m < 2147483648) (hp : p < 2147483648) (hq : q < 2147483648) : Ev (fun k => tallystickref09_part.f k (t : Int) (m : Int) (p : Int) (q : Int)) (dig V (partN t m p q)) := by
  have wm : IntKind.u64.wrap (m : Int) = (m : Int) := u64_nat m (by omega)
  have wt : IntKind.u64.wrap (t : Int) = (t : Int) := u64_nat t (by omega)
  have wm2 : IntKind.u64.wrap ((m : Int) - 2) = ((m - 2 : Nat) : Int) := by rw [IntKind.wrap_u64]; omega
  obtain ⟨pq, hpq⟩ : ∃ pq, pq = p % m * (q % m) % m := ⟨_, rfl⟩
  obtain ⟨iv, hiv⟩ : ∃ iv, iv = pq ^ (m - 2) % m := ⟨_, rfl⟩
  obtain ⟨z, hz⟩ : ∃ z, z = t % m * (iv % m) % m := ⟨_, rfl⟩
  have zl : z < m := by rw [hz]; exact Nat.mod_lt _ (by omega)
  have e1 := turn_is m p q (by omega) hl
  rw [← hpq] at e1
  have e2 : Ev (fun k => tallystickref03_Pow.f k (m : Int) (pq : Int) ((m - 2 : Nat) : Int)) (iv : Int) := ⟨65, fun k hk => by rw [hiv]; exact rpow_is hm hl k pq (m - 2) (by omega) (by omega)⟩
  have e3 := turn_is m t iv (by omega) hl
  rw [← hz] at e3
  have hv : partN t m p q = p * q * z := by unfold partN; rw [hz, hiv, hpq]
  have hpql : p * q < 4611686018427387904 := by
    have h := Nat.mul_le_mul (show p ≤ 2147483647 by omega) (show q ≤ 2147483647 by omega)
    omega
  rw [hv]
  unfold tallystickref09_part.f
  refine Ev.congr (G := fun k => (tallystickref03_Pow.f k (m : Int) (pq : Int) ((m - 2 : Nat) : Int)).bind fun t264 => ((tallystickref04_Digits.f k [(p : Int)]).bind fun t268 => ((tallystickref04_Digits.f k [(q : Int)]).bind fun t274 => ((tallystickref04_Mul.f k t268 t274).bind fun t277 => ((tallystickref03_Turn.f (m : Int) (t : Int) t264).bind fun t280 => ((tallystickref04_Digits.f k [t280]).bind fun t284 => ((tallystickref04_Mul.f k t277 t284).bind fun t287 => (some t287))))))))
    (fun k => by rw [e1, Option.bind_some, wm, wm2, wt]) ?_
  refine Ev.bind e2 (Ev.bind (one_digits_ev (by omega)) (Ev.bind (one_digits_ev (by omega)) (Ev.bind (mulV_ev (k := 2) (fit_two (by omega)) (fit_two (by omega)) (by decide)) ?_)))
  refine Ev.congr (G := fun k => (tallystickref04_Digits.f k [(z : Int)]).bind fun t284 => ((tallystickref04_Mul.f k (dig V (p * q)) t284).bind fun t287 => (some t287))) (fun k => by rw [e3, Option.bind_some]) ?_
  exact Ev.bind (one_digits_ev (by omega)) (Ev.bind (mulV_ev (k := 2) (fit_two (by omega)) (fit_two (by omega)) (by decide)) (Ev.const rfl))
theorem getD_zeros (l : List Int) (i : Nat) : (l ++ [0, 0]).getD i 0 = l.getD i 0 := by
  rw [List.getD_eq_getElem?_getD, List.getD_eq_getElem?_getD]
  by_cases h : i < l.length
  · rw [List.getElem?_append_left h]
  · rw [List.getElem?_append_right (by omega), List.getElem?_eq_none (show l.length ≤ i by omega)]
    match i - l.length with
    | 0 => rfl
    | 1 => rfl
    | k + 2 => rfl
theorem pair_ev {n : Nat} (h : n < 78674626319836206717730817) : Ev (fun k => tallystickref09_pair.f k (dig V n)) (((n / 18446744073709551616 : Nat) : Int), ((n % 18446744073709551616 : Nat) : Int)) := by
  have hf := fit_two (n := n) (by omega)
  have hl := hf.dig
  unfold tallystickref09_pair.f
  refine Ev.bind (words_dig_ev hf (by decide)) (Ev.const ?_)
  have e1 : rd (dig W n ++ [0, 0]) 1 = ((n / 18446744073709551616 : Nat) : Int) := by
    show (dig W n ++ [0, 0]).getD 1 0 = _
    rw [getD_zeros, dig_getD W_gt, W_eq, Nat.pow_one, Nat.mod_eq_of_lt (by omega)]
  have e0 : rd (dig W n ++ [0, 0]) 0 = ((n % 18446744073709551616 : Nat) : Int) := by
    show (dig W n ++ [0, 0]).getD 0 0 = _
    rw [getD_zeros, dig_getD W_gt, W_eq, Nat.pow_zero, Nat.div_one]
  rw [Option.bind_some, if_pos (by show (dig W n).length + 2 < _; omega), Option.bind_some, if_pos (by rw [List.length_append]; show (1 : Int) < (((dig W n).length + 2 : Nat) : Int); omega), if_pos (by rw [List.length_append]; show (0 : Int) < (((dig W n).length + 2 : Nat) : Int); omega), e1, e0]
/-- The document's number. -/
def sumP (a b c : Nat) : Nat := partN a 998244353 167772161 469762049 + (partN b 167772161 998244353 469762049 + partN c 469762049 998244353 167772161)
theorem partN_lt (t m p q : Nat) (hm : 0 < m) : partN t m p q < p * q * m ∨ p * q = 0 := by
  unfold partN
  by_cases h : p * q = 0
  · exact .inr h
  · exact .inl (Nat.mul_lt_mul_of_pos_left (Nat.mod_lt _ hm) (Nat.pos_of_ne_zero h))
theorem refjoin_ev (a b c : Nat) (ha : a < 4294967296) (hb : b < 4294967296) (hc : c < 4294967296) :
    Ev (fun k => tallystickref09_Join.f k (a : Int) (b : Int) (c : Int)) (((sumP a b c % 78674626319836206717730817 / 18446744073709551616 : Nat) : Int), ((sumP a b c % 78674626319836206717730817 % 18446744073709551616 : Nat) : Int)) := by
  have l1 : partN a 998244353 167772161 469762049 < 78674626319836206717730817 := by
    rcases partN_lt a 998244353 167772161 469762049 (by decide) with h | h
    · exact h
    · exact absurd h (by decide)
  have l2 : partN b 167772161 998244353 469762049 < 78674626319836206717730817 := by
    rcases partN_lt b 167772161 998244353 469762049 (by decide) with h | h
    · exact h
    · exact absurd h (by decide)
  have l3 : partN c 469762049 998244353 167772161 < 78674626319836206717730817 := by
    rcases partN_lt c 469762049 998244353 167772161 (by decide) with h | h
    · exact h
    · exact absurd h (by decide)
  have p1 := part_ev a 998244353 167772161 469762049 ha (by decide) (by decide) (by decide) (by decide)
  have p2 := part_ev b 167772161 998244353 469762049 hb (by decide) (by decide) (by decide) (by decide)
  have p3 := part_ev c 469762049 998244353 167772161 hc (by decide) (by decide) (by decide) (by decide)
  unfold sumP
  generalize partN a 998244353 167772161 469762049 = s1 at *
  generalize partN b 167772161 998244353 469762049 = s2 at *
  generalize partN c 469762049 998244353 167772161 = s3 at *
  have f1 := fit_two (n := s1) (by omega)
  have f2 := fit_two (n := s2) (by omega)
  have f3 := fit_two (n := s3) (by omega)
  have f23 := fit_two (n := s2 + s3) (by omega)
  have fs := fit_two (n := s1 + (s2 + s3)) (by omega)
  have fb := fit_two (n := 78674626319836206717730817) (by decide)
  have ls := fs.digV
  have lb := fb.digV
  have hdv := div_ev (x := dig V (s1 + (s2 + s3))) (D := 78674626319836206717730817) (dIV _) (by omega) (by decide) (by omega)
  rw [dVV] at hdv
  have hdg := two_digits_ev (x := 715227917457555457) (y := 4264960) (by decide) (by decide)
  rw [show 715227917457555457 + 18446744073709551616 * 4264960 = 78674626319836206717730817 by decide] at hdg
  have hpr := pair_ev (n := (s1 + (s2 + s3)) % 78674626319836206717730817) (Nat.mod_lt _ (by decide))
  unfold tallystickref09_Join.f
  refine Ev.bind p1 (Ev.bind p2 (Ev.bind p3 (Ev.bind (addV_ev f2 f3 (by decide)) (Ev.bind (addV_ev f1 f23 (by decide)) ?_))))
  refine Ev.congr (G := fun k => (tallystickref04_Digits.f k [((715227917457555457 : Nat) : Int), ((4264960 : Nat) : Int)]).bind fun t388 => ((tallystickref04_Div.f k (dig V (s1 + (s2 + s3))) t388).bind fun bt391 => ((tallystickref09_pair.f k bt391.2).bind fun bt397 => (some (bt397.1, bt397.2))))) (fun k => by rw [refbound_eq, Option.bind_some]; rfl) ?_
  exact Ev.bind hdg (Ev.bind hdv (Ev.bind hpr (Ev.const rfl)))
end Go.Proofs.YtaakniobgljniaaDoor.Pure
