/- Texts joined into one: each with its own sentence of what is proved, and under which conditions. -/
import Derived.Test.YtofknlpbnpokeaaPNatG
import Derived.Test.YtofknlpbnpokeaaPa3
import Derived.Test.YtofknlpbnpokeaaHProdE
import Derived.Test.YtofknlpbnpokeaaHQuotI
import Derived.Test.YtofknlpbnpokeaaPa1
import Derived.Test.YtofknlpbnpokeaaPa5
import Derived.Test.YtofknlpbnpokeaaPa6
/- What the laws of prod reckon with, in plain numbers. -/
namespace Go.Proofs.Ytofknlpbnpokeaa.Pure
open Go.RowKit Go.Proofs.Ytofknlpbnpokeaa.Pa Go.Proofs.YtofknlpbnpokeaaW.PrintWords Go.Proofs.YtofknlpbnpokeaaW.PrintLast Go.Proofs.Ytofknlpbnpokeaa.Hand Go.Proofs.Ytofknlpbnpokeaa.Num
set_option linter.unusedVariables false
set_option linter.unusedSimpArgs false

theorem Ev.yes {α : Type} {c : Prop} [Decidable c] {A B : Nat → Option α} {r : α} (h : c) (hA : Ev A r) : Ev (fun k => if c then A k else B k) r := Ev.congr (fun k => if_pos h) hA
theorem Ev.no {α : Type} {c : Prop} [Decidable c] {A B : Nat → Option α} {r : α} (h : ¬ c) (hB : Ev B r) : Ev (fun k => if c then A k else B k) r := Ev.congr (fun k => if_neg h) hB
theorem Fit.digV {k n : Nat} (h : Fit k n) : (Num.dig V n).length ≤ 4 * k := dig_length_le V_gt (by rw [Nat.pow_mul, V_four]; exact h)
theorem dIV (n : Nat) : InB V (dig V n) := dig_inB V_gt n
theorem dVV (n : Nat) : val V (dig V n) = n := val_dig V_gt n
theorem words_dig_ev {n k : Nat} (h : Fit k n) (hk : k ≤ 10000) : Ev (fun k => tallystickref04_Words.f k (dig V n)) (dig W n) := by
  have := words_ev (dIV n) (Nat.le_trans h.digV (show 4 * k ≤ 1000000 by omega))
  rwa [dVV] at this
theorem digits_dig_ev {n k : Nat} (h : Fit k n) (hk : k ≤ 10000) : Ev (fun k => tallystickref04_Digits.f k (dig W n)) (dig V n) := by
  have := digits_ev (dI n) (Nat.le_trans h.dig (show k ≤ 1000000000 by omega))
  rwa [dV] at this
theorem addV_ev {m n k : Nat} (hm : Fit k m) (hn : Fit k n) (hk : k ≤ 10000) : Ev (fun k => tallystickref04_Add.f k (dig V m) (dig V n)) (dig V (m + n)) := by
  have lm := hm.digV
  have ln := hn.digV
  have h := add_ev (dIV m) (dIV n) (max (dig V m).length (dig V n).length) (Nat.le_max_left _ _) (Nat.le_max_right _ _) (by omega) (by omega) _ 0 [] 0 (Nat.zero_add _) (inB_nil _) rfl (by omega) rfl
  rw [dVV, dVV] at h
  exact h
theorem mulV_ev {m n k : Nat} (hm : Fit k m) (hn : Fit k n) (hk : k ≤ 10000) : Ev (fun k => tallystickref04_Mul.f k (dig V m) (dig V n)) (dig V (m * n)) := by
  have lm := hm.digV
  have ln := hn.digV
  have h := mul_ev (dIV m) (dIV n) (by omega) (by omega)
  rwa [dVV, dVV] at h
theorem trimV_ev {n k : Nat} (hn : Fit k n) (hk : k ≤ 10000) : Ev (fun k => tallystickref04_Trim.f k (dig V n)) (dig V n) := by
  have ln := hn.digV
  have h := trim_ev (dIV n) (by omega)
  rwa [dVV] at h
theorem sameW_ev {n k : Nat} (h : Fit k n) (hk : k ≤ 10000) : Ev (fun k => tallystickref04_Same.f k (dig W n) (dig W n)) true := same_ev _ (by have := h.dig; omega)
theorem school_eq {a b : List Int} (ha : InB W a) (hb : InB W b) (la : a.length ≤ 1000) (lb : b.length ≤ 1000) : prod_School.f a b = some (dig W (val W a * val W b)) := by
  unfold prod_School.f PLIM; rw [if_pos ⟨inb_of ha, inb_of hb, by omega, by omega⟩]
theorem mac_eq {a b : List Int} {x n : Int} (ha : InB W a) (hb : InB W b) (hx : Wd x) (la : a.length ≤ 1000) (lb : b.length ≤ 1000) (hn : n ≤ 1000) : prod_Mac.f a b x n = some (dig W (val W a + val W b * x.toNat * W ^ n.toNat)) := by
  unfold prod_Mac.f MLIM; rw [if_pos ⟨inb_of ha, inb_of hb, wd_iff.2 hx, by omega, by omega, by omega⟩]
theorem half_eq {a : List Int} (ha : InB W a) (n : Int) : prod_Half.f a n = some (dig W (val W a / W ^ n.toNat), dig W (val W a % W ^ n.toNat)) := by
  unfold prod_Half.f; rw [if_pos (inb_of ha)]
theorem Fit.powW {n k : Nat} (h : n < k) : Fit k (W ^ n) := Nat.pow_lt_pow_right W_gt h
theorem times_ev {a b : List Int} {j k : Nat} (ia : InB W a) (ib : InB W b) (ha : a.length ≤ j) (hb : b.length ≤ k) (hj : j ≤ 2000) (hk : k ≤ 2000) : Ev (fun k => tallystickref05_Times.f k a b) (dig W (val W a * val W b)) := by
  have fa := Fit.val ia ha
  have fb := Fit.val ib hb
  unfold tallystickref05_Times.f
  exact Ev.bind (digits_ev ia (by omega)) (Ev.bind (digits_ev ib (by omega)) (Ev.bind (mulV_ev (fa.mono (Nat.le_max_left j k)) (fb.mono (Nat.le_max_right j k)) (by omega)) (Ev.bind (words_dig_ev (fa.mul fb) (by omega)) (Ev.const rfl))))
end Go.Proofs.Ytofknlpbnpokeaa.Pure

/- What the laws of prod reckon with, in plain numbers: Karatsuba's products, and squares. -/
namespace Go.Proofs.Ytofknlpbnpokeaa.Pure
open Go.RowKit Go.Proofs.Ytofknlpbnpokeaa.Pa Go.Proofs.YtofknlpbnpokeaaW.PrintWords Go.Proofs.YtofknlpbnpokeaaW.PrintLast Go.Proofs.Ytofknlpbnpokeaa.Hand Go.Proofs.Ytofknlpbnpokeaa.Num
set_option linter.unusedVariables false
set_option linter.unusedSimpArgs false

theorem kara_eq {a b : List Int} (ha : InB W a) (hb : InB W b) (la : a.length ≤ 1000) (lb : b.length ≤ 1000) (n : Int) : prod_Kara.f a b n = some (dig W (val W a * val W b)) := by
  unfold prod_Kara.f PLIM; rw [if_pos ⟨inb_of ha, inb_of hb, by omega, by omega⟩]
theorem square_eq {a : List Int} (ha : InB W a) (la : a.length ≤ 1000) : prod_Square.f a = some (dig W (val W a * val W a)) := by
  unfold prod_Square.f PLIM; rw [if_pos ⟨inb_of ha, by omega⟩]
end Go.Proofs.Ytofknlpbnpokeaa.Pure

/- What the laws of quot reckon with, in plain numbers. -/
namespace Go.Proofs.Ytofknlpbnpokeaa.Pure
open Go.RowKit Go.Proofs.Ytofknlpbnpokeaa.Pa Go.Proofs.YtofknlpbnpokeaaW.PrintWords Go.Proofs.YtofknlpbnpokeaaW.PrintLast Go.Proofs.Ytofknlpbnpokeaa.Hand Go.Proofs.Ytofknlpbnpokeaa.Num
set_option linter.unusedVariables false
set_option linter.unusedSimpArgs false

theorem shown6 : tallysticklaw06_shown.f = some true := by decide +kernel
theorem few6 (a b : List Int) : tallysticklaw06_few.f a b = some (decide (a.length ≤ 30 ∧ b.length ≤ 30)) := by
  unfold tallysticklaw06_few.f
  by_cases h : a.length ≤ 30
  · rw [if_pos (by omega)]
    congr 1
    rw [decide_eq_decide]
    omega
  · rw [if_neg (by omega)]
    congr 1
    rw [eq_comm, decide_eq_false_iff_not]
    omega
theorem qdiv_eq {a b : List Int} (ha : InB W a) (hb : InB W b) (la : a.length * 8 ≤ 140737488351232) (lb : b.length * 8 ≤ 140737488351232) : quot_Div.f a b = some (if val W b = 0 then ([], [], 2) else (dig W (val W a / val W b), dig W (val W a % val W b), 0)) := by
  unfold quot_Div.f QLIM; rw [if_pos ⟨inb_of ha, inb_of hb, by omega, by omega⟩]
theorem qgcd_eq {a b : List Int} (ha : InB W a) (hb : InB W b) (la : a.length ≤ 1000) (lb : b.length ≤ 1000) : quot_Gcd.f a b = some (dig W (Nat.gcd (val W a) (val W b))) := by
  unfold quot_Gcd.f PLIM; rw [if_pos ⟨inb_of ha, inb_of hb, by omega, by omega⟩]
theorem qpow_eq {a : List Int} (ha : InB W a) (la : a.length ≤ 1000) (n : Int) : quot_Pow.f a n = some (powV (val W a) n) := by
  unfold quot_Pow.f PLIM; rw [if_pos ⟨inb_of ha, by omega⟩]
theorem by_eq {a : List Int} {x : Int} (ha : InB W a) (hx : Wd x) (la : a.length ≤ 1000) : quot_ByWord.f a x = some (if x = 0 then ([], 0, 2) else (dig W (val W a / x.toNat), ((val W a % x.toNat : Nat) : Int), 0)) := by
  unfold quot_ByWord.f SLIM; rw [if_pos ⟨inb_of ha, wdb_iff.2 hx, by omega⟩]
theorem one_word {x : Int} (hx : Wd x) : InB W [x] ∧ val W [x] = x.toNat := ⟨inB_cons.2 ⟨⟨hx.1, by rw [W_eq]; exact hx.2⟩, inB_nil _⟩, by simp [val]⟩
theorem wd_of_wf {x : Int} (h : (Lit.int .u64 x).wf = true) : Wd x := by have := bounds_u64 h; unfold Wd; omega
/-- A number of one word: the row of that word, put in order. -/
theorem len_zero {B n : Nat} (hB : 1 < B) : ((dig B n).length : Int) = 0 ↔ n = 0 := by
  constructor
  · intro h
    exact (dig_eq_nil hB).1 (List.eq_nil_of_length_eq_zero (by omega))
  · rintro rfl
    rw [dig_zero]; rfl
theorem len_pos {B n : Nat} (hB : 1 < B) (h : 0 < n) : 0 < (dig B n).length := by
  rcases Nat.eq_zero_or_pos (dig B n).length with h0 | h0
  · have := (dig_eq_nil hB).1 (List.eq_nil_of_length_eq_zero h0); omega
  · exact h0
theorem Fit.div {k n : Nat} (h : Fit k n) (d : Nat) : Fit k (n / d) := Nat.lt_of_le_of_lt (Nat.div_le_self _ _) h
theorem Fit.mod {k n : Nat} (h : Fit k n) (d : Nat) : Fit k (n % d) := Nat.lt_of_le_of_lt (Nat.mod_le _ _) h
theorem divV_ev {n d k : Nat} (hn : Fit k n) (hd : Fit k d) (hk : k ≤ 200) (h0 : 0 < d) : Ev (fun k => tallystickref04_Div.f k (dig V n) (dig V d)) (dig V (n / d), dig V (n % d)) := by
  have ln := hn.digV
  have ld := hd.digV
  have h := div_ev (dIV n) (by omega) h0 (by omega)
  rwa [dVV] at h
/-- The document's quotient. -/
theorem rdiv_ev {a d : List Int} (ia : InB W a) (id : InB W d) (la : a.length ≤ 200) (ld : d.length ≤ 200) : Ev (fun k => tallystickref06_Div.f k a d) (if val W d = 0 then ([], [], 2) else (dig W (val W a / val W d), dig W (val W a % val W d), 0)) := by
  have fa := Fit.val ia la
  have fd := Fit.val id ld
  unfold tallystickref06_Div.f
  refine Ev.bind (digits_ev id (by omega)) ?_
  by_cases h : val W d = 0
  · rw [if_pos h]
    exact Ev.yes ((len_zero V_gt).2 h) (Ev.const rfl)
  · rw [if_neg h]
    refine Ev.no (fun h0 => h ((len_zero V_gt).1 h0)) (Ev.bind (digits_ev ia (by omega)) (Ev.bind (divV_ev fa fd (by decide) (Nat.pos_of_ne_zero h)) (Ev.bind (words_dig_ev (fa.div _) (by decide)) (Ev.bind (words_dig_ev (fa.mod _) (by decide)) (Ev.const rfl)))))
def guessE (q : List Int) (b : Bool) : Int := if b = true then 0 else if (q.length : Int) > 1 then 18446744073709551615 else rd q 0
theorem guess_j0 (q : List Int) : Ev (fun k => quot_Guess.j0 k q ((q.length : Int) == 0)) (guessE q ((q.length : Int) == 0)) := by
  refine Ev.succ (Ev.congr (G := fun _ => some (guessE q ((q.length : Int) == 0))) (fun k => ?_) (Ev.const rfl))
  rw [quot_Guess.j0, guessE]
  by_cases h : ((q.length : Int) == 0) = true
  · rw [if_pos h, if_pos h]
  · rw [if_neg h, if_neg h]
    have : ¬ (q.length : Int) = 0 := by simpa using h
    split
    · rfl
    · rw [if_pos (by omega)]
theorem guess_j0t (q : List Int) : Ev (fun k => quot_Guess.j0 k q true) (guessE q true) := by
  refine Ev.succ (Ev.congr (G := fun _ => some (guessE q true)) (fun k => ?_) (Ev.const rfl))
  rw [quot_Guess.j0, guessE, if_pos rfl, if_pos rfl]
theorem rguess_j0 (q : List Int) : Ev (fun k => tallystickref06_Guess.j0 k q ((q.length : Int) == 0)) (guessE q ((q.length : Int) == 0)) := by
  refine Ev.succ (Ev.congr (G := fun _ => some (guessE q ((q.length : Int) == 0))) (fun k => ?_) (Ev.const rfl))
  rw [tallystickref06_Guess.j0, guessE]
  by_cases h : ((q.length : Int) == 0) = true
  · rw [if_pos h, if_pos h]
  · rw [if_neg h, if_neg h]
    have : ¬ (q.length : Int) = 0 := by simpa using h
    split
    · rfl
    · rw [if_pos (by omega)]
theorem rguess_j0t (q : List Int) : Ev (fun k => tallystickref06_Guess.j0 k q true) (guessE q true) := by
  refine Ev.succ (Ev.congr (G := fun _ => some (guessE q true)) (fun k => ?_) (Ev.const rfl))
  rw [tallystickref06_Guess.j0, guessE, if_pos rfl, if_pos rfl]
/-- Both guesses are alike. -/
theorem guess_ev {a d : List Int} (ia : InB W a) (id : InB W d) (la : a.length ≤ 200) (ld : d.length ≤ 200) : ∃ g, Ev (fun k => quot_Guess.f k a d) g ∧ Ev (fun k => tallystickref06_Guess.f k a d) g := by
  have h1 := qdiv_eq ia id (by omega) (by omega)
  have h2 := rdiv_ev ia id la ld
  by_cases h : val W d = 0
  · rw [if_pos h] at h1 h2
    exact ⟨_, by unfold quot_Guess.f; exact Ev.bind (Ev.const h1) (Ev.no (by decide) (guess_j0t _)), by unfold tallystickref06_Guess.f; exact Ev.bind h2 (Ev.no (by decide) (rguess_j0t _))⟩
  · rw [if_neg h] at h1 h2
    exact ⟨_, by unfold quot_Guess.f; exact Ev.bind (Ev.const h1) (Ev.yes (by first | rfl | trivial) (guess_j0 _)), by unfold tallystickref06_Guess.f; exact Ev.bind h2 (Ev.yes (by first | rfl | trivial) (rguess_j0 _))⟩
theorem rgcd_loop (s : Nat) : ∀ (x y K : Nat), x + y ≤ s → Fit K x → Fit K y → K ≤ 200 → Ev (fun k => tallystickref06_Gcd.l0 k (dig V x) (dig V y)) (dig W (Nat.gcd x y)) := by
  induction s using Nat.strongRecOn with
  | _ s ih =>
    intro x y K hs hx hy hK
    have fin : (x = 0 ∨ y = 0) → Ev (fun k => tallystickref06_Gcd.j1 k (dig V x) (dig V y) false) (dig W (Nat.gcd x y)) := fun h => by
      have hg : Nat.gcd x y = x + y := by rcases h with rfl | rfl <;> simp
      rw [hg]
      refine Ev.succ ?_
      simp only [tallystickref06_Gcd.j1]
      exact Ev.no (by decide) (Ev.bind (addV_ev hx hy (by omega)) (Ev.bind (words_dig_ev (Fit.add hx hy) (by omega)) (Ev.const rfl)))
    refine Ev.succ ?_
    simp only [tallystickref06_Gcd.l0]
    rcases Nat.eq_zero_or_pos x with h0 | h0
    · exact Ev.no (by subst h0; rw [dig_zero]; decide) (fin (.inl h0))
    · refine Ev.yes (by have := len_pos V_gt h0; omega) ?_
      rcases Nat.eq_zero_or_pos y with h1 | h1
      · rw [decide_eq_false (by subst h1; rw [dig_zero]; decide)]
        exact fin (.inr h1)
      · rw [decide_eq_true (by have := len_pos V_gt h1; omega)]
        refine Ev.succ ?_
        simp only [tallystickref06_Gcd.j1]
        have lx := hx.digV
        have ly := hy.digV
        refine Ev.yes (by first | rfl | trivial) (Ev.bind (cmp_ev (by omega) (by omega)) ?_)
        by_cases hc : y ≤ x
        · refine Ev.yes (by unfold cmpv; split <;> (try split) <;> omega) (Ev.bind (divV_ev hx hy hK h1) ?_)
          have hm := Nat.mod_lt x h1
          have h := ih (x % y + y) (by omega) (x % y) y K (Nat.le_refl _) (hx.mod _) hy hK
          rwa [← Nat.gcd_rec, Nat.gcd_comm] at h
        · refine Ev.no (by unfold cmpv; split <;> (try split) <;> omega) (Ev.bind (divV_ev hy hx hK h0) ?_)
          have hm := Nat.mod_lt y h0
          have h := ih (x + y % x) (by omega) x (y % x) K (Nat.le_refl _) hx (hy.mod _) hK
          rwa [Nat.gcd_comm, ← Nat.gcd_rec] at h
theorem rgcd_ev {a b : List Int} (ia : InB W a) (ib : InB W b) (la : a.length ≤ 200) (lb : b.length ≤ 200) : Ev (fun k => tallystickref06_Gcd.f k a b) (dig W (Nat.gcd (val W a) (val W b))) := by
  unfold tallystickref06_Gcd.f
  exact Ev.bind (digits_ev ia (by omega)) (Ev.bind (digits_ev ib (by omega)) (rgcd_loop _ _ _ 200 (Nat.le_refl _) (Fit.val ia la) (Fit.val ib lb) (by decide)))
theorem rpow_loop {v n K : Nat} (hv : Fit K v) (hK : K ≤ 100) (hn : n ≤ 100000) (hf : ∀ i, i ≤ n → Fit 5000 (v ^ i)) : ∀ (d i : Nat), i + d = n → Ev (fun k => tallystickref06_Pow.l0 k (n : Int) (dig V v) (dig V (v ^ i)) (i : Int)) (dig W (v ^ n), 0)
  | 0, i, h => by
    obtain rfl : i = n := by omega
    refine Ev.succ ?_
    simp only [tallystickref06_Pow.l0]
    exact Ev.no (by omega) (Ev.bind (words_dig_ev (hf i (Nat.le_refl _)) (by decide)) (Ev.const rfl))
  | d + 1, i, h => by
    have ih := rpow_loop hv hK hn hf d (i + 1) (by omega)
    refine Ev.succ ?_
    simp only [tallystickref06_Pow.l0]
    refine Ev.yes (by omega) ?_
    by_cases h0 : v ^ i = 0
    · have hv0 : v = 0 := by
        rcases Nat.eq_zero_or_pos v with h | h
        · exact h
        · have := Nat.pow_pos (n := i) h; omega
      have hn0 : v ^ n = 0 := by rw [hv0]; exact Nat.zero_pow (by omega)
      rw [hn0, h0]
      exact Ev.no (by rw [dig_zero]; decide) (Ev.bind (words_dig_ev (k := 1) (Nat.pow_pos W_pos) (by decide)) (Ev.const rfl))
    · have hp := len_pos V_gt (Nat.pos_of_ne_zero h0)
      have hm := mulV_ev (hf i (by omega)) (hv.mono (show K ≤ 5000 by omega)) (by decide)
      rw [← Nat.pow_succ] at hm
      refine Ev.yes (by omega) (Ev.bind hm ?_)
      rw [w_succ i (by omega)]
      exact ih
end Go.Proofs.Ytofknlpbnpokeaa.Pure
