/- Texts joined into one: each with its own sentence of what is proved, and under which conditions. -/
import Derived.Test.YtcgcffnhlafneaaPNatG
import Derived.Test.YtcgcffnhlafneaaHQuotI
/- What the laws of prod reckon with, in plain numbers. -/
namespace Go.Proofs.Ytcgcffnhlafneaa.Pure
open Go.RowKit Go.Proofs.Ytcgcffnhlafneaa.Pa Go.Proofs.YtcgcffnhlafneaaW.PrintWords Go.Proofs.YtcgcffnhlafneaaW.PrintLast Go.Proofs.Ytcgcffnhlafneaa.Hand Go.Proofs.Ytcgcffnhlafneaa.Num
set_option linter.unusedVariables false
set_option linter.unusedSimpArgs false

theorem Ev.yes {α : Type} {c : Prop} [Decidable c] {A B : Nat → Option α} {r : α} (h : c) (hA : Ev A r) : Ev (fun k => if c then A k else B k) r := Ev.congr (fun k => if_pos h) hA
theorem Ev.no {α : Type} {c : Prop} [Decidable c] {A B : Nat → Option α} {r : α} (h : ¬ c) (hB : Ev B r) : Ev (fun k => if c then A k else B k) r := Ev.congr (fun k => if_neg h) hB
theorem Fit.digV {k n : Nat} (h : Fit k n) : (Num.dig V n).length ≤ 4 * k := dig_length_le V_gt (by rw [Nat.pow_mul, V_four]; exact h)
theorem dIV (n : Nat) : InB V (dig V n) := dig_inB V_gt n
theorem dVV (n : Nat) : val V (dig V n) = n := val_dig V_gt n
theorem words_dig_ev {n k : Nat} (h : Fit k n) (hk : k ≤ 10000) : Ev (fun k => tallystickref04_Words.f k (dig V n)) (dig W n) := by
  have := words_ev (dIV n) (Nat.le_trans h.digV (show 4 * k ≤ 1000000 by omega))
  rwa [dVV] at this
theorem digits_dig_ev {n k : Nat} (h : Fit k n) (hk : k ≤ 10000) : Ev (fun k => tallystickref04_Digits.f k (dig W n)) (dig V n) := by
  have := digits_ev (dI n) (Nat.le_trans h.dig (show k ≤ 1000000000 by omega))
  rwa [dV] at this
theorem addV_ev {m n k : Nat} (hm : Fit k m) (hn : Fit k n) (hk : k ≤ 10000) : Ev (fun k => tallystickref04_Add.f k (dig V m) (dig V n)) (dig V (m + n)) := by
  have lm := hm.digV
  have ln := hn.digV
  have h := add_ev (dIV m) (dIV n) (max (dig V m).length (dig V n).length) (Nat.le_max_left _ _) (Nat.le_max_right _ _) (by omega) (by omega) _ 0 [] 0 (Nat.zero_add _) (inB_nil _) rfl (by omega) rfl
  rw [dVV, dVV] at h
  exact h
theorem mulV_ev {m n k : Nat} (hm : Fit k m) (hn : Fit k n) (hk : k ≤ 10000) : Ev (fun k => tallystickref04_Mul.f k (dig V m) (dig V n)) (dig V (m * n)) := by
  have lm := hm.digV
  have ln := hn.digV
  have h := mul_ev (dIV m) (dIV n) (by omega) (by omega)
  rwa [dVV, dVV] at h
theorem trimV_ev {n k : Nat} (hn : Fit k n) (hk : k ≤ 10000) : Ev (fun k => tallystickref04_Trim.f k (dig V n)) (dig V n) := by
  have ln := hn.digV
  have h := trim_ev (dIV n) (by omega)
  rwa [dVV] at h
theorem sameW_ev {n k : Nat} (h : Fit k n) (hk : k ≤ 10000) : Ev (fun k => tallystickref04_Same.f k (dig W n) (dig W n)) true := same_ev _ (by have := h.dig; omega)
theorem school_eq {a b : List Int} (ha : InB W a) (hb : InB W b) (la : a.length ≤ 1000) (lb : b.length ≤ 1000) : prod_School.f a b = some (dig W (val W a * val W b)) := by
  unfold prod_School.f PLIM; rw [if_pos ⟨inb_of ha, inb_of hb, by omega, by omega⟩]
theorem mac_eq {a b : List Int} {x n : Int} (ha : InB W a) (hb : InB W b) (hx : Wd x) (la : a.length ≤ 1000) (lb : b.length ≤ 1000) (hn : n ≤ 1000) : prod_Mac.f a b x n = some (dig W (val W a + val W b * x.toNat * W ^ n.toNat)) := by
  unfold prod_Mac.f MLIM; rw [if_pos ⟨inb_of ha, inb_of hb, wd_iff.2 hx, by omega, by omega, by omega⟩]
theorem half_eq {a : List Int} (ha : InB W a) (n : Int) : prod_Half.f a n = some (dig W (val W a / W ^ n.toNat), dig W (val W a % W ^ n.toNat)) := by
  unfold prod_Half.f; rw [if_pos (inb_of ha)]
theorem Fit.powW {n k : Nat} (h : n < k) : Fit k (W ^ n) := Nat.pow_lt_pow_right W_gt h
end Go.Proofs.Ytcgcffnhlafneaa.Pure

/- What the laws of quot reckon with, in plain numbers. -/
namespace Go.Proofs.Ytcgcffnhlafneaa.Pure
open Go.RowKit Go.Proofs.Ytcgcffnhlafneaa.Pa Go.Proofs.YtcgcffnhlafneaaW.PrintWords Go.Proofs.YtcgcffnhlafneaaW.PrintLast Go.Proofs.Ytcgcffnhlafneaa.Hand Go.Proofs.Ytcgcffnhlafneaa.Num
set_option linter.unusedVariables false
set_option linter.unusedSimpArgs false

theorem qdiv_eq {a b : List Int} (ha : InB W a) (hb : InB W b) (la : a.length * 8 ≤ 140737488351232) (lb : b.length * 8 ≤ 140737488351232) : quot_Div.f a b = some (if val W b = 0 then ([], [], 2) else (dig W (val W a / val W b), dig W (val W a % val W b), 0)) := by
  unfold quot_Div.f QLIM; rw [if_pos ⟨inb_of ha, inb_of hb, by omega, by omega⟩]
theorem qgcd_eq {a b : List Int} (ha : InB W a) (hb : InB W b) (la : a.length ≤ 1000) (lb : b.length ≤ 1000) : quot_Gcd.f a b = some (dig W (Nat.gcd (val W a) (val W b))) := by
  unfold quot_Gcd.f PLIM; rw [if_pos ⟨inb_of ha, inb_of hb, by omega, by omega⟩]
theorem qpow_eq {a : List Int} (ha : InB W a) (la : a.length ≤ 1000) (n : Int) : quot_Pow.f a n = some (powV (val W a) n) := by
  unfold quot_Pow.f PLIM; rw [if_pos ⟨inb_of ha, by omega⟩]
theorem by_eq {a : List Int} {x : Int} (ha : InB W a) (hx : Wd x) (la : a.length ≤ 1000) : quot_ByWord.f a x = some (if x = 0 then ([], 0, 2) else (dig W (val W a / x.toNat), ((val W a % x.toNat : Nat) : Int), 0)) := by
  unfold quot_ByWord.f SLIM; rw [if_pos ⟨inb_of ha, wdb_iff.2 hx, by omega⟩]
theorem one_word {x : Int} (hx : Wd x) : InB W [x] ∧ val W [x] = x.toNat := ⟨inB_cons.2 ⟨⟨hx.1, by rw [W_eq]; exact hx.2⟩, inB_nil _⟩, by simp [val]⟩
theorem wd_of_wf {x : Int} (h : (Lit.int .u64 x).wf = true) : Wd x := by have := bounds_u64 h; unfold Wd; omega
/-- A number of one word: the row of that word, put in order. -/
theorem len_zero {B n : Nat} (hB : 1 < B) : ((dig B n).length : Int) = 0 ↔ n = 0 := by
  constructor
  · intro h
    exact (dig_eq_nil hB).1 (List.eq_nil_of_length_eq_zero (by omega))
  · rintro rfl
    rw [dig_zero]; rfl
theorem len_pos {B n : Nat} (hB : 1 < B) (h : 0 < n) : 0 < (dig B n).length := by
  rcases Nat.eq_zero_or_pos (dig B n).length with h0 | h0
  · have := (dig_eq_nil hB).1 (List.eq_nil_of_length_eq_zero h0); omega
  · exact h0
theorem Fit.div {k n : Nat} (h : Fit k n) (d : Nat) : Fit k (n / d) := Nat.lt_of_le_of_lt (Nat.div_le_self _ _) h
theorem Fit.mod {k n : Nat} (h : Fit k n) (d : Nat) : Fit k (n % d) := Nat.lt_of_le_of_lt (Nat.mod_le _ _) h
theorem divV_ev {n d k : Nat} (hn : Fit k n) (hd : Fit k d) (hk : k ≤ 200) (h0 : 0 < d) : Ev (fun k => tallystickref04_Div.f k (dig V n) (dig V d)) (dig V (n / d), dig V (n % d)) := by
  have ln := hn.digV
  have ld := hd.digV
  have h := div_ev (dIV n) (by omega) h0 (by omega)
  rwa [dVV] at h
end Go.Proofs.Ytcgcffnhlafneaa.Pure
