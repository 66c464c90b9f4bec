/- The document's functions for nat, in plain numbers: sums, differences, which is above, products, powers of 2. -/
import Derived.Test.YtgoglfojjpibnaaPNatB
namespace Go.Proofs.Ytgoglfojjpibnaa.Pure
open Go.RowKit Go.Proofs.Ytgoglfojjpibnaa.Pa Go.Proofs.YtgoglfojjpibnaaW.PrintWords Go.Proofs.YtgoglfojjpibnaaW.PrintLast Go.Proofs.Ytgoglfojjpibnaa.Hand Go.Proofs.Ytgoglfojjpibnaa.Num
set_option linter.unusedVariables false
set_option linter.unusedSimpArgs false

theorem digit_eq (l : List Int) (i : Nat) : tallystickref04_digit.f l (i : Int) = some (l.getD i 0) := by
  unfold tallystickref04_digit.f
  by_cases h : i < l.length
  · rw [if_pos (by omega), if_pos (by omega), rd_nat]
  · rw [if_neg (by omega), List.getD_eq_getElem?_getD, List.getElem?_eq_none (by omega)]; rfl
theorem dgt {l : List Int} (h : InB V l) (i : Nat) : ∃ x : Nat, l.getD i 0 = (x : Int) ∧ x < 65536 := by
  have := inB_getD V_pos h i
  obtain ⟨x, hx⟩ := Int.eq_ofNat_of_zero_le this.1
  refine ⟨x, hx, ?_⟩
  have h2 := this.2
  rw [hx, V_eq] at h2
  omega
theorem tdiv_n (s : Nat) : Int.tdiv (s : Int) 65536 = ((s / 65536 : Nat) : Int) := rfl
theorem tmod_n (s : Nat) : Int.tmod (s : Int) 65536 = ((s % 65536 : Nat) : Int) := rfl
theorem w_nat (s : Nat) (h : s ≤ 9223372036854775807) : wrap64 (s : Int) = (s : Int) := IntWalk.wrap64_in _ (by omega)
theorem w_add (s t : Nat) (h : s + t ≤ 9223372036854775807) : wrap64 ((s : Int) + (t : Int)) = ((s + t : Nat) : Int) := w_nat (s + t) h
theorem w_mul (s t : Nat) (h : s * t ≤ 9223372036854775807) : wrap64 ((s : Int) * (t : Int)) = ((s * t : Nat) : Int) := w_nat (s * t) h
theorem take_all {l : List Int} {i : Nat} (h : l.length ≤ i) : l.take i = l := List.take_of_length_le h

theorem mod_dg (s : Nat) : 0 ≤ ((s % 65536 : Nat) : Int) ∧ ((s % 65536 : Nat) : Int) < (V : Int) := by have := V_eq; omega
theorem carry_le {u v c : Nat} (hu : u < 65536) (hv : v < 65536) (hc : c ≤ 1) : (u + v + c) / 65536 ≤ 1 := by omega
theorem w_sum {u v c : Nat} (hu : u < 65536) (hv : v < 65536) (hc : c ≤ 1) : wrap64 (wrap64 ((u : Int) + (v : Int)) + (c : Int)) = ((u + v + c : Nat) : Int) := by rw [w_add u v (by omega), w_add (u + v) c (by omega)]
theorem split_V (s : Nat) : s % 65536 + V * (s / 65536) = s := Nat.mod_add_div s 65536
theorem carry_step (p A B O u v c : Nat) (h : O + p * c = A + B) : O + p * ((u + v + c) % 65536) + p * V * ((u + v + c) / 65536) = A + p * u + (B + p * v) := by
  have h1 := split_V (u + v + c)
  have h2 : p * ((u + v + c) % 65536) + p * V * ((u + v + c) / 65536) = p * u + p * v + p * c := by rw [Nat.mul_assoc, ← Nat.mul_add, h1, Nat.mul_add, Nat.mul_add]
  omega
/-! ### Add -/
theorem add_ev {x y : List Int} (hx : InB V x) (hy : InB V y) (M : Nat) (lx : x.length ≤ M) (ly : y.length ≤ M) (hMx : M = x.length ∨ M = y.length) (hM : M ≤ 1000000) : ∀ (d i : Nat) (out : List Int) (c : Nat), i + d = M + 1 → InB V out → out.length = i → c ≤ 1 → val V out + V ^ i * c = val V (x.take i) + val V (y.take i) →
    Ev (fun k => tallystickref04_Add.l0 k x y out (c : Int) (i : Int)) (dig V (val V x + val V y)) := by
  have fin : ∀ (i : Nat) (out : List Int), M ≤ i → i ≤ M + 1 → InB V out → out.length = i → val V out = val V (x.take i) + val V (y.take i) → Ev (fun k => tallystickref04_Add.l0 k x y out ((0 : Nat) : Int) (i : Int)) (dig V (val V x + val V y)) := by
    intro i out h1 h1b h2 h3 h4
    rw [take_all (by omega), take_all (by omega)] at h4
    rw [← h4]
    refine Ev.succ (Ev.congr (G := fun k => tallystickref04_Add.j1 k x y out ((0 : Nat) : Int) (i : Int) false) (fun k => ?_) (Ev.succ (Ev.congr (G := fun k => (tallystickref04_Trim.f k out).bind fun t => some t) (fun k => ?_) (Ev.bind (trim_ev h2 (by omega)) (Ev.const rfl)))))
    · rw [tallystickref04_Add.l0, if_neg (by omega), if_neg (by omega)]; rfl
    · rw [tallystickref04_Add.j1, if_neg (by decide)]
  intro d
  induction d with
  | zero =>
    intro i out c h1 h2 h3 h4 h5
    have hc : c = 0 := by
      rcases Nat.eq_zero_or_pos c with h0 | h0
      · exact h0
      · obtain rfl : c = 1 := by omega
        rw [take_all (by omega), take_all (by omega)] at h5
        have e1 := Nat.lt_of_lt_of_le (val_lt V_pos hx) (Nat.pow_le_pow_right V_pos lx)
        have e2 := Nat.lt_of_lt_of_le (val_lt V_pos hy) (Nat.pow_le_pow_right V_pos ly)
        obtain rfl : i = M + 1 := by omega
        have e3 := Nat.mul_le_mul_left (V ^ M) (show 2 ≤ V by decide)
        rw [Nat.pow_succ] at h5
        omega
    subst hc
    exact fin i out (by omega) (by omega) h2 h3 (by omega)
  | succ d ih =>
    intro i out c h1 h2 h3 h4 h5
    by_cases hgo : i < M ∨ c = 1
    · obtain ⟨u, hu, hu2⟩ := dgt hx i
      obtain ⟨v, hv, hv2⟩ := dgt hy i
      have s1 := val_take_succ V x i
      have s2 := val_take_succ V y i
      rw [hu, Int.toNat_natCast] at s1
      rw [hv, Int.toNat_natCast] at s2
      have hcc : (u + v + c) / 65536 ≤ 1 := carry_le hu2 hv2 h4
      have step := ih (i + 1) (out ++ [(((u + v + c) % 65536 : Nat) : Int)]) ((u + v + c) / 65536) (by omega) (inB_append.2 ⟨h2, inB_cons.2 ⟨mod_dg _, inB_nil _⟩⟩) (by simp [h3]) hcc (by
        rw [val_snoc, h3, Int.toNat_natCast, s1, s2, Nat.pow_succ]
        exact carry_step _ _ _ _ _ _ _ h5)
      have hlen : out.length < 17592186044416 := by rw [h3]; exact Nat.lt_of_le_of_lt (show i ≤ 1000001 by omega) (by decide)
      have hi2 : i ≤ 17592186044416 := Nat.le_trans (show i ≤ 1000001 by omega) (by decide)
      have run : Ev (fun k => tallystickref04_Add.j1 k x y out (c : Int) (i : Int) true) (dig V (val V x + val V y)) := by
        refine Ev.succ (Ev.congr (fun k => ?_) step)
        rw [tallystickref04_Add.j1, if_pos rfl, digit_eq, Option.bind_some, digit_eq, Option.bind_some, hu, hv, if_pos hlen, w_sum hu2 hv2 h4, tmod_n, tdiv_n, w_nat _ (Nat.le_trans hcc (by decide)), w_succ i hi2]
      refine Ev.succ (Ev.congr (fun k => ?_) run)
      rw [tallystickref04_Add.l0]
      by_cases g1 : (i : Int) < (x.length : Int)
      · rw [if_pos g1]
      · rw [if_neg g1]
        by_cases g2 : (i : Int) < (y.length : Int)
        · rw [if_pos g2]
        · rw [if_neg g2]
          by_cases g3 : c = 1
          · subst g3; rfl
          · exfalso
            omega
    · obtain rfl : c = 0 := by omega
      exact fin i out (by omega) (by omega) h2 h3 (by omega)
end Go.Proofs.Ytgoglfojjpibnaa.Pure
