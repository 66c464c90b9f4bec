/- The document's functions for nat, in plain numbers: rows of words out of digits; powers of 2. -/
import Derived.Test.YtgoglfojjpibnaaPNatE
namespace Go.Proofs.Ytgoglfojjpibnaa.Pure
open Go.RowKit Go.Proofs.Ytgoglfojjpibnaa.Pa Go.Proofs.YtgoglfojjpibnaaW.PrintWords Go.Proofs.YtgoglfojjpibnaaW.PrintLast Go.Proofs.Ytgoglfojjpibnaa.Hand Go.Proofs.Ytgoglfojjpibnaa.Num
set_option linter.unusedVariables false
set_option linter.unusedSimpArgs false

theorem dig_getD {B : Nat} (hB : 1 < B) : ∀ (i n : Nat), (dig B n).getD i 0 = ((n / B ^ i % B : Nat) : Int)
  | i, 0 => by rw [dig_zero, Nat.zero_div, Nat.zero_mod]; simp
  | 0, n + 1 => by rw [dig_pos hB (by omega), Nat.pow_zero, Nat.div_one]; rfl
  | i + 1, n + 1 => by
    rw [dig_pos hB (by omega), List.getD_cons_succ, dig_getD hB i _, Nat.div_div_eq_div_mul, Nat.pow_succ, Nat.mul_comm B]
/-- The words of n, of whose digits those from i on have been put in. -/
def wat (n i j : Nat) : Nat := n / V ^ (max i (4 * j)) % V ^ (4 * j + 4 - max i (4 * j))
def wordsAt (n i m : Nat) : List Int := (List.range m).map fun j => ((wat n i j : Nat) : Int)
theorem wordsAt_length (n i m : Nat) : (wordsAt n i m).length = m := by simp [wordsAt]
theorem wordsAt_getD (n i m j : Nat) (h : j < m) : (wordsAt n i m).getD j 0 = ((wat n i j : Nat) : Int) := by
  rw [List.getD_eq_getElem?_getD]; simp [wordsAt, h]
theorem wat_lt (n i j : Nat) : wat n i j < 18446744073709551616 := by
  have h1 : wat n i j < V ^ (4 * j + 4 - max i (4 * j)) := Nat.mod_lt _ (Nat.pow_pos V_pos)
  have h2 : V ^ (4 * j + 4 - max i (4 * j)) ≤ V ^ 4 := Nat.pow_le_pow_right V_pos (by omega)
  rw [V_four, W_eq] at h2
  omega
theorem wat_step (n i : Nat) : 65536 * wat n (i + 1) (i / 4) + n / V ^ i % V = wat n i (i / 4) := by
  have e1 : max (i + 1) (4 * (i / 4)) = i + 1 := by omega
  have e2 : max i (4 * (i / 4)) = i := by omega
  have e3 : 4 * (i / 4) + 4 - i = (4 * (i / 4) + 4 - (i + 1)) + 1 := by omega
  unfold wat
  rw [e1, e2, e3, Nat.pow_succ V (4 * (i / 4) + 4 - (i + 1)), Nat.mul_comm _ V, Nat.mod_mul, Nat.div_div_eq_div_mul, ← Nat.pow_succ, Nat.add_comm]
  rfl
theorem wat_other (n i j : Nat) (h : j ≠ i / 4) : wat n (i + 1) j = wat n i j := by
  unfold wat
  rcases Nat.lt_or_ge (4 * j) (i + 1) with h1 | h1
  · have e1 : 4 * j + 4 - max (i + 1) (4 * j) = 0 := by omega
    have e2 : 4 * j + 4 - max i (4 * j) = 0 := by omega
    rw [e1, e2, Nat.pow_zero, Nat.mod_one, Nat.mod_one]
  · rw [show max (i + 1) (4 * j) = max i (4 * j) by omega]
theorem wordsAt_set (n i m : Nat) (h : i / 4 < m) : (wordsAt n (i + 1) m).set (i / 4) ((wat n i (i / 4) : Nat) : Int) = wordsAt n i m := by
  refine List.ext_getElem (by simp [wordsAt]) fun j h1 h2 => ?_
  rw [List.getElem_set]
  split
  · rename_i e; subst e; simp [wordsAt]
  · rename_i e
    simp [wordsAt, wat_other n i j (by omega)]
theorem words_loop {n m L : Nat} (hL : (dig V n).length = L) (hm : m = (L + 3) / 4) (hb : L ≤ 1000000) : ∀ i, i ≤ L → Ev (fun k => tallystickref04_Words.l0 k (dig V n) (wordsAt n i m) ((i : Int) - 1)) (wordsAt n 0 m)
  | 0, _ => Ev.succ (Ev.congr (G := fun _ => some (wordsAt n 0 m)) (fun k => by rw [tallystickref04_Words.l0, if_neg (by decide)]) (Ev.const rfl))
  | i + 1, hi => by
    have h1 : i / 4 < m := by omega
    have hq : wrap64 (Int.tdiv (i : Int) 4) = ((i / 4 : Nat) : Int) := by rw [show Int.tdiv (i : Int) 4 = ((i / 4 : Nat) : Int) from rfl, w_nat _ (by omega)]
    have ha := wat_lt n (i + 1) (i / 4)
    have hst := wat_step n i
    have hlt := wat_lt n i (i / 4)
    have hdl : n / V ^ i % V < 65536 := Nat.mod_lt _ V_pos
    have hw : IntKind.u64.wrap (IntKind.u64.wrap (65536 * ((wat n (i + 1) (i / 4) : Nat) : Int)) + IntKind.u64.wrap ((n / V ^ i % V : Nat) : Int)) = ((wat n i (i / 4) : Nat) : Int) := by
      rw [IntKind.wrap_u64, IntKind.wrap_u64, IntKind.wrap_u64]
      generalize wat n (i + 1) (i / 4) = p at *
      generalize wat n i (i / 4) = q at *
      generalize n / V ^ i % V = t at *
      omega
    have hi0 : ((i + 1 : Nat) : Int) - 1 = (i : Int) := by omega
    have hp : wrap64 ((i : Int) - 1) = (i : Int) - 1 := IntWalk.wrap64_in _ (by omega)
    refine Ev.succ (Ev.congr (fun k => ?_) (words_loop hL hm hb i (by omega)))
    rw [hi0, tallystickref04_Words.l0, if_pos (by omega), hq, if_pos (by omega), if_pos (by rw [wordsAt_length]; omega), if_pos (by omega), if_pos (by omega), Int.toNat_natCast, rd_nat, rd_nat, wordsAt_getD _ _ _ _ h1, dig_getD V_gt, hw, wordsAt_set n i m h1, hp]
theorem words_dig {n m L : Nat} (hL : (dig V n).length = L) (hm : m = (L + 3) / 4) : wordsAt n 0 m = dig W n := by
  have hn := val_lt V_pos (dig_inB V_gt n)
  rw [val_dig V_gt, hL] at hn
  have hVW : ∀ k, V ^ (4 * k) = W ^ k := fun k => by rw [Nat.pow_mul, V_four]
  have hup : n < W ^ m := by rw [← hVW]; exact Nat.lt_of_lt_of_le hn (Nat.pow_le_pow_right V_pos (by omega))
  have h1 := dig_length_le W_gt hup
  have hlen : (dig W n).length = m := by
    rcases Nat.eq_zero_or_pos m with h0 | h0
    · omega
    · have hlo : W ^ (m - 1) ≤ n := by
        rcases Nat.lt_or_ge n (W ^ (m - 1)) with h2 | h2
        · exfalso
          rw [← hVW] at h2
          have := dig_length_le V_gt h2
          omega
        · exact h2
      have := dig_length_lt W_gt hlo
      omega
  refine List.ext_getElem (by rw [wordsAt_length, hlen]) fun j h2 h3 => ?_
  have e1 := dig_getD W_gt j n
  rw [List.getD_eq_getElem?_getD, List.getElem?_eq_getElem h3] at e1
  have e2 : (dig W n)[j] = ((n / W ^ j % W : Nat) : Int) := e1
  rw [e2]
  have e3 : wat n 0 j = n / W ^ j % W := by
    unfold wat
    rw [show max 0 (4 * j) = 4 * j by omega, show 4 * j + 4 - 4 * j = 4 by omega, V_four, hVW]
  simp [wordsAt, e3]
theorem words_ev {l : List Int} (hi : InB V l) (hl : l.length ≤ 1000000) : Ev (fun k => tallystickref04_Words.f k l) (dig W (val V l)) := by
  have hd := dig_length_le V_gt (val_lt V_pos hi)
  generalize hn : val V l = n at *
  obtain ⟨L, hL⟩ : ∃ L, L = (dig V n).length := ⟨_, rfl⟩
  obtain ⟨m, hm⟩ : ∃ m, m = (L + 3) / 4 := ⟨_, rfl⟩
  have hLb : L ≤ 1000000 := by omega
  have hw : wrap64 (Int.tdiv (wrap64 ((L : Int) + 3)) 4) = ((m : Nat) : Int) := by
    rw [show wrap64 ((L : Int) + 3) = ((L + 3 : Nat) : Int) from w_nat (L + 3) (by omega), show Int.tdiv ((L + 3 : Nat) : Int) 4 = (((L + 3) / 4 : Nat) : Int) from rfl, w_nat _ (by omega), hm]
  have hp : wrap64 ((L : Int) - 1) = (L : Int) - 1 := IntWalk.wrap64_in _ (by omega)
  have h0 : List.replicate m (0 : Int) = wordsAt n L m := by
    refine List.ext_getElem (by simp [wordsAt]) fun j h1 h2 => ?_
    have hj : j < m := by simpa using h1
    have hv := val_lt V_pos (dig_inB V_gt n)
    rw [val_dig V_gt, ← hL] at hv
    have e : wat n L j = 0 := by
      unfold wat
      rw [show max L (4 * j) = L by omega, Nat.div_eq_of_lt hv, Nat.zero_mod]
    simp [wordsAt, e]
  have hwl := words_loop hL.symm hm hLb L (Nat.le_refl _)
  rw [words_dig hL.symm hm, ← h0] at hwl
  have ht := trim_ev hi (by omega)
  rw [hn] at ht
  refine Ev.bind ht (Ev.congr (fun k => ?_) hwl)
  rw [← hL, hw, if_pos (by omega), Int.toNat_natCast, if_pos (by omega), hp]

/-! ### Power -/
theorem pow_loop {n : Nat} (hn : n ≤ 100000) : ∀ (d j : Nat), j + d = n % 16 → Ev (fun k => tallystickref04_Power.l0 k (n : Int) (List.replicate (n / 16 + 1) 0) ((2 ^ j : Nat) : Int) (j : Int)) (dig V (2 ^ n))
  | 0, j, h => by
    obtain rfl : j = n % 16 := by omega
    have hm : Int.tmod (n : Int) 16 = ((n % 16 : Nat) : Int) := rfl
    have hd : wrap64 (Int.tdiv (n : Int) 16) = ((n / 16 : Nat) : Int) := by rw [show Int.tdiv (n : Int) 16 = ((n / 16 : Nat) : Int) from rfl, w_nat _ (by omega)]
    have hs : (List.replicate (n / 16 + 1) (0 : Int)).set (n / 16) ((2 ^ (n % 16) : Nat) : Int) = List.replicate (n / 16) 0 ++ [((2 ^ (n % 16) : Nat) : Int)] := by
      rw [List.replicate_succ', List.set_append_right _ _ (by simp)]; simp
    have hp : 2 ^ (n % 16) < V := by rw [show V = 2 ^ 16 from rfl]; exact Nat.pow_lt_pow_right (by decide) (by omega)
    have hp0 := Nat.two_pow_pos (n % 16)
    have he : List.replicate (n / 16) 0 ++ [((2 ^ (n % 16) : Nat) : Int)] = dig V (2 ^ n) := by
      refine dig_of V_gt (inB_append.2 ⟨inB_replicate V_pos _, inB_cons.2 ⟨by omega, inB_nil _⟩⟩) (.inr ?_) ?_
      · rw [List.getLastD_concat]
        exact Int.ofNat_ne_zero.2 (Nat.ne_of_gt hp0)
      · rw [val_snoc, val_replicate, List.length_replicate, Int.toNat_natCast, V_pow, ← Nat.pow_add, Nat.zero_add, Nat.div_add_mod]
    refine Ev.succ (Ev.congr (G := fun _ => some (dig V (2 ^ n))) (fun k => ?_) (Ev.const rfl))
    rw [tallystickref04_Power.l0, hm, if_neg (by omega), hd, if_pos (by omega), if_pos (by simp; omega), Int.toNat_natCast, hs, he]
  | d + 1, j, h => by
    have hm : Int.tmod (n : Int) 16 = ((n % 16 : Nat) : Int) := rfl
    have hp : 2 ^ j ≤ 2 ^ 15 := Nat.pow_le_pow_right (by decide) (by omega)
    have hw : wrap64 (((2 ^ j : Nat) : Int) + ((2 ^ j : Nat) : Int)) = ((2 ^ (j + 1) : Nat) : Int) := by
      rw [w_add _ _ (by omega), Nat.pow_succ, Nat.mul_two]
    refine Ev.succ (Ev.congr (fun k => ?_) (pow_loop hn d (j + 1) (by omega)))
    rw [tallystickref04_Power.l0, hm, if_pos (by omega), hw, w_succ j (by omega)]
theorem pow_ev {n : Nat} (hn : n ≤ 100000) : Ev (fun k => tallystickref04_Power.f k (n : Int)) (dig V (2 ^ n)) := by
  refine Ev.congr (fun k => ?_) (pow_loop hn (n % 16) 0 (by omega))
  unfold tallystickref04_Power.f
  have hd : wrap64 (Int.tdiv (n : Int) 16) = ((n / 16 : Nat) : Int) := by rw [show Int.tdiv (n : Int) 16 = ((n / 16 : Nat) : Int) from rfl, w_nat _ (by omega)]
  rw [hd, w_succ (n / 16) (by omega), if_pos (by omega), Int.toNat_natCast, if_pos (by omega)]
  rfl
end Go.Proofs.Ytgoglfojjpibnaa.Pure
