/- The document's functions for nat, in plain numbers: products, how many bits, words. -/
import Derived.Test.YtgoglfojjpibnaaPNatD
namespace Go.Proofs.Ytgoglfojjpibnaa.Pure
open Go.RowKit Go.Proofs.Ytgoglfojjpibnaa.Pa Go.Proofs.YtgoglfojjpibnaaW.PrintWords Go.Proofs.YtgoglfojjpibnaaW.PrintLast Go.Proofs.Ytgoglfojjpibnaa.Hand Go.Proofs.Ytgoglfojjpibnaa.Num
set_option linter.unusedVariables false
set_option linter.unusedSimpArgs false

/-! ### Mul -/
theorem mul_step (O O' P o m c Z : Nat) (h : O + P * c = Z) (hset : O' + P * o = O + P * ((o + m + c) % 65536)) : O' + P * V * ((o + m + c) / 65536) = Z + P * m := by
  have h1 := split_V (o + m + c)
  have h2 : P * ((o + m + c) % 65536) + P * V * ((o + m + c) / 65536) = P * o + P * m + P * c := by rw [Nat.mul_assoc, ← Nat.mul_add, h1, Nat.mul_add, Nat.mul_add]
  omega
theorem mul_small {o u v c : Nat} (ho : o < 65536) (hu : u < 65536) (hv : v < 65536) (hc : c < 65536) : u * v ≤ 4294836225 ∧ (o + u * v + c) / 65536 < 65536 := by
  have : u * v ≤ 65535 * 65535 := Nat.mul_le_mul (by omega) (by omega)
  omega
theorem w_mulsum {o u v c : Nat} (ho : o < 65536) (hu : u < 65536) (hv : v < 65536) (hc : c < 65536) : wrap64 (wrap64 ((o : Int) + wrap64 ((u : Int) * (v : Int))) + (c : Int)) = ((o + u * v + c : Nat) : Int) := by
  have := (mul_small ho hu hv hc).1
  rw [w_mul u v (by omega), w_add o (u * v) (by omega), w_add (o + u * v) c (by omega)]
theorem mul_inner {x y r : List Int} (hx : InB V x) (hy : InB V y) (lx : x.length ≤ 100000) (ly : y.length ≤ 100000) (i : Nat) (hi : i < x.length) (u : Nat) (hu : x.getD i 0 = (u : Int)) (hu2 : u < 65536)
    (hnext : ∀ out, InB V out → out.length = x.length + y.length + 1 → val V out = val V (x.take (i + 1)) * val V y → Ev (fun k => tallystickref04_Mul.l0 k x y out ((i + 1 : Nat) : Int)) r) :
    ∀ (d j : Nat) (out : List Int) (c : Nat), j + d = y.length + 1 → InB V out → out.length = x.length + y.length + 1 → c < 65536 → val V out + V ^ (i + j) * c = val V (x.take i) * val V y + V ^ i * (u * val V (y.take j)) →
      Ev (fun k => tallystickref04_Mul.l1 k x y out (i : Int) (c : Int) (j : Int)) r := by
  have s1 := val_take_succ V x i
  rw [hu, Int.toNat_natCast] at s1
  have fin : ∀ (j : Nat) (out : List Int), y.length ≤ j → j ≤ y.length + 1 → InB V out → out.length = x.length + y.length + 1 → val V out = val V (x.take i) * val V y + V ^ i * (u * val V (y.take j)) → Ev (fun k => tallystickref04_Mul.l1 k x y out (i : Int) ((0 : Nat) : Int) (j : Int)) r := by
    intro j out h1 h1b h2 h3 h4
    rw [take_all (l := y) h1] at h4
    have hv : val V out = val V (x.take (i + 1)) * val V y := by rw [s1, Nat.add_mul, Nat.mul_assoc]; exact h4
    refine Ev.succ (Ev.congr (fun k => ?_) (hnext out h2 h3 hv))
    rw [tallystickref04_Mul.l1, if_neg (by omega), if_neg (by decide), w_succ i (by omega)]
  intro d
  induction d with
  | zero =>
    intro j out c h1 h2 h3 h4 h5
    have hc : c = 0 := by
      rcases Nat.eq_zero_or_pos c with h0 | h0
      · exact h0
      · exfalso
        rw [take_all (l := y) (i := j) (by omega), ← Nat.mul_assoc, ← Nat.add_mul, ← s1] at h5
        have e1 := val_lt V_pos (inB_take hx (i + 1))
        have e2 := val_lt V_pos hy
        rw [List.length_take, Nat.min_eq_left (by omega)] at e1
        have e3 := Nat.mul_lt_mul_of_lt_of_lt e1 e2
        rw [← Nat.pow_add] at e3
        have e4 : V ^ (i + j) = V ^ (i + 1 + y.length) := by rw [show i + j = i + 1 + y.length by omega]
        rw [e4] at h5
        have e5 := Nat.mul_le_mul_left (V ^ (i + 1 + y.length)) h0
        rw [Nat.succ_eq_add_one, Nat.zero_add, Nat.mul_one] at e5
        generalize val V (x.take (i + 1)) * val V y = z at *
        omega
    subst hc
    exact fin j out (by omega) (by omega) h2 h3 (by simpa using h5)
  | succ d ih =>
    intro j out c h1 h2 h3 h4 h5
    by_cases hgo : j < y.length ∨ 0 < c
    · obtain ⟨v, hv, hv2⟩ := dgt hy j
      obtain ⟨o, ho, ho2⟩ := dgt h2 (i + j)
      have s2 := val_take_succ V y j
      rw [hv, Int.toNat_natCast] at s2
      have hij : i + j < out.length := by omega
      have hset := val_set V out (i + j) (((o + u * v + c) % 65536 : Nat) : Int) hij
      rw [ho, Int.toNat_natCast, Int.toNat_natCast] at hset
      have hcc := (mul_small ho2 hu2 hv2 h4).2
      have step := ih (j + 1) (out.set (i + j) (((o + u * v + c) % 65536 : Nat) : Int)) ((o + u * v + c) / 65536) (by omega) (inB_set h2 _ (mod_dg _)) (by rw [List.length_set]; exact h3) hcc (by
        rw [← Nat.add_assoc, Nat.pow_succ, mul_step _ _ _ _ _ _ _ h5 hset, s2, Nat.mul_add u, Nat.mul_add (V ^ i), Nat.add_assoc]
        congr 2
        rw [Nat.pow_add, Nat.mul_assoc, Nat.mul_left_comm u])
      have hijI : ((i : Int) + (j : Int)) = ((i + j : Nat) : Int) := rfl
      have hii : (i : Int) < (x.length : Int) := by omega
      have hij2 : ((i + j : Nat) : Int) < (out.length : Int) := by omega
      have hw := fun (k : Nat) => show wrap64 ((i : Int) + (j : Int)) = ((i + j : Nat) : Int) from w_add i j (by omega)
      refine Ev.succ (Ev.congr (fun k => ?_) step)
      rw [tallystickref04_Mul.l1]
      by_cases g : (j : Int) < (y.length : Int)
      · rw [if_pos g, hw 0, if_pos (by omega), if_pos hij2, if_pos (by omega), if_pos hii, digit_eq, Option.bind_some, rd_nat, rd_nat, ho, hu, hv, w_mulsum ho2 hu2 hv2 h4, tmod_n, tdiv_n, w_nat _ (Nat.le_trans (Nat.le_of_lt hcc) (by decide)), w_succ j (by omega), Int.toNat_natCast]
      · rw [if_neg g, if_pos (by omega), hw 0, if_pos (by omega), if_pos hij2, if_pos (by omega), if_pos hii, digit_eq, Option.bind_some, rd_nat, rd_nat, ho, hu, hv, w_mulsum ho2 hu2 hv2 h4, tmod_n, tdiv_n, w_nat _ (Nat.le_trans (Nat.le_of_lt hcc) (by decide)), w_succ j (by omega), Int.toNat_natCast]
    · obtain rfl : c = 0 := by omega
      exact fin j out (by omega) (by omega) h2 h3 (by simpa using h5)
theorem mul_loop {x y : List Int} (hx : InB V x) (hy : InB V y) (lx : x.length ≤ 100000) (ly : y.length ≤ 100000) : ∀ (d i : Nat) (out : List Int), i + d = x.length → InB V out → out.length = x.length + y.length + 1 → val V out = val V (x.take i) * val V y →
    Ev (fun k => tallystickref04_Mul.l0 k x y out (i : Int)) (dig V (val V x * val V y)) := by
  intro d
  induction d with
  | zero =>
    intro i out h1 h2 h3 h4
    rw [take_all (by omega)] at h4
    rw [← h4]
    refine Ev.succ (Ev.congr (G := fun k => (tallystickref04_Trim.f k out).bind fun t => some t) (fun k => ?_) (Ev.bind (trim_ev h2 (by omega)) (Ev.const rfl)))
    rw [tallystickref04_Mul.l0, if_neg (by omega)]
  | succ d ih =>
    intro i out h1 h2 h3 h4
    obtain ⟨u, hu, hu2⟩ := dgt hx i
    refine Ev.succ (Ev.congr (fun k => ?_) (mul_inner hx hy lx ly i (by omega) u hu hu2 (fun out' g1 g2 g3 => ih (i + 1) out' (by omega) g1 g2 g3) (y.length + 1) 0 out 0 (by omega) h2 h3 (by omega) (by rw [h4]; simp [val])))
    rw [tallystickref04_Mul.l0, if_pos (by omega)]
    rfl
theorem mul_ev {x y : List Int} (hx : InB V x) (hy : InB V y) (lx : x.length ≤ 100000) (ly : y.length ≤ 100000) : Ev (fun k => tallystickref04_Mul.f k x y) (dig V (val V x * val V y)) := by
  refine Ev.congr (fun k => ?_) (mul_loop hx hy lx ly x.length 0 (List.replicate (x.length + y.length + 1) 0) (by omega) (inB_replicate V_pos _) (by simp) (by rw [val_replicate, List.take_zero]; simp [val]))
  unfold tallystickref04_Mul.f
  rw [w_add x.length y.length (by omega), w_succ (x.length + y.length) (by omega), if_pos (by omega), Int.toNat_natCast, if_pos (by omega)]
  rfl

/-! ### Bits -/
theorem bl_half {x : Nat} (h : 0 < x) : bl x = bl (x / 2) + 1 := by
  have h1 : bl x ≤ bl (x / 2) + 1 := bl_le.2 (by
    have := bl_le.1 (Nat.le_refl (bl (x / 2)))
    rw [Nat.pow_succ]; omega)
  have h0 : bl x ≠ 0 := fun h => by
    have := bl_le.1 (Nat.le_of_eq h)
    omega
  have h2 : bl (x / 2) ≤ bl x - 1 := bl_le.2 (by
    have := bl_le.1 (Nat.le_refl (bl x))
    have e : 2 ^ bl x = 2 ^ (bl x - 1) * 2 := by rw [← Nat.pow_succ, Nat.succ_eq_add_one, Nat.sub_add_cancel (by omega)]
    omega)
  omega
theorem len01_ev : ∀ (b x c : Nat), x < 2 ^ b → b ≤ 64 → c + b ≤ 1000 → Ev (fun k => tallystickref01_Len.l0 k (x : Int) (c : Int)) ((c + bl x : Nat) : Int)
  | 0, x, c, h, _, _ => by
    obtain rfl : x = 0 := by simpa using h
    exact Ev.succ (Ev.congr (G := fun _ => some (c : Int)) (fun k => by rw [tallystickref01_Len.l0, if_neg (by decide)]) (Ev.const rfl))
  | b + 1, x, c, h, hb, hc => by
    rcases Nat.eq_zero_or_pos x with h0 | h0
    · subst h0
      exact Ev.succ (Ev.congr (G := fun _ => some (c : Int)) (fun k => by rw [tallystickref01_Len.l0, if_neg (by decide)]) (Ev.const rfl))
    · have hx : x < 18446744073709551616 := Nat.lt_of_lt_of_le h (Nat.pow_le_pow_right (by decide) hb)
      have hw : IntKind.u64.wrap (Int.tdiv (x : Int) 2) = ((x / 2 : Nat) : Int) := by
        rw [show Int.tdiv (x : Int) 2 = ((x / 2 : Nat) : Int) from rfl, IntKind.wrap_u64]; omega
      have ih := len01_ev b (x / 2) (c + 1) (by rw [Nat.pow_succ] at h; omega) (by omega) (by omega)
      have e : c + 1 + bl (x / 2) = c + bl x := by rw [bl_half h0]; omega
      rw [e] at ih
      exact Ev.succ (Ev.congr (fun k => by rw [tallystickref01_Len.l0, if_pos (by omega), hw, w_succ c (by omega)]) ih)
theorem bl_digV {n k : Nat} (hl : (dig V n).length = k + 1) : bl n = 16 * k + bl ((dig V n).getD k 0).toNat := by
  have hi := dig_inB V_gt n
  have hv := val_dig V_gt n
  have ho := dig_ord V_gt n
  generalize dig V n = l at *
  have e := val_take_succ V l k
  rw [← hl, List.take_length, hv] at e
  have hlt := val_lt V_pos (inB_take hi k)
  rw [List.length_take, Nat.min_eq_left (by omega)] at hlt
  rw [V_pow] at hlt e
  have hx : l.getD k 0 ≠ 0 := by
    rcases ho with ho | ho
    · subst ho; simp at hl
    · rw [List.getLastD_eq_getLast?, List.getLast?_eq_getElem?, hl, Nat.add_sub_cancel] at ho
      rwa [List.getD_eq_getElem?_getD]
  have hx0 := (inB_getD V_pos hi k).1
  rw [e, bl_top hlt (by omega)]
theorem bits_ev {n : Nat} (hl : (dig V n).length ≤ 1000000) : Ev (fun k => tallystickref04_Bits.f k (dig V n)) ((bl n : Nat) : Int) := by
  by_cases h0 : (dig V n).length = 0
  · have : n = 0 := (dig_eq_nil V_gt).1 (List.eq_nil_of_length_eq_zero h0)
    subst this
    exact Ev.congr (G := fun _ => some 0) (fun k => by unfold tallystickref04_Bits.f; rw [dig_zero]; rfl) (Ev.const rfl)
  · obtain ⟨k, hk⟩ : ∃ k, (dig V n).length = k + 1 := ⟨(dig V n).length - 1, by omega⟩
    rw [bl_digV hk]
    obtain ⟨u, hu, hu2⟩ := dgt (dig_inB V_gt n) k
    rw [hu, Int.toNat_natCast]
    have hb : bl u ≤ 16 := bl_le.2 hu2
    have ev := len01_ev 16 u 0 hu2 (by decide) (by decide)
    rw [Nat.zero_add] at ev
    have hw : wrap64 (((dig V n).length : Int) - 1) = (k : Int) := by rw [hk, w_pred k (by omega)]
    have hu64 : IntKind.u64.wrap (u : Int) = (u : Int) := by rw [IntKind.wrap_u64]; omega
    refine Ev.congr (G := fun k2 => (tallystickref01_Len.l0 k2 (u : Int) ((0 : Nat) : Int)).bind fun t => some (wrap64 (wrap64 (16 * (k : Int)) + t))) (fun k2 => ?_) (Ev.bind ev (Ev.const ?_))
    · unfold tallystickref04_Bits.f
      rw [if_neg (by omega), hw, if_pos (by omega), if_pos (by omega), rd_nat, hu, hu64]
      rfl
    · rw [show (16 * (k : Int)) = ((16 * k : Nat) : Int) from rfl, w_nat _ (by omega), w_add (16 * k) (bl u) (by omega)]
end Go.Proofs.Ytgoglfojjpibnaa.Pure
