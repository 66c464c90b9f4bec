/- The document's functions for nat, in plain numbers: differences, which is above, the same, how many bits. -/
import Derived.Test.YtgoglfojjpibnaaPNatC
namespace Go.Proofs.Ytgoglfojjpibnaa.Pure
open Go.RowKit Go.Proofs.Ytgoglfojjpibnaa.Pa Go.Proofs.YtgoglfojjpibnaaW.PrintWords Go.Proofs.YtgoglfojjpibnaaW.PrintLast Go.Proofs.Ytgoglfojjpibnaa.Hand Go.Proofs.Ytgoglfojjpibnaa.Num
set_option linter.unusedVariables false
set_option linter.unusedSimpArgs false

/-! ### Sub -/
theorem w_dif {u v b : Nat} (hu : u < 65536) (hv : v < 65536) (hb : b ≤ 1) : wrap64 (wrap64 ((u : Int) - (v : Int)) - (b : Int)) = (u : Int) - (v : Int) - (b : Int) := by
  rw [show wrap64 ((u : Int) - (v : Int)) = (u : Int) - (v : Int) from IntWalk.wrap64_in _ (by omega)]
  exact IntWalk.wrap64_in _ (by omega)
theorem borrow_step (p A B O u v b s t : Nat) (h : O + B = A + p * b) (hs : s + v + b = u + V * t) : O + p * s + (B + p * v) = A + p * u + p * V * t := by
  have h2 : p * s + p * v + p * b = p * u + p * V * t := by rw [Nat.mul_assoc, ← Nat.mul_add, ← Nat.mul_add, hs, Nat.mul_add]
  omega
theorem sub_ev {x y : List Int} (hx : InB V x) (hy : InB V y) (hl : x.length ≤ 1000000) (hyx : y.length ≤ x.length) (hle : val V y ≤ val V x) : ∀ (d i : Nat) (out : List Int) (b : Nat), i + d = x.length → InB V out → out.length = i → b ≤ 1 → val V out + val V (y.take i) = val V (x.take i) + V ^ i * b →
    Ev (fun k => tallystickref04_Sub.l0 k x y out (b : Int) (i : Int)) (dig V (val V x - val V y)) := by
  intro d
  induction d with
  | zero =>
    intro i out b h1 h2 h3 h4 h5
    obtain rfl : i = x.length := by omega
    rw [List.take_length, take_all hyx] at h5
    have hlo := val_lt V_pos h2
    rw [h3] at hlo
    have hb : b = 0 := by
      rcases Nat.eq_zero_or_pos b with h0 | h0
      · exact h0
      · obtain rfl : b = 1 := by omega
        omega
    subst hb
    have he : val V out = val V x - val V y := by omega
    rw [← he]
    have hol : out.length ≤ 17592186044400 := by rw [h3]; exact Nat.le_trans hl (by decide)
    refine Ev.succ (Ev.congr (G := fun k => (tallystickref04_Trim.f k out).bind fun t => some t) (fun k => ?_) (Ev.bind (trim_ev h2 hol) (Ev.const rfl)))
    rw [tallystickref04_Sub.l0, if_neg (by omega)]
  | succ d ih =>
    intro i out b h1 h2 h3 h4 h5
    obtain ⟨u, hu, hu2⟩ := dgt hx i
    obtain ⟨v, hv, hv2⟩ := dgt hy i
    have s1 := val_take_succ V x i
    have s2 := val_take_succ V y i
    rw [hu, Int.toNat_natCast] at s1
    rw [hv, Int.toNat_natCast] at s2
    have hlen : out.length < 17592186044416 := by rw [h3]; exact Nat.lt_of_le_of_lt (show i ≤ 1000000 by omega) (by decide)
    have hi2 : i ≤ 17592186044416 := Nat.le_trans (show i ≤ 1000000 by omega) (by decide)
    have hii : (i : Int) < (x.length : Int) := by omega
    by_cases hneg : u < v + b
    · have hs : (u + 65536 - v - b) + v + b = u + V * 1 := by rw [V_eq]; omega
      have step := ih (i + 1) (out ++ [((u + 65536 - v - b : Nat) : Int)]) 1 (by omega) (inB_append.2 ⟨h2, inB_cons.2 ⟨by have := V_eq; clear h5 s1 s2 hle; omega, inB_nil _⟩⟩) (by simp [h3]) (by omega) (by
        rw [val_snoc, h3, Int.toNat_natCast, s1, s2, Nat.pow_succ]
        exact borrow_step _ _ _ _ _ _ _ _ _ h5 hs)
      refine Ev.succ (Ev.congr (fun k => ?_) step)
      have hw : (u : Int) - (v : Int) - (b : Int) + 65536 = ((u + 65536 - v - b : Nat) : Int) := by omega
      rw [tallystickref04_Sub.l0, if_pos hii, if_pos (by omega), digit_eq, Option.bind_some, rd_nat, hu, hv, w_dif hu2 hv2 h4, if_pos (by omega), if_pos hlen, hw, w_nat _ (by omega), w_succ i hi2]
      rfl
    · have hs : (u - v - b) + v + b = u + V * 0 := by omega
      have step := ih (i + 1) (out ++ [((u - v - b : Nat) : Int)]) 0 (by omega) (inB_append.2 ⟨h2, inB_cons.2 ⟨by have := V_eq; clear h5 s1 s2 hle; omega, inB_nil _⟩⟩) (by simp [h3]) (by omega) (by
        rw [val_snoc, h3, Int.toNat_natCast, s1, s2, Nat.pow_succ]
        exact borrow_step _ _ _ _ _ _ _ _ _ h5 hs)
      refine Ev.succ (Ev.congr (fun k => ?_) step)
      have hw : (u : Int) - (v : Int) - (b : Int) = ((u - v - b : Nat) : Int) := by omega
      rw [tallystickref04_Sub.l0, if_pos hii, if_pos (by omega), digit_eq, Option.bind_some, rd_nat, hu, hv, w_dif hu2 hv2 h4, if_neg (by omega), if_pos hlen, hw, w_succ i hi2]
      rfl
theorem sub_f_ev {x y : List Int} (hx : InB V x) (hy : InB V y) (hl : x.length ≤ 1000000) (hyx : y.length ≤ x.length) (hle : val V y ≤ val V x) : Ev (fun k => tallystickref04_Sub.f k x y) (dig V (val V x - val V y)) :=
  sub_ev hx hy hl hyx hle x.length 0 [] 0 (by omega) (inB_nil _) rfl (by omega) rfl

/-! ### Cmp -/
theorem cmp_loop {x y : List Int} (hx : InB V x) (hy : InB V y) (hl : x.length = y.length) (hm : x.length ≤ 1000000) : ∀ i, i ≤ x.length → x.drop i = y.drop i → Ev (fun k => tallystickref04_Cmp.l0 k x y ((i : Int) - 1)) (cmpv (val V x) (val V y))
  | 0, _, h => by
    rw [List.drop_zero, List.drop_zero] at h
    subst h
    rw [cmpv_eq]
    refine Ev.succ (Ev.congr (G := fun _ => some 0) (fun k => ?_) (Ev.const rfl))
    rw [tallystickref04_Cmp.l0, if_neg (by decide)]
  | i + 1, hi, h => by
    obtain ⟨u, hu, hu2⟩ := dgt hx i
    obtain ⟨v, hv, hv2⟩ := dgt hy i
    have s1 := val_take_succ V x i
    have s2 := val_take_succ V y i
    rw [hu, Int.toNat_natCast] at s1
    rw [hv, Int.toNat_natCast] at s2
    have t1 := val_take_drop V x (i + 1) hi
    have t2 := val_take_drop V y (i + 1) (by omega)
    rw [h] at t1
    have l1 := val_lt V_pos (inB_take hx i)
    have l2 := val_lt V_pos (inB_take hy i)
    rw [List.length_take, Nat.min_eq_left (by omega)] at l1 l2
    have hi0 : ((i + 1 : Nat) : Int) - 1 = (i : Int) := by omega
    have hw : wrap64 ((i : Int) - 1) = (i : Int) - 1 := IntWalk.wrap64_in _ (by omega)
    have key : ∀ k, tallystickref04_Cmp.l0 (k + 1) x y (((i + 1 : Nat) : Int) - 1) = if u < v then some (-1) else if v < u then some 1 else tallystickref04_Cmp.l0 k x y ((i : Int) - 1) := fun k => by
      rw [hi0, tallystickref04_Cmp.l0, if_pos (by omega), if_pos (by omega), if_pos (by omega), if_pos (by omega), rd_nat, rd_nat, hu, hv, hw]
      by_cases c : u < v
      · rw [if_pos (by omega), if_pos c]
      · rw [if_neg (by omega), if_neg c]
        by_cases e : v < u
        · rw [if_pos (by omega), if_pos e]
        · rw [if_neg (by omega), if_neg e]
    clear hw hi0
    rcases Nat.lt_trichotomy u v with c | c | c
    · have hlt : val V x < val V y := by
        have := Nat.mul_le_mul_left (V ^ i) c
        rw [Nat.mul_succ] at this
        omega
      rw [cmpv_lt hlt]
      exact Ev.succ (Ev.congr (G := fun _ => some (-1)) (fun k => by rw [key k, if_pos c]) (Ev.const rfl))
    · subst c
      refine Ev.succ (Ev.congr (G := fun k => tallystickref04_Cmp.l0 k x y ((i : Int) - 1)) (fun k => by rw [key k, if_neg (by omega), if_neg (by omega)]) (cmp_loop hx hy hl hm i (by omega) ?_))
      rw [List.drop_eq_getElem_cons (by omega), List.drop_eq_getElem_cons (show i < y.length by omega), h]
      congr 1
      rw [List.getD_eq_getElem?_getD, List.getElem?_eq_getElem (show i < x.length by omega)] at hu
      rw [List.getD_eq_getElem?_getD, List.getElem?_eq_getElem (show i < y.length by omega)] at hv
      exact (show x[i] = (u : Int) from hu).trans (show y[i] = (u : Int) from hv).symm
    · have hlt : val V y < val V x := by
        have := Nat.mul_le_mul_left (V ^ i) c
        rw [Nat.mul_succ] at this
        omega
      rw [cmpv_gt hlt]
      exact Ev.succ (Ev.congr (G := fun _ => some 1) (fun k => by rw [key k, if_neg (by omega), if_pos c]) (Ev.const rfl))
theorem dig_len_lt {m n : Nat} (h : (dig V m).length < (dig V n).length) : m < n := by
  have h1 := val_lt V_pos (dig_inB V_gt m)
  rw [val_dig V_gt] at h1
  rcases Nat.lt_or_ge m n with h2 | h2
  · exact h2
  · have := dig_length_le V_gt (Nat.lt_of_le_of_lt h2 h1)
    omega
theorem cmp_ev {m n : Nat} (h1 : (dig V m).length ≤ 1000000) (h2 : (dig V n).length ≤ 1000000) : Ev (fun k => tallystickref04_Cmp.f k (dig V m) (dig V n)) (cmpv m n) := by
  by_cases h : (dig V m).length = (dig V n).length
  · have h3 := cmp_loop (dig_inB V_gt m) (dig_inB V_gt n) h h1 (dig V m).length (Nat.le_refl _) (by rw [List.drop_length, h, List.drop_length])
    rw [val_dig V_gt, val_dig V_gt] at h3
    refine Ev.congr (fun k => ?_) h3
    unfold tallystickref04_Cmp.f
    rw [if_pos (by omega), show wrap64 (((dig V m).length : Int) - 1) = ((dig V m).length : Int) - 1 from IntWalk.wrap64_in _ (by omega)]
  · by_cases c : (dig V m).length < (dig V n).length
    · rw [cmpv_lt (dig_len_lt c)]
      refine Ev.congr (G := fun _ => some (-1)) (fun k => ?_) (Ev.const rfl)
      unfold tallystickref04_Cmp.f
      rw [if_neg (by omega), if_pos (by omega)]
    · rw [cmpv_gt (dig_len_lt (show (dig V n).length < (dig V m).length by omega))]
      refine Ev.congr (G := fun _ => some 1) (fun k => ?_) (Ev.const rfl)
      unfold tallystickref04_Cmp.f
      rw [if_neg (by omega), if_neg (by omega)]

/-! ### Same -/
theorem same_loop (x : List Int) (hm : x.length ≤ 1000000) : ∀ d i, i + d = x.length → Ev (fun k => tallystickref04_Same.l0 k x x (i : Int)) true
  | 0, i, h => Ev.succ (Ev.congr (G := fun _ => some true) (fun k => by rw [tallystickref04_Same.l0, if_neg (by omega)]) (Ev.const rfl))
  | d + 1, i, h => Ev.succ (Ev.congr (fun k => by rw [tallystickref04_Same.l0, if_pos (by omega), if_pos (by omega), if_pos (by omega), if_pos rfl, w_succ i (by omega)]) (same_loop x hm d (i + 1) (by omega)))
theorem same_ev (x : List Int) (hm : x.length ≤ 1000000) : Ev (fun k => tallystickref04_Same.f k x x) true :=
  Ev.congr (fun k => by unfold tallystickref04_Same.f; rw [if_pos rfl]; rfl) (same_loop x hm x.length 0 (by omega))
end Go.Proofs.Ytgoglfojjpibnaa.Pure
