/- The document's functions for nat, in plain numbers: quotients. -/
import Derived.Test.YtgoglfojjpibnaaPNatF
namespace Go.Proofs.Ytgoglfojjpibnaa.Pure
open Go.RowKit Go.Proofs.Ytgoglfojjpibnaa.Pa Go.Proofs.YtgoglfojjpibnaaW.PrintWords Go.Proofs.YtgoglfojjpibnaaW.PrintLast Go.Proofs.Ytgoglfojjpibnaa.Hand Go.Proofs.Ytgoglfojjpibnaa.Num
set_option linter.unusedVariables false
set_option linter.unusedSimpArgs false

theorem one_dig {s : Nat} (h : s < 65536) : InB V [(s : Int)] ∧ val V [(s : Int)] = s := ⟨inB_cons.2 ⟨by have := V_eq; omega, inB_nil _⟩, by simp [val]⟩
theorem w_mid {a b : Nat} (ha : a < 65536) (hb : b < 65536) : wrap64 (Int.tdiv (wrap64 (wrap64 ((a : Int) + (b : Int)) + 1)) 2) = (((a + b + 1) / 2 : Nat) : Int) := by
  rw [w_add a b (by omega), w_succ (a + b) (by omega), show Int.tdiv ((a + b + 1 : Nat) : Int) 2 = (((a + b + 1) / 2 : Nat) : Int) from rfl, w_nat _ (by omega)]
theorem div_inner {x q : List Int} {D Rv i : Nat} {r : List Int × List Int} (hD : 0 < D) (hDl : (dig V D).length ≤ 90000) (hRl : (dig V Rv).length ≤ 90000) (hi : i < q.length) (hib : i ≤ 1000000)
    (hnext : Ev (fun k => tallystickref04_Div.l0 k x (dig V D) (q.set i ((Rv / D : Nat) : Int)) (dig V (Rv % D)) ((i : Int) - 1)) r) :
    ∀ (d a b : Nat), b ≤ a + d → a ≤ b → b < 65536 → D * a ≤ Rv → Rv < D * (b + 1) → Ev (fun k => tallystickref04_Div.l1 k x (dig V D) q (dig V Rv) (i : Int) (a : Int) (b : Int)) r := by
  have mulEv : ∀ s : Nat, s < 65536 → Ev (fun k => tallystickref04_Mul.f k (dig V D) (dig V s)) (dig V (D * s)) := fun s hs => by
    have hl : (dig V s).length ≤ 1 := dig_length_le V_gt (by rw [Nat.pow_one]; exact hs)
    have := mul_ev (dig_inB V_gt D) (dig_inB V_gt s) (by omega) (Nat.le_trans hl (by decide))
    rwa [val_dig V_gt, val_dig V_gt] at this
  have trimEv : ∀ s : Nat, s < 65536 → Ev (fun k => tallystickref04_Trim.f k [(s : Int)]) (dig V s) := fun s hs => by
    have := trim_ev (one_dig hs).1 (by simp)
    rwa [(one_dig hs).2] at this
  have lenEv : ∀ s : Nat, s < 65536 → (dig V (D * s)).length ≤ 1000000 := fun s hs => by
    have h1 := val_lt V_pos (dig_inB V_gt D)
    rw [val_dig V_gt] at h1
    have h2 : D * s < V ^ ((dig V D).length + 1) := by
      rw [Nat.pow_succ]
      exact Nat.mul_lt_mul_of_lt_of_lt h1 hs
    have := dig_length_le V_gt h2
    omega
  have hp : wrap64 ((i : Int) - 1) = (i : Int) - 1 := IntWalk.wrap64_in _ (by omega)
  have HP := hp
  intro d
  induction d with
  | zero =>
    intro a b h1 h2 h3 h4 h5
    obtain rfl : a = b := by omega
    have e1 : Rv / D = a := by
      refine (Nat.div_eq_iff hD).2 ?_
      rw [Nat.mul_add, Nat.mul_one, Nat.mul_comm D a] at h5
      rw [Nat.mul_comm D a] at h4
      exact ⟨h4, by omega⟩
    have e2 : Rv - D * a = Rv % D := by rw [← e1]; exact (Nat.mod_eq_sub_mul_div).symm
    rw [e1] at hnext
    have hle : (dig V (D * a)).length ≤ (dig V Rv).length := by
      rcases Nat.lt_or_ge (dig V Rv).length (dig V (D * a)).length with g | g
      · have := dig_len_lt g; omega
      · exact g
    have hs := sub_f_ev (dig_inB V_gt Rv) (dig_inB V_gt (D * a)) (by omega) hle (by rw [val_dig V_gt, val_dig V_gt]; exact h4)
    rw [val_dig V_gt, val_dig V_gt, e2] at hs
    refine Ev.succ (Ev.congr (G := fun k => (tallystickref04_Trim.f k [(a : Int)]).bind fun t => (tallystickref04_Mul.f k (dig V D) t).bind fun t2 => (tallystickref04_Sub.f k (dig V Rv) t2).bind fun t3 => tallystickref04_Div.l0 k x (dig V D) (q.set i (a : Int)) t3 ((i : Int) - 1)) (fun k => ?_) (Ev.bind (trimEv a h3) (Ev.bind (mulEv a h3) (Ev.bind hs hnext))))
    rw [tallystickref04_Div.l1, if_neg (by omega), if_pos (by omega), if_pos (by omega), Int.toNat_natCast, HP]
  | succ d ih =>
    intro a b h1 h2 h3 h4 h5
    by_cases hab : a < b
    · have hm : (a + b + 1) / 2 < 65536 := by omega
      have hcmp := cmp_ev (m := D * ((a + b + 1) / 2)) (n := Rv) (lenEv _ hm) (by omega)
      have hw := w_mid (a := a) (b := b) (by omega) h3
      have key : ∀ k, tallystickref04_Div.l1 (k + 1) x (dig V D) q (dig V Rv) (i : Int) (a : Int) (b : Int) = (tallystickref04_Trim.f k [(((a + b + 1) / 2 : Nat) : Int)]).bind fun t => (tallystickref04_Mul.f k (dig V D) t).bind fun t2 => (tallystickref04_Cmp.f k t2 (dig V Rv)).bind fun t3 =>
          if t3 ≤ 0 then tallystickref04_Div.l1 k x (dig V D) q (dig V Rv) (i : Int) (((a + b + 1) / 2 : Nat) : Int) (b : Int) else tallystickref04_Div.l1 k x (dig V D) q (dig V Rv) (i : Int) (a : Int) (wrap64 ((((a + b + 1) / 2 : Nat) : Int) - 1)) := fun k => by
        rw [tallystickref04_Div.l1, if_pos (by omega), hw]
      clear hw
      refine Ev.succ (Ev.congr key (Ev.bind (trimEv _ hm) (Ev.bind (mulEv _ hm) (Ev.bind hcmp ?_))))
      by_cases c : D * ((a + b + 1) / 2) ≤ Rv
      · have hc : cmpv (D * ((a + b + 1) / 2)) Rv ≤ 0 := by
          rcases Nat.lt_or_ge (D * ((a + b + 1) / 2)) Rv with g | g
          · rw [cmpv_lt g]; decide
          · rw [show D * ((a + b + 1) / 2) = Rv by omega, cmpv_eq]; decide
        exact Ev.congr (fun k => if_pos hc) (ih _ b (by omega) (by omega) h3 c h5)
      · have hc : ¬ cmpv (D * ((a + b + 1) / 2)) Rv ≤ 0 := by rw [cmpv_gt (by omega)]; decide
        have hpm : wrap64 ((((a + b + 1) / 2 : Nat) : Int) - 1) = (((a + b + 1) / 2 - 1 : Nat) : Int) := by rw [IntWalk.wrap64_in _ (by omega)]; omega
        rw [hpm]
        clear hpm
        refine Ev.congr (fun k => if_neg hc) (ih a ((a + b + 1) / 2 - 1) (by omega) (by omega) (by omega) h4 ?_)
        rw [show (a + b + 1) / 2 - 1 + 1 = (a + b + 1) / 2 by omega]
        omega
    · exact ih a b (by omega) h2 h3 h4 h5
theorem div_split (D x S : Nat) (hD : 0 < D) : (x + V * S) / D = (x + V * (S % D)) / D + V * (S / D) ∧ (x + V * S) % D = (x + V * (S % D)) % D := by
  have h1 : x + V * S = x + V * (S % D) + D * (V * (S / D)) := by
    have := Nat.mod_add_div S D
    have e : V * S = V * (S % D) + V * (D * (S / D)) := by rw [← Nat.mul_add, this]
    rw [e, Nat.mul_left_comm V D]
    omega
  rw [h1]
  exact ⟨Nat.add_mul_div_left _ _ hD, Nat.add_mul_mod_self_left _ _ _⟩
theorem div_loop {x : List Int} {D : Nat} (hx : InB V x) (hxl : x.length ≤ 1000) (hD : 0 < D) (hDl : (dig V D).length ≤ 1000) : ∀ (i : Nat) (q : List Int), i ≤ x.length → InB V q → q.length = x.length → val V (q.drop i) = val V (x.drop i) / D →
    Ev (fun k => tallystickref04_Div.l0 k x (dig V D) q (dig V (val V (x.drop i) % D)) ((i : Int) - 1)) (dig V (val V x / D), dig V (val V x % D))
  | 0, q, hi, hq, hql, hv => by
    rw [List.drop_zero, List.drop_zero] at hv
    have ht := trim_ev hq (by omega)
    rw [hv] at ht
    refine Ev.succ (Ev.congr (G := fun k => (tallystickref04_Trim.f k q).bind fun t => some (t, dig V (val V (x.drop 0) % D))) (fun k => ?_) (Ev.bind ht (Ev.const ?_)))
    · rw [tallystickref04_Div.l0, if_neg (by decide)]
    · rw [List.drop_zero]
  | i + 1, q, hi, hq, hql, hv => by
    obtain ⟨u, hu, hu2⟩ := dgt hx i
    have hdx : x.drop i = (u : Int) :: x.drop (i + 1) := by
      rw [List.drop_eq_getElem_cons (by omega)]
      congr 1
      rw [List.getD_eq_getElem?_getD, List.getElem?_eq_getElem (show i < x.length by omega)] at hu
      exact hu
    obtain ⟨S, hS⟩ : ∃ S, S = val V (x.drop (i + 1)) := ⟨_, rfl⟩
    rw [← hS] at hv ⊢
    have hvx : val V (x.drop i) = u + V * S := by rw [hdx, val, Int.toNat_natCast, hS]
    obtain ⟨e1, e2⟩ := div_split D u S hD
    obtain ⟨Rv, hRv⟩ : ∃ Rv, Rv = u + V * (S % D) := ⟨_, rfl⟩
    rw [← hRv] at e1 e2
    have hmod := Nat.mod_lt S hD
    have hRlt : Rv < D * (65535 + 1) := by
      have := Nat.mul_le_mul_left V hmod
      rw [Nat.mul_succ] at this
      have := V_eq
      rw [hRv, Nat.mul_comm D]
      show u + V * (S % D) < V * D
      omega
    have hDv := val_lt V_pos (dig_inB V_gt D)
    rw [val_dig V_gt] at hDv
    have hRl : (dig V Rv).length ≤ 1001 := Nat.le_trans (dig_length_le V_gt (k := (dig V D).length + 1) (by
      rw [Nat.pow_succ]
      exact Nat.lt_of_lt_of_le hRlt (Nat.mul_le_mul_right _ (Nat.le_of_lt hDv)))) (by omega)
    have hsd : (dig V (S % D)).length ≤ 1000 := Nat.le_trans (dig_length_le V_gt (Nat.lt_trans hmod hDv)) hDl
    have hqd : Rv / D < 65536 := Nat.div_lt_of_lt_mul hRlt
    have hset : (q.set i ((Rv / D : Nat) : Int)).drop i = ((Rv / D : Nat) : Int) :: q.drop (i + 1) := by
      rw [List.drop_set, if_neg (Nat.lt_irrefl _), Nat.sub_self, List.drop_eq_getElem_cons (show i < q.length by omega), List.set_cons_zero]
    have hnext := div_loop hx hxl hD hDl i (q.set i ((Rv / D : Nat) : Int)) (by omega) (inB_set hq i ⟨Int.natCast_nonneg _, by have := V_eq; omega⟩) (by rw [List.length_set]; exact hql) (by rw [hset, val, hv, hvx, e1, Int.toNat_natCast])
    rw [hvx, e2] at hnext
    have hin := div_inner (x := x) (q := q) (i := i) hD (Nat.le_trans hDl (by decide)) (Nat.le_trans hRl (by decide)) (by omega) (by omega) hnext 65535 0 65535 (by omega) (by omega) (by omega) (by omega) hRlt
    have hcat : InB V ([(u : Int)] ++ dig V (S % D)) := inB_append.2 ⟨(one_dig hu2).1, dig_inB V_gt _⟩
    have hcv : val V ([(u : Int)] ++ dig V (S % D)) = Rv := by
      show val V ((u : Int) :: dig V (S % D)) = Rv
      rw [val, val_dig V_gt, Int.toNat_natCast, hRv]
    have ht := trim_ev hcat (by simp; omega)
    rw [hcv] at ht
    have hi0 : ((i + 1 : Nat) : Int) - 1 = (i : Int) := by omega
    rw [hi0]
    refine Ev.succ (Ev.congr (G := fun k => (tallystickref04_Trim.f k ([(u : Int)] ++ dig V (S % D))).bind fun t => tallystickref04_Div.l1 k x (dig V D) q t (i : Int) ((0 : Nat) : Int) ((65535 : Nat) : Int)) (fun k => ?_) (Ev.bind ht hin))
    rw [tallystickref04_Div.l0, if_pos (by omega), if_pos (by omega), if_pos (by omega), Option.bind_some, rd_nat, hu, if_pos (by simp; omega)]
    rfl
theorem div_ev {x : List Int} {D : Nat} (hx : InB V x) (hxl : x.length ≤ 1000) (hD : 0 < D) (hDl : (dig V D).length ≤ 1000) : Ev (fun k => tallystickref04_Div.f k x (dig V D)) (dig V (val V x / D), dig V (val V x % D)) := by
  have h := div_loop hx hxl hD hDl x.length (List.replicate x.length 0) (Nat.le_refl _) (inB_replicate V_pos _) (by simp) (by rw [List.drop_of_length_le (by simp), List.drop_length]; simp [val])
  rw [List.drop_length, show val V [] % D = 0 from Nat.zero_mod D, dig_zero] at h
  refine Ev.congr (fun k => ?_) h
  unfold tallystickref04_Div.f
  rw [if_pos (by omega), Int.toNat_natCast, if_pos (by omega), show wrap64 ((x.length : Int) - 1) = (x.length : Int) - 1 from IntWalk.wrap64_in _ (by omega)]
end Go.Proofs.Ytgoglfojjpibnaa.Pure
