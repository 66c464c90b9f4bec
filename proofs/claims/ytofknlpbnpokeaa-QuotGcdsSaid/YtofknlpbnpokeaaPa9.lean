/- Contracts of functions and laws, written by this session's program myprint.py by way of the kit's print. -/
import Derived.Test.YtofknlpbnpokeaaPa0
import Derived.Test.YtofknlpbnpokeaaPa1
import Derived.Test.YtofknlpbnpokeaaPa2
import Derived.Test.YtofknlpbnpokeaaPa5
namespace Go.Proofs.Ytofknlpbnpokeaa.Pa
open Go.RowKit Go.Proofs.Ytofknlpbnpokeaa.Hand Go.Proofs.YtofknlpbnpokeaaW.PrintWords Go.Proofs.YtofknlpbnpokeaaW.PrintLast Go.Proofs.YtofknlpbnpokeaaW.PrintMore
attribute [local go_sem] max2_int min2_int max_two min_two max_three min_three max_four min_four   -- for this text's walks alone
set_option linter.unusedVariables false
set_option linter.unusedSimpArgs false

/-! ### tallysticklaw06_QuotGcds: function 5 -/
def tallysticklaw06_QuotGcds.j0 : Nat → List Int → List Int → Bool → Bool → Option (Bool)
  | 0, _, _, _, _ => none
  | k + 1, x0, x1, x5, x22 => if x22 = true then (some x5) else ((quot_Gcd.f x0 x1).bind fun t425 => (if (t425.length : Int) = 0 then (if x5 = true then ((tallystickref04_Digits.f k x0).bind fun t428 => (if (t428.length : Int) = 0 then ((tallystickref04_Digits.f k x1).bind fun t431 => (some ((t431.length : Int) == 0))) else (some false))) else (some false)) else ((tallystickref06_Div.f k x0 t425).bind fun bt434 => ((tallystickref06_Div.f k x1 t425).bind fun bt441 => ((quot_Gcd.f bt434.1 bt441.1).bind fun t448 => (if x5 = true then (if (bt434.2.1.length : Int) = 0 then (if (bt441.2.1.length : Int) = 0 then (if (t448.length : Int) = 1 then (if 0 < (t448.length : Int) then (some ((rd t448 0) == 1)) else (none)) else (some false)) else (some false)) else (some false)) else (some false)))))))
def tallysticklaw06_QuotGcds.f (k : Nat) (l0 : List Int) (l1 : List Int) : Option (Bool) := (tallysticklaw06_shown.f).bind fun t424 => (if (l0.length : Int) > 8 then (tallysticklaw06_QuotGcds.j0 k l0 l1 t424 true) else (tallysticklaw06_QuotGcds.j0 k l0 l1 t424 (decide ((l1.length : Int) > 8))))
theorem tallysticklaw06_QuotGcds.mono_l : ∀ k, (∀ y0 y1 y2 y3, LeO (tallysticklaw06_QuotGcds.j0 k y0 y1 y2 y3) (tallysticklaw06_QuotGcds.j0 (k + 1) y0 y1 y2 y3))
  | 0 => fun _ _ _ _ r h => by simp [tallysticklaw06_QuotGcds.j0] at h
  | k + 1 => by
    have ih0 := tallysticklaw06_QuotGcds.mono_l k
    · intro y0 y1 y2 y3
      unfold tallysticklaw06_QuotGcds.j0
      repeat' first
      | (with_reducible exact ih0 _ _ _ _)
      | (with_reducible exact tallystickref04_Digits.mono _ _)
      | (with_reducible exact tallystickref06_Div.mono _ _ _)
      | (with_reducible exact LeO.refl _)
      | (with_reducible exact LeO.none _)
      | (with_reducible refine LeO.ite ?_ ?_)
      | (with_reducible refine LeO.bind ?_ (fun _ => ?_))
      | exact ih0 _ _ _ _
      | exact tallystickref04_Digits.mono _ _
      | exact tallystickref06_Div.mono _ _ _
      | exact LeO.none _
      | refine LeO.ite ?_ ?_
      | refine LeO.bind ?_ (fun _ => ?_)
theorem tallysticklaw06_QuotGcds.mono : ∀ a0 a1 k, LeO (tallysticklaw06_QuotGcds.f k a0 a1) (tallysticklaw06_QuotGcds.f (k + 1) a0 a1) := by
  intro a0 a1 k
  have ih0 := tallysticklaw06_QuotGcds.mono_l k
  unfold tallysticklaw06_QuotGcds.f
  repeat' first
      | (with_reducible exact ih0 _ _ _ _)
      | (with_reducible exact tallystickref04_Digits.mono _ _)
      | (with_reducible exact tallystickref06_Div.mono _ _ _)
      | (with_reducible exact LeO.refl _)
      | (with_reducible exact LeO.none _)
      | (with_reducible refine LeO.ite ?_ ?_)
      | (with_reducible refine LeO.bind ?_ (fun _ => ?_))
      | exact ih0 _ _ _ _
      | exact tallystickref04_Digits.mono _ _
      | exact tallystickref06_Div.mono _ _ _
      | exact LeO.none _
      | refine LeO.ite ?_ ?_
      | refine LeO.bind ?_ (fun _ => ?_)
set_option maxHeartbeats 8000000 in
set_option maxRecDepth 100000 in
theorem tallysticklaw06_QuotGcds.calls (k : Nat) (A0 : Option Addr) (c0 : Nat) (l0 : List Int) (A1 : Option Addr) (c1 : Nat) (l1 : List Int) (r : Bool) (w : World) (hr0 : Kd.C (Kd.int .u64) w A0 l0.length l0) (hc0 : l0.length ≤ c0) (hr1 : Kd.C (Kd.int .u64) w A1 l1.length l1) (hc1 : l1.length ≤ c1) (hr_ : Aside0 (r = true)) (h : tallysticklaw06_QuotGcds.f k l0 l1 = some r) :
    Calls Try.prog 5 #[.slice A0 l0.length c0, .slice A1 l1.length c1] w fun e w' => e = .returned (.bool r) ∧ Below w.heap.size w w' := by
  have HR0 := Aside0.mk hr0
  have HC0 := Aside0.mk hc0
  clear hr0 hc0
  have HR1 := Aside0.mk hr1
  have HC1 := Aside0.mk hc1
  clear hr1 hc1
  have HB := Aside0.mk (Below.refl w.heap.size w)
  have H : ((tallysticklaw06_shown.f).bind fun t424 => (if (l0.length : Int) > 8 then (tallysticklaw06_QuotGcds.j0 k l0 l1 t424 true) else (tallysticklaw06_QuotGcds.j0 k l0 l1 t424 (decide ((l1.length : Int) > 8))))) = some r := h
  clear h
  replace H := Option.bind_eq_some_iff.mp H
  obtain ⟨t424, A30, H⟩ := H
  replace H : (if (l0.length : Int) > 8 then (tallysticklaw06_QuotGcds.j0 k l0 l1 t424 true) else (tallysticklaw06_QuotGcds.j0 k l0 l1 t424 (decide ((l1.length : Int) > 8)))) = some r := H
  have A3 := Aside0.mk A30
  clear A30
  have HC4 := Aside0.mk H
  clear H
  go_enter Try.func5, Try.ntmps5
  go_upto_region 2 with (first | ((with_reducible refine gate_callee (f := 10) rfl ?_); refine goesL_ (some 14) rfl rfl Try.func10 (by kernel_rfl) rfl #[] rfl (by (try simp only [List.map_toArray, List.map_cons, List.map_nil]); first | done | rfl | (simp only [List.length_drop, List.length_take]; rfl)) ?_; (with_reducible refine (tallysticklaw06_shown.calls  t424 _ A3.out).mono ?_); rintro e w5 ⟨rfl, hb⟩; clear A3; refine ⟨_, rfl, ?_⟩; have n0_ := Aside0.mk (below_step (by repeat (first | (with_reducible first | exact HB.out | apply below_alloc | apply pw_below_drewN | apply below_drew1) | exact HB.out)) hb); clear HB; have HB := n0_; clear n0_; (try clear hb); (try clear hb2); (try clear hk); (try clear hi)))
  (try simp only [Act.put, List.setIfInBounds_toArray, List.set_cons_zero, List.set_cons_succ])
  go_cut [22] (fun v22 wc => ∃ (kq : Nat) (x22_3 : Bool), v22 = .bool x22_3 ∧ Aside0 (tallysticklaw06_QuotGcds.j0 kq l0 l1 t424 x22_3 = some r) ∧ Aside0 (kq ≤ k) ∧ Aside0 (Below w.heap.size w wc))
  case first =>
    have H := HC4.out
    clear HC4
    by_cases c6 : (l0.length : Int) > 8
    · rw [if_pos c6] at H
      have c6b0 : decide (8 < (l0.length : Int)) = true := decide_eq_true c6
      have c6b1 : decide (8 < l0.length) = true := decide_eq_true (by omega)
      clear c6
      (first | rw [c6b0] | (simp only [i64_w, i32_w]; rw [c6b0]) | skip)
      have H' := Aside0.mk H
      clear H
      go_wp2
      go_meet
      case rel => exact ⟨_, (true), (by first | rfl | (simp; done) | (simp [*]; done)), H', ⟨by first | omega | exact Nat.le_refl _⟩, ⟨by repeat (first | (with_reducible first | exact HB.out | apply below_alloc | apply pw_below_drewN | apply below_drew1) | exact HB.out)⟩⟩
    · rw [if_neg c6] at H
      have c6b0 : decide (8 < (l0.length : Int)) = false := decide_eq_false c6
      have c6b1 : decide (8 < l0.length) = false := decide_eq_false (by omega)
      clear c6
      (first | rw [c6b0] | (simp only [i64_w, i32_w]; rw [c6b0]) | skip)
      have H' := Aside0.mk H
      clear H
      go_wp2
      go_meet
      case rel => exact ⟨_, (decide ((l1.length : Int) > 8)), (by first | rfl | (simp; done) | (simp [*]; done)), H', ⟨by first | omega | exact Nat.le_refl _⟩, ⟨by repeat (first | (with_reducible first | exact HB.out | apply below_alloc | apply pw_below_drewN | apply below_drew1) | exact HB.out)⟩⟩
  case rest =>
    clear HC4
    try clear c1
    try clear p2
    try clear c5
    try clear c6
    try clear c6b0
    try clear c6b1
    obtain ⟨kq, x22_3, rfl, HA, HJ3, HB⟩ := hcut
    cases kq with
    | zero => exact absurd HA.out (by simp [tallysticklaw06_QuotGcds.j0])
    | succ kj3 =>
      have H := HA.out
      clear HA
      simp only [tallysticklaw06_QuotGcds.j0] at H
      by_cases c7 : x22_3 = true
      · subst c7
        have H1 : (some t424) = some r := by rw [if_pos rfl] at H; exact H
        clear H
        have H := H1
        clear H1
        obtain rfl := Option.some.inj H
        go_wp2
        go_ret
        exact ⟨by first | rfl | (simp [errW_none, errW_some] <;> rfl) | (simp [*, errW_none, errW_some] <;> rfl), by repeat (first | (with_reducible first | exact HB.out | apply below_alloc | apply pw_below_drewN | apply below_drew1) | exact HB.out)⟩
      · replace c7 := Bool.eq_false_iff.mpr c7
        subst c7
        have H1 : ((quot_Gcd.f l0 l1).bind fun t425 => (if (t425.length : Int) = 0 then (if t424 = true then ((tallystickref04_Digits.f kj3 l0).bind fun t428 => (if (t428.length : Int) = 0 then ((tallystickref04_Digits.f kj3 l1).bind fun t431 => (some ((t431.length : Int) == 0))) else (some false))) else (some false)) else ((tallystickref06_Div.f kj3 l0 t425).bind fun bt434 => ((tallystickref06_Div.f kj3 l1 t425).bind fun bt441 => ((quot_Gcd.f bt434.1 bt441.1).bind fun t448 => (if t424 = true then (if (bt434.2.1.length : Int) = 0 then (if (bt441.2.1.length : Int) = 0 then (if (t448.length : Int) = 1 then (if 0 < (t448.length : Int) then (some ((rd t448 0) == 1)) else (none)) else (some false)) else (some false)) else (some false)) else (some false))))))) = some r := by rw [if_neg (show ¬ (false = true) by decide)] at H; exact H
        clear H
        have H := H1
        clear H1
        replace H := Option.bind_eq_some_iff.mp H
        obtain ⟨t425, A80, H⟩ := H
        replace H : (if (t425.length : Int) = 0 then (if t424 = true then ((tallystickref04_Digits.f kj3 l0).bind fun t428 => (if (t428.length : Int) = 0 then ((tallystickref04_Digits.f kj3 l1).bind fun t431 => (some ((t431.length : Int) == 0))) else (some false))) else (some false)) else ((tallystickref06_Div.f kj3 l0 t425).bind fun bt434 => ((tallystickref06_Div.f kj3 l1 t425).bind fun bt441 => ((quot_Gcd.f bt434.1 bt441.1).bind fun t448 => (if t424 = true then (if (bt434.2.1.length : Int) = 0 then (if (bt441.2.1.length : Int) = 0 then (if (t448.length : Int) = 1 then (if 0 < (t448.length : Int) then (some ((rd t448 0) == 1)) else (none)) else (some false)) else (some false)) else (some false)) else (some false)))))) = some r := H
        have A8 := Aside0.mk A80
        clear A80
        by_cases c9 : (t425.length : Int) = 0
        · rw [if_pos c9] at H
          have c9b0 : ((t425.length : Int) == 0) = true := beq_iff_eq.mpr c9
          have c9b1 : ((t425.length : Int) != 0) = false := bne_eq_false_iff_eq.mpr c9
          clear c9
          by_cases c10 : t424 = true
          · subst c10
            have H1 : ((tallystickref04_Digits.f kj3 l0).bind fun t428 => (if (t428.length : Int) = 0 then ((tallystickref04_Digits.f kj3 l1).bind fun t431 => (some ((t431.length : Int) == 0))) else (some false))) = some r := by rw [if_pos rfl] at H; exact H
            clear H
            have H := H1
            clear H1
            replace H := Option.bind_eq_some_iff.mp H
            obtain ⟨t428, A110, H⟩ := H
            replace H : (if (t428.length : Int) = 0 then ((tallystickref04_Digits.f kj3 l1).bind fun t431 => (some ((t431.length : Int) == 0))) else (some false)) = some r := H
            have A11 := Aside0.mk A110
            clear A110
            by_cases c12 : (t428.length : Int) = 0
            · rw [if_pos c12] at H
              have c12b0 : ((t428.length : Int) == 0) = true := beq_iff_eq.mpr c12
              have c12b1 : ((t428.length : Int) != 0) = false := bne_eq_false_iff_eq.mpr c12
              clear c12
              replace H := Option.bind_eq_some_iff.mp H
              obtain ⟨t431, A130, H⟩ := H
              replace H : (some ((t431.length : Int) == 0)) = some r := H
              have A13 := Aside0.mk A130
              clear A130
              obtain rfl := Option.some.inj H
              go_wp2_with (first | ((with_reducible refine gate_callee (f := 19) rfl ?_); refine goesL_ (some 26) rfl rfl Try.func19 (by kernel_rfl) rfl #[.slice A0 l0.length c0, .slice A1 l1.length c1] rfl (by (try simp only [List.map_toArray, List.map_cons, List.map_nil]); first | done | rfl | (simp only [List.length_drop, List.length_take]; rfl)) ?_; (with_reducible refine (quot_Gcd.calls (fun k_ => k_ < w.heap.size) _ _ l0 (fun k_ => k_ < w.heap.size) _ _ l1 t425 _ ?side1 ?side2 A8.out).mono ?_); (case side1 => exact Kd.V_mk HC0.out (Kd.F_below (Kd.C_F (Kd.heap_int .u64) HR0.out) (by repeat (first | (with_reducible first | exact HB.out | apply below_alloc | apply pw_below_drewN | apply below_drew1) | exact HB.out)))); (case side2 => exact Kd.V_mk HC1.out (Kd.F_below (Kd.C_F (Kd.heap_int .u64) HR1.out) (by repeat (first | (with_reducible first | exact HB.out | apply below_alloc | apply pw_below_drewN | apply below_drew1) | exact HB.out)))); rintro e w14 ⟨v426, rfl, ho0, hb⟩; clear A8; refine ⟨_, rfl, ?_⟩; have n0_ := Aside0.mk (Kd.V_lower (Kd.V_mono (ok' := fun k_ => True) ho0 (fun k_ hk_ => trivial)) (below_size (by repeat (first | (with_reducible first | exact HB.out | apply below_alloc | apply pw_below_drewN | apply below_drew1) | exact HB.out)))); have n1_ := Aside0.mk (below_step (by repeat (first | (with_reducible first | exact HB.out | apply below_alloc | apply pw_below_drewN | apply below_drew1) | exact HB.out)) hb); clear HB; have HO427 := n0_; have HB := n1_; clear n0_ n1_; (try clear hb); (try clear hb2); (try clear hk); (try clear hi); (try clear ho0); obtain ⟨Ao15, co15, eo15⟩ := Kd.V_slice HO427.out; subst eo15) | (go_at_call 13; (with_reducible refine (tallystickref04_Digits.calls kj3 _ _ l0 t428 _ ?side1 ?side2 A11.out).mono ?_); (case side1 => repeat (first | exact (Kd.C_below HR0.out HB.out) | (with_reducible refine Kd.C_alloc ?_ _) | (with_reducible refine Kd.C_drewN ?_ _) | (with_reducible refine Kd.C_drew ?_))); (case side2 => exact HC0.out); rintro e w16 ⟨v429, rfl, ho0, hb⟩; clear A11; have n0_ := Aside0.mk (Kd.V_elder' (by (with_reducible repeat (first | apply Kd.V_alloc | apply Kd.V_drewN | apply Kd.V_drew)); exact HO427.out) (Kd.R_base ho0) hb); have n1_ := Aside0.mk (Kd.R_lower ho0 (below_size (by repeat (first | (with_reducible first | exact HB.out | apply below_alloc | apply pw_below_drewN | apply below_drew1) | exact HB.out)))); have n2_ := Aside0.mk (below_step (by repeat (first | (with_reducible first | exact HB.out | apply below_alloc | apply pw_below_drewN | apply below_drew1) | exact HB.out)) hb); clear HO427; clear HB; have HO427 := n0_; have HO430 := n1_; have HB := n2_; clear n0_ n1_ n2_; (try clear hb); (try clear hb2); (try clear hk); (try clear hi); (try clear ho0); obtain ⟨Ao17, co17, eo17⟩ := Kd.R_slice HO430.out; subst eo17) | (go_at_call 13; (with_reducible refine (tallystickref04_Digits.calls kj3 _ _ l1 t431 _ ?side1 ?side2 A13.out).mono ?_); (case side1 => repeat (first | exact (Kd.C_below HR1.out HB.out) | (with_reducible refine Kd.C_alloc ?_ _) | (with_reducible refine Kd.C_drewN ?_ _) | (with_reducible refine Kd.C_drew ?_))); (case side2 => exact HC1.out); rintro e w18 ⟨v432, rfl, ho0, hb⟩; clear A13; have n0_ := Aside0.mk (Kd.V_elder' (by (with_reducible repeat (first | apply Kd.V_alloc | apply Kd.V_drewN | apply Kd.V_drew)); exact HO427.out) (Kd.R_base ho0) hb); have n1_ := Aside0.mk (Kd.R_elder' (by (with_reducible repeat (first | apply Kd.R_alloc | apply Kd.R_drewN | apply Kd.R_drew)); exact HO430.out) (Kd.R_base ho0) hb); have n2_ := Aside0.mk (Kd.R_lower (Kd.R_new' ho0 (Kd.R_lt (by (with_reducible repeat (first | apply Kd.R_alloc | apply Kd.R_drewN | apply Kd.R_drew)); exact HO430.out))) (below_size (by repeat (first | (with_reducible first | exact HB.out | apply below_alloc | apply pw_below_drewN | apply below_drew1) | exact HB.out)))); have n3_ := Aside0.mk (below_step (by repeat (first | (with_reducible first | exact HB.out | apply below_alloc | apply pw_below_drewN | apply below_drew1) | exact HB.out)) hb); clear HO427; clear HO430; clear HB; have HO427 := n0_; have HO430 := n1_; have HO433 := n2_; have HB := n3_; clear n0_ n1_ n2_ n3_; (try clear hb); (try clear hb2); (try clear hk); (try clear hi); (try clear ho0); obtain ⟨Ao19, co19, eo19⟩ := Kd.R_slice HO433.out; subst eo19))
              go_ret
              exact ⟨by first | rfl | (simp [errW_none, errW_some] <;> rfl) | (simp [*, errW_none, errW_some] <;> rfl), by repeat (first | (with_reducible first | exact HB.out | apply below_alloc | apply pw_below_drewN | apply below_drew1) | exact HB.out)⟩
            · rw [if_neg c12] at H
              have c12b0 : ((t428.length : Int) == 0) = false := beq_eq_false_iff_ne.mpr c12
              have c12b1 : ((t428.length : Int) != 0) = true := bne_iff_ne.mpr c12
              have c12b2 : ¬ (t428 = []) := fun h_ => c12 (by rw [h_]; rfl)
              obtain rfl := Option.some.inj H
              exact absurd hr_.out (by simp)
          · replace c10 := Bool.eq_false_iff.mpr c10
            subst c10
            have H1 : (some false) = some r := by rw [if_neg (show ¬ (false = true) by decide)] at H; exact H
            clear H
            have H := H1
            clear H1
            obtain rfl := Option.some.inj H
            exact absurd hr_.out (by simp)
        · rw [if_neg c9] at H
          have c9b0 : ((t425.length : Int) == 0) = false := beq_eq_false_iff_ne.mpr c9
          have c9b1 : ((t425.length : Int) != 0) = true := bne_iff_ne.mpr c9
          have c9b2 : ¬ (t425 = []) := fun h_ => c9 (by rw [h_]; rfl)
          replace H := Option.bind_eq_some_iff.mp H
          obtain ⟨⟨t434, t435, t436⟩, A200, H⟩ := H
          replace H : ((tallystickref06_Div.f kj3 l1 t425).bind fun bt441 => ((quot_Gcd.f t434 bt441.1).bind fun t448 => (if t424 = true then (if (t435.length : Int) = 0 then (if (bt441.2.1.length : Int) = 0 then (if (t448.length : Int) = 1 then (if 0 < (t448.length : Int) then (some ((rd t448 0) == 1)) else (none)) else (some false)) else (some false)) else (some false)) else (some false)))) = some r := H
          have A20 := Aside0.mk A200
          clear A200
          replace H := Option.bind_eq_some_iff.mp H
          obtain ⟨⟨t441, t442, t443⟩, A210, H⟩ := H
          replace H : ((quot_Gcd.f t434 t441).bind fun t448 => (if t424 = true then (if (t435.length : Int) = 0 then (if (t442.length : Int) = 0 then (if (t448.length : Int) = 1 then (if 0 < (t448.length : Int) then (some ((rd t448 0) == 1)) else (none)) else (some false)) else (some false)) else (some false)) else (some false))) = some r := H
          have A21 := Aside0.mk A210
          clear A210
          replace H := Option.bind_eq_some_iff.mp H
          obtain ⟨t448, A220, H⟩ := H
          replace H : (if t424 = true then (if (t435.length : Int) = 0 then (if (t442.length : Int) = 0 then (if (t448.length : Int) = 1 then (if 0 < (t448.length : Int) then (some ((rd t448 0) == 1)) else (none)) else (some false)) else (some false)) else (some false)) else (some false)) = some r := H
          have A22 := Aside0.mk A220
          clear A220
          by_cases c23 : t424 = true
          · subst c23
            have H1 : (if (t435.length : Int) = 0 then (if (t442.length : Int) = 0 then (if (t448.length : Int) = 1 then (if 0 < (t448.length : Int) then (some ((rd t448 0) == 1)) else (none)) else (some false)) else (some false)) else (some false)) = some r := by rw [if_pos rfl] at H; exact H
            clear H
            have H := H1
            clear H1
            by_cases c24 : (t435.length : Int) = 0
            · rw [if_pos c24] at H
              have c24b0 : ((t435.length : Int) == 0) = true := beq_iff_eq.mpr c24
              have c24b1 : ((t435.length : Int) != 0) = false := bne_eq_false_iff_eq.mpr c24
              clear c24
              by_cases c25 : (t442.length : Int) = 0
              · rw [if_pos c25] at H
                have c25b0 : ((t442.length : Int) == 0) = true := beq_iff_eq.mpr c25
                have c25b1 : ((t442.length : Int) != 0) = false := bne_eq_false_iff_eq.mpr c25
                clear c25
                by_cases c26 : (t448.length : Int) = 1
                · rw [if_pos c26] at H
                  have c26b0 : ((t448.length : Int) == 1) = true := beq_iff_eq.mpr c26
                  have c26b1 : ((t448.length : Int) != 1) = false := bne_eq_false_iff_eq.mpr c26
                  clear c26
                  by_cases c27 : 0 < (t448.length : Int)
                  · rw [if_pos c27] at H
                    have c27b0 : decide (0 < (t448.length : Int)) = true := decide_eq_true c27
                    have c27b1 : decide (0 < t448.length) = true := decide_eq_true (by omega)
                    clear c27
                    obtain rfl := Option.some.inj H
                    go_wp2_with (first | ((with_reducible refine gate_callee (f := 19) rfl ?_); refine goesL_ (some 26) rfl rfl Try.func19 (by kernel_rfl) rfl #[.slice A0 l0.length c0, .slice A1 l1.length c1] rfl (by (try simp only [List.map_toArray, List.map_cons, List.map_nil]); first | done | rfl | (simp only [List.length_drop, List.length_take]; rfl)) ?_; (with_reducible refine (quot_Gcd.calls (fun k_ => k_ < w.heap.size) _ _ l0 (fun k_ => k_ < w.heap.size) _ _ l1 t425 _ ?side1 ?side2 A8.out).mono ?_); (case side1 => exact Kd.V_mk HC0.out (Kd.F_below (Kd.C_F (Kd.heap_int .u64) HR0.out) (by repeat (first | (with_reducible first | exact HB.out | apply below_alloc | apply pw_below_drewN | apply below_drew1) | exact HB.out)))); (case side2 => exact Kd.V_mk HC1.out (Kd.F_below (Kd.C_F (Kd.heap_int .u64) HR1.out) (by repeat (first | (with_reducible first | exact HB.out | apply below_alloc | apply pw_below_drewN | apply below_drew1) | exact HB.out)))); rintro e w28 ⟨v426, rfl, ho0, hb⟩; clear A8; refine ⟨_, rfl, ?_⟩; have n0_ := Aside0.mk (Kd.V_lower (Kd.V_mono (ok' := fun k_ => True) ho0 (fun k_ hk_ => trivial)) (below_size (by repeat (first | (with_reducible first | exact HB.out | apply below_alloc | apply pw_below_drewN | apply below_drew1) | exact HB.out)))); have n1_ := Aside0.mk (below_step (by repeat (first | (with_reducible first | exact HB.out | apply below_alloc | apply pw_below_drewN | apply below_drew1) | exact HB.out)) hb); clear HB; have HO427 := n0_; have HB := n1_; clear n0_ n1_; (try clear hb); (try clear hb2); (try clear hk); (try clear hi); (try clear ho0); obtain ⟨Ao29, co29, eo29⟩ := Kd.V_slice HO427.out; subst eo29) | ((with_reducible refine gate_callee (f := 20) rfl ?_); refine goesL_ (some 46) rfl rfl Try.func20 (by kernel_rfl) rfl #[.slice A0 l0.length c0, .slice Ao29 t425.length co29] rfl (by (try simp only [List.map_toArray, List.map_cons, List.map_nil]); first | done | rfl | (simp only [List.length_drop, List.length_take]; rfl)) ?_; (with_reducible refine (tallystickref06_Div.calls kj3 _ _ l0 _ _ t425 t434 t435 t436 _ ?side1 ?side2 ?side3 ?side4 A20.out).mono ?_); (case side1 => repeat (first | exact (Kd.C_below HR0.out HB.out) | (with_reducible refine Kd.C_alloc ?_ _) | (with_reducible refine Kd.C_drewN ?_ _) | (with_reducible refine Kd.C_drew ?_))); (case side2 => exact HC0.out); (case side3 => repeat (first | exact (Kd.V_reads' HO427.out).2.2 | (with_reducible refine Kd.C_alloc ?_ _) | (with_reducible refine Kd.C_drewN ?_ _) | (with_reducible refine Kd.C_drew ?_))); (case side4 => exact (Kd.V_reads' HO427.out).2.1); rintro e w30 ⟨v437, v439, rfl, ho0, ho1, hb⟩; clear A20; refine ⟨_, rfl, ?_⟩; have n0_ := Aside0.mk (Kd.V_mono (Kd.V_told (Kd.V_told (Kd.V_old (by (with_reducible repeat (first | apply Kd.V_alloc | apply Kd.V_drewN | apply Kd.V_drew)); exact HO427.out) hb) (Kd.R_base ho0)) (Kd.R_base ho1)) (fun _ h_ => h_.1)); have n1_ := Aside0.mk (Kd.R_lower ho0 (below_size (by repeat (first | (with_reducible first | exact HB.out | apply below_alloc | apply pw_below_drewN | apply below_drew1) | exact HB.out)))); have n2_ := Aside0.mk (Kd.R_lower ho1 (below_size (by repeat (first | (with_reducible first | exact HB.out | apply below_alloc | apply pw_below_drewN | apply below_drew1) | exact HB.out)))); have n3_ := Aside0.mk (below_step (by repeat (first | (with_reducible first | exact HB.out | apply below_alloc | apply pw_below_drewN | apply below_drew1) | exact HB.out)) hb); clear HO427; clear HB; have HO427 := n0_; have HO438 := n1_; have HO440 := n2_; have HB := n3_; clear n0_ n1_ n2_ n3_; (try clear hb); (try clear hb2); (try clear hk); (try clear hi); (try clear ho0); (try clear ho1)) | ((with_reducible refine gate_callee (f := 20) rfl ?_); refine goesL_ (some 53) rfl rfl Try.func20 (by kernel_rfl) rfl #[.slice A1 l1.length c1, .slice Ao29 t425.length co29] rfl (by (try simp only [List.map_toArray, List.map_cons, List.map_nil]); first | done | rfl | (simp only [List.length_drop, List.length_take]; rfl)) ?_; (with_reducible refine (tallystickref06_Div.calls kj3 _ _ l1 _ _ t425 t441 t442 t443 _ ?side1 ?side2 ?side3 ?side4 A21.out).mono ?_); (case side1 => repeat (first | exact (Kd.C_below HR1.out HB.out) | (with_reducible refine Kd.C_alloc ?_ _) | (with_reducible refine Kd.C_drewN ?_ _) | (with_reducible refine Kd.C_drew ?_))); (case side2 => exact HC1.out); (case side3 => repeat (first | exact (Kd.V_reads' HO427.out).2.2 | (with_reducible refine Kd.C_alloc ?_ _) | (with_reducible refine Kd.C_drewN ?_ _) | (with_reducible refine Kd.C_drew ?_))); (case side4 => exact (Kd.V_reads' HO427.out).2.1); rintro e w31 ⟨v444, v446, rfl, ho0, ho1, hb⟩; clear A21; refine ⟨_, rfl, ?_⟩; have n0_ := Aside0.mk (Kd.V_mono (Kd.V_told (Kd.V_told (Kd.V_old (by (with_reducible repeat (first | apply Kd.V_alloc | apply Kd.V_drewN | apply Kd.V_drew)); exact HO427.out) hb) (Kd.R_base ho0)) (Kd.R_base ho1)) (fun _ h_ => h_.1)); have n1_ := Aside0.mk (Kd.R_mono (Kd.R_told (Kd.R_told (Kd.R_old (by (with_reducible repeat (first | apply Kd.R_alloc | apply Kd.R_drewN | apply Kd.R_drew)); exact HO438.out) hb) (Kd.R_base ho0)) (Kd.R_base ho1)) (fun _ h_ => h_.1)); have n2_ := Aside0.mk (Kd.R_mono (Kd.R_told (Kd.R_told (Kd.R_old (by (with_reducible repeat (first | apply Kd.R_alloc | apply Kd.R_drewN | apply Kd.R_drew)); exact HO440.out) hb) (Kd.R_base ho0)) (Kd.R_base ho1)) (fun _ h_ => h_.1)); have n3_ := Aside0.mk (Kd.R_lower (Kd.R_new' (Kd.R_new' ho0 (Kd.R_lt (by (with_reducible repeat (first | apply Kd.R_alloc | apply Kd.R_drewN | apply Kd.R_drew)); exact HO438.out))) (Kd.R_lt (by (with_reducible repeat (first | apply Kd.R_alloc | apply Kd.R_drewN | apply Kd.R_drew)); exact HO440.out))) (below_size (by repeat (first | (with_reducible first | exact HB.out | apply below_alloc | apply pw_below_drewN | apply below_drew1) | exact HB.out)))); have n4_ := Aside0.mk (Kd.R_lower (Kd.R_new' (Kd.R_new' ho1 (Kd.R_lt (by (with_reducible repeat (first | apply Kd.R_alloc | apply Kd.R_drewN | apply Kd.R_drew)); exact HO438.out))) (Kd.R_lt (by (with_reducible repeat (first | apply Kd.R_alloc | apply Kd.R_drewN | apply Kd.R_drew)); exact HO440.out))) (below_size (by repeat (first | (with_reducible first | exact HB.out | apply below_alloc | apply pw_below_drewN | apply below_drew1) | exact HB.out)))); have n5_ := Aside0.mk (below_step (by repeat (first | (with_reducible first | exact HB.out | apply below_alloc | apply pw_below_drewN | apply below_drew1) | exact HB.out)) hb); clear HO427; clear HO438; clear HO440; clear HB; have HO427 := n0_; have HO438 := n1_; have HO440 := n2_; have HO445 := n3_; have HO447 := n4_; have HB := n5_; clear n0_ n1_ n2_ n3_ n4_ n5_; (try clear hb); (try clear hb2); (try clear hk); (try clear hi); (try clear ho0); (try clear ho1); obtain ⟨Ao32, co32, eo32⟩ := Kd.R_slice HO438.out; subst eo32; obtain ⟨Ao33, co33, eo33⟩ := Kd.R_slice HO445.out; subst eo33) | ((with_reducible refine gate_callee (f := 19) rfl ?_); refine goesL_ (some 59) rfl rfl Try.func19 (by kernel_rfl) rfl #[.slice Ao32 t434.length co32, .slice Ao33 t441.length co33] rfl (by (try simp only [List.map_toArray, List.map_cons, List.map_nil]); first | done | rfl | (simp only [List.length_drop, List.length_take]; rfl)) ?_; (with_reducible refine (quot_Gcd.calls (fun k_ => some k_ = (.slice Ao32 t434.length co32 : Value).ownBlock) _ _ t434 (fun k_ => some k_ = (.slice Ao33 t441.length co33 : Value).ownBlock) _ _ t441 t448 _ ?side1 ?side2 A22.out).mono ?_); (case side1 => exact Kd.R_V (Kd.R_tight rfl (HO438.out))); (case side2 => exact Kd.R_V (Kd.R_tight rfl (HO445.out))); rintro e w34 ⟨v449, rfl, ho0, hb⟩; clear A22; refine ⟨_, rfl, ?_⟩; have n0_ := Aside0.mk (Kd.V_below (by (with_reducible repeat (first | apply Kd.V_alloc | apply Kd.V_drewN | apply Kd.V_drew)); exact HO427.out) hb); have n1_ := Aside0.mk (Kd.R_below (by (with_reducible repeat (first | apply Kd.R_alloc | apply Kd.R_drewN | apply Kd.R_drew)); exact HO438.out) hb); have n2_ := Aside0.mk (Kd.R_below (by (with_reducible repeat (first | apply Kd.R_alloc | apply Kd.R_drewN | apply Kd.R_drew)); exact HO440.out) hb); have n3_ := Aside0.mk (Kd.R_below (by (with_reducible repeat (first | apply Kd.R_alloc | apply Kd.R_drewN | apply Kd.R_drew)); exact HO445.out) hb); have n4_ := Aside0.mk (Kd.R_below (by (with_reducible repeat (first | apply Kd.R_alloc | apply Kd.R_drewN | apply Kd.R_drew)); exact HO447.out) hb); have n5_ := Aside0.mk (Kd.V_lower (Kd.V_mono (ok' := fun k_ => some k_ ≠ (v439 : Value).ownBlock ∧ some k_ ≠ (v446 : Value).ownBlock) ho0 (fun k_ hk_ => ⟨Or.elim hk_ (fun hs_ => Or.elim hs_ (fun hs_ => ((HO438.out).1 k_ hs_.symm).1.1) (fun hs_ => ((HO445.out).1 k_ hs_.symm).2)) (fun hn_ => (Kd.fresh' (Kd.R_lt (by (with_reducible repeat (first | apply Kd.R_alloc | apply Kd.R_drewN | apply Kd.R_drew)); exact HO440.out)) k_ hn_)), Or.elim hk_ (fun hs_ => Or.elim hs_ (fun hs_ => ((HO438.out).1 k_ hs_.symm).2) (fun hs_ => ((HO445.out).1 k_ hs_.symm).1.1)) (fun hn_ => (Kd.fresh' (Kd.R_lt (by (with_reducible repeat (first | apply Kd.R_alloc | apply Kd.R_drewN | apply Kd.R_drew)); exact HO447.out)) k_ hn_))⟩)) (below_size (by repeat (first | (with_reducible first | exact HB.out | apply below_alloc | apply pw_below_drewN | apply below_drew1) | exact HB.out)))); have n6_ := Aside0.mk (below_step (by repeat (first | (with_reducible first | exact HB.out | apply below_alloc | apply pw_below_drewN | apply below_drew1) | exact HB.out)) hb); clear HO427; clear HO438; clear HO440; clear HO445; clear HO447; clear HB; have HO427 := n0_; have HO438 := n1_; have HO440 := n2_; have HO445 := n3_; have HO447 := n4_; have HO450 := n5_; have HB := n6_; clear n0_ n1_ n2_ n3_ n4_ n5_ n6_; (try clear hb); (try clear hb2); (try clear hk); (try clear hi); (try clear ho0); obtain ⟨Ao35, co35, eo35⟩ := Kd.R_slice HO440.out; subst eo35; obtain ⟨Ao36, co36, eo36⟩ := Kd.R_slice HO447.out; subst eo36; obtain ⟨Ao37, co37, eo37⟩ := Kd.V_slice HO450.out; subst eo37; have p451 : 0 ≤ (0 : Int) := (by omega); have q451 : 0 < (t448.length : Int) := of_decide_eq_true (by first | (with_reducible assumption) | assumption); obtain ⟨ad451, e451, hx451_0⟩ := Kd.at_int (Kd.V_reads' HO450.out).2.2 0 p451 q451; cases e451; have qi451 : (0 < t448.length) = True := eq_true (by omega); (try rw [show ((0 : Int)).toNat = 0 from rfl] at hx451_0); (try rw [Addr.add_zero'] at hx451_0); replace p451 := eq_true p451; replace q451 := eq_true q451))
                    go_ret
                    exact ⟨by first | rfl | (simp [errW_none, errW_some] <;> rfl) | (simp [*, errW_none, errW_some] <;> rfl), by repeat (first | (with_reducible first | exact HB.out | apply below_alloc | apply pw_below_drewN | apply below_drew1) | exact HB.out)⟩
                  · rw [if_neg c27] at H
                    exact absurd H (by simp)
                · rw [if_neg c26] at H
                  have c26b0 : ((t448.length : Int) == 1) = false := beq_eq_false_iff_ne.mpr c26
                  have c26b1 : ((t448.length : Int) != 1) = true := bne_iff_ne.mpr c26
                  obtain rfl := Option.some.inj H
                  exact absurd hr_.out (by simp)
              · rw [if_neg c25] at H
                have c25b0 : ((t442.length : Int) == 0) = false := beq_eq_false_iff_ne.mpr c25
                have c25b1 : ((t442.length : Int) != 0) = true := bne_iff_ne.mpr c25
                have c25b2 : ¬ (t442 = []) := fun h_ => c25 (by rw [h_]; rfl)
                obtain rfl := Option.some.inj H
                exact absurd hr_.out (by simp)
            · rw [if_neg c24] at H
              have c24b0 : ((t435.length : Int) == 0) = false := beq_eq_false_iff_ne.mpr c24
              have c24b1 : ((t435.length : Int) != 0) = true := bne_iff_ne.mpr c24
              have c24b2 : ¬ (t435 = []) := fun h_ => c24 (by rw [h_]; rfl)
              obtain rfl := Option.some.inj H
              exact absurd hr_.out (by simp)
          · replace c23 := Bool.eq_false_iff.mpr c23
            subst c23
            have H1 : (some false) = some r := by rw [if_neg (show ¬ (false = true) by decide)] at H; exact H
            clear H
            have H := H1
            clear H1
            obtain rfl := Option.some.inj H
            exact absurd hr_.out (by simp)

/-- THE ONE PURE STATEMENT of tallysticklaw06_QuotGcds: yours. -/
def tallysticklaw06_QuotGcds.Pure : Prop := ∀ (l0 : List Int) (l1 : List Int), l0.length ≤ maxLen → l0.length * 8 ≤ 140737488351232 → (∀ x ∈ l0, (Lit.int .u64 x).wf = true) → l1.length ≤ maxLen → l1.length * 8 ≤ 140737488351232 → (∀ x ∈ l1, (Lit.int .u64 x).wf = true) → ∃ k, tallysticklaw06_QuotGcds.f k l0 l1 = some true
theorem tallysticklaw06_QuotGcds.walk (P : tallysticklaw06_QuotGcds.Pure) (a0 : Option Addr) (len0 cap0 : Nat) (z0 : List Int) (a1 : Option Addr) (len1 cap1 : Nat) (z1 : List Int) (w : World) (w0 : (a0 = none ∧ len0 = 0 ∧ cap0 = 0 ∧ z0 = []) ∨ ∃ x, a0 = some x ∧ len0 ≤ cap0 ∧ cap0 ≤ maxLen ∧ z0.length = cap0 ∧ (∀ i, i < z0.length → w.cell? (x.add i) = some (.int .u64 (z0.getD i 0))) ∧ ∀ n ∈ z0, (Lit.int .u64 n).wf = true) (y0 : len0 * 8 ≤ 140737488351232) (w1 : (a1 = none ∧ len1 = 0 ∧ cap1 = 0 ∧ z1 = []) ∨ ∃ x, a1 = some x ∧ len1 ≤ cap1 ∧ cap1 ≤ maxLen ∧ z1.length = cap1 ∧ (∀ i, i < z1.length → w.cell? (x.add i) = some (.int .u64 (z1.getD i 0))) ∧ ∀ n ∈ z1, (Lit.int .u64 n).wf = true) (y1 : len1 * 8 ≤ 140737488351232) :
    Calls Try.prog 5 #[.slice a0 len0 cap0, .slice a1 len1 cap1] w fun e w' => e = .returned (.bool true) ∧ Below w.heap.size w w' := by
  obtain ⟨l0, rfl, hr0, hm0, hw0, hc0⟩ := ReadsInt.ofRowC w0
  obtain ⟨l1, rfl, hr1, hm1, hw1, hc1⟩ := ReadsInt.ofRowC w1
  obtain ⟨k, h⟩ := P l0 l1 hm0 y0 hw0 hm1 y1 hw1
  refine (tallysticklaw06_QuotGcds.calls k _ _ l0 _ _ l1 true w (Kd.C_of_reads (d := (0 : Int)) (h1 := fun _ => rfl) hr0) hc0 (Kd.C_of_reads (d := (0 : Int)) (h1 := fun _ => rfl) hr1) hc1 ⟨rfl⟩ h).mono ?_
  rintro e w' ⟨rfl, hd⟩
  exact ⟨rfl, hd⟩

end Go.Proofs.Ytofknlpbnpokeaa.Pa
