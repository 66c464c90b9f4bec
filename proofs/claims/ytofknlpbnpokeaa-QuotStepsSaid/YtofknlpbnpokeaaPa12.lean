/- Contracts of functions and laws, written by this session's program myprint.py by way of the kit's print. -/
import Derived.Test.YtofknlpbnpokeaaPa0
import Derived.Test.YtofknlpbnpokeaaPa1
import Derived.Test.YtofknlpbnpokeaaPa3
import Derived.Test.YtofknlpbnpokeaaPa4
namespace Go.Proofs.Ytofknlpbnpokeaa.Pa
open Go.RowKit Go.Proofs.Ytofknlpbnpokeaa.Hand Go.Proofs.YtofknlpbnpokeaaW.PrintWords Go.Proofs.YtofknlpbnpokeaaW.PrintLast Go.Proofs.YtofknlpbnpokeaaW.PrintMore
attribute [local go_sem] max2_int min2_int max_two min_two max_three min_three max_four min_four   -- for this text's walks alone
set_option linter.unusedVariables false
set_option linter.unusedSimpArgs false

/-! ### tallysticklaw06_QuotSteps: function 8 -/
def tallysticklaw06_QuotSteps.j0 : Nat → List Int → Int → Bool → Bool → Option (Bool)
  | 0, _, _, _, _ => none
  | k + 1, x0, x1, x5, x21 => if x21 = true then (some x5) else ((quot_Pow.f x0 x1).bind fun bt527 => ((quot_Pow.f x0 (wrap64 (x1 - 1))).bind fun bt531 => (if x5 = true then (if bt527.2 = 0 then (if bt531.2 = 0 then ((tallystickref05_Times.f k bt531.1 x0).bind fun t535 => ((tallystickref04_Same.f k bt527.1 t535).bind fun t538 => (some t538))) else (some false)) else (some false)) else (some false))))
def tallysticklaw06_QuotSteps.f (k : Nat) (l0 : List Int) (a1 : Int) : Option (Bool) := (tallysticklaw06_shown.f).bind fun t526 => (if (l0.length : Int) > 8 then (tallysticklaw06_QuotSteps.j0 k l0 a1 t526 true) else (if a1 < 1 then (tallysticklaw06_QuotSteps.j0 k l0 a1 t526 true) else (tallysticklaw06_QuotSteps.j0 k l0 a1 t526 (decide (a1 > 12)))))
theorem tallysticklaw06_QuotSteps.mono_l : ∀ k, (∀ y0 y1 y2 y3, LeO (tallysticklaw06_QuotSteps.j0 k y0 y1 y2 y3) (tallysticklaw06_QuotSteps.j0 (k + 1) y0 y1 y2 y3))
  | 0 => fun _ _ _ _ r h => by simp [tallysticklaw06_QuotSteps.j0] at h
  | k + 1 => by
    have ih0 := tallysticklaw06_QuotSteps.mono_l k
    · intro y0 y1 y2 y3
      unfold tallysticklaw06_QuotSteps.j0
      repeat' first
      | (with_reducible exact ih0 _ _ _ _)
      | (with_reducible exact tallystickref04_Same.mono _ _ _)
      | (with_reducible exact tallystickref05_Times.mono _ _ _)
      | (with_reducible exact LeO.refl _)
      | (with_reducible exact LeO.none _)
      | (with_reducible refine LeO.ite ?_ ?_)
      | (with_reducible refine LeO.bind ?_ (fun _ => ?_))
      | exact ih0 _ _ _ _
      | exact tallystickref04_Same.mono _ _ _
      | exact tallystickref05_Times.mono _ _ _
      | exact LeO.none _
      | refine LeO.ite ?_ ?_
      | refine LeO.bind ?_ (fun _ => ?_)
theorem tallysticklaw06_QuotSteps.mono : ∀ a0 a1 k, LeO (tallysticklaw06_QuotSteps.f k a0 a1) (tallysticklaw06_QuotSteps.f (k + 1) a0 a1) := by
  intro a0 a1 k
  have ih0 := tallysticklaw06_QuotSteps.mono_l k
  unfold tallysticklaw06_QuotSteps.f
  repeat' first
      | (with_reducible exact ih0 _ _ _ _)
      | (with_reducible exact tallystickref04_Same.mono _ _ _)
      | (with_reducible exact tallystickref05_Times.mono _ _ _)
      | (with_reducible exact LeO.refl _)
      | (with_reducible exact LeO.none _)
      | (with_reducible refine LeO.ite ?_ ?_)
      | (with_reducible refine LeO.bind ?_ (fun _ => ?_))
      | exact ih0 _ _ _ _
      | exact tallystickref04_Same.mono _ _ _
      | exact tallystickref05_Times.mono _ _ _
      | exact LeO.none _
      | refine LeO.ite ?_ ?_
      | refine LeO.bind ?_ (fun _ => ?_)
set_option maxHeartbeats 8000000 in
set_option maxRecDepth 100000 in
theorem tallysticklaw06_QuotSteps.calls (k : Nat) (A0 : Option Addr) (c0 : Nat) (l0 : List Int) (a1 : Int) (r : Bool) (w : World) (hr0 : Kd.C (Kd.int .u64) w A0 l0.length l0) (hc0 : l0.length ≤ c0) (hr_ : Aside0 (r = true)) (h : tallysticklaw06_QuotSteps.f k l0 a1 = some r) :
    Calls Try.prog 8 #[.slice A0 l0.length c0, .int .i64 a1] w fun e w' => e = .returned (.bool r) ∧ Below w.heap.size w w' := by
  have HR0 := Aside0.mk hr0
  have HC0 := Aside0.mk hc0
  clear hr0 hc0
  have HB := Aside0.mk (Below.refl w.heap.size w)
  have H : ((tallysticklaw06_shown.f).bind fun t526 => (if (l0.length : Int) > 8 then (tallysticklaw06_QuotSteps.j0 k l0 a1 t526 true) else (if a1 < 1 then (tallysticklaw06_QuotSteps.j0 k l0 a1 t526 true) else (tallysticklaw06_QuotSteps.j0 k l0 a1 t526 (decide (a1 > 12)))))) = some r := h
  clear h
  replace H := Option.bind_eq_some_iff.mp H
  obtain ⟨t526, A30, H⟩ := H
  replace H : (if (l0.length : Int) > 8 then (tallysticklaw06_QuotSteps.j0 k l0 a1 t526 true) else (if a1 < 1 then (tallysticklaw06_QuotSteps.j0 k l0 a1 t526 true) else (tallysticklaw06_QuotSteps.j0 k l0 a1 t526 (decide (a1 > 12))))) = some r := H
  have A3 := Aside0.mk A30
  clear A30
  have HC4 := Aside0.mk H
  clear H
  go_enter Try.func8, Try.ntmps8
  go_upto_region 2 with (first | ((with_reducible refine gate_callee (f := 10) rfl ?_); refine goesL_ (some 10) rfl rfl Try.func10 (by kernel_rfl) rfl #[] rfl (by (try simp only [List.map_toArray, List.map_cons, List.map_nil]); first | done | rfl | (simp only [List.length_drop, List.length_take]; rfl)) ?_; (with_reducible refine (tallysticklaw06_shown.calls  t526 _ A3.out).mono ?_); rintro e w5 ⟨rfl, hb⟩; clear A3; refine ⟨_, rfl, ?_⟩; have n0_ := Aside0.mk (below_step (by repeat (first | (with_reducible first | exact HB.out | apply below_alloc | apply pw_below_drewN | apply below_drew1) | exact HB.out)) hb); clear HB; have HB := n0_; clear n0_; (try clear hb); (try clear hb2); (try clear hk); (try clear hi)))
  (try simp only [Act.put, List.setIfInBounds_toArray, List.set_cons_zero, List.set_cons_succ])
  go_cut [21] (fun v21 wc => ∃ (kq : Nat) (x21_3 : Bool), v21 = .bool x21_3 ∧ Aside0 (tallysticklaw06_QuotSteps.j0 kq l0 a1 t526 x21_3 = some r) ∧ Aside0 (kq ≤ k) ∧ Aside0 (Below w.heap.size w wc))
  case first =>
    have H := HC4.out
    clear HC4
    by_cases c6 : (l0.length : Int) > 8
    · rw [if_pos c6] at H
      have c6b0 : decide (8 < (l0.length : Int)) = true := decide_eq_true c6
      have c6b1 : decide (8 < l0.length) = true := decide_eq_true (by omega)
      clear c6
      (first | rw [c6b0] | (simp only [i64_w, i32_w]; rw [c6b0]) | skip)
      have H' := Aside0.mk H
      clear H
      go_wp2
      go_meet
      case rel => exact ⟨_, (true), (by first | rfl | (simp; done) | (simp [*]; done)), H', ⟨by first | omega | exact Nat.le_refl _⟩, ⟨by repeat (first | (with_reducible first | exact HB.out | apply below_alloc | apply pw_below_drewN | apply below_drew1) | exact HB.out)⟩⟩
    · rw [if_neg c6] at H
      have c6b0 : decide (8 < (l0.length : Int)) = false := decide_eq_false c6
      have c6b1 : decide (8 < l0.length) = false := decide_eq_false (by omega)
      clear c6
      (first | rw [c6b0] | (simp only [i64_w, i32_w]; rw [c6b0]) | skip)
      by_cases c7 : a1 < 1
      · rw [if_pos c7] at H
        have c7b0 : decide (a1 < 1) = true := decide_eq_true c7
        clear c7
        have H' := Aside0.mk H
        clear H
        go_wp2
        go_meet
        case rel => exact ⟨_, (true), (by first | rfl | (simp; done) | (simp [*]; done)), H', ⟨by first | omega | exact Nat.le_refl _⟩, ⟨by repeat (first | (with_reducible first | exact HB.out | apply below_alloc | apply pw_below_drewN | apply below_drew1) | exact HB.out)⟩⟩
      · rw [if_neg c7] at H
        have c7b0 : decide (a1 < 1) = false := decide_eq_false c7
        clear c7
        have H' := Aside0.mk H
        clear H
        go_wp2
        go_meet
        case rel => exact ⟨_, (decide (a1 > 12)), (by first | rfl | (simp; done) | (simp [*]; done)), H', ⟨by first | omega | exact Nat.le_refl _⟩, ⟨by repeat (first | (with_reducible first | exact HB.out | apply below_alloc | apply pw_below_drewN | apply below_drew1) | exact HB.out)⟩⟩
  case rest =>
    clear HC4
    try clear c1
    try clear p2
    try clear c6
    try clear c6b0
    try clear c6b1
    try clear c7
    try clear c7b0
    obtain ⟨kq, x21_3, rfl, HA, HJ3, HB⟩ := hcut
    cases kq with
    | zero => exact absurd HA.out (by simp [tallysticklaw06_QuotSteps.j0])
    | succ kj3 =>
      have H := HA.out
      clear HA
      simp only [tallysticklaw06_QuotSteps.j0] at H
      by_cases c8 : x21_3 = true
      · subst c8
        have H1 : (some t526) = some r := by rw [if_pos rfl] at H; exact H
        clear H
        have H := H1
        clear H1
        obtain rfl := Option.some.inj H
        go_wp2
        go_ret
        exact ⟨by first | rfl | (simp [errW_none, errW_some] <;> rfl) | (simp [*, errW_none, errW_some] <;> rfl), by repeat (first | (with_reducible first | exact HB.out | apply below_alloc | apply pw_below_drewN | apply below_drew1) | exact HB.out)⟩
      · replace c8 := Bool.eq_false_iff.mpr c8
        subst c8
        have H1 : ((quot_Pow.f l0 a1).bind fun bt527 => ((quot_Pow.f l0 (wrap64 (a1 - 1))).bind fun bt531 => (if t526 = true then (if bt527.2 = 0 then (if bt531.2 = 0 then ((tallystickref05_Times.f kj3 bt531.1 l0).bind fun t535 => ((tallystickref04_Same.f kj3 bt527.1 t535).bind fun t538 => (some t538))) else (some false)) else (some false)) else (some false)))) = some r := by rw [if_neg (show ¬ (false = true) by decide)] at H; exact H
        clear H
        have H := H1
        clear H1
        replace H := Option.bind_eq_some_iff.mp H
        obtain ⟨⟨t527, t530⟩, A90, H⟩ := H
        replace H : ((quot_Pow.f l0 (wrap64 (a1 - 1))).bind fun bt531 => (if t526 = true then (if t530 = 0 then (if bt531.2 = 0 then ((tallystickref05_Times.f kj3 bt531.1 l0).bind fun t535 => ((tallystickref04_Same.f kj3 t527 t535).bind fun t538 => (some t538))) else (some false)) else (some false)) else (some false))) = some r := H
        have A9 := Aside0.mk A90
        clear A90
        replace H := Option.bind_eq_some_iff.mp H
        obtain ⟨⟨t531, t534⟩, A100, H⟩ := H
        replace H : (if t526 = true then (if t530 = 0 then (if t534 = 0 then ((tallystickref05_Times.f kj3 t531 l0).bind fun t535 => ((tallystickref04_Same.f kj3 t527 t535).bind fun t538 => (some t538))) else (some false)) else (some false)) else (some false)) = some r := H
        have A10 := Aside0.mk A100
        clear A100
        by_cases c11 : t526 = true
        · subst c11
          have H1 : (if t530 = 0 then (if t534 = 0 then ((tallystickref05_Times.f kj3 t531 l0).bind fun t535 => ((tallystickref04_Same.f kj3 t527 t535).bind fun t538 => (some t538))) else (some false)) else (some false)) = some r := by rw [if_pos rfl] at H; exact H
          clear H
          have H := H1
          clear H1
          by_cases c12 : t530 = 0
          · rw [if_pos c12] at H
            have c12b0 : (t530 == 0) = true := beq_iff_eq.mpr c12
            have c12b1 : (t530 != 0) = false := bne_eq_false_iff_eq.mpr c12
            clear c12
            by_cases c13 : t534 = 0
            · rw [if_pos c13] at H
              have c13b0 : (t534 == 0) = true := beq_iff_eq.mpr c13
              have c13b1 : (t534 != 0) = false := bne_eq_false_iff_eq.mpr c13
              clear c13
              replace H := Option.bind_eq_some_iff.mp H
              obtain ⟨t535, A140, H⟩ := H
              replace H : ((tallystickref04_Same.f kj3 t527 t535).bind fun t538 => (some t538)) = some r := H
              have A14 := Aside0.mk A140
              clear A140
              replace H := Option.bind_eq_some_iff.mp H
              obtain ⟨t538, A150, H⟩ := H
              replace H : (some t538) = some r := H
              have A15 := Aside0.mk A150
              clear A150
              obtain rfl := Option.some.inj H
              go_wp2_with (first | ((with_reducible refine gate_callee (f := 24) rfl ?_); refine goesL_ (some 26) rfl rfl Try.func24 (by kernel_rfl) rfl #[.slice A0 l0.length c0, .int .i64 a1] rfl (by (try simp only [List.map_toArray, List.map_cons, List.map_nil]); first | done | rfl | (simp only [List.length_drop, List.length_take]; rfl)) ?_; (with_reducible refine (quot_Pow.calls _ _ l0 a1 t527 t530 _ ?side1 ?side2 A9.out).mono ?_); (case side1 => repeat (first | exact (Kd.C_below HR0.out HB.out) | (with_reducible refine Kd.C_alloc ?_ _) | (with_reducible refine Kd.C_drewN ?_ _) | (with_reducible refine Kd.C_drew ?_))); (case side2 => exact HC0.out); rintro e w16 ⟨v528, rfl, ho0, hb⟩; clear A9; refine ⟨_, rfl, ?_⟩; have n0_ := Aside0.mk (Kd.V_lower (Kd.V_mono (ok' := fun k_ => True) ho0 (fun k_ hk_ => trivial)) (below_size (by repeat (first | (with_reducible first | exact HB.out | apply below_alloc | apply pw_below_drewN | apply below_drew1) | exact HB.out)))); have n1_ := Aside0.mk (below_step (by repeat (first | (with_reducible first | exact HB.out | apply below_alloc | apply pw_below_drewN | apply below_drew1) | exact HB.out)) hb); clear HB; have HO529 := n0_; have HB := n1_; clear n0_ n1_; (try clear hb); (try clear hb2); (try clear hk); (try clear hi); (try clear ho0)) | ((with_reducible refine gate_callee (f := 24) rfl ?_); refine goesL_ (some 33) rfl rfl Try.func24 (by kernel_rfl) rfl #[.slice A0 l0.length c0, .int .i64 (wrap64 (a1 - 1))] rfl (by (try simp only [List.map_toArray, List.map_cons, List.map_nil]); first | done | rfl | (simp only [List.length_drop, List.length_take]; rfl)) ?_; (with_reducible refine (quot_Pow.calls _ _ l0 (wrap64 (a1 - 1)) t531 t534 _ ?side1 ?side2 A10.out).mono ?_); (case side1 => repeat (first | exact (Kd.C_below HR0.out HB.out) | (with_reducible refine Kd.C_alloc ?_ _) | (with_reducible refine Kd.C_drewN ?_ _) | (with_reducible refine Kd.C_drew ?_))); (case side2 => exact HC0.out); rintro e w17 ⟨v532, rfl, ho0, hb⟩; clear A10; refine ⟨_, rfl, ?_⟩; have n0_ := Aside0.mk (Kd.V_below (by (with_reducible repeat (first | apply Kd.V_alloc | apply Kd.V_drewN | apply Kd.V_drew)); exact HO529.out) hb); have n1_ := Aside0.mk (Kd.V_lower (Kd.V_mono (ok' := fun k_ => True) ho0 (fun k_ hk_ => trivial)) (below_size (by repeat (first | (with_reducible first | exact HB.out | apply below_alloc | apply pw_below_drewN | apply below_drew1) | exact HB.out)))); have n2_ := Aside0.mk (below_step (by repeat (first | (with_reducible first | exact HB.out | apply below_alloc | apply pw_below_drewN | apply below_drew1) | exact HB.out)) hb); clear HO529; clear HB; have HO529 := n0_; have HO533 := n1_; have HB := n2_; clear n0_ n1_ n2_; (try clear hb); (try clear hb2); (try clear hk); (try clear hi); (try clear ho0); obtain ⟨Ao18, co18, eo18⟩ := Kd.V_slice HO533.out; subst eo18) | (go_at_call 15; (with_reducible refine (tallystickref05_Times.calls kj3 _ _ t531 _ _ l0 t535 _ ?side1 ?side2 ?side3 ?side4 A14.out).mono ?_); (case side1 => repeat (first | exact (Kd.V_reads' HO533.out).2.2 | (with_reducible refine Kd.C_alloc ?_ _) | (with_reducible refine Kd.C_drewN ?_ _) | (with_reducible refine Kd.C_drew ?_))); (case side2 => exact (Kd.V_reads' HO533.out).2.1); (case side3 => repeat (first | exact (Kd.C_below HR0.out HB.out) | (with_reducible refine Kd.C_alloc ?_ _) | (with_reducible refine Kd.C_drewN ?_ _) | (with_reducible refine Kd.C_drew ?_))); (case side4 => exact HC0.out); rintro e w19 ⟨v536, rfl, ho0, hb⟩; clear A14; have n0_ := Aside0.mk (Kd.V_elder' (by (with_reducible repeat (first | apply Kd.V_alloc | apply Kd.V_drewN | apply Kd.V_drew)); exact HO529.out) (Kd.R_base ho0) hb); have n1_ := Aside0.mk (Kd.V_elder' (by (with_reducible repeat (first | apply Kd.V_alloc | apply Kd.V_drewN | apply Kd.V_drew)); exact HO533.out) (Kd.R_base ho0) hb); have n2_ := Aside0.mk (Kd.R_lower ho0 (below_size (by repeat (first | (with_reducible first | exact HB.out | apply below_alloc | apply pw_below_drewN | apply below_drew1) | exact HB.out)))); have n3_ := Aside0.mk (below_step (by repeat (first | (with_reducible first | exact HB.out | apply below_alloc | apply pw_below_drewN | apply below_drew1) | exact HB.out)) hb); clear HO529; clear HO533; clear HB; have HO529 := n0_; have HO533 := n1_; have HO537 := n2_; have HB := n3_; clear n0_ n1_ n2_ n3_; (try clear hb); (try clear hb2); (try clear hk); (try clear hi); (try clear ho0); obtain ⟨Ao20, co20, eo20⟩ := Kd.V_slice HO529.out; subst eo20; obtain ⟨Ao21, co21, eo21⟩ := Kd.R_slice HO537.out; subst eo21) | (go_at_call 17; (with_reducible refine (tallystickref04_Same.calls kj3 _ _ t527 _ _ t535 t538 _ ?side1 ?side2 ?side3 ?side4 A15.out).mono ?_); (case side1 => repeat (first | exact (Kd.V_reads' HO529.out).2.2 | (with_reducible refine Kd.C_alloc ?_ _) | (with_reducible refine Kd.C_drewN ?_ _) | (with_reducible refine Kd.C_drew ?_))); (case side2 => exact (Kd.V_reads' HO529.out).2.1); (case side3 => repeat (first | exact (Kd.R_reads' HO537.out).2.2 | (with_reducible refine Kd.C_alloc ?_ _) | (with_reducible refine Kd.C_drewN ?_ _) | (with_reducible refine Kd.C_drew ?_))); (case side4 => exact (Kd.R_reads' HO537.out).2.1); rintro e w' ⟨rfl, ⟨nd, rfl⟩⟩))
              go_ret
              exact ⟨by first | rfl | (simp [errW_none, errW_some] <;> rfl) | (simp [*, errW_none, errW_some] <;> rfl), by repeat (first | (with_reducible first | exact HB.out | apply below_alloc | apply pw_below_drewN | apply below_drew1) | exact HB.out)⟩
            · rw [if_neg c13] at H
              have c13b0 : (t534 == 0) = false := beq_eq_false_iff_ne.mpr c13
              have c13b1 : (t534 != 0) = true := bne_iff_ne.mpr c13
              obtain rfl := Option.some.inj H
              exact absurd hr_.out (by simp)
          · rw [if_neg c12] at H
            have c12b0 : (t530 == 0) = false := beq_eq_false_iff_ne.mpr c12
            have c12b1 : (t530 != 0) = true := bne_iff_ne.mpr c12
            obtain rfl := Option.some.inj H
            exact absurd hr_.out (by simp)
        · replace c11 := Bool.eq_false_iff.mpr c11
          subst c11
          have H1 : (some false) = some r := by rw [if_neg (show ¬ (false = true) by decide)] at H; exact H
          clear H
          have H := H1
          clear H1
          obtain rfl := Option.some.inj H
          exact absurd hr_.out (by simp)

/-- THE ONE PURE STATEMENT of tallysticklaw06_QuotSteps: yours. -/
def tallysticklaw06_QuotSteps.Pure : Prop := ∀ (l0 : List Int) (a1 : Int), l0.length ≤ maxLen → l0.length * 8 ≤ 140737488351232 → (∀ x ∈ l0, (Lit.int .u64 x).wf = true) → (Lit.int .i64 a1).wf = true → ∃ k, tallysticklaw06_QuotSteps.f k l0 a1 = some true
theorem tallysticklaw06_QuotSteps.walk (P : tallysticklaw06_QuotSteps.Pure) (a0 : Option Addr) (len0 cap0 : Nat) (z0 : List Int) (a1 : Int) (w : World) (w0 : (a0 = none ∧ len0 = 0 ∧ cap0 = 0 ∧ z0 = []) ∨ ∃ x, a0 = some x ∧ len0 ≤ cap0 ∧ cap0 ≤ maxLen ∧ z0.length = cap0 ∧ (∀ i, i < z0.length → w.cell? (x.add i) = some (.int .u64 (z0.getD i 0))) ∧ ∀ n ∈ z0, (Lit.int .u64 n).wf = true) (y0 : len0 * 8 ≤ 140737488351232) (w1 : (Lit.int .i64 a1).wf = true) :
    Calls Try.prog 8 #[.slice a0 len0 cap0, .int .i64 a1] w fun e w' => e = .returned (.bool true) ∧ Below w.heap.size w w' := by
  obtain ⟨l0, rfl, hr0, hm0, hw0, hc0⟩ := ReadsInt.ofRowC w0
  obtain ⟨k, h⟩ := P l0 a1 hm0 y0 hw0 w1
  refine (tallysticklaw06_QuotSteps.calls k _ _ l0 a1 true w (Kd.C_of_reads (d := (0 : Int)) (h1 := fun _ => rfl) hr0) hc0 ⟨rfl⟩ h).mono ?_
  rintro e w' ⟨rfl, hd⟩
  exact ⟨rfl, hd⟩

end Go.Proofs.Ytofknlpbnpokeaa.Pa
