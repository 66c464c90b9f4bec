/- A law's contract, written by this session's programs myprint.py and pbify.py by way of the kit's print. -/
import Derived.Test.YtaakniobgljniaaDoorPa0
import Derived.Test.YtaakniobgljniaaDoorPa5
import Derived.Test.YtaakniobgljniaaDoorPa6
import Derived.Test.YtaakniobgljniaaDoorPa7
import Derived.Test.YtaakniobgljniaaDoorPb0
namespace Go.Proofs.YtaakniobgljniaaDoor.Pb
open Go.RowKit Go.Proofs.YtaakniobgljniaaDoor.Pa Go.Proofs.YtaakniobgljniaaDoor.Hand Go.Proofs.YtaakniobgljniaaDoorW.PrintWords Go.Proofs.YtaakniobgljniaaDoorW.PrintLast Go.Proofs.YtaakniobgljniaaDoorW.PrintMore
attribute [local go_sem] max2_int min2_int max_two min_two max_three min_three max_four min_four   -- for this text's walks alone
set_option linter.unusedVariables false
set_option linter.unusedSimpArgs false

/-! ### tallysticklaw09_TrioTimes: function 3 -/
def tallysticklaw09_TrioTimes.j0 : Nat → List Int → List Int → Int → Bool → Bool → Option (Bool)
  | 0, _, _, _, _, _ => none
  | k + 1, x0, x1, x2, x7, x24 => if x24 = true then (some x7) else ((trio_Mod.f x0 x1 x2).bind fun bt399 => ((tallystickref09_Mod.f k x0 x1 x2).bind fun bt403 => ((trio_Times.f x0 x1).bind fun bt407 => ((tallystickref09_Times.f k x0 x1).bind fun bt411 => (if x7 = true then ((tallystickref09_Rows.f k bt399.1 bt403.1).bind fun t415 => (if t415 = true then (if bt399.2 = bt403.2 then ((tallystickref09_Pairs.f k bt407.1 bt411.1).bind fun t416 => (if t416 = true then (some (bt407.2 == bt411.2)) else (some false))) else (some false)) else (some false))) else (some false))))))
def tallysticklaw09_TrioTimes.f (k : Nat) (l0 : List Int) (l1 : List Int) (a2 : Int) : Option (Bool) := (tallysticklaw09_shown.f).bind fun t398 => (if (l0.length : Int) > 100 then (tallysticklaw09_TrioTimes.j0 k l0 l1 a2 t398 true) else (tallysticklaw09_TrioTimes.j0 k l0 l1 a2 t398 (decide ((l1.length : Int) > 100))))
theorem tallysticklaw09_TrioTimes.mono_l : ∀ k, (∀ y0 y1 y2 y3 y4, LeO (tallysticklaw09_TrioTimes.j0 k y0 y1 y2 y3 y4) (tallysticklaw09_TrioTimes.j0 (k + 1) y0 y1 y2 y3 y4))
  | 0 => fun _ _ _ _ _ r h => by simp [tallysticklaw09_TrioTimes.j0] at h
  | k + 1 => by
    have ih0 := tallysticklaw09_TrioTimes.mono_l k
    · intro y0 y1 y2 y3 y4
      unfold tallysticklaw09_TrioTimes.j0
      repeat' first
      | (with_reducible exact ih0 _ _ _ _ _)
      | (with_reducible exact tallystickref09_Mod.mono _ _ _ _)
      | (with_reducible exact tallystickref09_Pairs.mono _ _ _)
      | (with_reducible exact tallystickref09_Rows.mono _ _ _)
      | (with_reducible exact tallystickref09_Times.mono _ _ _)
      | (with_reducible exact LeO.refl _)
      | (with_reducible exact LeO.none _)
      | (with_reducible refine LeO.ite ?_ ?_)
      | (with_reducible refine LeO.bind ?_ (fun _ => ?_))
      | exact ih0 _ _ _ _ _
      | exact tallystickref09_Mod.mono _ _ _ _
      | exact tallystickref09_Pairs.mono _ _ _
      | exact tallystickref09_Rows.mono _ _ _
      | exact tallystickref09_Times.mono _ _ _
      | exact LeO.none _
      | refine LeO.ite ?_ ?_
      | refine LeO.bind ?_ (fun _ => ?_)
theorem tallysticklaw09_TrioTimes.mono : ∀ a0 a1 a2 k, LeO (tallysticklaw09_TrioTimes.f k a0 a1 a2) (tallysticklaw09_TrioTimes.f (k + 1) a0 a1 a2) := by
  intro a0 a1 a2 k
  have ih0 := tallysticklaw09_TrioTimes.mono_l k
  unfold tallysticklaw09_TrioTimes.f
  repeat' first
      | (with_reducible exact ih0 _ _ _ _ _)
      | (with_reducible exact tallystickref09_Mod.mono _ _ _ _)
      | (with_reducible exact tallystickref09_Pairs.mono _ _ _)
      | (with_reducible exact tallystickref09_Rows.mono _ _ _)
      | (with_reducible exact tallystickref09_Times.mono _ _ _)
      | (with_reducible exact LeO.refl _)
      | (with_reducible exact LeO.none _)
      | (with_reducible refine LeO.ite ?_ ?_)
      | (with_reducible refine LeO.bind ?_ (fun _ => ?_))
      | exact ih0 _ _ _ _ _
      | exact tallystickref09_Mod.mono _ _ _ _
      | exact tallystickref09_Pairs.mono _ _ _
      | exact tallystickref09_Rows.mono _ _ _
      | exact tallystickref09_Times.mono _ _ _
      | exact LeO.none _
      | refine LeO.ite ?_ ?_
      | refine LeO.bind ?_ (fun _ => ?_)
set_option maxHeartbeats 8000000 in
set_option maxRecDepth 100000 in
theorem tallysticklaw09_TrioTimes.calls (k : Nat) (A0 : Option Addr) (c0 : Nat) (l0 : List Int) (A1 : Option Addr) (c1 : Nat) (l1 : List Int) (a2 : Int) (r : Bool) (w : World) (HPR : Aside0 (PrimesAt w)) (hr0 : Kd.C (Kd.int .u64) w A0 l0.length l0) (hc0 : l0.length ≤ c0) (hr1 : Kd.C (Kd.int .u64) w A1 l1.length l1) (hc1 : l1.length ≤ c1) (hr_ : Aside0 (r = true)) (h : tallysticklaw09_TrioTimes.f k l0 l1 a2 = some r) :
    Calls Tryd.prog 3 #[.slice A0 l0.length c0, .slice A1 l1.length c1, .int .u32 a2] w fun e w' => e = .returned (.bool r) ∧ Below w.heap.size w w' := by
  have HR0 := Aside0.mk hr0
  have HC0 := Aside0.mk hc0
  clear hr0 hc0
  have HR1 := Aside0.mk hr1
  have HC1 := Aside0.mk hc1
  clear hr1 hc1
  have HB := Aside0.mk (Below.refl w.heap.size w)
  have H : ((tallysticklaw09_shown.f).bind fun t398 => (if (l0.length : Int) > 100 then (tallysticklaw09_TrioTimes.j0 k l0 l1 a2 t398 true) else (tallysticklaw09_TrioTimes.j0 k l0 l1 a2 t398 (decide ((l1.length : Int) > 100))))) = some r := h
  clear h
  replace H := Option.bind_eq_some_iff.mp H
  obtain ⟨t398, A40, H⟩ := H
  replace H : (if (l0.length : Int) > 100 then (tallysticklaw09_TrioTimes.j0 k l0 l1 a2 t398 true) else (tallysticklaw09_TrioTimes.j0 k l0 l1 a2 t398 (decide ((l1.length : Int) > 100)))) = some r := H
  have A4 := Aside0.mk A40
  clear A40
  have HC5 := Aside0.mk H
  clear H
  go_enter Tryd.func3, Tryd.ntmps3
  go_upto_region 2 with (first | ((with_reducible refine gate_callee (f := 10) rfl ?_); refine goesL_ (some 16) rfl rfl Tryd.func10 (by kernel_rfl) rfl #[] rfl (by (try simp only [List.map_toArray, List.map_cons, List.map_nil]); first | done | rfl | (simp only [List.length_drop, List.length_take]; rfl)) ?_; (with_reducible refine (tallysticklaw09_shown.calls  t398 _ A4.out (HPR.out.later (by repeat (first | (with_reducible first | exact HB.out | apply below_alloc | apply pw_below_drewN | apply below_drew1 | refine set_below ?_ (Aside0.out (by assumption))) | exact HB.out)))).mono ?_); rintro e w6 ⟨rfl, hb⟩; refine ⟨_, rfl, ?_⟩; have n0_ := Aside0.mk (below_step (by repeat (first | (with_reducible first | exact HB.out | apply below_alloc | apply pw_below_drewN | apply below_drew1) | exact HB.out)) hb); clear HB; have HB := n0_; clear n0_; (try clear hb); (try clear hb2); (try clear hk); (try clear hi)))
  (try simp only [Act.put, List.setIfInBounds_toArray, List.set_cons_zero, List.set_cons_succ])
  go_cut [24] (fun v24 wc => ∃ (kq : Nat) (x24_4 : Bool), v24 = .bool x24_4 ∧ Aside0 (tallysticklaw09_TrioTimes.j0 kq l0 l1 a2 t398 x24_4 = some r) ∧ Aside0 (kq ≤ k) ∧ Aside0 (Below w.heap.size w wc))
  case first =>
    have H := HC5.out
    clear HC5
    by_cases c7 : (l0.length : Int) > 100
    · rw [if_pos c7] at H
      have c7b0 : decide (100 < (l0.length : Int)) = true := decide_eq_true c7
      have c7b1 : decide (100 < l0.length) = true := decide_eq_true (by omega)
      clear c7
      (first | rw [c7b0] | (simp only [i64_w, i32_w]; rw [c7b0]) | skip)
      have H' := Aside0.mk H
      clear H
      go_wp2
      go_meet
      case rel => exact ⟨_, (true), (by first | rfl | (simp; done) | (simp [*]; done)), H', ⟨by first | omega | exact Nat.le_refl _⟩, ⟨by repeat (first | (with_reducible first | exact HB.out | apply below_alloc | apply pw_below_drewN | apply below_drew1) | exact HB.out)⟩⟩
    · rw [if_neg c7] at H
      have c7b0 : decide (100 < (l0.length : Int)) = false := decide_eq_false c7
      have c7b1 : decide (100 < l0.length) = false := decide_eq_false (by omega)
      clear c7
      (first | rw [c7b0] | (simp only [i64_w, i32_w]; rw [c7b0]) | skip)
      have H' := Aside0.mk H
      clear H
      go_wp2
      go_meet
      case rel => exact ⟨_, (decide ((l1.length : Int) > 100)), (by first | rfl | (simp; done) | (simp [*]; done)), H', ⟨by first | omega | exact Nat.le_refl _⟩, ⟨by repeat (first | (with_reducible first | exact HB.out | apply below_alloc | apply pw_below_drewN | apply below_drew1) | exact HB.out)⟩⟩
  case rest =>
    clear HC5
    try clear c1
    try clear p2
    try clear c3
    try clear c7
    try clear c7b0
    try clear c7b1
    obtain ⟨kq, x24_4, rfl, HA, HJ4, HB⟩ := hcut
    cases kq with
    | zero => exact absurd HA.out (by simp [tallysticklaw09_TrioTimes.j0])
    | succ kj4 =>
      have H := HA.out
      clear HA
      simp only [tallysticklaw09_TrioTimes.j0] at H
      by_cases c8 : x24_4 = true
      · subst c8
        have H1 : (some t398) = some r := by rw [if_pos rfl] at H; exact H
        clear H
        have H := H1
        clear H1
        obtain rfl := Option.some.inj H
        go_wp2
        go_ret
        exact ⟨by first | rfl | (simp [errW_none, errW_some] <;> rfl) | (simp [*, errW_none, errW_some] <;> rfl), by repeat (first | (with_reducible first | exact HB.out | apply below_alloc | apply pw_below_drewN | apply below_drew1) | exact HB.out)⟩
      · replace c8 := Bool.eq_false_iff.mpr c8
        subst c8
        have H1 : ((trio_Mod.f l0 l1 a2).bind fun bt399 => ((tallystickref09_Mod.f kj4 l0 l1 a2).bind fun bt403 => ((trio_Times.f l0 l1).bind fun bt407 => ((tallystickref09_Times.f kj4 l0 l1).bind fun bt411 => (if t398 = true then ((tallystickref09_Rows.f kj4 bt399.1 bt403.1).bind fun t415 => (if t415 = true then (if bt399.2 = bt403.2 then ((tallystickref09_Pairs.f kj4 bt407.1 bt411.1).bind fun t416 => (if t416 = true then (some (bt407.2 == bt411.2)) else (some false))) else (some false)) else (some false))) else (some false)))))) = some r := by rw [if_neg (show ¬ (false = true) by decide)] at H; exact H
        clear H
        have H := H1
        clear H1
        replace H := Option.bind_eq_some_iff.mp H
        obtain ⟨⟨t399, t402⟩, A90, H⟩ := H
        replace H : ((tallystickref09_Mod.f kj4 l0 l1 a2).bind fun bt403 => ((trio_Times.f l0 l1).bind fun bt407 => ((tallystickref09_Times.f kj4 l0 l1).bind fun bt411 => (if t398 = true then ((tallystickref09_Rows.f kj4 t399 bt403.1).bind fun t415 => (if t415 = true then (if t402 = bt403.2 then ((tallystickref09_Pairs.f kj4 bt407.1 bt411.1).bind fun t416 => (if t416 = true then (some (bt407.2 == bt411.2)) else (some false))) else (some false)) else (some false))) else (some false))))) = some r := H
        have A9 := Aside0.mk A90
        clear A90
        replace H := Option.bind_eq_some_iff.mp H
        obtain ⟨⟨t403, t404⟩, A100, H⟩ := H
        replace H : ((trio_Times.f l0 l1).bind fun bt407 => ((tallystickref09_Times.f kj4 l0 l1).bind fun bt411 => (if t398 = true then ((tallystickref09_Rows.f kj4 t399 t403).bind fun t415 => (if t415 = true then (if t402 = t404 then ((tallystickref09_Pairs.f kj4 bt407.1 bt411.1).bind fun t416 => (if t416 = true then (some (bt407.2 == bt411.2)) else (some false))) else (some false)) else (some false))) else (some false)))) = some r := H
        have A10 := Aside0.mk A100
        clear A100
        replace H := Option.bind_eq_some_iff.mp H
        obtain ⟨⟨t407, t408⟩, A110, H⟩ := H
        replace H : ((tallystickref09_Times.f kj4 l0 l1).bind fun bt411 => (if t398 = true then ((tallystickref09_Rows.f kj4 t399 t403).bind fun t415 => (if t415 = true then (if t402 = t404 then ((tallystickref09_Pairs.f kj4 t407 bt411.1).bind fun t416 => (if t416 = true then (some (t408 == bt411.2)) else (some false))) else (some false)) else (some false))) else (some false))) = some r := H
        have A11 := Aside0.mk A110
        clear A110
        replace H := Option.bind_eq_some_iff.mp H
        obtain ⟨⟨t411, t412⟩, A120, H⟩ := H
        replace H : (if t398 = true then ((tallystickref09_Rows.f kj4 t399 t403).bind fun t415 => (if t415 = true then (if t402 = t404 then ((tallystickref09_Pairs.f kj4 t407 t411).bind fun t416 => (if t416 = true then (some (t408 == t412)) else (some false))) else (some false)) else (some false))) else (some false)) = some r := H
        have A12 := Aside0.mk A120
        clear A120
        by_cases c13 : t398 = true
        · subst c13
          have H1 : ((tallystickref09_Rows.f kj4 t399 t403).bind fun t415 => (if t415 = true then (if t402 = t404 then ((tallystickref09_Pairs.f kj4 t407 t411).bind fun t416 => (if t416 = true then (some (t408 == t412)) else (some false))) else (some false)) else (some false))) = some r := by rw [if_pos rfl] at H; exact H
          clear H
          have H := H1
          clear H1
          replace H := Option.bind_eq_some_iff.mp H
          obtain ⟨t415, A140, H⟩ := H
          replace H : (if t415 = true then (if t402 = t404 then ((tallystickref09_Pairs.f kj4 t407 t411).bind fun t416 => (if t416 = true then (some (t408 == t412)) else (some false))) else (some false)) else (some false)) = some r := H
          have A14 := Aside0.mk A140
          clear A140
          by_cases c15 : t415 = true
          · subst c15
            have H1 : (if t402 = t404 then ((tallystickref09_Pairs.f kj4 t407 t411).bind fun t416 => (if t416 = true then (some (t408 == t412)) else (some false))) else (some false)) = some r := by rw [if_pos rfl] at H; exact H
            clear H
            have H := H1
            clear H1
            by_cases c16 : t402 = t404
            · rw [if_pos c16] at H
              have c16b0 : (t402 == t404) = true := beq_iff_eq.mpr c16
              have c16b1 : (t402 != t404) = false := bne_eq_false_iff_eq.mpr c16
              clear c16
              replace H := Option.bind_eq_some_iff.mp H
              obtain ⟨t416, A170, H⟩ := H
              replace H : (if t416 = true then (some (t408 == t412)) else (some false)) = some r := H
              have A17 := Aside0.mk A170
              clear A170
              by_cases c18 : t416 = true
              · subst c18
                have H1 : (some (t408 == t412)) = some r := by rw [if_pos rfl] at H; exact H
                clear H
                have H := H1
                clear H1
                obtain rfl := Option.some.inj H
                go_wp2_with (first | ((with_reducible refine gate_callee (f := 11) rfl ?_); refine goesL_ (some 30) rfl rfl Tryd.func11 (by kernel_rfl) rfl #[.slice A0 l0.length c0, .slice A1 l1.length c1, .int .u32 a2] rfl (by (try simp only [List.map_toArray, List.map_cons, List.map_nil]); first | done | rfl | (simp only [List.length_drop, List.length_take]; rfl)) ?_; (with_reducible refine (trio_Mod.calls _ _ l0 _ _ l1 a2 t399 t402 _ ?side1 ?side2 ?side3 ?side4 A9.out (HPR.out.later (by repeat (first | (with_reducible first | exact HB.out | apply below_alloc | apply pw_below_drewN | apply below_drew1 | refine set_below ?_ (Aside0.out (by assumption))) | exact HB.out)))).mono ?_); (case side1 => repeat (first | exact (Kd.C_below HR0.out HB.out) | (with_reducible refine Kd.C_alloc ?_ _) | (with_reducible refine Kd.C_drewN ?_ _) | (with_reducible refine Kd.C_drew ?_))); (case side2 => exact HC0.out); (case side3 => repeat (first | exact (Kd.C_below HR1.out HB.out) | (with_reducible refine Kd.C_alloc ?_ _) | (with_reducible refine Kd.C_drewN ?_ _) | (with_reducible refine Kd.C_drew ?_))); (case side4 => exact HC1.out); rintro e w19 ⟨v400, rfl, ho0, hb⟩; refine ⟨_, rfl, ?_⟩; have n0_ := Aside0.mk (Kd.V_lower (Kd.V_mono (ok' := fun k_ => True) ho0 (fun k_ hk_ => trivial)) (below_size (by repeat (first | (with_reducible first | exact HB.out | apply below_alloc | apply pw_below_drewN | apply below_drew1) | exact HB.out)))); have n1_ := Aside0.mk (below_step (by repeat (first | (with_reducible first | exact HB.out | apply below_alloc | apply pw_below_drewN | apply below_drew1) | exact HB.out)) hb); clear HB; have HO401 := n0_; have HB := n1_; clear n0_ n1_; (try clear hb); (try clear hb2); (try clear hk); (try clear hi); (try clear ho0)) | ((with_reducible refine gate_callee (f := 12) rfl ?_); refine goesL_ (some 37) rfl rfl Tryd.func12 (by kernel_rfl) rfl #[.slice A0 l0.length c0, .slice A1 l1.length c1, .int .u32 a2] rfl (by (try simp only [List.map_toArray, List.map_cons, List.map_nil]); first | done | rfl | (simp only [List.length_drop, List.length_take]; rfl)) ?_; (with_reducible refine (tallystickref09_Mod.calls kj4 _ _ l0 _ _ l1 a2 t403 t404 _ ?side1 ?side2 ?side3 ?side4 A10.out).mono ?_); (case side1 => repeat (first | exact (Kd.C_below HR0.out HB.out) | (with_reducible refine Kd.C_alloc ?_ _) | (with_reducible refine Kd.C_drewN ?_ _) | (with_reducible refine Kd.C_drew ?_))); (case side2 => exact HC0.out); (case side3 => repeat (first | exact (Kd.C_below HR1.out HB.out) | (with_reducible refine Kd.C_alloc ?_ _) | (with_reducible refine Kd.C_drewN ?_ _) | (with_reducible refine Kd.C_drew ?_))); (case side4 => exact HC1.out); rintro e w20 ⟨v405, rfl, ho0, hb⟩; refine ⟨_, rfl, ?_⟩; have n0_ := Aside0.mk (Kd.V_elder' (by (with_reducible repeat (first | apply Kd.V_alloc | apply Kd.V_drewN | apply Kd.V_drew)); exact HO401.out) (Kd.R_base ho0) hb); have n1_ := Aside0.mk (Kd.R_lower ho0 (below_size (by repeat (first | (with_reducible first | exact HB.out | apply below_alloc | apply pw_below_drewN | apply below_drew1) | exact HB.out)))); have n2_ := Aside0.mk (below_step (by repeat (first | (with_reducible first | exact HB.out | apply below_alloc | apply pw_below_drewN | apply below_drew1) | exact HB.out)) hb); clear HO401; clear HB; have HO401 := n0_; have HO406 := n1_; have HB := n2_; clear n0_ n1_ n2_; (try clear hb); (try clear hb2); (try clear hk); (try clear hi); (try clear ho0)) | ((with_reducible refine gate_callee (f := 13) rfl ?_); refine goesL_ (some 43) rfl rfl Tryd.func13 (by kernel_rfl) rfl #[.slice A0 l0.length c0, .slice A1 l1.length c1] rfl (by (try simp only [List.map_toArray, List.map_cons, List.map_nil]); first | done | rfl | (simp only [List.length_drop, List.length_take]; rfl)) ?_; (with_reducible refine (trio_Times.calls _ _ l0 _ _ l1 t407 t408 _ ?side1 ?side2 ?side3 ?side4 A11.out (HPR.out.later (by repeat (first | (with_reducible first | exact HB.out | apply below_alloc | apply pw_below_drewN | apply below_drew1 | refine set_below ?_ (Aside0.out (by assumption))) | exact HB.out)))).mono ?_); (case side1 => repeat (first | exact (Kd.C_below HR0.out HB.out) | (with_reducible refine Kd.C_alloc ?_ _) | (with_reducible refine Kd.C_drewN ?_ _) | (with_reducible refine Kd.C_drew ?_))); (case side2 => exact HC0.out); (case side3 => repeat (first | exact (Kd.C_below HR1.out HB.out) | (with_reducible refine Kd.C_alloc ?_ _) | (with_reducible refine Kd.C_drewN ?_ _) | (with_reducible refine Kd.C_drew ?_))); (case side4 => exact HC1.out); rintro e w21 ⟨v409, rfl, ho0, hb⟩; refine ⟨_, rfl, ?_⟩; have n0_ := Aside0.mk (Kd.V_elder' (by (with_reducible repeat (first | apply Kd.V_alloc | apply Kd.V_drewN | apply Kd.V_drew)); exact HO401.out) (Kd.R_base ho0) hb); have n1_ := Aside0.mk (Kd.R_below (by (with_reducible repeat (first | apply Kd.R_alloc | apply Kd.R_drewN | apply Kd.R_drew)); exact HO406.out) hb); have n2_ := Aside0.mk (Kd.R_lower ho0 (below_size (by repeat (first | (with_reducible first | exact HB.out | apply below_alloc | apply pw_below_drewN | apply below_drew1) | exact HB.out)))); have n3_ := Aside0.mk (below_step (by repeat (first | (with_reducible first | exact HB.out | apply below_alloc | apply pw_below_drewN | apply below_drew1) | exact HB.out)) hb); clear HO401; clear HO406; clear HB; have HO401 := n0_; have HO406 := n1_; have HO410 := n2_; have HB := n3_; clear n0_ n1_ n2_ n3_; (try clear hb); (try clear hb2); (try clear hk); (try clear hi); (try clear ho0)) | ((with_reducible refine gate_callee (f := 14) rfl ?_); refine goesL_ (some 49) rfl rfl Tryd.func14 (by kernel_rfl) rfl #[.slice A0 l0.length c0, .slice A1 l1.length c1] rfl (by (try simp only [List.map_toArray, List.map_cons, List.map_nil]); first | done | rfl | (simp only [List.length_drop, List.length_take]; rfl)) ?_; (with_reducible refine (tallystickref09_Times.calls kj4 _ _ l0 _ _ l1 t411 t412 _ ?side1 ?side2 ?side3 ?side4 A12.out).mono ?_); (case side1 => repeat (first | exact (Kd.C_below HR0.out HB.out) | (with_reducible refine Kd.C_alloc ?_ _) | (with_reducible refine Kd.C_drewN ?_ _) | (with_reducible refine Kd.C_drew ?_))); (case side2 => exact HC0.out); (case side3 => repeat (first | exact (Kd.C_below HR1.out HB.out) | (with_reducible refine Kd.C_alloc ?_ _) | (with_reducible refine Kd.C_drewN ?_ _) | (with_reducible refine Kd.C_drew ?_))); (case side4 => exact HC1.out); rintro e w22 ⟨v413, rfl, ho0, hb⟩; refine ⟨_, rfl, ?_⟩; have n0_ := Aside0.mk (Kd.V_elder' (by (with_reducible repeat (first | apply Kd.V_alloc | apply Kd.V_drewN | apply Kd.V_drew)); exact HO401.out) (Kd.R_base ho0) hb); have n1_ := Aside0.mk (Kd.R_below (by (with_reducible repeat (first | apply Kd.R_alloc | apply Kd.R_drewN | apply Kd.R_drew)); exact HO406.out) hb); have n2_ := Aside0.mk (Kd.R_elder' (by (with_reducible repeat (first | apply Kd.R_alloc | apply Kd.R_drewN | apply Kd.R_drew)); exact HO410.out) (Kd.R_base ho0) hb); have n3_ := Aside0.mk (Kd.R_lower (Kd.R_new' ho0 (Kd.R_lt (by (with_reducible repeat (first | apply Kd.R_alloc | apply Kd.R_drewN | apply Kd.R_drew)); exact HO410.out))) (below_size (by repeat (first | (with_reducible first | exact HB.out | apply below_alloc | apply pw_below_drewN | apply below_drew1) | exact HB.out)))); have n4_ := Aside0.mk (below_step (by repeat (first | (with_reducible first | exact HB.out | apply below_alloc | apply pw_below_drewN | apply below_drew1) | exact HB.out)) hb); clear HO401; clear HO406; clear HO410; clear HB; have HO401 := n0_; have HO406 := n1_; have HO410 := n2_; have HO414 := n3_; have HB := n4_; clear n0_ n1_ n2_ n3_ n4_; (try clear hb); (try clear hb2); (try clear hk); (try clear hi); (try clear ho0); obtain ⟨Ao23, co23, eo23⟩ := Kd.V_slice HO401.out; subst eo23; obtain ⟨Ao24, co24, eo24⟩ := Kd.R_slice HO406.out; subst eo24) | (go_at_call 15; (with_reducible refine (tallystickref09_Rows.calls kj4 _ _ t399 _ _ t403 true _ ?side1 ?side2 ?side3 ?side4 A14.out).mono ?_); (case side1 => repeat (first | exact (Kd.V_reads' HO401.out).2.2 | (with_reducible refine Kd.C_alloc ?_ _) | (with_reducible refine Kd.C_drewN ?_ _) | (with_reducible refine Kd.C_drew ?_))); (case side2 => exact (Kd.V_reads' HO401.out).2.1); (case side3 => repeat (first | exact (Kd.R_reads' HO406.out).2.2 | (with_reducible refine Kd.C_alloc ?_ _) | (with_reducible refine Kd.C_drewN ?_ _) | (with_reducible refine Kd.C_drew ?_))); (case side4 => exact (Kd.R_reads' HO406.out).2.1); rintro e w' ⟨rfl, ⟨nd, rfl⟩⟩; obtain ⟨Ao25, co25, eo25⟩ := Kd.R_slice HO410.out; subst eo25; obtain ⟨Ao26, co26, eo26⟩ := Kd.R_slice HO414.out; subst eo26) | (go_at_call 16; (with_reducible refine (tallystickref09_Pairs.calls kj4 _ _ t407 _ _ t411 true _ ?side1 ?side2 ?side3 ?side4 A17.out).mono ?_); (case side1 => repeat (first | exact (Kd.R_reads' HO410.out).2.2 | (with_reducible refine Kd.C_alloc ?_ _) | (with_reducible refine Kd.C_drewN ?_ _) | (with_reducible refine Kd.C_drew ?_))); (case side2 => exact (Kd.R_reads' HO410.out).2.1); (case side3 => repeat (first | exact (Kd.R_reads' HO414.out).2.2 | (with_reducible refine Kd.C_alloc ?_ _) | (with_reducible refine Kd.C_drewN ?_ _) | (with_reducible refine Kd.C_drew ?_))); (case side4 => exact (Kd.R_reads' HO414.out).2.1); rintro e w' ⟨rfl, ⟨nd, rfl⟩⟩))
                go_ret
                exact ⟨by first | rfl | (simp [errW_none, errW_some] <;> rfl) | (simp [*, errW_none, errW_some] <;> rfl), by repeat (first | (with_reducible first | exact HB.out | apply below_alloc | apply pw_below_drewN | apply below_drew1) | exact HB.out)⟩
              · replace c18 := Bool.eq_false_iff.mpr c18
                subst c18
                have H1 : (some false) = some r := by rw [if_neg (show ¬ (false = true) by decide)] at H; exact H
                clear H
                have H := H1
                clear H1
                obtain rfl := Option.some.inj H
                exact absurd hr_.out (by simp)
            · rw [if_neg c16] at H
              have c16b0 : (t402 == t404) = false := beq_eq_false_iff_ne.mpr c16
              have c16b1 : (t402 != t404) = true := bne_iff_ne.mpr c16
              obtain rfl := Option.some.inj H
              exact absurd hr_.out (by simp)
          · replace c15 := Bool.eq_false_iff.mpr c15
            subst c15
            have H1 : (some false) = some r := by rw [if_neg (show ¬ (false = true) by decide)] at H; exact H
            clear H
            have H := H1
            clear H1
            obtain rfl := Option.some.inj H
            exact absurd hr_.out (by simp)
        · replace c13 := Bool.eq_false_iff.mpr c13
          subst c13
          have H1 : (some false) = some r := by rw [if_neg (show ¬ (false = true) by decide)] at H; exact H
          clear H
          have H := H1
          clear H1
          obtain rfl := Option.some.inj H
          exact absurd hr_.out (by simp)

end Go.Proofs.YtaakniobgljniaaDoor.Pb
