/- Contracts of functions and laws, written by this session's program myprint.py by way of the kit's print. -/
import Derived.Test.YtmanafcncccidaaPa0
import Derived.Test.YtmanafcncccidaaPa1
namespace Go.Proofs.Ytmanafcncccidaa.Pa
open Go.RowKit Go.Proofs.Ytmanafcncccidaa.Hand Go.Proofs.YtmanafcncccidaaW.PrintWords Go.Proofs.YtmanafcncccidaaW.PrintLast Go.Proofs.YtmanafcncccidaaW.PrintMore
attribute [local go_sem] max2_int min2_int max_two min_two max_three min_three max_four min_four   -- for this text's walks alone
set_option linter.unusedVariables false
set_option linter.unusedSimpArgs false

/-! ### tallysticklaw04_NatBits: function 8 -/
def tallysticklaw04_NatBits.j0 : Nat → List Int → Int → Bool → Bool → Option (Bool)
  | 0, _, _, _, _ => none
  | k + 1, x0, x1, x5, x20 => if x20 = true then (some x5) else ((nat_Shl.f x0 x1).bind fun t513 => (if x5 = true then ((nat_Shr.f t513 x1).bind fun t516 => ((nat_Cmp.f t516 x0).bind fun t519 => (if t519 = 0 then ((nat_Len.f x0).bind fun t520 => (if t520 = 0 then (if (t513.length : Int) = 0 then ((nat_Low.f t513 x1).bind fun t521 => (some ((t521.length : Int) == 0))) else ((nat_Len.f x0).bind fun t524 => (if t524 > 0 then ((nat_Len.f t513).bind fun t525 => ((nat_Len.f x0).bind fun t526 => (if t525 = (wrap64 (t526 + x1)) then ((nat_Low.f t513 x1).bind fun t527 => (some ((t527.length : Int) == 0))) else (some false)))) else (some false)))) else ((nat_Len.f x0).bind fun t530 => (if t530 > 0 then ((nat_Len.f t513).bind fun t531 => ((nat_Len.f x0).bind fun t532 => (if t531 = (wrap64 (t532 + x1)) then ((nat_Low.f t513 x1).bind fun t533 => (some ((t533.length : Int) == 0))) else (some false)))) else (some false))))) else (some false)))) else (some false)))
def tallysticklaw04_NatBits.f (k : Nat) (l0 : List Int) (a1 : Int) : Option (Bool) := (tallysticklaw04_shown.f).bind fun t511 => ((tallysticklaw04_few.f l0 ([] : List Int)).bind fun t512 => (if t512 = true then (if a1 < 0 then (tallysticklaw04_NatBits.j0 k l0 a1 t511 true) else (tallysticklaw04_NatBits.j0 k l0 a1 t511 (decide (a1 > 3000)))) else (tallysticklaw04_NatBits.j0 k l0 a1 t511 true)))
theorem tallysticklaw04_NatBits.mono_l : ∀ k, (∀ y0 y1 y2 y3, LeO (tallysticklaw04_NatBits.j0 k y0 y1 y2 y3) (tallysticklaw04_NatBits.j0 (k + 1) y0 y1 y2 y3))
  | 0 => fun _ _ _ _ r h => by simp [tallysticklaw04_NatBits.j0] at h
  | k + 1 => by
    have ih0 := tallysticklaw04_NatBits.mono_l k
    · intro y0 y1 y2 y3
      unfold tallysticklaw04_NatBits.j0
      repeat' first
      | (with_reducible exact ih0 _ _ _ _)
      | (with_reducible exact LeO.refl _)
      | (with_reducible exact LeO.none _)
      | (with_reducible refine LeO.ite ?_ ?_)
      | (with_reducible refine LeO.bind ?_ (fun _ => ?_))
      | exact ih0 _ _ _ _
      | exact LeO.none _
      | refine LeO.ite ?_ ?_
      | refine LeO.bind ?_ (fun _ => ?_)
theorem tallysticklaw04_NatBits.mono : ∀ a0 a1 k, LeO (tallysticklaw04_NatBits.f k a0 a1) (tallysticklaw04_NatBits.f (k + 1) a0 a1) := by
  intro a0 a1 k
  have ih0 := tallysticklaw04_NatBits.mono_l k
  unfold tallysticklaw04_NatBits.f
  repeat' first
      | (with_reducible exact ih0 _ _ _ _)
      | (with_reducible exact LeO.refl _)
      | (with_reducible exact LeO.none _)
      | (with_reducible refine LeO.ite ?_ ?_)
      | (with_reducible refine LeO.bind ?_ (fun _ => ?_))
      | exact ih0 _ _ _ _
      | exact LeO.none _
      | refine LeO.ite ?_ ?_
      | refine LeO.bind ?_ (fun _ => ?_)
set_option maxHeartbeats 8000000 in
set_option maxRecDepth 100000 in
theorem tallysticklaw04_NatBits.calls (k : Nat) (A0 : Option Addr) (c0 : Nat) (l0 : List Int) (a1 : Int) (r : Bool) (w : World) (hr0 : Kd.C (Kd.int .u64) w A0 l0.length l0) (hc0 : l0.length ≤ c0) (hr_ : Aside0 (r = true)) (h : tallysticklaw04_NatBits.f k l0 a1 = some r) :
    Calls Try.prog 8 #[.slice A0 l0.length c0, .int .i64 a1] w fun e w' => e = .returned (.bool r) ∧ Below w.heap.size w w' := by
  have HR0 := Aside0.mk hr0
  have HC0 := Aside0.mk hc0
  clear hr0 hc0
  have HB := Aside0.mk (Below.refl w.heap.size w)
  have H : ((tallysticklaw04_shown.f).bind fun t511 => ((tallysticklaw04_few.f l0 ([] : List Int)).bind fun t512 => (if t512 = true then (if a1 < 0 then (tallysticklaw04_NatBits.j0 k l0 a1 t511 true) else (tallysticklaw04_NatBits.j0 k l0 a1 t511 (decide (a1 > 3000)))) else (tallysticklaw04_NatBits.j0 k l0 a1 t511 true)))) = some r := h
  clear h
  replace H := Option.bind_eq_some_iff.mp H
  obtain ⟨t511, A30, H⟩ := H
  replace H : ((tallysticklaw04_few.f l0 ([] : List Int)).bind fun t512 => (if t512 = true then (if a1 < 0 then (tallysticklaw04_NatBits.j0 k l0 a1 t511 true) else (tallysticklaw04_NatBits.j0 k l0 a1 t511 (decide (a1 > 3000)))) else (tallysticklaw04_NatBits.j0 k l0 a1 t511 true))) = some r := H
  have A3 := Aside0.mk A30
  clear A30
  replace H := Option.bind_eq_some_iff.mp H
  obtain ⟨t512, A40, H⟩ := H
  replace H : (if t512 = true then (if a1 < 0 then (tallysticklaw04_NatBits.j0 k l0 a1 t511 true) else (tallysticklaw04_NatBits.j0 k l0 a1 t511 (decide (a1 > 3000)))) else (tallysticklaw04_NatBits.j0 k l0 a1 t511 true)) = some r := H
  have A4 := Aside0.mk A40
  clear A40
  have HC5 := Aside0.mk H
  clear H
  go_enter Try.func8, Try.ntmps8
  go_upto_region 3 with (first | ((with_reducible refine gate_callee (f := 11) rfl ?_); refine goesL_ (some 8) rfl rfl Try.func11 (by kernel_rfl) rfl #[] rfl (by (try simp only [List.map_toArray, List.map_cons, List.map_nil]); first | done | rfl | (simp only [List.length_drop, List.length_take]; rfl)) ?_; (with_reducible refine (tallysticklaw04_shown.calls  t511 _ A3.out).mono ?_); rintro e w6 ⟨rfl, hb⟩; clear A3; refine ⟨_, rfl, ?_⟩; have n0_ := Aside0.mk (below_step (by repeat (first | (with_reducible first | exact HB.out | apply below_alloc | apply pw_below_drewN | apply below_drew1) | exact HB.out)) hb); clear HB; have HB := n0_; clear n0_; (try clear hb); (try clear hb2); (try clear hk); (try clear hi)) | ((with_reducible refine gate_callee (f := 12) rfl ?_); refine goesL_ (some 10) rfl rfl Try.func12 (by kernel_rfl) rfl #[.slice A0 l0.length c0, .slice none 0 0] rfl (by (try simp only [List.map_toArray, List.map_cons, List.map_nil]); first | done | rfl | (simp only [List.length_drop, List.length_take]; rfl)) ?_; (refine (tallysticklaw04_few.calls _ _ l0 _ _ ([] : List Int) t512 _ ?side1 ?side2 ?side3 ?side4 A4.out).mono ?_); (case side1 => repeat (first | exact (Kd.C_below HR0.out HB.out) | (with_reducible refine Kd.C_alloc ?_ _) | (with_reducible refine Kd.C_drewN ?_ _) | (with_reducible refine Kd.C_drew ?_))); (case side2 => exact HC0.out); (case side3 => exact Kd.C_nil _ _); (case side4 => exact Nat.le_refl _); rintro e w' ⟨rfl, ⟨nd, rfl⟩⟩; refine ⟨_, rfl, ?_⟩))
  (try simp only [Act.put, List.setIfInBounds_toArray, List.set_cons_zero, List.set_cons_succ])
  go_cut [20] (fun v20 wc => ∃ (kq : Nat) (x20_4 : Bool), v20 = .bool x20_4 ∧ Aside0 (tallysticklaw04_NatBits.j0 kq l0 a1 t511 x20_4 = some r) ∧ Aside0 (kq ≤ k) ∧ Aside0 (Below w.heap.size w wc))
  case first =>
    have H := HC5.out
    clear HC5
    by_cases c7 : t512 = true
    · subst c7
      have H1 : (if a1 < 0 then (tallysticklaw04_NatBits.j0 k l0 a1 t511 true) else (tallysticklaw04_NatBits.j0 k l0 a1 t511 (decide (a1 > 3000)))) = some r := by rw [if_pos rfl] at H; exact H
      clear H
      have H := H1
      clear H1
      by_cases c8 : a1 < 0
      · rw [if_pos c8] at H
        have c8b0 : decide (a1 < 0) = true := decide_eq_true c8
        clear c8
        (first | rw [c8b0] | (simp only [i64_w, i32_w]; rw [c8b0]) | skip)
        have H' := Aside0.mk H
        clear H
        go_wp2
        go_meet
        case rel => exact ⟨_, (true), (by first | rfl | (simp; done) | (simp [*]; done)), H', ⟨by first | omega | exact Nat.le_refl _⟩, ⟨by repeat (first | (with_reducible first | exact HB.out | apply below_alloc | apply pw_below_drewN | apply below_drew1) | exact HB.out)⟩⟩
      · rw [if_neg c8] at H
        have c8b0 : decide (a1 < 0) = false := decide_eq_false c8
        clear c8
        (first | rw [c8b0] | (simp only [i64_w, i32_w]; rw [c8b0]) | skip)
        have H' := Aside0.mk H
        clear H
        go_wp2
        go_meet
        case rel => exact ⟨_, (decide (a1 > 3000)), (by first | rfl | (simp; done) | (simp [*]; done)), H', ⟨by first | omega | exact Nat.le_refl _⟩, ⟨by repeat (first | (with_reducible first | exact HB.out | apply below_alloc | apply pw_below_drewN | apply below_drew1) | exact HB.out)⟩⟩
    · replace c7 := Bool.eq_false_iff.mpr c7
      subst c7
      have H1 : (tallysticklaw04_NatBits.j0 k l0 a1 t511 true) = some r := by rw [if_neg (show ¬ (false = true) by decide)] at H; exact H
      clear H
      have H := H1
      clear H1
      have H' := Aside0.mk H
      clear H
      go_wp2
      go_meet
      case rel => exact ⟨_, (true), (by first | rfl | (simp; done) | (simp [*]; done)), H', ⟨by first | omega | exact Nat.le_refl _⟩, ⟨by repeat (first | (with_reducible first | exact HB.out | apply below_alloc | apply pw_below_drewN | apply below_drew1) | exact HB.out)⟩⟩
  case rest =>
    clear HC5
    try clear c1
    try clear p2
    try clear c7
    try clear c8
    try clear c8b0
    obtain ⟨kq, x20_4, rfl, HA, HJ4, HB⟩ := hcut
    cases kq with
    | zero => exact absurd HA.out (by simp [tallysticklaw04_NatBits.j0])
    | succ kj4 =>
      have H := HA.out
      clear HA
      simp only [tallysticklaw04_NatBits.j0] at H
      by_cases c9 : x20_4 = true
      · subst c9
        have H1 : (some t511) = some r := by rw [if_pos rfl] at H; exact H
        clear H
        have H := H1
        clear H1
        obtain rfl := Option.some.inj H
        go_wp2
        go_ret
        exact ⟨by first | rfl | (simp [errW_none, errW_some] <;> rfl) | (simp [*, errW_none, errW_some] <;> rfl), by repeat (first | (with_reducible first | exact HB.out | apply below_alloc | apply pw_below_drewN | apply below_drew1) | exact HB.out)⟩
      · replace c9 := Bool.eq_false_iff.mpr c9
        subst c9
        have H1 : ((nat_Shl.f l0 a1).bind fun t513 => (if t511 = true then ((nat_Shr.f t513 a1).bind fun t516 => ((nat_Cmp.f t516 l0).bind fun t519 => (if t519 = 0 then ((nat_Len.f l0).bind fun t520 => (if t520 = 0 then (if (t513.length : Int) = 0 then ((nat_Low.f t513 a1).bind fun t521 => (some ((t521.length : Int) == 0))) else ((nat_Len.f l0).bind fun t524 => (if t524 > 0 then ((nat_Len.f t513).bind fun t525 => ((nat_Len.f l0).bind fun t526 => (if t525 = (wrap64 (t526 + a1)) then ((nat_Low.f t513 a1).bind fun t527 => (some ((t527.length : Int) == 0))) else (some false)))) else (some false)))) else ((nat_Len.f l0).bind fun t530 => (if t530 > 0 then ((nat_Len.f t513).bind fun t531 => ((nat_Len.f l0).bind fun t532 => (if t531 = (wrap64 (t532 + a1)) then ((nat_Low.f t513 a1).bind fun t533 => (some ((t533.length : Int) == 0))) else (some false)))) else (some false))))) else (some false)))) else (some false))) = some r := by rw [if_neg (show ¬ (false = true) by decide)] at H; exact H
        clear H
        have H := H1
        clear H1
        replace H := Option.bind_eq_some_iff.mp H
        obtain ⟨t513, A100, H⟩ := H
        replace H : (if t511 = true then ((nat_Shr.f t513 a1).bind fun t516 => ((nat_Cmp.f t516 l0).bind fun t519 => (if t519 = 0 then ((nat_Len.f l0).bind fun t520 => (if t520 = 0 then (if (t513.length : Int) = 0 then ((nat_Low.f t513 a1).bind fun t521 => (some ((t521.length : Int) == 0))) else ((nat_Len.f l0).bind fun t524 => (if t524 > 0 then ((nat_Len.f t513).bind fun t525 => ((nat_Len.f l0).bind fun t526 => (if t525 = (wrap64 (t526 + a1)) then ((nat_Low.f t513 a1).bind fun t527 => (some ((t527.length : Int) == 0))) else (some false)))) else (some false)))) else ((nat_Len.f l0).bind fun t530 => (if t530 > 0 then ((nat_Len.f t513).bind fun t531 => ((nat_Len.f l0).bind fun t532 => (if t531 = (wrap64 (t532 + a1)) then ((nat_Low.f t513 a1).bind fun t533 => (some ((t533.length : Int) == 0))) else (some false)))) else (some false))))) else (some false)))) else (some false)) = some r := H
        have A10 := Aside0.mk A100
        clear A100
        by_cases c11 : t511 = true
        · subst c11
          have H1 : ((nat_Shr.f t513 a1).bind fun t516 => ((nat_Cmp.f t516 l0).bind fun t519 => (if t519 = 0 then ((nat_Len.f l0).bind fun t520 => (if t520 = 0 then (if (t513.length : Int) = 0 then ((nat_Low.f t513 a1).bind fun t521 => (some ((t521.length : Int) == 0))) else ((nat_Len.f l0).bind fun t524 => (if t524 > 0 then ((nat_Len.f t513).bind fun t525 => ((nat_Len.f l0).bind fun t526 => (if t525 = (wrap64 (t526 + a1)) then ((nat_Low.f t513 a1).bind fun t527 => (some ((t527.length : Int) == 0))) else (some false)))) else (some false)))) else ((nat_Len.f l0).bind fun t530 => (if t530 > 0 then ((nat_Len.f t513).bind fun t531 => ((nat_Len.f l0).bind fun t532 => (if t531 = (wrap64 (t532 + a1)) then ((nat_Low.f t513 a1).bind fun t533 => (some ((t533.length : Int) == 0))) else (some false)))) else (some false))))) else (some false)))) = some r := by rw [if_pos rfl] at H; exact H
          clear H
          have H := H1
          clear H1
          replace H := Option.bind_eq_some_iff.mp H
          obtain ⟨t516, A120, H⟩ := H
          replace H : ((nat_Cmp.f t516 l0).bind fun t519 => (if t519 = 0 then ((nat_Len.f l0).bind fun t520 => (if t520 = 0 then (if (t513.length : Int) = 0 then ((nat_Low.f t513 a1).bind fun t521 => (some ((t521.length : Int) == 0))) else ((nat_Len.f l0).bind fun t524 => (if t524 > 0 then ((nat_Len.f t513).bind fun t525 => ((nat_Len.f l0).bind fun t526 => (if t525 = (wrap64 (t526 + a1)) then ((nat_Low.f t513 a1).bind fun t527 => (some ((t527.length : Int) == 0))) else (some false)))) else (some false)))) else ((nat_Len.f l0).bind fun t530 => (if t530 > 0 then ((nat_Len.f t513).bind fun t531 => ((nat_Len.f l0).bind fun t532 => (if t531 = (wrap64 (t532 + a1)) then ((nat_Low.f t513 a1).bind fun t533 => (some ((t533.length : Int) == 0))) else (some false)))) else (some false))))) else (some false))) = some r := H
          have A12 := Aside0.mk A120
          clear A120
          replace H := Option.bind_eq_some_iff.mp H
          obtain ⟨t519, A130, H⟩ := H
          replace H : (if t519 = 0 then ((nat_Len.f l0).bind fun t520 => (if t520 = 0 then (if (t513.length : Int) = 0 then ((nat_Low.f t513 a1).bind fun t521 => (some ((t521.length : Int) == 0))) else ((nat_Len.f l0).bind fun t524 => (if t524 > 0 then ((nat_Len.f t513).bind fun t525 => ((nat_Len.f l0).bind fun t526 => (if t525 = (wrap64 (t526 + a1)) then ((nat_Low.f t513 a1).bind fun t527 => (some ((t527.length : Int) == 0))) else (some false)))) else (some false)))) else ((nat_Len.f l0).bind fun t530 => (if t530 > 0 then ((nat_Len.f t513).bind fun t531 => ((nat_Len.f l0).bind fun t532 => (if t531 = (wrap64 (t532 + a1)) then ((nat_Low.f t513 a1).bind fun t533 => (some ((t533.length : Int) == 0))) else (some false)))) else (some false))))) else (some false)) = some r := H
          have A13 := Aside0.mk A130
          clear A130
          by_cases c14 : t519 = 0
          · rw [if_pos c14] at H
            have c14b0 : (t519 == 0) = true := beq_iff_eq.mpr c14
            have c14b1 : (t519 != 0) = false := bne_eq_false_iff_eq.mpr c14
            clear c14
            replace H := Option.bind_eq_some_iff.mp H
            obtain ⟨t520, A150, H⟩ := H
            replace H : (if t520 = 0 then (if (t513.length : Int) = 0 then ((nat_Low.f t513 a1).bind fun t521 => (some ((t521.length : Int) == 0))) else ((nat_Len.f l0).bind fun t524 => (if t524 > 0 then ((nat_Len.f t513).bind fun t525 => ((nat_Len.f l0).bind fun t526 => (if t525 = (wrap64 (t526 + a1)) then ((nat_Low.f t513 a1).bind fun t527 => (some ((t527.length : Int) == 0))) else (some false)))) else (some false)))) else ((nat_Len.f l0).bind fun t530 => (if t530 > 0 then ((nat_Len.f t513).bind fun t531 => ((nat_Len.f l0).bind fun t532 => (if t531 = (wrap64 (t532 + a1)) then ((nat_Low.f t513 a1).bind fun t533 => (some ((t533.length : Int) == 0))) else (some false)))) else (some false)))) = some r := H
            have A15 := Aside0.mk A150
            clear A150
            by_cases c16 : t520 = 0
            · rw [if_pos c16] at H
              have c16b0 : (t520 == 0) = true := beq_iff_eq.mpr c16
              have c16b1 : (t520 != 0) = false := bne_eq_false_iff_eq.mpr c16
              clear c16
              by_cases c17 : (t513.length : Int) = 0
              · rw [if_pos c17] at H
                have c17b0 : ((t513.length : Int) == 0) = true := beq_iff_eq.mpr c17
                have c17b1 : ((t513.length : Int) != 0) = false := bne_eq_false_iff_eq.mpr c17
                clear c17
                replace H := Option.bind_eq_some_iff.mp H
                obtain ⟨t521, A180, H⟩ := H
                replace H : (some ((t521.length : Int) == 0)) = some r := H
                have A18 := Aside0.mk A180
                clear A180
                obtain rfl := Option.some.inj H
                go_wp2_with (first | ((with_reducible refine gate_callee (f := 22) rfl ?_); refine goesL_ (some 24) rfl rfl Try.func22 (by kernel_rfl) rfl #[.slice A0 l0.length c0, .int .i64 a1] rfl (by (try simp only [List.map_toArray, List.map_cons, List.map_nil]); first | done | rfl | (simp only [List.length_drop, List.length_take]; rfl)) ?_; (with_reducible refine (nat_Shl.calls _ _ l0 a1 t513 _ ?side1 ?side2 A10.out).mono ?_); (case side1 => repeat (first | exact (Kd.C_below HR0.out HB.out) | (with_reducible refine Kd.C_alloc ?_ _) | (with_reducible refine Kd.C_drewN ?_ _) | (with_reducible refine Kd.C_drew ?_))); (case side2 => exact HC0.out); rintro e w19 ⟨v514, rfl, ho0, hb⟩; clear A10; refine ⟨_, rfl, ?_⟩; have n0_ := Aside0.mk (Kd.V_lower (Kd.V_mono (ok' := fun k_ => True) ho0 (fun k_ hk_ => trivial)) (below_size (by repeat (first | (with_reducible first | exact HB.out | apply below_alloc | apply pw_below_drewN | apply below_drew1) | exact HB.out)))); have n1_ := Aside0.mk (below_step (by repeat (first | (with_reducible first | exact HB.out | apply below_alloc | apply pw_below_drewN | apply below_drew1) | exact HB.out)) hb); clear HB; have HO515 := n0_; have HB := n1_; clear n0_ n1_; (try clear hb); (try clear hb2); (try clear hk); (try clear hi); (try clear ho0); obtain ⟨Ao20, co20, eo20⟩ := Kd.V_slice HO515.out; subst eo20) | (go_at_call 19; (with_reducible refine (nat_Shr.calls _ _ t513 a1 t516 _ ?side1 ?side2 A12.out).mono ?_); (case side1 => repeat (first | exact (Kd.V_reads' HO515.out).2.2 | (with_reducible refine Kd.C_alloc ?_ _) | (with_reducible refine Kd.C_drewN ?_ _) | (with_reducible refine Kd.C_drew ?_))); (case side2 => exact (Kd.V_reads' HO515.out).2.1); rintro e w21 ⟨v517, rfl, ho0, hb⟩; clear A12; have n0_ := Aside0.mk (Kd.V_below (by (with_reducible repeat (first | apply Kd.V_alloc | apply Kd.V_drewN | apply Kd.V_drew)); exact HO515.out) hb); have n1_ := Aside0.mk (Kd.V_lower (Kd.V_mono (ok' := fun k_ => True) ho0 (fun k_ hk_ => trivial)) (below_size (by repeat (first | (with_reducible first | exact HB.out | apply below_alloc | apply pw_below_drewN | apply below_drew1) | exact HB.out)))); have n2_ := Aside0.mk (below_step (by repeat (first | (with_reducible first | exact HB.out | apply below_alloc | apply pw_below_drewN | apply below_drew1) | exact HB.out)) hb); clear HO515; clear HB; have HO515 := n0_; have HO518 := n1_; have HB := n2_; clear n0_ n1_ n2_; (try clear hb); (try clear hb2); (try clear hk); (try clear hi); (try clear ho0); obtain ⟨Ao22, co22, eo22⟩ := Kd.V_slice HO518.out; subst eo22) | (go_at_call 13; (with_reducible refine (nat_Cmp.calls _ _ t516 _ _ l0 t519 _ ?side1 ?side2 ?side3 ?side4 A13.out).mono ?_); (case side1 => repeat (first | exact (Kd.V_reads' HO518.out).2.2 | (with_reducible refine Kd.C_alloc ?_ _) | (with_reducible refine Kd.C_drewN ?_ _) | (with_reducible refine Kd.C_drew ?_))); (case side2 => exact (Kd.V_reads' HO518.out).2.1); (case side3 => repeat (first | exact (Kd.C_below HR0.out HB.out) | (with_reducible refine Kd.C_alloc ?_ _) | (with_reducible refine Kd.C_drewN ?_ _) | (with_reducible refine Kd.C_drew ?_))); (case side4 => exact HC0.out); rintro e w23 ⟨rfl, hb⟩; clear A13; have n0_ := Aside0.mk (Kd.V_below (by (with_reducible repeat (first | apply Kd.V_alloc | apply Kd.V_drewN | apply Kd.V_drew)); exact HO515.out) hb); have n1_ := Aside0.mk (Kd.V_below (by (with_reducible repeat (first | apply Kd.V_alloc | apply Kd.V_drewN | apply Kd.V_drew)); exact HO518.out) hb); have n2_ := Aside0.mk (below_step (by repeat (first | (with_reducible first | exact HB.out | apply below_alloc | apply pw_below_drewN | apply below_drew1) | exact HB.out)) hb); clear HO515; clear HO518; clear HB; have HO515 := n0_; have HO518 := n1_; have HB := n2_; clear n0_ n1_ n2_; (try clear hb); (try clear hb2); (try clear hk); (try clear hi)) | (go_at_call 26; (with_reducible refine (nat_Len.calls _ _ l0 t520 _ ?side1 ?side2 A15.out).mono ?_); (case side1 => repeat (first | exact (Kd.C_below HR0.out HB.out) | (with_reducible refine Kd.C_alloc ?_ _) | (with_reducible refine Kd.C_drewN ?_ _) | (with_reducible refine Kd.C_drew ?_))); (case side2 => exact HC0.out); rintro e w24 ⟨rfl, hb⟩; clear A15; have n0_ := Aside0.mk (Kd.V_below (by (with_reducible repeat (first | apply Kd.V_alloc | apply Kd.V_drewN | apply Kd.V_drew)); exact HO515.out) hb); have n1_ := Aside0.mk (Kd.V_below (by (with_reducible repeat (first | apply Kd.V_alloc | apply Kd.V_drewN | apply Kd.V_drew)); exact HO518.out) hb); have n2_ := Aside0.mk (below_step (by repeat (first | (with_reducible first | exact HB.out | apply below_alloc | apply pw_below_drewN | apply below_drew1) | exact HB.out)) hb); clear HO515; clear HO518; clear HB; have HO515 := n0_; have HO518 := n1_; have HB := n2_; clear n0_ n1_ n2_; (try clear hb); (try clear hb2); (try clear hk); (try clear hi)) | (go_at_call 21; (with_reducible refine (nat_Low.calls (fun k_ => True) _ _ t513 a1 t521 _ ?side1 A18.out).mono ?_); (case side1 => exact HO515.out); rintro e w25 ⟨v522, rfl, ho0, hb⟩; clear A18; have n0_ := Aside0.mk (Kd.V_below (by (with_reducible repeat (first | apply Kd.V_alloc | apply Kd.V_drewN | apply Kd.V_drew)); exact HO515.out) hb); have n1_ := Aside0.mk (Kd.V_below (by (with_reducible repeat (first | apply Kd.V_alloc | apply Kd.V_drewN | apply Kd.V_drew)); exact HO518.out) hb); have n2_ := Aside0.mk (Kd.V_lower (Kd.V_mono (ok' := fun k_ => True) ho0 (fun k_ hk_ => trivial)) (below_size (by repeat (first | (with_reducible first | exact HB.out | apply below_alloc | apply pw_below_drewN | apply below_drew1) | exact HB.out)))); have n3_ := Aside0.mk (below_step (by repeat (first | (with_reducible first | exact HB.out | apply below_alloc | apply pw_below_drewN | apply below_drew1) | exact HB.out)) hb); clear HO515; clear HO518; clear HB; have HO515 := n0_; have HO518 := n1_; have HO523 := n2_; have HB := n3_; clear n0_ n1_ n2_ n3_; (try clear hb); (try clear hb2); (try clear hk); (try clear hi); (try clear ho0); obtain ⟨Ao26, co26, eo26⟩ := Kd.V_slice HO523.out; subst eo26))
                go_ret
                exact ⟨by first | rfl | (simp [errW_none, errW_some] <;> rfl) | (simp [*, errW_none, errW_some] <;> rfl), by repeat (first | (with_reducible first | exact HB.out | apply below_alloc | apply pw_below_drewN | apply below_drew1) | exact HB.out)⟩
              · rw [if_neg c17] at H
                have c17b0 : ((t513.length : Int) == 0) = false := beq_eq_false_iff_ne.mpr c17
                have c17b1 : ((t513.length : Int) != 0) = true := bne_iff_ne.mpr c17
                have c17b2 : ¬ (t513 = []) := fun h_ => c17 (by rw [h_]; rfl)
                replace H := Option.bind_eq_some_iff.mp H
                obtain ⟨t524, A270, H⟩ := H
                replace H : (if t524 > 0 then ((nat_Len.f t513).bind fun t525 => ((nat_Len.f l0).bind fun t526 => (if t525 = (wrap64 (t526 + a1)) then ((nat_Low.f t513 a1).bind fun t527 => (some ((t527.length : Int) == 0))) else (some false)))) else (some false)) = some r := H
                have A27 := Aside0.mk A270
                clear A270
                by_cases c28 : t524 > 0
                · rw [if_pos c28] at H
                  have c28b0 : decide (0 < t524) = true := decide_eq_true c28
                  clear c28
                  replace H := Option.bind_eq_some_iff.mp H
                  obtain ⟨t525, A290, H⟩ := H
                  replace H : ((nat_Len.f l0).bind fun t526 => (if t525 = (wrap64 (t526 + a1)) then ((nat_Low.f t513 a1).bind fun t527 => (some ((t527.length : Int) == 0))) else (some false))) = some r := H
                  have A29 := Aside0.mk A290
                  clear A290
                  replace H := Option.bind_eq_some_iff.mp H
                  obtain ⟨t526, A300, H⟩ := H
                  replace H : (if t525 = (wrap64 (t526 + a1)) then ((nat_Low.f t513 a1).bind fun t527 => (some ((t527.length : Int) == 0))) else (some false)) = some r := H
                  have A30 := Aside0.mk A300
                  clear A300
                  by_cases c31 : t525 = (wrap64 (t526 + a1))
                  · rw [if_pos c31] at H
                    have c31b0 : (t525 == (wrap64 (t526 + a1))) = true := beq_iff_eq.mpr c31
                    have c31b1 : (t525 != (wrap64 (t526 + a1))) = false := bne_eq_false_iff_eq.mpr c31
                    clear c31
                    replace H := Option.bind_eq_some_iff.mp H
                    obtain ⟨t527, A320, H⟩ := H
                    replace H : (some ((t527.length : Int) == 0)) = some r := H
                    have A32 := Aside0.mk A320
                    clear A320
                    obtain rfl := Option.some.inj H
                    go_wp2_with (first | ((with_reducible refine gate_callee (f := 22) rfl ?_); refine goesL_ (some 24) rfl rfl Try.func22 (by kernel_rfl) rfl #[.slice A0 l0.length c0, .int .i64 a1] rfl (by (try simp only [List.map_toArray, List.map_cons, List.map_nil]); first | done | rfl | (simp only [List.length_drop, List.length_take]; rfl)) ?_; (with_reducible refine (nat_Shl.calls _ _ l0 a1 t513 _ ?side1 ?side2 A10.out).mono ?_); (case side1 => repeat (first | exact (Kd.C_below HR0.out HB.out) | (with_reducible refine Kd.C_alloc ?_ _) | (with_reducible refine Kd.C_drewN ?_ _) | (with_reducible refine Kd.C_drew ?_))); (case side2 => exact HC0.out); rintro e w33 ⟨v514, rfl, ho0, hb⟩; clear A10; refine ⟨_, rfl, ?_⟩; have n0_ := Aside0.mk (Kd.V_lower (Kd.V_mono (ok' := fun k_ => True) ho0 (fun k_ hk_ => trivial)) (below_size (by repeat (first | (with_reducible first | exact HB.out | apply below_alloc | apply pw_below_drewN | apply below_drew1) | exact HB.out)))); have n1_ := Aside0.mk (below_step (by repeat (first | (with_reducible first | exact HB.out | apply below_alloc | apply pw_below_drewN | apply below_drew1) | exact HB.out)) hb); clear HB; have HO515 := n0_; have HB := n1_; clear n0_ n1_; (try clear hb); (try clear hb2); (try clear hk); (try clear hi); (try clear ho0); obtain ⟨Ao34, co34, eo34⟩ := Kd.V_slice HO515.out; subst eo34) | (go_at_call 19; (with_reducible refine (nat_Shr.calls _ _ t513 a1 t516 _ ?side1 ?side2 A12.out).mono ?_); (case side1 => repeat (first | exact (Kd.V_reads' HO515.out).2.2 | (with_reducible refine Kd.C_alloc ?_ _) | (with_reducible refine Kd.C_drewN ?_ _) | (with_reducible refine Kd.C_drew ?_))); (case side2 => exact (Kd.V_reads' HO515.out).2.1); rintro e w35 ⟨v517, rfl, ho0, hb⟩; clear A12; have n0_ := Aside0.mk (Kd.V_below (by (with_reducible repeat (first | apply Kd.V_alloc | apply Kd.V_drewN | apply Kd.V_drew)); exact HO515.out) hb); have n1_ := Aside0.mk (Kd.V_lower (Kd.V_mono (ok' := fun k_ => True) ho0 (fun k_ hk_ => trivial)) (below_size (by repeat (first | (with_reducible first | exact HB.out | apply below_alloc | apply pw_below_drewN | apply below_drew1) | exact HB.out)))); have n2_ := Aside0.mk (below_step (by repeat (first | (with_reducible first | exact HB.out | apply below_alloc | apply pw_below_drewN | apply below_drew1) | exact HB.out)) hb); clear HO515; clear HB; have HO515 := n0_; have HO518 := n1_; have HB := n2_; clear n0_ n1_ n2_; (try clear hb); (try clear hb2); (try clear hk); (try clear hi); (try clear ho0); obtain ⟨Ao36, co36, eo36⟩ := Kd.V_slice HO518.out; subst eo36) | (go_at_call 13; (with_reducible refine (nat_Cmp.calls _ _ t516 _ _ l0 t519 _ ?side1 ?side2 ?side3 ?side4 A13.out).mono ?_); (case side1 => repeat (first | exact (Kd.V_reads' HO518.out).2.2 | (with_reducible refine Kd.C_alloc ?_ _) | (with_reducible refine Kd.C_drewN ?_ _) | (with_reducible refine Kd.C_drew ?_))); (case side2 => exact (Kd.V_reads' HO518.out).2.1); (case side3 => repeat (first | exact (Kd.C_below HR0.out HB.out) | (with_reducible refine Kd.C_alloc ?_ _) | (with_reducible refine Kd.C_drewN ?_ _) | (with_reducible refine Kd.C_drew ?_))); (case side4 => exact HC0.out); rintro e w37 ⟨rfl, hb⟩; clear A13; have n0_ := Aside0.mk (Kd.V_below (by (with_reducible repeat (first | apply Kd.V_alloc | apply Kd.V_drewN | apply Kd.V_drew)); exact HO515.out) hb); have n1_ := Aside0.mk (Kd.V_below (by (with_reducible repeat (first | apply Kd.V_alloc | apply Kd.V_drewN | apply Kd.V_drew)); exact HO518.out) hb); have n2_ := Aside0.mk (below_step (by repeat (first | (with_reducible first | exact HB.out | apply below_alloc | apply pw_below_drewN | apply below_drew1) | exact HB.out)) hb); clear HO515; clear HO518; clear HB; have HO515 := n0_; have HO518 := n1_; have HB := n2_; clear n0_ n1_ n2_; (try clear hb); (try clear hb2); (try clear hk); (try clear hi)) | (go_at_call 26; (with_reducible refine (nat_Len.calls _ _ l0 t520 _ ?side1 ?side2 A15.out).mono ?_); (case side1 => repeat (first | exact (Kd.C_below HR0.out HB.out) | (with_reducible refine Kd.C_alloc ?_ _) | (with_reducible refine Kd.C_drewN ?_ _) | (with_reducible refine Kd.C_drew ?_))); (case side2 => exact HC0.out); rintro e w38 ⟨rfl, hb⟩; clear A15; have n0_ := Aside0.mk (Kd.V_below (by (with_reducible repeat (first | apply Kd.V_alloc | apply Kd.V_drewN | apply Kd.V_drew)); exact HO515.out) hb); have n1_ := Aside0.mk (Kd.V_below (by (with_reducible repeat (first | apply Kd.V_alloc | apply Kd.V_drewN | apply Kd.V_drew)); exact HO518.out) hb); have n2_ := Aside0.mk (below_step (by repeat (first | (with_reducible first | exact HB.out | apply below_alloc | apply pw_below_drewN | apply below_drew1) | exact HB.out)) hb); clear HO515; clear HO518; clear HB; have HO515 := n0_; have HO518 := n1_; have HB := n2_; clear n0_ n1_ n2_; (try clear hb); (try clear hb2); (try clear hk); (try clear hi)) | (go_at_call 26; (with_reducible refine (nat_Len.calls _ _ l0 t524 _ ?side1 ?side2 A27.out).mono ?_); (case side1 => repeat (first | exact (Kd.C_below HR0.out HB.out) | (with_reducible refine Kd.C_alloc ?_ _) | (with_reducible refine Kd.C_drewN ?_ _) | (with_reducible refine Kd.C_drew ?_))); (case side2 => exact HC0.out); rintro e w39 ⟨rfl, hb⟩; clear A27; have n0_ := Aside0.mk (Kd.V_below (by (with_reducible repeat (first | apply Kd.V_alloc | apply Kd.V_drewN | apply Kd.V_drew)); exact HO515.out) hb); have n1_ := Aside0.mk (Kd.V_below (by (with_reducible repeat (first | apply Kd.V_alloc | apply Kd.V_drewN | apply Kd.V_drew)); exact HO518.out) hb); have n2_ := Aside0.mk (below_step (by repeat (first | (with_reducible first | exact HB.out | apply below_alloc | apply pw_below_drewN | apply below_drew1) | exact HB.out)) hb); clear HO515; clear HO518; clear HB; have HO515 := n0_; have HO518 := n1_; have HB := n2_; clear n0_ n1_ n2_; (try clear hb); (try clear hb2); (try clear hk); (try clear hi)) | (go_at_call 26; (with_reducible refine (nat_Len.calls _ _ t513 t525 _ ?side1 ?side2 A29.out).mono ?_); (case side1 => repeat (first | exact (Kd.V_reads' HO515.out).2.2 | (with_reducible refine Kd.C_alloc ?_ _) | (with_reducible refine Kd.C_drewN ?_ _) | (with_reducible refine Kd.C_drew ?_))); (case side2 => exact (Kd.V_reads' HO515.out).2.1); rintro e w40 ⟨rfl, hb⟩; clear A29; have n0_ := Aside0.mk (Kd.V_below (by (with_reducible repeat (first | apply Kd.V_alloc | apply Kd.V_drewN | apply Kd.V_drew)); exact HO515.out) hb); have n1_ := Aside0.mk (Kd.V_below (by (with_reducible repeat (first | apply Kd.V_alloc | apply Kd.V_drewN | apply Kd.V_drew)); exact HO518.out) hb); have n2_ := Aside0.mk (below_step (by repeat (first | (with_reducible first | exact HB.out | apply below_alloc | apply pw_below_drewN | apply below_drew1) | exact HB.out)) hb); clear HO515; clear HO518; clear HB; have HO515 := n0_; have HO518 := n1_; have HB := n2_; clear n0_ n1_ n2_; (try clear hb); (try clear hb2); (try clear hk); (try clear hi)) | (go_at_call 26; (with_reducible refine (nat_Len.calls _ _ l0 t526 _ ?side1 ?side2 A30.out).mono ?_); (case side1 => repeat (first | exact (Kd.C_below HR0.out HB.out) | (with_reducible refine Kd.C_alloc ?_ _) | (with_reducible refine Kd.C_drewN ?_ _) | (with_reducible refine Kd.C_drew ?_))); (case side2 => exact HC0.out); rintro e w41 ⟨rfl, hb⟩; clear A30; have n0_ := Aside0.mk (Kd.V_below (by (with_reducible repeat (first | apply Kd.V_alloc | apply Kd.V_drewN | apply Kd.V_drew)); exact HO515.out) hb); have n1_ := Aside0.mk (Kd.V_below (by (with_reducible repeat (first | apply Kd.V_alloc | apply Kd.V_drewN | apply Kd.V_drew)); exact HO518.out) hb); have n2_ := Aside0.mk (below_step (by repeat (first | (with_reducible first | exact HB.out | apply below_alloc | apply pw_below_drewN | apply below_drew1) | exact HB.out)) hb); clear HO515; clear HO518; clear HB; have HO515 := n0_; have HO518 := n1_; have HB := n2_; clear n0_ n1_ n2_; (try clear hb); (try clear hb2); (try clear hk); (try clear hi)) | (go_at_call 21; (with_reducible refine (nat_Low.calls (fun k_ => True) _ _ t513 a1 t527 _ ?side1 A32.out).mono ?_); (case side1 => exact HO515.out); rintro e w42 ⟨v528, rfl, ho0, hb⟩; clear A32; have n0_ := Aside0.mk (Kd.V_below (by (with_reducible repeat (first | apply Kd.V_alloc | apply Kd.V_drewN | apply Kd.V_drew)); exact HO515.out) hb); have n1_ := Aside0.mk (Kd.V_below (by (with_reducible repeat (first | apply Kd.V_alloc | apply Kd.V_drewN | apply Kd.V_drew)); exact HO518.out) hb); have n2_ := Aside0.mk (Kd.V_lower (Kd.V_mono (ok' := fun k_ => True) ho0 (fun k_ hk_ => trivial)) (below_size (by repeat (first | (with_reducible first | exact HB.out | apply below_alloc | apply pw_below_drewN | apply below_drew1) | exact HB.out)))); have n3_ := Aside0.mk (below_step (by repeat (first | (with_reducible first | exact HB.out | apply below_alloc | apply pw_below_drewN | apply below_drew1) | exact HB.out)) hb); clear HO515; clear HO518; clear HB; have HO515 := n0_; have HO518 := n1_; have HO529 := n2_; have HB := n3_; clear n0_ n1_ n2_ n3_; (try clear hb); (try clear hb2); (try clear hk); (try clear hi); (try clear ho0); obtain ⟨Ao43, co43, eo43⟩ := Kd.V_slice HO529.out; subst eo43))
                    go_ret
                    exact ⟨by first | rfl | (simp [errW_none, errW_some] <;> rfl) | (simp [*, errW_none, errW_some] <;> rfl), by repeat (first | (with_reducible first | exact HB.out | apply below_alloc | apply pw_below_drewN | apply below_drew1) | exact HB.out)⟩
                  · rw [if_neg c31] at H
                    have c31b0 : (t525 == (wrap64 (t526 + a1))) = false := beq_eq_false_iff_ne.mpr c31
                    have c31b1 : (t525 != (wrap64 (t526 + a1))) = true := bne_iff_ne.mpr c31
                    obtain rfl := Option.some.inj H
                    exact absurd hr_.out (by simp)
                · rw [if_neg c28] at H
                  have c28b0 : decide (0 < t524) = false := decide_eq_false c28
                  clear c28
                  obtain rfl := Option.some.inj H
                  exact absurd hr_.out (by simp)
            · rw [if_neg c16] at H
              have c16b0 : (t520 == 0) = false := beq_eq_false_iff_ne.mpr c16
              have c16b1 : (t520 != 0) = true := bne_iff_ne.mpr c16
              replace H := Option.bind_eq_some_iff.mp H
              obtain ⟨t530, A440, H⟩ := H
              replace H : (if t530 > 0 then ((nat_Len.f t513).bind fun t531 => ((nat_Len.f l0).bind fun t532 => (if t531 = (wrap64 (t532 + a1)) then ((nat_Low.f t513 a1).bind fun t533 => (some ((t533.length : Int) == 0))) else (some false)))) else (some false)) = some r := H
              have A44 := Aside0.mk A440
              clear A440
              by_cases c45 : t530 > 0
              · rw [if_pos c45] at H
                have c45b0 : decide (0 < t530) = true := decide_eq_true c45
                clear c45
                replace H := Option.bind_eq_some_iff.mp H
                obtain ⟨t531, A460, H⟩ := H
                replace H : ((nat_Len.f l0).bind fun t532 => (if t531 = (wrap64 (t532 + a1)) then ((nat_Low.f t513 a1).bind fun t533 => (some ((t533.length : Int) == 0))) else (some false))) = some r := H
                have A46 := Aside0.mk A460
                clear A460
                replace H := Option.bind_eq_some_iff.mp H
                obtain ⟨t532, A470, H⟩ := H
                replace H : (if t531 = (wrap64 (t532 + a1)) then ((nat_Low.f t513 a1).bind fun t533 => (some ((t533.length : Int) == 0))) else (some false)) = some r := H
                have A47 := Aside0.mk A470
                clear A470
                by_cases c48 : t531 = (wrap64 (t532 + a1))
                · rw [if_pos c48] at H
                  have c48b0 : (t531 == (wrap64 (t532 + a1))) = true := beq_iff_eq.mpr c48
                  have c48b1 : (t531 != (wrap64 (t532 + a1))) = false := bne_eq_false_iff_eq.mpr c48
                  clear c48
                  replace H := Option.bind_eq_some_iff.mp H
                  obtain ⟨t533, A490, H⟩ := H
                  replace H : (some ((t533.length : Int) == 0)) = some r := H
                  have A49 := Aside0.mk A490
                  clear A490
                  obtain rfl := Option.some.inj H
                  go_wp2_with (first | ((with_reducible refine gate_callee (f := 22) rfl ?_); refine goesL_ (some 24) rfl rfl Try.func22 (by kernel_rfl) rfl #[.slice A0 l0.length c0, .int .i64 a1] rfl (by (try simp only [List.map_toArray, List.map_cons, List.map_nil]); first | done | rfl | (simp only [List.length_drop, List.length_take]; rfl)) ?_; (with_reducible refine (nat_Shl.calls _ _ l0 a1 t513 _ ?side1 ?side2 A10.out).mono ?_); (case side1 => repeat (first | exact (Kd.C_below HR0.out HB.out) | (with_reducible refine Kd.C_alloc ?_ _) | (with_reducible refine Kd.C_drewN ?_ _) | (with_reducible refine Kd.C_drew ?_))); (case side2 => exact HC0.out); rintro e w50 ⟨v514, rfl, ho0, hb⟩; clear A10; refine ⟨_, rfl, ?_⟩; have n0_ := Aside0.mk (Kd.V_lower (Kd.V_mono (ok' := fun k_ => True) ho0 (fun k_ hk_ => trivial)) (below_size (by repeat (first | (with_reducible first | exact HB.out | apply below_alloc | apply pw_below_drewN | apply below_drew1) | exact HB.out)))); have n1_ := Aside0.mk (below_step (by repeat (first | (with_reducible first | exact HB.out | apply below_alloc | apply pw_below_drewN | apply below_drew1) | exact HB.out)) hb); clear HB; have HO515 := n0_; have HB := n1_; clear n0_ n1_; (try clear hb); (try clear hb2); (try clear hk); (try clear hi); (try clear ho0); obtain ⟨Ao51, co51, eo51⟩ := Kd.V_slice HO515.out; subst eo51) | (go_at_call 19; (with_reducible refine (nat_Shr.calls _ _ t513 a1 t516 _ ?side1 ?side2 A12.out).mono ?_); (case side1 => repeat (first | exact (Kd.V_reads' HO515.out).2.2 | (with_reducible refine Kd.C_alloc ?_ _) | (with_reducible refine Kd.C_drewN ?_ _) | (with_reducible refine Kd.C_drew ?_))); (case side2 => exact (Kd.V_reads' HO515.out).2.1); rintro e w52 ⟨v517, rfl, ho0, hb⟩; clear A12; have n0_ := Aside0.mk (Kd.V_below (by (with_reducible repeat (first | apply Kd.V_alloc | apply Kd.V_drewN | apply Kd.V_drew)); exact HO515.out) hb); have n1_ := Aside0.mk (Kd.V_lower (Kd.V_mono (ok' := fun k_ => True) ho0 (fun k_ hk_ => trivial)) (below_size (by repeat (first | (with_reducible first | exact HB.out | apply below_alloc | apply pw_below_drewN | apply below_drew1) | exact HB.out)))); have n2_ := Aside0.mk (below_step (by repeat (first | (with_reducible first | exact HB.out | apply below_alloc | apply pw_below_drewN | apply below_drew1) | exact HB.out)) hb); clear HO515; clear HB; have HO515 := n0_; have HO518 := n1_; have HB := n2_; clear n0_ n1_ n2_; (try clear hb); (try clear hb2); (try clear hk); (try clear hi); (try clear ho0); obtain ⟨Ao53, co53, eo53⟩ := Kd.V_slice HO518.out; subst eo53) | (go_at_call 13; (with_reducible refine (nat_Cmp.calls _ _ t516 _ _ l0 t519 _ ?side1 ?side2 ?side3 ?side4 A13.out).mono ?_); (case side1 => repeat (first | exact (Kd.V_reads' HO518.out).2.2 | (with_reducible refine Kd.C_alloc ?_ _) | (with_reducible refine Kd.C_drewN ?_ _) | (with_reducible refine Kd.C_drew ?_))); (case side2 => exact (Kd.V_reads' HO518.out).2.1); (case side3 => repeat (first | exact (Kd.C_below HR0.out HB.out) | (with_reducible refine Kd.C_alloc ?_ _) | (with_reducible refine Kd.C_drewN ?_ _) | (with_reducible refine Kd.C_drew ?_))); (case side4 => exact HC0.out); rintro e w54 ⟨rfl, hb⟩; clear A13; have n0_ := Aside0.mk (Kd.V_below (by (with_reducible repeat (first | apply Kd.V_alloc | apply Kd.V_drewN | apply Kd.V_drew)); exact HO515.out) hb); have n1_ := Aside0.mk (Kd.V_below (by (with_reducible repeat (first | apply Kd.V_alloc | apply Kd.V_drewN | apply Kd.V_drew)); exact HO518.out) hb); have n2_ := Aside0.mk (below_step (by repeat (first | (with_reducible first | exact HB.out | apply below_alloc | apply pw_below_drewN | apply below_drew1) | exact HB.out)) hb); clear HO515; clear HO518; clear HB; have HO515 := n0_; have HO518 := n1_; have HB := n2_; clear n0_ n1_ n2_; (try clear hb); (try clear hb2); (try clear hk); (try clear hi)) | (go_at_call 26; (with_reducible refine (nat_Len.calls _ _ l0 t520 _ ?side1 ?side2 A15.out).mono ?_); (case side1 => repeat (first | exact (Kd.C_below HR0.out HB.out) | (with_reducible refine Kd.C_alloc ?_ _) | (with_reducible refine Kd.C_drewN ?_ _) | (with_reducible refine Kd.C_drew ?_))); (case side2 => exact HC0.out); rintro e w55 ⟨rfl, hb⟩; clear A15; have n0_ := Aside0.mk (Kd.V_below (by (with_reducible repeat (first | apply Kd.V_alloc | apply Kd.V_drewN | apply Kd.V_drew)); exact HO515.out) hb); have n1_ := Aside0.mk (Kd.V_below (by (with_reducible repeat (first | apply Kd.V_alloc | apply Kd.V_drewN | apply Kd.V_drew)); exact HO518.out) hb); have n2_ := Aside0.mk (below_step (by repeat (first | (with_reducible first | exact HB.out | apply below_alloc | apply pw_below_drewN | apply below_drew1) | exact HB.out)) hb); clear HO515; clear HO518; clear HB; have HO515 := n0_; have HO518 := n1_; have HB := n2_; clear n0_ n1_ n2_; (try clear hb); (try clear hb2); (try clear hk); (try clear hi)) | (go_at_call 26; (with_reducible refine (nat_Len.calls _ _ l0 t530 _ ?side1 ?side2 A44.out).mono ?_); (case side1 => repeat (first | exact (Kd.C_below HR0.out HB.out) | (with_reducible refine Kd.C_alloc ?_ _) | (with_reducible refine Kd.C_drewN ?_ _) | (with_reducible refine Kd.C_drew ?_))); (case side2 => exact HC0.out); rintro e w56 ⟨rfl, hb⟩; clear A44; have n0_ := Aside0.mk (Kd.V_below (by (with_reducible repeat (first | apply Kd.V_alloc | apply Kd.V_drewN | apply Kd.V_drew)); exact HO515.out) hb); have n1_ := Aside0.mk (Kd.V_below (by (with_reducible repeat (first | apply Kd.V_alloc | apply Kd.V_drewN | apply Kd.V_drew)); exact HO518.out) hb); have n2_ := Aside0.mk (below_step (by repeat (first | (with_reducible first | exact HB.out | apply below_alloc | apply pw_below_drewN | apply below_drew1) | exact HB.out)) hb); clear HO515; clear HO518; clear HB; have HO515 := n0_; have HO518 := n1_; have HB := n2_; clear n0_ n1_ n2_; (try clear hb); (try clear hb2); (try clear hk); (try clear hi)) | (go_at_call 26; (with_reducible refine (nat_Len.calls _ _ t513 t531 _ ?side1 ?side2 A46.out).mono ?_); (case side1 => repeat (first | exact (Kd.V_reads' HO515.out).2.2 | (with_reducible refine Kd.C_alloc ?_ _) | (with_reducible refine Kd.C_drewN ?_ _) | (with_reducible refine Kd.C_drew ?_))); (case side2 => exact (Kd.V_reads' HO515.out).2.1); rintro e w57 ⟨rfl, hb⟩; clear A46; have n0_ := Aside0.mk (Kd.V_below (by (with_reducible repeat (first | apply Kd.V_alloc | apply Kd.V_drewN | apply Kd.V_drew)); exact HO515.out) hb); have n1_ := Aside0.mk (Kd.V_below (by (with_reducible repeat (first | apply Kd.V_alloc | apply Kd.V_drewN | apply Kd.V_drew)); exact HO518.out) hb); have n2_ := Aside0.mk (below_step (by repeat (first | (with_reducible first | exact HB.out | apply below_alloc | apply pw_below_drewN | apply below_drew1) | exact HB.out)) hb); clear HO515; clear HO518; clear HB; have HO515 := n0_; have HO518 := n1_; have HB := n2_; clear n0_ n1_ n2_; (try clear hb); (try clear hb2); (try clear hk); (try clear hi)) | (go_at_call 26; (with_reducible refine (nat_Len.calls _ _ l0 t532 _ ?side1 ?side2 A47.out).mono ?_); (case side1 => repeat (first | exact (Kd.C_below HR0.out HB.out) | (with_reducible refine Kd.C_alloc ?_ _) | (with_reducible refine Kd.C_drewN ?_ _) | (with_reducible refine Kd.C_drew ?_))); (case side2 => exact HC0.out); rintro e w58 ⟨rfl, hb⟩; clear A47; have n0_ := Aside0.mk (Kd.V_below (by (with_reducible repeat (first | apply Kd.V_alloc | apply Kd.V_drewN | apply Kd.V_drew)); exact HO515.out) hb); have n1_ := Aside0.mk (Kd.V_below (by (with_reducible repeat (first | apply Kd.V_alloc | apply Kd.V_drewN | apply Kd.V_drew)); exact HO518.out) hb); have n2_ := Aside0.mk (below_step (by repeat (first | (with_reducible first | exact HB.out | apply below_alloc | apply pw_below_drewN | apply below_drew1) | exact HB.out)) hb); clear HO515; clear HO518; clear HB; have HO515 := n0_; have HO518 := n1_; have HB := n2_; clear n0_ n1_ n2_; (try clear hb); (try clear hb2); (try clear hk); (try clear hi)) | (go_at_call 21; (with_reducible refine (nat_Low.calls (fun k_ => True) _ _ t513 a1 t533 _ ?side1 A49.out).mono ?_); (case side1 => exact HO515.out); rintro e w59 ⟨v534, rfl, ho0, hb⟩; clear A49; have n0_ := Aside0.mk (Kd.V_below (by (with_reducible repeat (first | apply Kd.V_alloc | apply Kd.V_drewN | apply Kd.V_drew)); exact HO515.out) hb); have n1_ := Aside0.mk (Kd.V_below (by (with_reducible repeat (first | apply Kd.V_alloc | apply Kd.V_drewN | apply Kd.V_drew)); exact HO518.out) hb); have n2_ := Aside0.mk (Kd.V_lower (Kd.V_mono (ok' := fun k_ => True) ho0 (fun k_ hk_ => trivial)) (below_size (by repeat (first | (with_reducible first | exact HB.out | apply below_alloc | apply pw_below_drewN | apply below_drew1) | exact HB.out)))); have n3_ := Aside0.mk (below_step (by repeat (first | (with_reducible first | exact HB.out | apply below_alloc | apply pw_below_drewN | apply below_drew1) | exact HB.out)) hb); clear HO515; clear HO518; clear HB; have HO515 := n0_; have HO518 := n1_; have HO535 := n2_; have HB := n3_; clear n0_ n1_ n2_ n3_; (try clear hb); (try clear hb2); (try clear hk); (try clear hi); (try clear ho0); obtain ⟨Ao60, co60, eo60⟩ := Kd.V_slice HO535.out; subst eo60))
                  go_ret
                  exact ⟨by first | rfl | (simp [errW_none, errW_some] <;> rfl) | (simp [*, errW_none, errW_some] <;> rfl), by repeat (first | (with_reducible first | exact HB.out | apply below_alloc | apply pw_below_drewN | apply below_drew1) | exact HB.out)⟩
                · rw [if_neg c48] at H
                  have c48b0 : (t531 == (wrap64 (t532 + a1))) = false := beq_eq_false_iff_ne.mpr c48
                  have c48b1 : (t531 != (wrap64 (t532 + a1))) = true := bne_iff_ne.mpr c48
                  obtain rfl := Option.some.inj H
                  exact absurd hr_.out (by simp)
              · rw [if_neg c45] at H
                have c45b0 : decide (0 < t530) = false := decide_eq_false c45
                clear c45
                obtain rfl := Option.some.inj H
                exact absurd hr_.out (by simp)
          · rw [if_neg c14] at H
            have c14b0 : (t519 == 0) = false := beq_eq_false_iff_ne.mpr c14
            have c14b1 : (t519 != 0) = true := bne_iff_ne.mpr c14
            obtain rfl := Option.some.inj H
            exact absurd hr_.out (by simp)
        · replace c11 := Bool.eq_false_iff.mpr c11
          subst c11
          have H1 : (some false) = some r := by rw [if_neg (show ¬ (false = true) by decide)] at H; exact H
          clear H
          have H := H1
          clear H1
          obtain rfl := Option.some.inj H
          exact absurd hr_.out (by simp)

/-- THE ONE PURE STATEMENT of tallysticklaw04_NatBits: yours. -/
def tallysticklaw04_NatBits.Pure : Prop := ∀ (l0 : List Int) (a1 : Int), l0.length ≤ maxLen → l0.length * 8 ≤ 140737488351232 → (∀ x ∈ l0, (Lit.int .u64 x).wf = true) → (Lit.int .i64 a1).wf = true → ∃ k, tallysticklaw04_NatBits.f k l0 a1 = some true
theorem tallysticklaw04_NatBits.walk (P : tallysticklaw04_NatBits.Pure) (a0 : Option Addr) (len0 cap0 : Nat) (z0 : List Int) (a1 : Int) (w : World) (w0 : (a0 = none ∧ len0 = 0 ∧ cap0 = 0 ∧ z0 = []) ∨ ∃ x, a0 = some x ∧ len0 ≤ cap0 ∧ cap0 ≤ maxLen ∧ z0.length = cap0 ∧ (∀ i, i < z0.length → w.cell? (x.add i) = some (.int .u64 (z0.getD i 0))) ∧ ∀ n ∈ z0, (Lit.int .u64 n).wf = true) (y0 : len0 * 8 ≤ 140737488351232) (w1 : (Lit.int .i64 a1).wf = true) :
    Calls Try.prog 8 #[.slice a0 len0 cap0, .int .i64 a1] w fun e w' => e = .returned (.bool true) ∧ Below w.heap.size w w' := by
  obtain ⟨l0, rfl, hr0, hm0, hw0, hc0⟩ := ReadsInt.ofRowC w0
  obtain ⟨k, h⟩ := P l0 a1 hm0 y0 hw0 w1
  refine (tallysticklaw04_NatBits.calls k _ _ l0 a1 true w (Kd.C_of_reads (d := (0 : Int)) (h1 := fun _ => rfl) hr0) hc0 ⟨rfl⟩ h).mono ?_
  rintro e w' ⟨rfl, hd⟩
  exact ⟨rfl, hd⟩

end Go.Proofs.Ytmanafcncccidaa.Pa
