/- Contracts of functions and laws, written by this session's program myprint.py by way of the kit's print. -/
import Derived.Test.YtnmfinhmhmepdaaPa0
import Derived.Test.YtnmfinhmhmepdaaPa1
namespace Go.Proofs.Ytnmfinhmhmepdaa.Pa
open Go.RowKit Go.Proofs.Ytnmfinhmhmepdaa.Hand Go.Proofs.YtnmfinhmhmepdaaW.PrintWords Go.Proofs.YtnmfinhmhmepdaaW.PrintLast Go.Proofs.YtnmfinhmhmepdaaW.PrintMore
attribute [local go_sem] max2_int min2_int max_two min_two max_three min_three max_four min_four   -- for this text's walks alone
set_option linter.unusedVariables false
set_option linter.unusedSimpArgs false

/-! ### tallysticklaw01_WordShifts: function 5 -/
def tallysticklaw01_WordShifts.j0 : Nat → Int → Int → Bool → Bool → Option (Bool)
  | 0, _, _, _, _ => none
  | k + 1, x0, x1, x5, x15 => if x15 = true then (some x5) else (if 0 ≤ x1 then ((word_Mul.f x0 (shl .u64 1 x1)).bind fun bt131 => ((word_Len.f x0).bind fun t133 => (if x5 = true then (if bt131.2 = (shl .u64 x0 x1) then (if 0 ≤ (wrap64 (64 - x1)) then (if bt131.1 = (shr .u64 x0 (wrap64 (64 - x1))) then (if t133 = 64 then (if t133 = 0 then (some true) else (if 0 ≤ (wrap64 (t133 - 1)) then (some ((shr .u64 x0 (wrap64 (t133 - 1))) == 1)) else (none))) else (if 0 ≤ t133 then (if (shr .u64 x0 t133) = 0 then (if t133 = 0 then (some true) else (if 0 ≤ (wrap64 (t133 - 1)) then (some ((shr .u64 x0 (wrap64 (t133 - 1))) == 1)) else (none))) else (some false)) else (none))) else (some false)) else (none)) else (some false)) else (some false)))) else (none))
def tallysticklaw01_WordShifts.f (k : Nat) (a0 : Int) (a1 : Int) : Option (Bool) := (tallysticklaw01_shown.f).bind fun t130 => (if a1 < 1 then (tallysticklaw01_WordShifts.j0 k a0 a1 t130 true) else (tallysticklaw01_WordShifts.j0 k a0 a1 t130 (decide (a1 > 63))))
theorem tallysticklaw01_WordShifts.mono_l : ∀ k, (∀ y0 y1 y2 y3, LeO (tallysticklaw01_WordShifts.j0 k y0 y1 y2 y3) (tallysticklaw01_WordShifts.j0 (k + 1) y0 y1 y2 y3))
  | 0 => fun _ _ _ _ r h => by simp [tallysticklaw01_WordShifts.j0] at h
  | k + 1 => by
    have ih0 := tallysticklaw01_WordShifts.mono_l k
    · intro y0 y1 y2 y3
      unfold tallysticklaw01_WordShifts.j0
      repeat' first
      | (with_reducible exact ih0 _ _ _ _)
      | (with_reducible exact LeO.refl _)
      | (with_reducible exact LeO.none _)
      | (with_reducible refine LeO.ite ?_ ?_)
      | (with_reducible refine LeO.bind ?_ (fun _ => ?_))
      | exact ih0 _ _ _ _
      | exact LeO.none _
      | refine LeO.ite ?_ ?_
      | refine LeO.bind ?_ (fun _ => ?_)
theorem tallysticklaw01_WordShifts.mono : ∀ a0 a1 k, LeO (tallysticklaw01_WordShifts.f k a0 a1) (tallysticklaw01_WordShifts.f (k + 1) a0 a1) := by
  intro a0 a1 k
  have ih0 := tallysticklaw01_WordShifts.mono_l k
  unfold tallysticklaw01_WordShifts.f
  repeat' first
      | (with_reducible exact ih0 _ _ _ _)
      | (with_reducible exact LeO.refl _)
      | (with_reducible exact LeO.none _)
      | (with_reducible refine LeO.ite ?_ ?_)
      | (with_reducible refine LeO.bind ?_ (fun _ => ?_))
      | exact ih0 _ _ _ _
      | exact LeO.none _
      | refine LeO.ite ?_ ?_
      | refine LeO.bind ?_ (fun _ => ?_)
set_option maxHeartbeats 8000000 in
set_option maxRecDepth 100000 in
theorem tallysticklaw01_WordShifts.calls (k : Nat) (a0 : Int) (a1 : Int) (r : Bool) (w : World) (hr_ : Aside0 (r = true)) (h : tallysticklaw01_WordShifts.f k a0 a1 = some r) :
    Calls Try.prog 5 #[.int .u64 a0, .int .i64 a1] w fun e w' => e = .returned (.bool r) ∧ Below w.heap.size w w' := by
  have HB := Aside0.mk (Below.refl w.heap.size w)
  have H : ((tallysticklaw01_shown.f).bind fun t130 => (if a1 < 1 then (tallysticklaw01_WordShifts.j0 k a0 a1 t130 true) else (tallysticklaw01_WordShifts.j0 k a0 a1 t130 (decide (a1 > 63))))) = some r := h
  clear h
  replace H := Option.bind_eq_some_iff.mp H
  obtain ⟨t130, A30, H⟩ := H
  replace H : (if a1 < 1 then (tallysticklaw01_WordShifts.j0 k a0 a1 t130 true) else (tallysticklaw01_WordShifts.j0 k a0 a1 t130 (decide (a1 > 63)))) = some r := H
  have A3 := Aside0.mk A30
  clear A30
  have HC4 := Aside0.mk H
  clear H
  go_enter Try.func5, Try.ntmps5
  go_upto_region 2 with (first | ((with_reducible refine gate_callee (f := 11) rfl ?_); refine goesL_ (some 9) rfl rfl Try.func11 (by kernel_rfl) rfl #[] rfl (by (try simp only [List.map_toArray, List.map_cons, List.map_nil]); first | done | rfl | (simp only [List.length_drop, List.length_take]; rfl)) ?_; (with_reducible refine (tallysticklaw01_shown.calls  t130 _ A3.out).mono ?_); rintro e w5 ⟨rfl, hb⟩; clear A3; refine ⟨_, rfl, ?_⟩; have n0_ := Aside0.mk (below_step (by repeat (first | (with_reducible first | exact HB.out | apply below_alloc | apply pw_below_drewN | apply below_drew1) | exact HB.out)) hb); clear HB; have HB := n0_; clear n0_; (try clear hb); (try clear hb2); (try clear hk); (try clear hi)))
  (try simp only [Act.put, List.setIfInBounds_toArray, List.set_cons_zero, List.set_cons_succ])
  go_cut [15] (fun v15 wc => ∃ (kq : Nat) (x15_3 : Bool), v15 = .bool x15_3 ∧ Aside0 (tallysticklaw01_WordShifts.j0 kq a0 a1 t130 x15_3 = some r) ∧ Aside0 (kq ≤ k) ∧ Aside0 (Below w.heap.size w wc))
  case first =>
    have H := HC4.out
    clear HC4
    by_cases c6 : a1 < 1
    · rw [if_pos c6] at H
      have c6b0 : decide (a1 < 1) = true := decide_eq_true c6
      clear c6
      (first | rw [c6b0] | (simp only [i64_w, i32_w]; rw [c6b0]) | skip)
      have H' := Aside0.mk H
      clear H
      go_wp2
      go_meet
      case rel => exact ⟨_, (true), (by first | rfl | (simp; done) | (simp [*]; done)), H', ⟨by first | omega | exact Nat.le_refl _⟩, ⟨by repeat (first | (with_reducible first | exact HB.out | apply below_alloc | apply pw_below_drewN | apply below_drew1) | exact HB.out)⟩⟩
    · rw [if_neg c6] at H
      have c6b0 : decide (a1 < 1) = false := decide_eq_false c6
      clear c6
      (first | rw [c6b0] | (simp only [i64_w, i32_w]; rw [c6b0]) | skip)
      have H' := Aside0.mk H
      clear H
      go_wp2
      go_meet
      case rel => exact ⟨_, (decide (a1 > 63)), (by first | rfl | (simp; done) | (simp [*]; done)), H', ⟨by first | omega | exact Nat.le_refl _⟩, ⟨by repeat (first | (with_reducible first | exact HB.out | apply below_alloc | apply pw_below_drewN | apply below_drew1) | exact HB.out)⟩⟩
  case rest =>
    clear HC4
    try clear c1
    try clear p2
    try clear c5
    try clear c6
    try clear c6b0
    obtain ⟨kq, x15_3, rfl, HA, HJ3, HB⟩ := hcut
    cases kq with
    | zero => exact absurd HA.out (by simp [tallysticklaw01_WordShifts.j0])
    | succ kj3 =>
      have H := HA.out
      clear HA
      simp only [tallysticklaw01_WordShifts.j0] at H
      by_cases c7 : x15_3 = true
      · subst c7
        have H1 : (some t130) = some r := by rw [if_pos rfl] at H; exact H
        clear H
        have H := H1
        clear H1
        obtain rfl := Option.some.inj H
        go_wp2
        go_ret
        exact ⟨by first | rfl | (simp [errW_none, errW_some] <;> rfl) | (simp [*, errW_none, errW_some] <;> rfl), by repeat (first | (with_reducible first | exact HB.out | apply below_alloc | apply pw_below_drewN | apply below_drew1) | exact HB.out)⟩
      · replace c7 := Bool.eq_false_iff.mpr c7
        subst c7
        have H1 : (if 0 ≤ a1 then ((word_Mul.f a0 (shl .u64 1 a1)).bind fun bt131 => ((word_Len.f a0).bind fun t133 => (if t130 = true then (if bt131.2 = (shl .u64 a0 a1) then (if 0 ≤ (wrap64 (64 - a1)) then (if bt131.1 = (shr .u64 a0 (wrap64 (64 - a1))) then (if t133 = 64 then (if t133 = 0 then (some true) else (if 0 ≤ (wrap64 (t133 - 1)) then (some ((shr .u64 a0 (wrap64 (t133 - 1))) == 1)) else (none))) else (if 0 ≤ t133 then (if (shr .u64 a0 t133) = 0 then (if t133 = 0 then (some true) else (if 0 ≤ (wrap64 (t133 - 1)) then (some ((shr .u64 a0 (wrap64 (t133 - 1))) == 1)) else (none))) else (some false)) else (none))) else (some false)) else (none)) else (some false)) else (some false)))) else (none)) = some r := by rw [if_neg (show ¬ (false = true) by decide)] at H; exact H
        clear H
        have H := H1
        clear H1
        by_cases c8 : 0 ≤ a1
        · rw [if_pos c8] at H
          have c8b0 := eq_true c8
          have c8b1 : decide (0 ≤ a1) = true := decide_eq_true c8
          clear c8
          obtain ⟨ji9, hji9⟩ : ∃ j_ : Int, (shl .u64 1 a1) = j_ := ⟨_, rfl⟩
          replace H : ((word_Mul.f a0 (ji9)).bind fun bt131 => ((word_Len.f a0).bind fun t133 => (if t130 = true then (if bt131.2 = (shl .u64 a0 a1) then (if 0 ≤ (wrap64 (64 - a1)) then (if bt131.1 = (shr .u64 a0 (wrap64 (64 - a1))) then (if t133 = 64 then (if t133 = 0 then (some true) else (if 0 ≤ (wrap64 (t133 - 1)) then (some ((shr .u64 a0 (wrap64 (t133 - 1))) == 1)) else (none))) else (if 0 ≤ t133 then (if (shr .u64 a0 t133) = 0 then (if t133 = 0 then (some true) else (if 0 ≤ (wrap64 (t133 - 1)) then (some ((shr .u64 a0 (wrap64 (t133 - 1))) == 1)) else (none))) else (some false)) else (none))) else (some false)) else (none)) else (some false)) else (some false)))) = some r := by first | (rw [hji9] at H; exact H) | (simp only [hji9] at H ⊢; exact H)
          have hji9_ : (IntKind.u64.wrap (1 * 2 ^ min a1.toNat 64)) = ji9 := hji9
          have hji9z : a1 ≤ 64 → (IntKind.u64.wrap (1 * 2 ^ a1.toNat)) = ji9 := shl_small hji9
          have hji9u : (IntKind.u64.wrap (2 ^ min a1.toNat 64)) = ji9 := by have h_ := hji9_; rw [Int.one_mul] at h_; exact h_
          have hji9v : a1 ≤ 64 → (IntKind.u64.wrap (2 ^ a1.toNat)) = ji9 := fun hle_ => by have h_ := hji9z hle_; rw [Int.one_mul] at h_; exact h_
          replace H := Option.bind_eq_some_iff.mp H
          obtain ⟨⟨t131, t132⟩, A100, H⟩ := H
          replace H : ((word_Len.f a0).bind fun t133 => (if t130 = true then (if t132 = (shl .u64 a0 a1) then (if 0 ≤ (wrap64 (64 - a1)) then (if t131 = (shr .u64 a0 (wrap64 (64 - a1))) then (if t133 = 64 then (if t133 = 0 then (some true) else (if 0 ≤ (wrap64 (t133 - 1)) then (some ((shr .u64 a0 (wrap64 (t133 - 1))) == 1)) else (none))) else (if 0 ≤ t133 then (if (shr .u64 a0 t133) = 0 then (if t133 = 0 then (some true) else (if 0 ≤ (wrap64 (t133 - 1)) then (some ((shr .u64 a0 (wrap64 (t133 - 1))) == 1)) else (none))) else (some false)) else (none))) else (some false)) else (none)) else (some false)) else (some false))) = some r := H
          have A10 := Aside0.mk A100
          clear A100
          replace H := Option.bind_eq_some_iff.mp H
          obtain ⟨t133, A110, H⟩ := H
          replace H : (if t130 = true then (if t132 = (shl .u64 a0 a1) then (if 0 ≤ (wrap64 (64 - a1)) then (if t131 = (shr .u64 a0 (wrap64 (64 - a1))) then (if t133 = 64 then (if t133 = 0 then (some true) else (if 0 ≤ (wrap64 (t133 - 1)) then (some ((shr .u64 a0 (wrap64 (t133 - 1))) == 1)) else (none))) else (if 0 ≤ t133 then (if (shr .u64 a0 t133) = 0 then (if t133 = 0 then (some true) else (if 0 ≤ (wrap64 (t133 - 1)) then (some ((shr .u64 a0 (wrap64 (t133 - 1))) == 1)) else (none))) else (some false)) else (none))) else (some false)) else (none)) else (some false)) else (some false)) = some r := H
          have A11 := Aside0.mk A110
          clear A110
          by_cases c12 : t130 = true
          · subst c12
            have H1 : (if t132 = (shl .u64 a0 a1) then (if 0 ≤ (wrap64 (64 - a1)) then (if t131 = (shr .u64 a0 (wrap64 (64 - a1))) then (if t133 = 64 then (if t133 = 0 then (some true) else (if 0 ≤ (wrap64 (t133 - 1)) then (some ((shr .u64 a0 (wrap64 (t133 - 1))) == 1)) else (none))) else (if 0 ≤ t133 then (if (shr .u64 a0 t133) = 0 then (if t133 = 0 then (some true) else (if 0 ≤ (wrap64 (t133 - 1)) then (some ((shr .u64 a0 (wrap64 (t133 - 1))) == 1)) else (none))) else (some false)) else (none))) else (some false)) else (none)) else (some false)) = some r := by rw [if_pos rfl] at H; exact H
            clear H
            have H := H1
            clear H1
            have c13b0 := eq_true (of_decide_eq_true (by first | (with_reducible assumption) | assumption) : 0 ≤ a1)
            obtain ⟨ji14, hji14⟩ : ∃ j_ : Int, (shl .u64 a0 a1) = j_ := ⟨_, rfl⟩
            replace H : (if t132 = (ji14) then (if 0 ≤ (wrap64 (64 - a1)) then (if t131 = (shr .u64 a0 (wrap64 (64 - a1))) then (if t133 = 64 then (if t133 = 0 then (some true) else (if 0 ≤ (wrap64 (t133 - 1)) then (some ((shr .u64 a0 (wrap64 (t133 - 1))) == 1)) else (none))) else (if 0 ≤ t133 then (if (shr .u64 a0 t133) = 0 then (if t133 = 0 then (some true) else (if 0 ≤ (wrap64 (t133 - 1)) then (some ((shr .u64 a0 (wrap64 (t133 - 1))) == 1)) else (none))) else (some false)) else (none))) else (some false)) else (none)) else (some false)) = some r := by first | (rw [hji14] at H; exact H) | (simp only [hji14] at H ⊢; exact H)
            (try rw [hji14] at A10)
            (try rw [hji14] at A11)
            have hji14_ : (IntKind.u64.wrap (a0 * 2 ^ min a1.toNat 64)) = ji14 := hji14
            have hji14z : a1 ≤ 64 → (IntKind.u64.wrap (a0 * 2 ^ a1.toNat)) = ji14 := shl_small hji14
            by_cases c15 : t132 = (ji14)
            · rw [if_pos c15] at H
              have c15b0 : (t132 == (ji14)) = true := beq_iff_eq.mpr c15
              have c15b1 : (t132 != (ji14)) = false := bne_eq_false_iff_eq.mpr c15
              clear c15
              obtain ⟨ji16, hji16⟩ : ∃ j_ : Int, (wrap64 (64 - a1)) = j_ := ⟨_, rfl⟩
              replace H : (if 0 ≤ (ji16) then (if t131 = (shr .u64 a0 (ji16)) then (if t133 = 64 then (if t133 = 0 then (some true) else (if 0 ≤ (wrap64 (t133 - 1)) then (some ((shr .u64 a0 (wrap64 (t133 - 1))) == 1)) else (none))) else (if 0 ≤ t133 then (if (shr .u64 a0 t133) = 0 then (if t133 = 0 then (some true) else (if 0 ≤ (wrap64 (t133 - 1)) then (some ((shr .u64 a0 (wrap64 (t133 - 1))) == 1)) else (none))) else (some false)) else (none))) else (some false)) else (none)) = some r := by first | (rw [hji16] at H; exact H) | (simp only [hji16] at H ⊢; exact H)
              (try rw [hji16] at A10)
              (try rw [hji16] at A11)
              have hji16w : (IntKind.i64.wrap (64 - a1)) = ji16 := (i64_w _).trans hji16
              by_cases c17 : 0 ≤ (ji16)
              · rw [if_pos c17] at H
                have c17b0 := eq_true c17
                have c17b1 : decide (0 ≤ (ji16)) = true := decide_eq_true c17
                clear c17
                obtain ⟨ji18, hji18⟩ : ∃ j_ : Int, (shr .u64 a0 (ji16)) = j_ := ⟨_, rfl⟩
                replace H : (if t131 = (ji18) then (if t133 = 64 then (if t133 = 0 then (some true) else (if 0 ≤ (wrap64 (t133 - 1)) then (some ((shr .u64 a0 (wrap64 (t133 - 1))) == 1)) else (none))) else (if 0 ≤ t133 then (if (shr .u64 a0 t133) = 0 then (if t133 = 0 then (some true) else (if 0 ≤ (wrap64 (t133 - 1)) then (some ((shr .u64 a0 (wrap64 (t133 - 1))) == 1)) else (none))) else (some false)) else (none))) else (some false)) = some r := by first | (rw [hji18] at H; exact H) | (simp only [hji18] at H ⊢; exact H)
                (try rw [hji18] at A10)
                (try rw [hji18] at A11)
                have hji18_ : (a0 / 2 ^ min (ji16).toNat 64) = ji18 := hji18
                have hji18z : (ji16) ≤ 64 → (a0 / 2 ^ (ji16).toNat) = ji18 := shr_small hji18
                by_cases c19 : t131 = (ji18)
                · rw [if_pos c19] at H
                  have c19b0 : (t131 == (ji18)) = true := beq_iff_eq.mpr c19
                  have c19b1 : (t131 != (ji18)) = false := bne_eq_false_iff_eq.mpr c19
                  clear c19
                  by_cases c20 : t133 = 64
                  · rw [if_pos c20] at H
                    have c20b0 : (t133 == 64) = true := beq_iff_eq.mpr c20
                    have c20b1 : (t133 != 64) = false := bne_eq_false_iff_eq.mpr c20
                    clear c20
                    by_cases c21 : t133 = 0
                    · exact absurd (show (64 : Int) = 0 by rw [← beq_iff_eq.mp c20b0]; exact c21) (by decide)
                    · rw [if_neg c21] at H
                      have c21b0 : (t133 == 0) = false := beq_eq_false_iff_ne.mpr c21
                      have c21b1 : (t133 != 0) = true := bne_iff_ne.mpr c21
                      obtain ⟨ji24, hji24⟩ : ∃ j_ : Int, (wrap64 (t133 - 1)) = j_ := ⟨_, rfl⟩
                      replace H : (if 0 ≤ (ji24) then (some ((shr .u64 a0 (ji24)) == 1)) else (none)) = some r := by first | (rw [hji24] at H; exact H) | (simp only [hji24] at H ⊢; exact H)
                      (try rw [hji24] at A10)
                      (try rw [hji24] at A11)
                      have hji24w : (IntKind.i64.wrap (t133 - 1)) = ji24 := (i64_w _).trans hji24
                      by_cases c25 : 0 ≤ (ji24)
                      · rw [if_pos c25] at H
                        have c25b0 := eq_true c25
                        have c25b1 : decide (0 ≤ (ji24)) = true := decide_eq_true c25
                        clear c25
                        obtain ⟨ji26, hji26⟩ : ∃ j_ : Int, (shr .u64 a0 (ji24)) = j_ := ⟨_, rfl⟩
                        replace H : (some ((ji26) == 1)) = some r := by first | (rw [hji26] at H; exact H) | (simp only [hji26] at H ⊢; exact H)
                        (try rw [hji26] at A10)
                        (try rw [hji26] at A11)
                        have hji26_ : (a0 / 2 ^ min (ji24).toNat 64) = ji26 := hji26
                        have hji26z : (ji24) ≤ 64 → (a0 / 2 ^ (ji24).toNat) = ji26 := shr_small hji26
                        obtain rfl := Option.some.inj H
                        go_wp2_with (first | ((with_reducible refine gate_callee (f := 13) rfl ?_); refine goesL_ (some 21) rfl rfl Try.func13 (by kernel_rfl) rfl #[.int .u64 a0, .int .u64 ji9] rfl (by (try simp only [List.map_toArray, List.map_cons, List.map_nil]); first | done | (simp only [hji9]; rfl) | rfl | (simp only [List.length_drop, List.length_take]; rfl)) ?_; (with_reducible refine (word_Mul.calls a0 ji9 t131 t132 _ A10.out).mono ?_); rintro e w27 ⟨rfl, hb⟩; clear A10; refine ⟨_, rfl, ?_⟩; have n0_ := Aside0.mk (below_step (by repeat (first | (with_reducible first | exact HB.out | apply below_alloc | apply pw_below_drewN | apply below_drew1) | exact HB.out)) hb); clear HB; have HB := n0_; clear n0_; (try clear hb); (try clear hb2); (try clear hk); (try clear hi)) | ((with_reducible refine gate_callee (f := 15) rfl ?_); refine goesL_ (some 25) rfl rfl Try.func15 (by kernel_rfl) rfl #[.int .u64 a0] rfl (by (try simp only [List.map_toArray, List.map_cons, List.map_nil]); first | done | rfl | (simp only [List.length_drop, List.length_take]; rfl)) ?_; (with_reducible refine (word_Len.calls a0 t133 _ A11.out).mono ?_); rintro e w28 ⟨rfl, hb⟩; clear A11; refine ⟨_, rfl, ?_⟩; have n0_ := Aside0.mk (below_step (by repeat (first | (with_reducible first | exact HB.out | apply below_alloc | apply pw_below_drewN | apply below_drew1) | exact HB.out)) hb); clear HB; have HB := n0_; clear n0_; (try clear hb); (try clear hb2); (try clear hk); (try clear hi)))
                        go_ret
                        exact ⟨by first | rfl | (simp [errW_none, errW_some] <;> rfl) | (simp only [← hji9, ← hji14, ← hji16, ← hji18, ← hji24, ← hji26]; first | rfl | (simp [errW_none, errW_some] <;> rfl)) | (simp [*, errW_none, errW_some] <;> rfl), by repeat (first | (with_reducible first | exact HB.out | apply below_alloc | apply pw_below_drewN | apply below_drew1) | exact HB.out)⟩
                      · rw [if_neg c25] at H
                        exact absurd H (by simp)
                  · rw [if_neg c20] at H
                    have c20b0 : (t133 == 64) = false := beq_eq_false_iff_ne.mpr c20
                    have c20b1 : (t133 != 64) = true := bne_iff_ne.mpr c20
                    by_cases c29 : 0 ≤ t133
                    · rw [if_pos c29] at H
                      have c29b0 := eq_true c29
                      have c29b1 : decide (0 ≤ t133) = true := decide_eq_true c29
                      clear c29
                      obtain ⟨ji30, hji30⟩ : ∃ j_ : Int, (shr .u64 a0 t133) = j_ := ⟨_, rfl⟩
                      replace H : (if (ji30) = 0 then (if t133 = 0 then (some true) else (if 0 ≤ (wrap64 (t133 - 1)) then (some ((shr .u64 a0 (wrap64 (t133 - 1))) == 1)) else (none))) else (some false)) = some r := by first | (rw [hji30] at H; exact H) | (simp only [hji30] at H ⊢; exact H)
                      (try rw [hji30] at A10)
                      (try rw [hji30] at A11)
                      have hji30_ : (a0 / 2 ^ min t133.toNat 64) = ji30 := hji30
                      have hji30z : t133 ≤ 64 → (a0 / 2 ^ t133.toNat) = ji30 := shr_small hji30
                      by_cases c31 : (ji30) = 0
                      · rw [if_pos c31] at H
                        have c31b0 : ((ji30) == 0) = true := beq_iff_eq.mpr c31
                        have c31b1 : ((ji30) != 0) = false := bne_eq_false_iff_eq.mpr c31
                        clear c31
                        by_cases c32 : t133 = 0
                        · rw [if_pos c32] at H
                          have c32b0 : (t133 == 0) = true := beq_iff_eq.mpr c32
                          have sh_ : a0 / 2 ^ t133.toNat = 0 := (hji30z (by have h_ := beq_iff_eq.mp c32b0; omega)).trans (beq_iff_eq.mp c31b0)
                          have c32b1 : (t133 != 0) = false := bne_eq_false_iff_eq.mpr c32
                          clear c32
                          obtain rfl := Option.some.inj H
                          go_wp2_with (first | ((with_reducible refine gate_callee (f := 13) rfl ?_); refine goesL_ (some 21) rfl rfl Try.func13 (by kernel_rfl) rfl #[.int .u64 a0, .int .u64 ji9] rfl (by (try simp only [List.map_toArray, List.map_cons, List.map_nil]); first | done | (simp only [hji9]; rfl) | rfl | (simp only [List.length_drop, List.length_take]; rfl)) ?_; (with_reducible refine (word_Mul.calls a0 ji9 t131 t132 _ A10.out).mono ?_); rintro e w33 ⟨rfl, hb⟩; clear A10; refine ⟨_, rfl, ?_⟩; have n0_ := Aside0.mk (below_step (by repeat (first | (with_reducible first | exact HB.out | apply below_alloc | apply pw_below_drewN | apply below_drew1) | exact HB.out)) hb); clear HB; have HB := n0_; clear n0_; (try clear hb); (try clear hb2); (try clear hk); (try clear hi)) | ((with_reducible refine gate_callee (f := 15) rfl ?_); refine goesL_ (some 25) rfl rfl Try.func15 (by kernel_rfl) rfl #[.int .u64 a0] rfl (by (try simp only [List.map_toArray, List.map_cons, List.map_nil]); first | done | rfl | (simp only [List.length_drop, List.length_take]; rfl)) ?_; (with_reducible refine (word_Len.calls a0 t133 _ A11.out).mono ?_); rintro e w34 ⟨rfl, hb⟩; clear A11; refine ⟨_, rfl, ?_⟩; have n0_ := Aside0.mk (below_step (by repeat (first | (with_reducible first | exact HB.out | apply below_alloc | apply pw_below_drewN | apply below_drew1) | exact HB.out)) hb); clear HB; have HB := n0_; clear n0_; (try clear hb); (try clear hb2); (try clear hk); (try clear hi)))
                          go_ret
                          exact ⟨by first | rfl | (simp [errW_none, errW_some] <;> rfl) | (simp only [← hji9, ← hji14, ← hji16, ← hji18, ← hji30]; first | rfl | (simp [errW_none, errW_some] <;> rfl)) | (simp [*, errW_none, errW_some] <;> rfl), by repeat (first | (with_reducible first | exact HB.out | apply below_alloc | apply pw_below_drewN | apply below_drew1) | exact HB.out)⟩
                        · rw [if_neg c32] at H
                          have c32b0 : (t133 == 0) = false := beq_eq_false_iff_ne.mpr c32
                          have c32b1 : (t133 != 0) = true := bne_iff_ne.mpr c32
                          obtain ⟨ji35, hji35⟩ : ∃ j_ : Int, (wrap64 (t133 - 1)) = j_ := ⟨_, rfl⟩
                          replace H : (if 0 ≤ (ji35) then (some ((shr .u64 a0 (ji35)) == 1)) else (none)) = some r := by first | (rw [hji35] at H; exact H) | (simp only [hji35] at H ⊢; exact H)
                          (try rw [hji35] at A10)
                          (try rw [hji35] at A11)
                          have hji35w : (IntKind.i64.wrap (t133 - 1)) = ji35 := (i64_w _).trans hji35
                          by_cases c36 : 0 ≤ (ji35)
                          · rw [if_pos c36] at H
                            have c36b0 := eq_true c36
                            have c36b1 : decide (0 ≤ (ji35)) = true := decide_eq_true c36
                            clear c36
                            obtain ⟨ji37, hji37⟩ : ∃ j_ : Int, (shr .u64 a0 (ji35)) = j_ := ⟨_, rfl⟩
                            replace H : (some ((ji37) == 1)) = some r := by first | (rw [hji37] at H; exact H) | (simp only [hji37] at H ⊢; exact H)
                            (try rw [hji37] at A10)
                            (try rw [hji37] at A11)
                            have hji37_ : (a0 / 2 ^ min (ji35).toNat 64) = ji37 := hji37
                            have hji37z : (ji35) ≤ 64 → (a0 / 2 ^ (ji35).toNat) = ji37 := shr_small hji37
                            obtain rfl := Option.some.inj H
                            go_wp2_with (first | ((with_reducible refine gate_callee (f := 13) rfl ?_); refine goesL_ (some 21) rfl rfl Try.func13 (by kernel_rfl) rfl #[.int .u64 a0, .int .u64 ji9] rfl (by (try simp only [List.map_toArray, List.map_cons, List.map_nil]); first | done | (simp only [hji9]; rfl) | rfl | (simp only [List.length_drop, List.length_take]; rfl)) ?_; (with_reducible refine (word_Mul.calls a0 ji9 t131 t132 _ A10.out).mono ?_); rintro e w38 ⟨rfl, hb⟩; clear A10; refine ⟨_, rfl, ?_⟩; have n0_ := Aside0.mk (below_step (by repeat (first | (with_reducible first | exact HB.out | apply below_alloc | apply pw_below_drewN | apply below_drew1) | exact HB.out)) hb); clear HB; have HB := n0_; clear n0_; (try clear hb); (try clear hb2); (try clear hk); (try clear hi)) | ((with_reducible refine gate_callee (f := 15) rfl ?_); refine goesL_ (some 25) rfl rfl Try.func15 (by kernel_rfl) rfl #[.int .u64 a0] rfl (by (try simp only [List.map_toArray, List.map_cons, List.map_nil]); first | done | rfl | (simp only [List.length_drop, List.length_take]; rfl)) ?_; (with_reducible refine (word_Len.calls a0 t133 _ A11.out).mono ?_); rintro e w39 ⟨rfl, hb⟩; clear A11; refine ⟨_, rfl, ?_⟩; have n0_ := Aside0.mk (below_step (by repeat (first | (with_reducible first | exact HB.out | apply below_alloc | apply pw_below_drewN | apply below_drew1) | exact HB.out)) hb); clear HB; have HB := n0_; clear n0_; (try clear hb); (try clear hb2); (try clear hk); (try clear hi)))
                            go_ret
                            exact ⟨by first | rfl | (simp [errW_none, errW_some] <;> rfl) | (simp only [← hji9, ← hji14, ← hji16, ← hji18, ← hji30, ← hji35, ← hji37]; first | rfl | (simp [errW_none, errW_some] <;> rfl)) | (simp [*, errW_none, errW_some] <;> rfl), by repeat (first | (with_reducible first | exact HB.out | apply below_alloc | apply pw_below_drewN | apply below_drew1) | exact HB.out)⟩
                          · rw [if_neg c36] at H
                            exact absurd H (by simp)
                      · rw [if_neg c31] at H
                        have c31b0 : ((ji30) == 0) = false := beq_eq_false_iff_ne.mpr c31
                        have c31b1 : ((ji30) != 0) = true := bne_iff_ne.mpr c31
                        obtain rfl := Option.some.inj H
                        exact absurd hr_.out (by simp)
                    · rw [if_neg c29] at H
                      exact absurd H (by simp)
                · rw [if_neg c19] at H
                  have c19b0 : (t131 == (ji18)) = false := beq_eq_false_iff_ne.mpr c19
                  have c19b1 : (t131 != (ji18)) = true := bne_iff_ne.mpr c19
                  obtain rfl := Option.some.inj H
                  exact absurd hr_.out (by simp)
              · rw [if_neg c17] at H
                exact absurd H (by simp)
            · rw [if_neg c15] at H
              have c15b0 : (t132 == (ji14)) = false := beq_eq_false_iff_ne.mpr c15
              have c15b1 : (t132 != (ji14)) = true := bne_iff_ne.mpr c15
              obtain rfl := Option.some.inj H
              exact absurd hr_.out (by simp)
          · replace c12 := Bool.eq_false_iff.mpr c12
            subst c12
            have H1 : (some false) = some r := by rw [if_neg (show ¬ (false = true) by decide)] at H; exact H
            clear H
            have H := H1
            clear H1
            obtain rfl := Option.some.inj H
            exact absurd hr_.out (by simp)
        · rw [if_neg c8] at H
          exact absurd H (by simp)

/-- THE ONE PURE STATEMENT of tallysticklaw01_WordShifts: yours. -/
def tallysticklaw01_WordShifts.Pure : Prop := ∀ (a0 : Int) (a1 : Int), (Lit.int .u64 a0).wf = true → (Lit.int .i64 a1).wf = true → ∃ k, tallysticklaw01_WordShifts.f k a0 a1 = some true
theorem tallysticklaw01_WordShifts.walk (P : tallysticklaw01_WordShifts.Pure) (a0 : Int) (a1 : Int) (w : World) (w0 : (Lit.int .u64 a0).wf = true) (w1 : (Lit.int .i64 a1).wf = true) :
    Calls Try.prog 5 #[.int .u64 a0, .int .i64 a1] w fun e w' => e = .returned (.bool true) ∧ Below w.heap.size w w' := by
  obtain ⟨k, h⟩ := P a0 a1 w0 w1
  refine (tallysticklaw01_WordShifts.calls k a0 a1 true w ⟨rfl⟩ h).mono ?_
  rintro e w' ⟨rfl, hd⟩
  exact ⟨rfl, hd⟩

end Go.Proofs.Ytnmfinhmhmepdaa.Pa
