/- Contracts of functions and laws, written by this session's program myprint.py by way of the kit's print. -/
import Derived.Test.YtnmfinhmhmepdaaPa0
import Derived.Test.YtnmfinhmhmepdaaPa1
namespace Go.Proofs.Ytnmfinhmhmepdaa.Pa
open Go.RowKit Go.Proofs.Ytnmfinhmhmepdaa.Hand Go.Proofs.YtnmfinhmhmepdaaW.PrintWords Go.Proofs.YtnmfinhmhmepdaaW.PrintLast Go.Proofs.YtnmfinhmhmepdaaW.PrintMore
attribute [local go_sem] max2_int min2_int max_two min_two max_three min_three max_four min_four   -- for this text's walks alone
set_option linter.unusedVariables false
set_option linter.unusedSimpArgs false

/-! ### tallysticklaw01_WordGcds: function 6 -/
def tallysticklaw01_WordGcds.j0 : Nat → Int → Int → Int → Bool → Int → Bool → Option (Bool)
  | 0, _, _, _, _, _, _ => none
  | k + 1, x0, x1, x2, x7, x8, x18 => if x18 = true then (if x7 = true then (some (x8 == (IntKind.u64.wrap (x0 + x1)))) else (some false)) else (if x2 > 0 then (if x2 = 0 then (none) else (if (Int.tmod x0 x2) = 0 then (if (Int.tmod x1 x2) = 0 then (if (Int.tmod x8 x2) = 0 then (if x7 = true then (if x8 > 0 then (if x8 = 0 then (none) else (if (Int.tmod x0 x8) = 0 then (if (Int.tmod x1 x8) = 0 then ((word_Gcd.f x1 x0).bind fun t136 => (some (x8 == t136))) else (some false)) else (some false))) else (some false)) else (some false)) else (some false)) else (if x7 = true then (if x8 > 0 then (if x8 = 0 then (none) else (if (Int.tmod x0 x8) = 0 then (if (Int.tmod x1 x8) = 0 then ((word_Gcd.f x1 x0).bind fun t137 => (some (x8 == t137))) else (some false)) else (some false))) else (some false)) else (some false))) else (if x7 = true then (if x8 > 0 then (if x8 = 0 then (none) else (if (Int.tmod x0 x8) = 0 then (if (Int.tmod x1 x8) = 0 then ((word_Gcd.f x1 x0).bind fun t138 => (some (x8 == t138))) else (some false)) else (some false))) else (some false)) else (some false)))) else (if x7 = true then (if x8 > 0 then (if x8 = 0 then (none) else (if (Int.tmod x0 x8) = 0 then (if (Int.tmod x1 x8) = 0 then ((word_Gcd.f x1 x0).bind fun t139 => (some (x8 == t139))) else (some false)) else (some false))) else (some false)) else (some false)))
def tallysticklaw01_WordGcds.f (k : Nat) (a0 : Int) (a1 : Int) (a2 : Int) : Option (Bool) := (tallysticklaw01_shown.f).bind fun t134 => ((word_Gcd.f a0 a1).bind fun t135 => (if a0 = 0 then (tallysticklaw01_WordGcds.j0 k a0 a1 a2 t134 t135 true) else (tallysticklaw01_WordGcds.j0 k a0 a1 a2 t134 t135 (a1 == 0))))
theorem tallysticklaw01_WordGcds.mono_l : ∀ k, (∀ y0 y1 y2 y3 y4 y5, LeO (tallysticklaw01_WordGcds.j0 k y0 y1 y2 y3 y4 y5) (tallysticklaw01_WordGcds.j0 (k + 1) y0 y1 y2 y3 y4 y5))
  | 0 => fun _ _ _ _ _ _ r h => by simp [tallysticklaw01_WordGcds.j0] at h
  | k + 1 => by
    have ih0 := tallysticklaw01_WordGcds.mono_l k
    · intro y0 y1 y2 y3 y4 y5
      unfold tallysticklaw01_WordGcds.j0
      repeat' first
      | (with_reducible exact ih0 _ _ _ _ _ _)
      | (with_reducible exact LeO.refl _)
      | (with_reducible exact LeO.none _)
      | (with_reducible refine LeO.ite ?_ ?_)
      | (with_reducible refine LeO.bind ?_ (fun _ => ?_))
      | exact ih0 _ _ _ _ _ _
      | exact LeO.none _
      | refine LeO.ite ?_ ?_
      | refine LeO.bind ?_ (fun _ => ?_)
theorem tallysticklaw01_WordGcds.mono : ∀ a0 a1 a2 k, LeO (tallysticklaw01_WordGcds.f k a0 a1 a2) (tallysticklaw01_WordGcds.f (k + 1) a0 a1 a2) := by
  intro a0 a1 a2 k
  have ih0 := tallysticklaw01_WordGcds.mono_l k
  unfold tallysticklaw01_WordGcds.f
  repeat' first
      | (with_reducible exact ih0 _ _ _ _ _ _)
      | (with_reducible exact LeO.refl _)
      | (with_reducible exact LeO.none _)
      | (with_reducible refine LeO.ite ?_ ?_)
      | (with_reducible refine LeO.bind ?_ (fun _ => ?_))
      | exact ih0 _ _ _ _ _ _
      | exact LeO.none _
      | refine LeO.ite ?_ ?_
      | refine LeO.bind ?_ (fun _ => ?_)
set_option maxHeartbeats 8000000 in
set_option maxRecDepth 100000 in
theorem tallysticklaw01_WordGcds.calls (k : Nat) (a0 : Int) (a1 : Int) (a2 : Int) (r : Bool) (w : World) (hr_ : Aside0 (r = true)) (h : tallysticklaw01_WordGcds.f k a0 a1 a2 = some r) :
    Calls Try.prog 6 #[.int .u64 a0, .int .u64 a1, .int .u64 a2] w fun e w' => e = .returned (.bool r) ∧ Below w.heap.size w w' := by
  have HB := Aside0.mk (Below.refl w.heap.size w)
  have H : ((tallysticklaw01_shown.f).bind fun t134 => ((word_Gcd.f a0 a1).bind fun t135 => (if a0 = 0 then (tallysticklaw01_WordGcds.j0 k a0 a1 a2 t134 t135 true) else (tallysticklaw01_WordGcds.j0 k a0 a1 a2 t134 t135 (a1 == 0))))) = some r := h
  clear h
  replace H := Option.bind_eq_some_iff.mp H
  obtain ⟨t134, A40, H⟩ := H
  replace H : ((word_Gcd.f a0 a1).bind fun t135 => (if a0 = 0 then (tallysticklaw01_WordGcds.j0 k a0 a1 a2 t134 t135 true) else (tallysticklaw01_WordGcds.j0 k a0 a1 a2 t134 t135 (a1 == 0)))) = some r := H
  have A4 := Aside0.mk A40
  clear A40
  replace H := Option.bind_eq_some_iff.mp H
  obtain ⟨t135, A50, H⟩ := H
  replace H : (if a0 = 0 then (tallysticklaw01_WordGcds.j0 k a0 a1 a2 t134 t135 true) else (tallysticklaw01_WordGcds.j0 k a0 a1 a2 t134 t135 (a1 == 0))) = some r := H
  have A5 := Aside0.mk A50
  clear A50
  have HC6 := Aside0.mk H
  clear H
  go_enter Try.func6, Try.ntmps6
  go_upto_region 3 with (first | ((with_reducible refine gate_callee (f := 11) rfl ?_); refine goesL_ (some 9) rfl rfl Try.func11 (by kernel_rfl) rfl #[] rfl (by (try simp only [List.map_toArray, List.map_cons, List.map_nil]); first | done | rfl | (simp only [List.length_drop, List.length_take]; rfl)) ?_; (with_reducible refine (tallysticklaw01_shown.calls  t134 _ A4.out).mono ?_); rintro e w7 ⟨rfl, hb⟩; clear A4; refine ⟨_, rfl, ?_⟩; have n0_ := Aside0.mk (below_step (by repeat (first | (with_reducible first | exact HB.out | apply below_alloc | apply pw_below_drewN | apply below_drew1) | exact HB.out)) hb); clear HB; have HB := n0_; clear n0_; (try clear hb); (try clear hb2); (try clear hk); (try clear hi)) | ((with_reducible refine gate_callee (f := 16) rfl ?_); refine goesL_ (some 12) rfl rfl Try.func16 (by kernel_rfl) rfl #[.int .u64 a0, .int .u64 a1] rfl (by (try simp only [List.map_toArray, List.map_cons, List.map_nil]); first | done | rfl | (simp only [List.length_drop, List.length_take]; rfl)) ?_; (with_reducible refine (word_Gcd.calls a0 a1 t135 _ A5.out).mono ?_); rintro e w8 ⟨rfl, hb⟩; clear A5; refine ⟨_, rfl, ?_⟩; have n0_ := Aside0.mk (below_step (by repeat (first | (with_reducible first | exact HB.out | apply below_alloc | apply pw_below_drewN | apply below_drew1) | exact HB.out)) hb); clear HB; have HB := n0_; clear n0_; (try clear hb); (try clear hb2); (try clear hk); (try clear hi)))
  (try simp only [Act.put, List.setIfInBounds_toArray, List.set_cons_zero, List.set_cons_succ])
  go_cut [18] (fun v18 wc => ∃ (kq : Nat) (x18_5 : Bool), v18 = .bool x18_5 ∧ Aside0 (tallysticklaw01_WordGcds.j0 kq a0 a1 a2 t134 t135 x18_5 = some r) ∧ Aside0 (kq ≤ k) ∧ Aside0 (Below w.heap.size w wc))
  case first =>
    have H := HC6.out
    clear HC6
    by_cases c9 : a0 = 0
    · rw [if_pos c9] at H
      have c9b0 : (a0 == 0) = true := beq_iff_eq.mpr c9
      have c9b1 : (a0 != 0) = false := bne_eq_false_iff_eq.mpr c9
      clear c9
      (first | rw [c9b0] | (simp only [i64_w, i32_w]; rw [c9b0]) | skip)
      have H' := Aside0.mk H
      clear H
      go_wp2
      go_meet
      case rel => exact ⟨_, (true), (by first | rfl | (simp; done) | (simp [*]; done)), H', ⟨by first | omega | exact Nat.le_refl _⟩, ⟨by repeat (first | (with_reducible first | exact HB.out | apply below_alloc | apply pw_below_drewN | apply below_drew1) | exact HB.out)⟩⟩
    · rw [if_neg c9] at H
      have c9b0 : (a0 == 0) = false := beq_eq_false_iff_ne.mpr c9
      have c9b1 : (a0 != 0) = true := bne_iff_ne.mpr c9
      (first | rw [c9b0] | (simp only [i64_w, i32_w]; rw [c9b0]) | skip)
      have H' := Aside0.mk H
      clear H
      go_wp2
      go_meet
      case rel => exact ⟨_, ((a1 == 0)), (by first | rfl | (simp; done) | (simp [*]; done)), H', ⟨by first | omega | exact Nat.le_refl _⟩, ⟨by repeat (first | (with_reducible first | exact HB.out | apply below_alloc | apply pw_below_drewN | apply below_drew1) | exact HB.out)⟩⟩
  case rest =>
    clear HC6
    try clear c1
    try clear p2
    try clear c6
    try clear c9
    try clear c9b0
    try clear c9b1
    obtain ⟨kq, x18_5, rfl, HA, HJ5, HB⟩ := hcut
    cases kq with
    | zero => exact absurd HA.out (by simp [tallysticklaw01_WordGcds.j0])
    | succ kj5 =>
      have H := HA.out
      clear HA
      simp only [tallysticklaw01_WordGcds.j0] at H
      by_cases c10 : x18_5 = true
      · subst c10
        have H1 : (if t134 = true then (some (t135 == (IntKind.u64.wrap (a0 + a1)))) else (some false)) = some r := by rw [if_pos rfl] at H; exact H
        clear H
        have H := H1
        clear H1
        by_cases c11 : t134 = true
        · subst c11
          have H1 : (some (t135 == (IntKind.u64.wrap (a0 + a1)))) = some r := by rw [if_pos rfl] at H; exact H
          clear H
          have H := H1
          clear H1
          obtain rfl := Option.some.inj H
          go_wp2
          go_ret
          exact ⟨by first | rfl | (simp [errW_none, errW_some] <;> rfl) | (simp [*, errW_none, errW_some] <;> rfl), by repeat (first | (with_reducible first | exact HB.out | apply below_alloc | apply pw_below_drewN | apply below_drew1) | exact HB.out)⟩
        · replace c11 := Bool.eq_false_iff.mpr c11
          subst c11
          have H1 : (some false) = some r := by rw [if_neg (show ¬ (false = true) by decide)] at H; exact H
          clear H
          have H := H1
          clear H1
          obtain rfl := Option.some.inj H
          exact absurd hr_.out (by simp)
      · replace c10 := Bool.eq_false_iff.mpr c10
        subst c10
        have H1 : (if a2 > 0 then (if a2 = 0 then (none) else (if (Int.tmod a0 a2) = 0 then (if (Int.tmod a1 a2) = 0 then (if (Int.tmod t135 a2) = 0 then (if t134 = true then (if t135 > 0 then (if t135 = 0 then (none) else (if (Int.tmod a0 t135) = 0 then (if (Int.tmod a1 t135) = 0 then ((word_Gcd.f a1 a0).bind fun t136 => (some (t135 == t136))) else (some false)) else (some false))) else (some false)) else (some false)) else (some false)) else (if t134 = true then (if t135 > 0 then (if t135 = 0 then (none) else (if (Int.tmod a0 t135) = 0 then (if (Int.tmod a1 t135) = 0 then ((word_Gcd.f a1 a0).bind fun t137 => (some (t135 == t137))) else (some false)) else (some false))) else (some false)) else (some false))) else (if t134 = true then (if t135 > 0 then (if t135 = 0 then (none) else (if (Int.tmod a0 t135) = 0 then (if (Int.tmod a1 t135) = 0 then ((word_Gcd.f a1 a0).bind fun t138 => (some (t135 == t138))) else (some false)) else (some false))) else (some false)) else (some false)))) else (if t134 = true then (if t135 > 0 then (if t135 = 0 then (none) else (if (Int.tmod a0 t135) = 0 then (if (Int.tmod a1 t135) = 0 then ((word_Gcd.f a1 a0).bind fun t139 => (some (t135 == t139))) else (some false)) else (some false))) else (some false)) else (some false))) = some r := by rw [if_neg (show ¬ (false = true) by decide)] at H; exact H
        clear H
        have H := H1
        clear H1
        by_cases c12 : a2 > 0
        · rw [if_pos c12] at H
          have c12b0 : decide (0 < a2) = true := decide_eq_true c12
          clear c12
          by_cases c13 : a2 = 0
          · rw [if_pos c13] at H
            exact absurd H (by simp)
          · rw [if_neg c13] at H
            have c13b0 : (a2 == 0) = false := beq_eq_false_iff_ne.mpr c13
            have c13b1 : (a2 != 0) = true := bne_iff_ne.mpr c13
            by_cases c14 : (Int.tmod a0 a2) = 0
            · rw [if_pos c14] at H
              have c14b0 : ((Int.tmod a0 a2) == 0) = true := beq_iff_eq.mpr c14
              have c14b1 : ((Int.tmod a0 a2) != 0) = false := bne_eq_false_iff_eq.mpr c14
              clear c14
              by_cases c15 : (Int.tmod a1 a2) = 0
              · rw [if_pos c15] at H
                have c15b0 : ((Int.tmod a1 a2) == 0) = true := beq_iff_eq.mpr c15
                have c15b1 : ((Int.tmod a1 a2) != 0) = false := bne_eq_false_iff_eq.mpr c15
                clear c15
                by_cases c16 : (Int.tmod t135 a2) = 0
                · rw [if_pos c16] at H
                  have c16b0 : ((Int.tmod t135 a2) == 0) = true := beq_iff_eq.mpr c16
                  have c16b1 : ((Int.tmod t135 a2) != 0) = false := bne_eq_false_iff_eq.mpr c16
                  clear c16
                  by_cases c17 : t134 = true
                  · subst c17
                    have H1 : (if t135 > 0 then (if t135 = 0 then (none) else (if (Int.tmod a0 t135) = 0 then (if (Int.tmod a1 t135) = 0 then ((word_Gcd.f a1 a0).bind fun t136 => (some (t135 == t136))) else (some false)) else (some false))) else (some false)) = some r := by rw [if_pos rfl] at H; exact H
                    clear H
                    have H := H1
                    clear H1
                    by_cases c18 : t135 > 0
                    · rw [if_pos c18] at H
                      have c18b0 : decide (0 < t135) = true := decide_eq_true c18
                      clear c18
                      by_cases c19 : t135 = 0
                      · rw [if_pos c19] at H
                        exact absurd H (by simp)
                      · rw [if_neg c19] at H
                        have c19b0 : (t135 == 0) = false := beq_eq_false_iff_ne.mpr c19
                        have c19b1 : (t135 != 0) = true := bne_iff_ne.mpr c19
                        by_cases c20 : (Int.tmod a0 t135) = 0
                        · rw [if_pos c20] at H
                          have c20b0 : ((Int.tmod a0 t135) == 0) = true := beq_iff_eq.mpr c20
                          have c20b1 : ((Int.tmod a0 t135) != 0) = false := bne_eq_false_iff_eq.mpr c20
                          clear c20
                          by_cases c21 : (Int.tmod a1 t135) = 0
                          · rw [if_pos c21] at H
                            have c21b0 : ((Int.tmod a1 t135) == 0) = true := beq_iff_eq.mpr c21
                            have c21b1 : ((Int.tmod a1 t135) != 0) = false := bne_eq_false_iff_eq.mpr c21
                            clear c21
                            replace H := Option.bind_eq_some_iff.mp H
                            obtain ⟨t136, A220, H⟩ := H
                            replace H : (some (t135 == t136)) = some r := H
                            have A22 := Aside0.mk A220
                            clear A220
                            obtain rfl := Option.some.inj H
                            go_wp2_with (first | (go_at_call 16; (with_reducible refine (word_Gcd.calls a1 a0 t136 _ A22.out).mono ?_); rintro e w23 ⟨rfl, hb⟩; clear A22; have n0_ := Aside0.mk (below_step (by repeat (first | (with_reducible first | exact HB.out | apply below_alloc | apply pw_below_drewN | apply below_drew1) | exact HB.out)) hb); clear HB; have HB := n0_; clear n0_; (try clear hb); (try clear hb2); (try clear hk); (try clear hi)))
                            go_ret
                            exact ⟨by first | rfl | (simp [errW_none, errW_some] <;> rfl) | (simp [*, errW_none, errW_some] <;> rfl), by repeat (first | (with_reducible first | exact HB.out | apply below_alloc | apply pw_below_drewN | apply below_drew1) | exact HB.out)⟩
                          · rw [if_neg c21] at H
                            have c21b0 : ((Int.tmod a1 t135) == 0) = false := beq_eq_false_iff_ne.mpr c21
                            have c21b1 : ((Int.tmod a1 t135) != 0) = true := bne_iff_ne.mpr c21
                            obtain rfl := Option.some.inj H
                            exact absurd hr_.out (by simp)
                        · rw [if_neg c20] at H
                          have c20b0 : ((Int.tmod a0 t135) == 0) = false := beq_eq_false_iff_ne.mpr c20
                          have c20b1 : ((Int.tmod a0 t135) != 0) = true := bne_iff_ne.mpr c20
                          obtain rfl := Option.some.inj H
                          exact absurd hr_.out (by simp)
                    · rw [if_neg c18] at H
                      have c18b0 : decide (0 < t135) = false := decide_eq_false c18
                      clear c18
                      obtain rfl := Option.some.inj H
                      exact absurd hr_.out (by simp)
                  · replace c17 := Bool.eq_false_iff.mpr c17
                    subst c17
                    have H1 : (some false) = some r := by rw [if_neg (show ¬ (false = true) by decide)] at H; exact H
                    clear H
                    have H := H1
                    clear H1
                    obtain rfl := Option.some.inj H
                    exact absurd hr_.out (by simp)
                · rw [if_neg c16] at H
                  have c16b0 : ((Int.tmod t135 a2) == 0) = false := beq_eq_false_iff_ne.mpr c16
                  have c16b1 : ((Int.tmod t135 a2) != 0) = true := bne_iff_ne.mpr c16
                  obtain rfl := Option.some.inj H
                  exact absurd hr_.out (by simp)
              · rw [if_neg c15] at H
                have c15b0 : ((Int.tmod a1 a2) == 0) = false := beq_eq_false_iff_ne.mpr c15
                have c15b1 : ((Int.tmod a1 a2) != 0) = true := bne_iff_ne.mpr c15
                by_cases c24 : t134 = true
                · subst c24
                  have H1 : (if t135 > 0 then (if t135 = 0 then (none) else (if (Int.tmod a0 t135) = 0 then (if (Int.tmod a1 t135) = 0 then ((word_Gcd.f a1 a0).bind fun t137 => (some (t135 == t137))) else (some false)) else (some false))) else (some false)) = some r := by rw [if_pos rfl] at H; exact H
                  clear H
                  have H := H1
                  clear H1
                  by_cases c25 : t135 > 0
                  · rw [if_pos c25] at H
                    have c25b0 : decide (0 < t135) = true := decide_eq_true c25
                    clear c25
                    by_cases c26 : t135 = 0
                    · rw [if_pos c26] at H
                      exact absurd H (by simp)
                    · rw [if_neg c26] at H
                      have c26b0 : (t135 == 0) = false := beq_eq_false_iff_ne.mpr c26
                      have c26b1 : (t135 != 0) = true := bne_iff_ne.mpr c26
                      by_cases c27 : (Int.tmod a0 t135) = 0
                      · rw [if_pos c27] at H
                        have c27b0 : ((Int.tmod a0 t135) == 0) = true := beq_iff_eq.mpr c27
                        have c27b1 : ((Int.tmod a0 t135) != 0) = false := bne_eq_false_iff_eq.mpr c27
                        clear c27
                        by_cases c28 : (Int.tmod a1 t135) = 0
                        · rw [if_pos c28] at H
                          have c28b0 : ((Int.tmod a1 t135) == 0) = true := beq_iff_eq.mpr c28
                          have c28b1 : ((Int.tmod a1 t135) != 0) = false := bne_eq_false_iff_eq.mpr c28
                          clear c28
                          replace H := Option.bind_eq_some_iff.mp H
                          obtain ⟨t137, A290, H⟩ := H
                          replace H : (some (t135 == t137)) = some r := H
                          have A29 := Aside0.mk A290
                          clear A290
                          obtain rfl := Option.some.inj H
                          go_wp2_with (first | (go_at_call 16; (with_reducible refine (word_Gcd.calls a1 a0 t137 _ A29.out).mono ?_); rintro e w30 ⟨rfl, hb⟩; clear A29; have n0_ := Aside0.mk (below_step (by repeat (first | (with_reducible first | exact HB.out | apply below_alloc | apply pw_below_drewN | apply below_drew1) | exact HB.out)) hb); clear HB; have HB := n0_; clear n0_; (try clear hb); (try clear hb2); (try clear hk); (try clear hi)))
                          go_ret
                          exact ⟨by first | rfl | (simp [errW_none, errW_some] <;> rfl) | (simp [*, errW_none, errW_some] <;> rfl), by repeat (first | (with_reducible first | exact HB.out | apply below_alloc | apply pw_below_drewN | apply below_drew1) | exact HB.out)⟩
                        · rw [if_neg c28] at H
                          have c28b0 : ((Int.tmod a1 t135) == 0) = false := beq_eq_false_iff_ne.mpr c28
                          have c28b1 : ((Int.tmod a1 t135) != 0) = true := bne_iff_ne.mpr c28
                          obtain rfl := Option.some.inj H
                          exact absurd hr_.out (by simp)
                      · rw [if_neg c27] at H
                        have c27b0 : ((Int.tmod a0 t135) == 0) = false := beq_eq_false_iff_ne.mpr c27
                        have c27b1 : ((Int.tmod a0 t135) != 0) = true := bne_iff_ne.mpr c27
                        obtain rfl := Option.some.inj H
                        exact absurd hr_.out (by simp)
                  · rw [if_neg c25] at H
                    have c25b0 : decide (0 < t135) = false := decide_eq_false c25
                    clear c25
                    obtain rfl := Option.some.inj H
                    exact absurd hr_.out (by simp)
                · replace c24 := Bool.eq_false_iff.mpr c24
                  subst c24
                  have H1 : (some false) = some r := by rw [if_neg (show ¬ (false = true) by decide)] at H; exact H
                  clear H
                  have H := H1
                  clear H1
                  obtain rfl := Option.some.inj H
                  exact absurd hr_.out (by simp)
            · rw [if_neg c14] at H
              have c14b0 : ((Int.tmod a0 a2) == 0) = false := beq_eq_false_iff_ne.mpr c14
              have c14b1 : ((Int.tmod a0 a2) != 0) = true := bne_iff_ne.mpr c14
              by_cases c31 : t134 = true
              · subst c31
                have H1 : (if t135 > 0 then (if t135 = 0 then (none) else (if (Int.tmod a0 t135) = 0 then (if (Int.tmod a1 t135) = 0 then ((word_Gcd.f a1 a0).bind fun t138 => (some (t135 == t138))) else (some false)) else (some false))) else (some false)) = some r := by rw [if_pos rfl] at H; exact H
                clear H
                have H := H1
                clear H1
                by_cases c32 : t135 > 0
                · rw [if_pos c32] at H
                  have c32b0 : decide (0 < t135) = true := decide_eq_true c32
                  clear c32
                  by_cases c33 : t135 = 0
                  · rw [if_pos c33] at H
                    exact absurd H (by simp)
                  · rw [if_neg c33] at H
                    have c33b0 : (t135 == 0) = false := beq_eq_false_iff_ne.mpr c33
                    have c33b1 : (t135 != 0) = true := bne_iff_ne.mpr c33
                    by_cases c34 : (Int.tmod a0 t135) = 0
                    · rw [if_pos c34] at H
                      have c34b0 : ((Int.tmod a0 t135) == 0) = true := beq_iff_eq.mpr c34
                      have c34b1 : ((Int.tmod a0 t135) != 0) = false := bne_eq_false_iff_eq.mpr c34
                      clear c34
                      by_cases c35 : (Int.tmod a1 t135) = 0
                      · rw [if_pos c35] at H
                        have c35b0 : ((Int.tmod a1 t135) == 0) = true := beq_iff_eq.mpr c35
                        have c35b1 : ((Int.tmod a1 t135) != 0) = false := bne_eq_false_iff_eq.mpr c35
                        clear c35
                        replace H := Option.bind_eq_some_iff.mp H
                        obtain ⟨t138, A360, H⟩ := H
                        replace H : (some (t135 == t138)) = some r := H
                        have A36 := Aside0.mk A360
                        clear A360
                        obtain rfl := Option.some.inj H
                        go_wp2_with (first | (go_at_call 16; (with_reducible refine (word_Gcd.calls a1 a0 t138 _ A36.out).mono ?_); rintro e w37 ⟨rfl, hb⟩; clear A36; have n0_ := Aside0.mk (below_step (by repeat (first | (with_reducible first | exact HB.out | apply below_alloc | apply pw_below_drewN | apply below_drew1) | exact HB.out)) hb); clear HB; have HB := n0_; clear n0_; (try clear hb); (try clear hb2); (try clear hk); (try clear hi)))
                        go_ret
                        exact ⟨by first | rfl | (simp [errW_none, errW_some] <;> rfl) | (simp [*, errW_none, errW_some] <;> rfl), by repeat (first | (with_reducible first | exact HB.out | apply below_alloc | apply pw_below_drewN | apply below_drew1) | exact HB.out)⟩
                      · rw [if_neg c35] at H
                        have c35b0 : ((Int.tmod a1 t135) == 0) = false := beq_eq_false_iff_ne.mpr c35
                        have c35b1 : ((Int.tmod a1 t135) != 0) = true := bne_iff_ne.mpr c35
                        obtain rfl := Option.some.inj H
                        exact absurd hr_.out (by simp)
                    · rw [if_neg c34] at H
                      have c34b0 : ((Int.tmod a0 t135) == 0) = false := beq_eq_false_iff_ne.mpr c34
                      have c34b1 : ((Int.tmod a0 t135) != 0) = true := bne_iff_ne.mpr c34
                      obtain rfl := Option.some.inj H
                      exact absurd hr_.out (by simp)
                · rw [if_neg c32] at H
                  have c32b0 : decide (0 < t135) = false := decide_eq_false c32
                  clear c32
                  obtain rfl := Option.some.inj H
                  exact absurd hr_.out (by simp)
              · replace c31 := Bool.eq_false_iff.mpr c31
                subst c31
                have H1 : (some false) = some r := by rw [if_neg (show ¬ (false = true) by decide)] at H; exact H
                clear H
                have H := H1
                clear H1
                obtain rfl := Option.some.inj H
                exact absurd hr_.out (by simp)
        · rw [if_neg c12] at H
          have c12b0 : decide (0 < a2) = false := decide_eq_false c12
          clear c12
          by_cases c38 : t134 = true
          · subst c38
            have H1 : (if t135 > 0 then (if t135 = 0 then (none) else (if (Int.tmod a0 t135) = 0 then (if (Int.tmod a1 t135) = 0 then ((word_Gcd.f a1 a0).bind fun t139 => (some (t135 == t139))) else (some false)) else (some false))) else (some false)) = some r := by rw [if_pos rfl] at H; exact H
            clear H
            have H := H1
            clear H1
            by_cases c39 : t135 > 0
            · rw [if_pos c39] at H
              have c39b0 : decide (0 < t135) = true := decide_eq_true c39
              clear c39
              by_cases c40 : t135 = 0
              · rw [if_pos c40] at H
                exact absurd H (by simp)
              · rw [if_neg c40] at H
                have c40b0 : (t135 == 0) = false := beq_eq_false_iff_ne.mpr c40
                have c40b1 : (t135 != 0) = true := bne_iff_ne.mpr c40
                by_cases c41 : (Int.tmod a0 t135) = 0
                · rw [if_pos c41] at H
                  have c41b0 : ((Int.tmod a0 t135) == 0) = true := beq_iff_eq.mpr c41
                  have c41b1 : ((Int.tmod a0 t135) != 0) = false := bne_eq_false_iff_eq.mpr c41
                  clear c41
                  by_cases c42 : (Int.tmod a1 t135) = 0
                  · rw [if_pos c42] at H
                    have c42b0 : ((Int.tmod a1 t135) == 0) = true := beq_iff_eq.mpr c42
                    have c42b1 : ((Int.tmod a1 t135) != 0) = false := bne_eq_false_iff_eq.mpr c42
                    clear c42
                    replace H := Option.bind_eq_some_iff.mp H
                    obtain ⟨t139, A430, H⟩ := H
                    replace H : (some (t135 == t139)) = some r := H
                    have A43 := Aside0.mk A430
                    clear A430
                    obtain rfl := Option.some.inj H
                    go_wp2_with (first | (go_at_call 16; (with_reducible refine (word_Gcd.calls a1 a0 t139 _ A43.out).mono ?_); rintro e w44 ⟨rfl, hb⟩; clear A43; have n0_ := Aside0.mk (below_step (by repeat (first | (with_reducible first | exact HB.out | apply below_alloc | apply pw_below_drewN | apply below_drew1) | exact HB.out)) hb); clear HB; have HB := n0_; clear n0_; (try clear hb); (try clear hb2); (try clear hk); (try clear hi)))
                    go_ret
                    exact ⟨by first | rfl | (simp [errW_none, errW_some] <;> rfl) | (simp [*, errW_none, errW_some] <;> rfl), by repeat (first | (with_reducible first | exact HB.out | apply below_alloc | apply pw_below_drewN | apply below_drew1) | exact HB.out)⟩
                  · rw [if_neg c42] at H
                    have c42b0 : ((Int.tmod a1 t135) == 0) = false := beq_eq_false_iff_ne.mpr c42
                    have c42b1 : ((Int.tmod a1 t135) != 0) = true := bne_iff_ne.mpr c42
                    obtain rfl := Option.some.inj H
                    exact absurd hr_.out (by simp)
                · rw [if_neg c41] at H
                  have c41b0 : ((Int.tmod a0 t135) == 0) = false := beq_eq_false_iff_ne.mpr c41
                  have c41b1 : ((Int.tmod a0 t135) != 0) = true := bne_iff_ne.mpr c41
                  obtain rfl := Option.some.inj H
                  exact absurd hr_.out (by simp)
            · rw [if_neg c39] at H
              have c39b0 : decide (0 < t135) = false := decide_eq_false c39
              clear c39
              obtain rfl := Option.some.inj H
              exact absurd hr_.out (by simp)
          · replace c38 := Bool.eq_false_iff.mpr c38
            subst c38
            have H1 : (some false) = some r := by rw [if_neg (show ¬ (false = true) by decide)] at H; exact H
            clear H
            have H := H1
            clear H1
            obtain rfl := Option.some.inj H
            exact absurd hr_.out (by simp)

/-- THE ONE PURE STATEMENT of tallysticklaw01_WordGcds: yours. -/
def tallysticklaw01_WordGcds.Pure : Prop := ∀ (a0 : Int) (a1 : Int) (a2 : Int), (Lit.int .u64 a0).wf = true → (Lit.int .u64 a1).wf = true → (Lit.int .u64 a2).wf = true → ∃ k, tallysticklaw01_WordGcds.f k a0 a1 a2 = some true
theorem tallysticklaw01_WordGcds.walk (P : tallysticklaw01_WordGcds.Pure) (a0 : Int) (a1 : Int) (a2 : Int) (w : World) (w0 : (Lit.int .u64 a0).wf = true) (w1 : (Lit.int .u64 a1).wf = true) (w2 : (Lit.int .u64 a2).wf = true) :
    Calls Try.prog 6 #[.int .u64 a0, .int .u64 a1, .int .u64 a2] w fun e w' => e = .returned (.bool true) ∧ Below w.heap.size w w' := by
  obtain ⟨k, h⟩ := P a0 a1 a2 w0 w1 w2
  refine (tallysticklaw01_WordGcds.calls k a0 a1 a2 true w ⟨rfl⟩ h).mono ?_
  rintro e w' ⟨rfl, hd⟩
  exact ⟨rfl, hd⟩

end Go.Proofs.Ytnmfinhmhmepdaa.Pa
