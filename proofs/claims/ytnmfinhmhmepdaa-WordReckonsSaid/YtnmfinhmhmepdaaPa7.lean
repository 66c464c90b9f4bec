/- Contracts of functions and laws, written by this session's program myprint.py by way of the kit's print. -/
import Derived.Test.YtnmfinhmhmepdaaPa0
import Derived.Test.YtnmfinhmhmepdaaPa1
namespace Go.Proofs.Ytnmfinhmhmepdaa.Pa
open Go.RowKit Go.Proofs.Ytnmfinhmhmepdaa.Hand Go.Proofs.YtnmfinhmhmepdaaW.PrintWords Go.Proofs.YtnmfinhmhmepdaaW.PrintLast Go.Proofs.YtnmfinhmhmepdaaW.PrintMore
attribute [local go_sem] max2_int min2_int max_two min_two max_three min_three max_four min_four   -- for this text's walks alone
set_option linter.unusedVariables false
set_option linter.unusedSimpArgs false

/-! ### tallysticklaw01_WordReckons: function 7 -/
def tallysticklaw01_WordReckons.f (k : Nat) (a0 : Int) (a1 : Int) (a2 : Int) : Option (Bool) := (tallysticklaw01_shown.f).bind fun t140 => ((word_Add.f a0 a1 a2).bind fun bt141 => ((tallystickref01_Add.f k a0 a1 a2).bind fun bt143 => ((word_Sub.f a0 a1 a2).bind fun bt145 => ((tallystickref01_Sub.f a0 a1 a2).bind fun bt147 => ((word_Mul.f a0 a1).bind fun bt149 => ((tallystickref01_Mul.f a0 a1).bind fun bt151 => (if t140 = true then (if bt141.1 = bt143.1 then (if bt141.2 = bt143.2 then (if bt145.1 = bt147.1 then (if bt145.2 = bt147.2 then (if bt149.1 = bt151.1 then (some (bt149.2 == bt151.2)) else (some false)) else (some false)) else (some false)) else (some false)) else (some false)) else (some false))))))))
theorem tallysticklaw01_WordReckons.mono : ∀ a0 a1 a2 k, LeO (tallysticklaw01_WordReckons.f k a0 a1 a2) (tallysticklaw01_WordReckons.f (k + 1) a0 a1 a2) := by
  intro a0 a1 a2 k
  unfold tallysticklaw01_WordReckons.f
  repeat' first
      | (with_reducible exact tallystickref01_Add.mono _ _ _ _)
      | (with_reducible exact LeO.refl _)
      | (with_reducible exact LeO.none _)
      | (with_reducible refine LeO.ite ?_ ?_)
      | (with_reducible refine LeO.bind ?_ (fun _ => ?_))
      | exact tallystickref01_Add.mono _ _ _ _
      | exact LeO.none _
      | refine LeO.ite ?_ ?_
      | refine LeO.bind ?_ (fun _ => ?_)
set_option maxHeartbeats 8000000 in
set_option maxRecDepth 100000 in
theorem tallysticklaw01_WordReckons.calls (k : Nat) (a0 : Int) (a1 : Int) (a2 : Int) (r : Bool) (w : World) (hr_ : Aside0 (r = true)) (h : tallysticklaw01_WordReckons.f k a0 a1 a2 = some r) :
    Calls Try.prog 7 #[.int .u64 a0, .int .u64 a1, .int .u64 a2] w fun e w' => e = .returned (.bool r) ∧ Below w.heap.size w w' := by
  have HB := Aside0.mk (Below.refl w.heap.size w)
  have H : ((tallysticklaw01_shown.f).bind fun t140 => ((word_Add.f a0 a1 a2).bind fun bt141 => ((tallystickref01_Add.f k a0 a1 a2).bind fun bt143 => ((word_Sub.f a0 a1 a2).bind fun bt145 => ((tallystickref01_Sub.f a0 a1 a2).bind fun bt147 => ((word_Mul.f a0 a1).bind fun bt149 => ((tallystickref01_Mul.f a0 a1).bind fun bt151 => (if t140 = true then (if bt141.1 = bt143.1 then (if bt141.2 = bt143.2 then (if bt145.1 = bt147.1 then (if bt145.2 = bt147.2 then (if bt149.1 = bt151.1 then (some (bt149.2 == bt151.2)) else (some false)) else (some false)) else (some false)) else (some false)) else (some false)) else (some false))))))))) = some r := h
  clear h
  replace H := Option.bind_eq_some_iff.mp H
  obtain ⟨t140, A40, H⟩ := H
  replace H : ((word_Add.f a0 a1 a2).bind fun bt141 => ((tallystickref01_Add.f k a0 a1 a2).bind fun bt143 => ((word_Sub.f a0 a1 a2).bind fun bt145 => ((tallystickref01_Sub.f a0 a1 a2).bind fun bt147 => ((word_Mul.f a0 a1).bind fun bt149 => ((tallystickref01_Mul.f a0 a1).bind fun bt151 => (if t140 = true then (if bt141.1 = bt143.1 then (if bt141.2 = bt143.2 then (if bt145.1 = bt147.1 then (if bt145.2 = bt147.2 then (if bt149.1 = bt151.1 then (some (bt149.2 == bt151.2)) else (some false)) else (some false)) else (some false)) else (some false)) else (some false)) else (some false)))))))) = some r := H
  have A4 := Aside0.mk A40
  clear A40
  replace H := Option.bind_eq_some_iff.mp H
  obtain ⟨⟨t141, t142⟩, A50, H⟩ := H
  replace H : ((tallystickref01_Add.f k a0 a1 a2).bind fun bt143 => ((word_Sub.f a0 a1 a2).bind fun bt145 => ((tallystickref01_Sub.f a0 a1 a2).bind fun bt147 => ((word_Mul.f a0 a1).bind fun bt149 => ((tallystickref01_Mul.f a0 a1).bind fun bt151 => (if t140 = true then (if t141 = bt143.1 then (if t142 = bt143.2 then (if bt145.1 = bt147.1 then (if bt145.2 = bt147.2 then (if bt149.1 = bt151.1 then (some (bt149.2 == bt151.2)) else (some false)) else (some false)) else (some false)) else (some false)) else (some false)) else (some false))))))) = some r := H
  have A5 := Aside0.mk A50
  clear A50
  replace H := Option.bind_eq_some_iff.mp H
  obtain ⟨⟨t143, t144⟩, A60, H⟩ := H
  replace H : ((word_Sub.f a0 a1 a2).bind fun bt145 => ((tallystickref01_Sub.f a0 a1 a2).bind fun bt147 => ((word_Mul.f a0 a1).bind fun bt149 => ((tallystickref01_Mul.f a0 a1).bind fun bt151 => (if t140 = true then (if t141 = t143 then (if t142 = t144 then (if bt145.1 = bt147.1 then (if bt145.2 = bt147.2 then (if bt149.1 = bt151.1 then (some (bt149.2 == bt151.2)) else (some false)) else (some false)) else (some false)) else (some false)) else (some false)) else (some false)))))) = some r := H
  have A6 := Aside0.mk A60
  clear A60
  replace H := Option.bind_eq_some_iff.mp H
  obtain ⟨⟨t145, t146⟩, A70, H⟩ := H
  replace H : ((tallystickref01_Sub.f a0 a1 a2).bind fun bt147 => ((word_Mul.f a0 a1).bind fun bt149 => ((tallystickref01_Mul.f a0 a1).bind fun bt151 => (if t140 = true then (if t141 = t143 then (if t142 = t144 then (if t145 = bt147.1 then (if t146 = bt147.2 then (if bt149.1 = bt151.1 then (some (bt149.2 == bt151.2)) else (some false)) else (some false)) else (some false)) else (some false)) else (some false)) else (some false))))) = some r := H
  have A7 := Aside0.mk A70
  clear A70
  replace H := Option.bind_eq_some_iff.mp H
  obtain ⟨⟨t147, t148⟩, A80, H⟩ := H
  replace H : ((word_Mul.f a0 a1).bind fun bt149 => ((tallystickref01_Mul.f a0 a1).bind fun bt151 => (if t140 = true then (if t141 = t143 then (if t142 = t144 then (if t145 = t147 then (if t146 = t148 then (if bt149.1 = bt151.1 then (some (bt149.2 == bt151.2)) else (some false)) else (some false)) else (some false)) else (some false)) else (some false)) else (some false)))) = some r := H
  have A8 := Aside0.mk A80
  clear A80
  replace H := Option.bind_eq_some_iff.mp H
  obtain ⟨⟨t149, t150⟩, A90, H⟩ := H
  replace H : ((tallystickref01_Mul.f a0 a1).bind fun bt151 => (if t140 = true then (if t141 = t143 then (if t142 = t144 then (if t145 = t147 then (if t146 = t148 then (if t149 = bt151.1 then (some (t150 == bt151.2)) else (some false)) else (some false)) else (some false)) else (some false)) else (some false)) else (some false))) = some r := H
  have A9 := Aside0.mk A90
  clear A90
  replace H := Option.bind_eq_some_iff.mp H
  obtain ⟨⟨t151, t152⟩, A100, H⟩ := H
  replace H : (if t140 = true then (if t141 = t143 then (if t142 = t144 then (if t145 = t147 then (if t146 = t148 then (if t149 = t151 then (some (t150 == t152)) else (some false)) else (some false)) else (some false)) else (some false)) else (some false)) else (some false)) = some r := H
  have A10 := Aside0.mk A100
  clear A100
  by_cases c11 : t140 = true
  · subst c11
    have H1 : (if t141 = t143 then (if t142 = t144 then (if t145 = t147 then (if t146 = t148 then (if t149 = t151 then (some (t150 == t152)) else (some false)) else (some false)) else (some false)) else (some false)) else (some false)) = some r := by rw [if_pos rfl] at H; exact H
    clear H
    have H := H1
    clear H1
    by_cases c12 : t141 = t143
    · rw [if_pos c12] at H
      have c12b0 : (t141 == t143) = true := beq_iff_eq.mpr c12
      have c12b1 : (t141 != t143) = false := bne_eq_false_iff_eq.mpr c12
      clear c12
      by_cases c13 : t142 = t144
      · rw [if_pos c13] at H
        have c13b0 : (t142 == t144) = true := beq_iff_eq.mpr c13
        have c13b1 : (t142 != t144) = false := bne_eq_false_iff_eq.mpr c13
        clear c13
        by_cases c14 : t145 = t147
        · rw [if_pos c14] at H
          have c14b0 : (t145 == t147) = true := beq_iff_eq.mpr c14
          have c14b1 : (t145 != t147) = false := bne_eq_false_iff_eq.mpr c14
          clear c14
          by_cases c15 : t146 = t148
          · rw [if_pos c15] at H
            have c15b0 : (t146 == t148) = true := beq_iff_eq.mpr c15
            have c15b1 : (t146 != t148) = false := bne_eq_false_iff_eq.mpr c15
            clear c15
            by_cases c16 : t149 = t151
            · rw [if_pos c16] at H
              have c16b0 : (t149 == t151) = true := beq_iff_eq.mpr c16
              have c16b1 : (t149 != t151) = false := bne_eq_false_iff_eq.mpr c16
              clear c16
              obtain rfl := Option.some.inj H
              go_enter Try.func7, Try.ntmps7
              go_wp2_with (first | ((with_reducible refine gate_callee (f := 11) rfl ?_); refine goesL_ (some 20) rfl rfl Try.func11 (by kernel_rfl) rfl #[] rfl (by (try simp only [List.map_toArray, List.map_cons, List.map_nil]); first | done | rfl | (simp only [List.length_drop, List.length_take]; rfl)) ?_; (with_reducible refine (tallysticklaw01_shown.calls  true _ A4.out).mono ?_); rintro e w17 ⟨rfl, hb⟩; clear A4; refine ⟨_, rfl, ?_⟩; have n0_ := Aside0.mk (below_step (by repeat (first | (with_reducible first | exact HB.out | apply below_alloc | apply pw_below_drewN | apply below_drew1) | exact HB.out)) hb); clear HB; have HB := n0_; clear n0_; (try clear hb); (try clear hb2); (try clear hk); (try clear hi)) | ((with_reducible refine gate_callee (f := 14) rfl ?_); refine goesL_ (some 25) rfl rfl Try.func14 (by kernel_rfl) rfl #[.int .u64 a0, .int .u64 a1, .int .u64 a2] rfl (by (try simp only [List.map_toArray, List.map_cons, List.map_nil]); first | done | rfl | (simp only [List.length_drop, List.length_take]; rfl)) ?_; (with_reducible refine (word_Add.calls a0 a1 a2 t141 t142 _ A5.out).mono ?_); rintro e w18 ⟨rfl, hb⟩; clear A5; refine ⟨_, rfl, ?_⟩; have n0_ := Aside0.mk (below_step (by repeat (first | (with_reducible first | exact HB.out | apply below_alloc | apply pw_below_drewN | apply below_drew1) | exact HB.out)) hb); clear HB; have HB := n0_; clear n0_; (try clear hb); (try clear hb2); (try clear hk); (try clear hi)) | ((with_reducible refine gate_callee (f := 17) rfl ?_); refine goesL_ (some 32) rfl rfl Try.func17 (by kernel_rfl) rfl #[.int .u64 a0, .int .u64 a1, .int .u64 a2] rfl (by (try simp only [List.map_toArray, List.map_cons, List.map_nil]); first | done | rfl | (simp only [List.length_drop, List.length_take]; rfl)) ?_; (with_reducible refine (tallystickref01_Add.calls k a0 a1 a2 t143 t144 _ A6.out).mono ?_); rintro e w' ⟨rfl, ⟨nd, rfl⟩⟩; refine ⟨_, rfl, ?_⟩) | ((with_reducible refine gate_callee (f := 18) rfl ?_); refine goesL_ (some 39) rfl rfl Try.func18 (by kernel_rfl) rfl #[.int .u64 a0, .int .u64 a1, .int .u64 a2] rfl (by (try simp only [List.map_toArray, List.map_cons, List.map_nil]); first | done | rfl | (simp only [List.length_drop, List.length_take]; rfl)) ?_; (with_reducible refine (word_Sub.calls a0 a1 a2 t145 t146 _ A7.out).mono ?_); rintro e w19 ⟨rfl, hb⟩; clear A7; refine ⟨_, rfl, ?_⟩; have n0_ := Aside0.mk (below_step (by repeat (first | (with_reducible first | exact HB.out | apply below_alloc | apply pw_below_drewN | apply below_drew1) | exact HB.out)) hb); clear HB; have HB := n0_; clear n0_; (try clear hb); (try clear hb2); (try clear hk); (try clear hi)) | ((with_reducible refine gate_callee (f := 19) rfl ?_); refine goesL_ (some 46) rfl rfl Try.func19 (by kernel_rfl) rfl #[.int .u64 a0, .int .u64 a1, .int .u64 a2] rfl (by (try simp only [List.map_toArray, List.map_cons, List.map_nil]); first | done | rfl | (simp only [List.length_drop, List.length_take]; rfl)) ?_; (with_reducible refine (tallystickref01_Sub.calls a0 a1 a2 t147 t148 _ A8.out).mono ?_); rintro e w' ⟨rfl, ⟨nd, rfl⟩⟩; refine ⟨_, rfl, ?_⟩) | ((with_reducible refine gate_callee (f := 13) rfl ?_); refine goesL_ (some 52) rfl rfl Try.func13 (by kernel_rfl) rfl #[.int .u64 a0, .int .u64 a1] rfl (by (try simp only [List.map_toArray, List.map_cons, List.map_nil]); first | done | rfl | (simp only [List.length_drop, List.length_take]; rfl)) ?_; (with_reducible refine (word_Mul.calls a0 a1 t149 t150 _ A9.out).mono ?_); rintro e w20 ⟨rfl, hb⟩; clear A9; refine ⟨_, rfl, ?_⟩; have n0_ := Aside0.mk (below_step (by repeat (first | (with_reducible first | exact HB.out | apply below_alloc | apply pw_below_drewN | apply below_drew1) | exact HB.out)) hb); clear HB; have HB := n0_; clear n0_; (try clear hb); (try clear hb2); (try clear hk); (try clear hi)) | ((with_reducible refine gate_callee (f := 20) rfl ?_); refine goesL_ (some 58) rfl rfl Try.func20 (by kernel_rfl) rfl #[.int .u64 a0, .int .u64 a1] rfl (by (try simp only [List.map_toArray, List.map_cons, List.map_nil]); first | done | rfl | (simp only [List.length_drop, List.length_take]; rfl)) ?_; (with_reducible refine (tallystickref01_Mul.calls a0 a1 t151 t152 _ A10.out).mono ?_); rintro e w' ⟨rfl, ⟨nd, rfl⟩⟩; refine ⟨_, rfl, ?_⟩))
              go_ret
              exact ⟨by first | rfl | (simp [errW_none, errW_some] <;> rfl) | (simp [*, errW_none, errW_some] <;> rfl), by repeat (first | (with_reducible first | exact HB.out | apply below_alloc | apply pw_below_drewN | apply below_drew1) | exact HB.out)⟩
            · rw [if_neg c16] at H
              have c16b0 : (t149 == t151) = false := beq_eq_false_iff_ne.mpr c16
              have c16b1 : (t149 != t151) = true := bne_iff_ne.mpr c16
              obtain rfl := Option.some.inj H
              exact absurd hr_.out (by simp)
          · rw [if_neg c15] at H
            have c15b0 : (t146 == t148) = false := beq_eq_false_iff_ne.mpr c15
            have c15b1 : (t146 != t148) = true := bne_iff_ne.mpr c15
            obtain rfl := Option.some.inj H
            exact absurd hr_.out (by simp)
        · rw [if_neg c14] at H
          have c14b0 : (t145 == t147) = false := beq_eq_false_iff_ne.mpr c14
          have c14b1 : (t145 != t147) = true := bne_iff_ne.mpr c14
          obtain rfl := Option.some.inj H
          exact absurd hr_.out (by simp)
      · rw [if_neg c13] at H
        have c13b0 : (t142 == t144) = false := beq_eq_false_iff_ne.mpr c13
        have c13b1 : (t142 != t144) = true := bne_iff_ne.mpr c13
        obtain rfl := Option.some.inj H
        exact absurd hr_.out (by simp)
    · rw [if_neg c12] at H
      have c12b0 : (t141 == t143) = false := beq_eq_false_iff_ne.mpr c12
      have c12b1 : (t141 != t143) = true := bne_iff_ne.mpr c12
      obtain rfl := Option.some.inj H
      exact absurd hr_.out (by simp)
  · replace c11 := Bool.eq_false_iff.mpr c11
    subst c11
    have H1 : (some false) = some r := by rw [if_neg (show ¬ (false = true) by decide)] at H; exact H
    clear H
    have H := H1
    clear H1
    obtain rfl := Option.some.inj H
    exact absurd hr_.out (by simp)

/-- THE ONE PURE STATEMENT of tallysticklaw01_WordReckons: yours. -/
def tallysticklaw01_WordReckons.Pure : Prop := ∀ (a0 : Int) (a1 : Int) (a2 : Int), (Lit.int .u64 a0).wf = true → (Lit.int .u64 a1).wf = true → (Lit.int .u64 a2).wf = true → ∃ k, tallysticklaw01_WordReckons.f k a0 a1 a2 = some true
theorem tallysticklaw01_WordReckons.walk (P : tallysticklaw01_WordReckons.Pure) (a0 : Int) (a1 : Int) (a2 : Int) (w : World) (w0 : (Lit.int .u64 a0).wf = true) (w1 : (Lit.int .u64 a1).wf = true) (w2 : (Lit.int .u64 a2).wf = true) :
    Calls Try.prog 7 #[.int .u64 a0, .int .u64 a1, .int .u64 a2] w fun e w' => e = .returned (.bool true) ∧ Below w.heap.size w w' := by
  obtain ⟨k, h⟩ := P a0 a1 a2 w0 w1 w2
  refine (tallysticklaw01_WordReckons.calls k a0 a1 a2 true w ⟨rfl⟩ h).mono ?_
  rintro e w' ⟨rfl, hd⟩
  exact ⟨rfl, hd⟩

end Go.Proofs.Ytnmfinhmhmepdaa.Pa
