/- Contracts of functions and laws, written by this session's program myprint.py by way of the kit's print. -/
import Derived.Test.YtnmfinhmhmepdaaPa0
import Derived.Test.YtnmfinhmhmepdaaPa1
namespace Go.Proofs.Ytnmfinhmhmepdaa.Pa
open Go.RowKit Go.Proofs.Ytnmfinhmhmepdaa.Hand Go.Proofs.YtnmfinhmhmepdaaW.PrintWords Go.Proofs.YtnmfinhmhmepdaaW.PrintLast Go.Proofs.YtnmfinhmhmepdaaW.PrintMore
attribute [local go_sem] max2_int min2_int max_two min_two max_three min_three max_four min_four   -- for this text's walks alone
set_option linter.unusedVariables false
set_option linter.unusedSimpArgs false

/-! ### tallysticklaw01_WordTurned: function 9 -/
def tallysticklaw01_WordTurned.f (a0 : Int) (a1 : Int) (a2 : Int) : Option (Bool) := (tallysticklaw01_shown.f).bind fun t158 => ((word_Add.f a0 a1 a2).bind fun bt159 => ((word_Add.f a1 a0 a2).bind fun bt161 => ((word_Mul.f a0 a1).bind fun bt163 => ((word_Mul.f a1 a0).bind fun bt165 => ((word_Sub.f a0 a1 0).bind fun bt167 => ((word_Sub.f a1 a0 0).bind fun bt169 => (if t158 = true then (if bt159.1 = bt161.1 then (if bt159.2 = bt161.2 then (if bt163.1 = bt165.1 then (if bt163.2 = bt165.2 then (if bt167.1 = (IntKind.u64.wrap (-bt169.1)) then (if a0 = a1 then (some ((IntKind.u64.wrap (bt167.2 + bt169.2)) == 0)) else (if (IntKind.u64.wrap (bt167.2 + bt169.2)) = 1 then (some true) else (some false))) else (some false)) else (some false)) else (some false)) else (some false)) else (some false)) else (some false))))))))
set_option maxHeartbeats 8000000 in
set_option maxRecDepth 100000 in
theorem tallysticklaw01_WordTurned.calls (a0 : Int) (a1 : Int) (a2 : Int) (r : Bool) (w : World) (hr_ : Aside0 (r = true)) (h : tallysticklaw01_WordTurned.f a0 a1 a2 = some r) :
    Calls Try.prog 9 #[.int .u64 a0, .int .u64 a1, .int .u64 a2] w fun e w' => e = .returned (.bool r) ∧ Below w.heap.size w w' := by
  have HB := Aside0.mk (Below.refl w.heap.size w)
  have H : ((tallysticklaw01_shown.f).bind fun t158 => ((word_Add.f a0 a1 a2).bind fun bt159 => ((word_Add.f a1 a0 a2).bind fun bt161 => ((word_Mul.f a0 a1).bind fun bt163 => ((word_Mul.f a1 a0).bind fun bt165 => ((word_Sub.f a0 a1 0).bind fun bt167 => ((word_Sub.f a1 a0 0).bind fun bt169 => (if t158 = true then (if bt159.1 = bt161.1 then (if bt159.2 = bt161.2 then (if bt163.1 = bt165.1 then (if bt163.2 = bt165.2 then (if bt167.1 = (IntKind.u64.wrap (-bt169.1)) then (if a0 = a1 then (some ((IntKind.u64.wrap (bt167.2 + bt169.2)) == 0)) else (if (IntKind.u64.wrap (bt167.2 + bt169.2)) = 1 then (some true) else (some false))) else (some false)) else (some false)) else (some false)) else (some false)) else (some false)) else (some false))))))))) = some r := h
  clear h
  replace H := Option.bind_eq_some_iff.mp H
  obtain ⟨t158, A40, H⟩ := H
  replace H : ((word_Add.f a0 a1 a2).bind fun bt159 => ((word_Add.f a1 a0 a2).bind fun bt161 => ((word_Mul.f a0 a1).bind fun bt163 => ((word_Mul.f a1 a0).bind fun bt165 => ((word_Sub.f a0 a1 0).bind fun bt167 => ((word_Sub.f a1 a0 0).bind fun bt169 => (if t158 = true then (if bt159.1 = bt161.1 then (if bt159.2 = bt161.2 then (if bt163.1 = bt165.1 then (if bt163.2 = bt165.2 then (if bt167.1 = (IntKind.u64.wrap (-bt169.1)) then (if a0 = a1 then (some ((IntKind.u64.wrap (bt167.2 + bt169.2)) == 0)) else (if (IntKind.u64.wrap (bt167.2 + bt169.2)) = 1 then (some true) else (some false))) else (some false)) else (some false)) else (some false)) else (some false)) else (some false)) else (some false)))))))) = some r := H
  have A4 := Aside0.mk A40
  clear A40
  replace H := Option.bind_eq_some_iff.mp H
  obtain ⟨⟨t159, t160⟩, A50, H⟩ := H
  replace H : ((word_Add.f a1 a0 a2).bind fun bt161 => ((word_Mul.f a0 a1).bind fun bt163 => ((word_Mul.f a1 a0).bind fun bt165 => ((word_Sub.f a0 a1 0).bind fun bt167 => ((word_Sub.f a1 a0 0).bind fun bt169 => (if t158 = true then (if t159 = bt161.1 then (if t160 = bt161.2 then (if bt163.1 = bt165.1 then (if bt163.2 = bt165.2 then (if bt167.1 = (IntKind.u64.wrap (-bt169.1)) then (if a0 = a1 then (some ((IntKind.u64.wrap (bt167.2 + bt169.2)) == 0)) else (if (IntKind.u64.wrap (bt167.2 + bt169.2)) = 1 then (some true) else (some false))) else (some false)) else (some false)) else (some false)) else (some false)) else (some false)) else (some false))))))) = some r := H
  have A5 := Aside0.mk A50
  clear A50
  replace H := Option.bind_eq_some_iff.mp H
  obtain ⟨⟨t161, t162⟩, A60, H⟩ := H
  replace H : ((word_Mul.f a0 a1).bind fun bt163 => ((word_Mul.f a1 a0).bind fun bt165 => ((word_Sub.f a0 a1 0).bind fun bt167 => ((word_Sub.f a1 a0 0).bind fun bt169 => (if t158 = true then (if t159 = t161 then (if t160 = t162 then (if bt163.1 = bt165.1 then (if bt163.2 = bt165.2 then (if bt167.1 = (IntKind.u64.wrap (-bt169.1)) then (if a0 = a1 then (some ((IntKind.u64.wrap (bt167.2 + bt169.2)) == 0)) else (if (IntKind.u64.wrap (bt167.2 + bt169.2)) = 1 then (some true) else (some false))) else (some false)) else (some false)) else (some false)) else (some false)) else (some false)) else (some false)))))) = some r := H
  have A6 := Aside0.mk A60
  clear A60
  replace H := Option.bind_eq_some_iff.mp H
  obtain ⟨⟨t163, t164⟩, A70, H⟩ := H
  replace H : ((word_Mul.f a1 a0).bind fun bt165 => ((word_Sub.f a0 a1 0).bind fun bt167 => ((word_Sub.f a1 a0 0).bind fun bt169 => (if t158 = true then (if t159 = t161 then (if t160 = t162 then (if t163 = bt165.1 then (if t164 = bt165.2 then (if bt167.1 = (IntKind.u64.wrap (-bt169.1)) then (if a0 = a1 then (some ((IntKind.u64.wrap (bt167.2 + bt169.2)) == 0)) else (if (IntKind.u64.wrap (bt167.2 + bt169.2)) = 1 then (some true) else (some false))) else (some false)) else (some false)) else (some false)) else (some false)) else (some false)) else (some false))))) = some r := H
  have A7 := Aside0.mk A70
  clear A70
  replace H := Option.bind_eq_some_iff.mp H
  obtain ⟨⟨t165, t166⟩, A80, H⟩ := H
  replace H : ((word_Sub.f a0 a1 0).bind fun bt167 => ((word_Sub.f a1 a0 0).bind fun bt169 => (if t158 = true then (if t159 = t161 then (if t160 = t162 then (if t163 = t165 then (if t164 = t166 then (if bt167.1 = (IntKind.u64.wrap (-bt169.1)) then (if a0 = a1 then (some ((IntKind.u64.wrap (bt167.2 + bt169.2)) == 0)) else (if (IntKind.u64.wrap (bt167.2 + bt169.2)) = 1 then (some true) else (some false))) else (some false)) else (some false)) else (some false)) else (some false)) else (some false)) else (some false)))) = some r := H
  have A8 := Aside0.mk A80
  clear A80
  replace H := Option.bind_eq_some_iff.mp H
  obtain ⟨⟨t167, t168⟩, A90, H⟩ := H
  replace H : ((word_Sub.f a1 a0 0).bind fun bt169 => (if t158 = true then (if t159 = t161 then (if t160 = t162 then (if t163 = t165 then (if t164 = t166 then (if t167 = (IntKind.u64.wrap (-bt169.1)) then (if a0 = a1 then (some ((IntKind.u64.wrap (t168 + bt169.2)) == 0)) else (if (IntKind.u64.wrap (t168 + bt169.2)) = 1 then (some true) else (some false))) else (some false)) else (some false)) else (some false)) else (some false)) else (some false)) else (some false))) = some r := H
  have A9 := Aside0.mk A90
  clear A90
  replace H := Option.bind_eq_some_iff.mp H
  obtain ⟨⟨t169, t170⟩, A100, H⟩ := H
  replace H : (if t158 = true then (if t159 = t161 then (if t160 = t162 then (if t163 = t165 then (if t164 = t166 then (if t167 = (IntKind.u64.wrap (-t169)) then (if a0 = a1 then (some ((IntKind.u64.wrap (t168 + t170)) == 0)) else (if (IntKind.u64.wrap (t168 + t170)) = 1 then (some true) else (some false))) else (some false)) else (some false)) else (some false)) else (some false)) else (some false)) else (some false)) = some r := H
  have A10 := Aside0.mk A100
  clear A100
  by_cases c11 : t158 = true
  · subst c11
    have H1 : (if t159 = t161 then (if t160 = t162 then (if t163 = t165 then (if t164 = t166 then (if t167 = (IntKind.u64.wrap (-t169)) then (if a0 = a1 then (some ((IntKind.u64.wrap (t168 + t170)) == 0)) else (if (IntKind.u64.wrap (t168 + t170)) = 1 then (some true) else (some false))) else (some false)) else (some false)) else (some false)) else (some false)) else (some false)) = some r := by rw [if_pos rfl] at H; exact H
    clear H
    have H := H1
    clear H1
    by_cases c12 : t159 = t161
    · rw [if_pos c12] at H
      have c12b0 : (t159 == t161) = true := beq_iff_eq.mpr c12
      have c12b1 : (t159 != t161) = false := bne_eq_false_iff_eq.mpr c12
      clear c12
      by_cases c13 : t160 = t162
      · rw [if_pos c13] at H
        have c13b0 : (t160 == t162) = true := beq_iff_eq.mpr c13
        have c13b1 : (t160 != t162) = false := bne_eq_false_iff_eq.mpr c13
        clear c13
        by_cases c14 : t163 = t165
        · rw [if_pos c14] at H
          have c14b0 : (t163 == t165) = true := beq_iff_eq.mpr c14
          have c14b1 : (t163 != t165) = false := bne_eq_false_iff_eq.mpr c14
          clear c14
          by_cases c15 : t164 = t166
          · rw [if_pos c15] at H
            have c15b0 : (t164 == t166) = true := beq_iff_eq.mpr c15
            have c15b1 : (t164 != t166) = false := bne_eq_false_iff_eq.mpr c15
            clear c15
            by_cases c16 : t167 = (IntKind.u64.wrap (-t169))
            · rw [if_pos c16] at H
              have c16b0 : (t167 == (IntKind.u64.wrap (-t169))) = true := beq_iff_eq.mpr c16
              have c16b1 : (t167 != (IntKind.u64.wrap (-t169))) = false := bne_eq_false_iff_eq.mpr c16
              clear c16
              by_cases c17 : a0 = a1
              · rw [if_pos c17] at H
                have c17b0 : (a0 == a1) = true := beq_iff_eq.mpr c17
                have c17b1 : (a0 != a1) = false := bne_eq_false_iff_eq.mpr c17
                clear c17
                obtain rfl := Option.some.inj H
                go_enter Try.func9, Try.ntmps9
                go_wp2_with (first | ((with_reducible refine gate_callee (f := 11) rfl ?_); refine goesL_ (some 20) rfl rfl Try.func11 (by kernel_rfl) rfl #[] rfl (by (try simp only [List.map_toArray, List.map_cons, List.map_nil]); first | done | rfl | (simp only [List.length_drop, List.length_take]; rfl)) ?_; (with_reducible refine (tallysticklaw01_shown.calls  true _ A4.out).mono ?_); rintro e w18 ⟨rfl, hb⟩; clear A4; refine ⟨_, rfl, ?_⟩; have n0_ := Aside0.mk (below_step (by repeat (first | (with_reducible first | exact HB.out | apply below_alloc | apply pw_below_drewN | apply below_drew1) | exact HB.out)) hb); clear HB; have HB := n0_; clear n0_; (try clear hb); (try clear hb2); (try clear hk); (try clear hi)) | ((with_reducible refine gate_callee (f := 14) rfl ?_); refine goesL_ (some 25) rfl rfl Try.func14 (by kernel_rfl) rfl #[.int .u64 a0, .int .u64 a1, .int .u64 a2] rfl (by (try simp only [List.map_toArray, List.map_cons, List.map_nil]); first | done | rfl | (simp only [List.length_drop, List.length_take]; rfl)) ?_; (with_reducible refine (word_Add.calls a0 a1 a2 t159 t160 _ A5.out).mono ?_); rintro e w19 ⟨rfl, hb⟩; clear A5; refine ⟨_, rfl, ?_⟩; have n0_ := Aside0.mk (below_step (by repeat (first | (with_reducible first | exact HB.out | apply below_alloc | apply pw_below_drewN | apply below_drew1) | exact HB.out)) hb); clear HB; have HB := n0_; clear n0_; (try clear hb); (try clear hb2); (try clear hk); (try clear hi)) | ((with_reducible refine gate_callee (f := 14) rfl ?_); refine goesL_ (some 32) rfl rfl Try.func14 (by kernel_rfl) rfl #[.int .u64 a1, .int .u64 a0, .int .u64 a2] rfl (by (try simp only [List.map_toArray, List.map_cons, List.map_nil]); first | done | rfl | (simp only [List.length_drop, List.length_take]; rfl)) ?_; (with_reducible refine (word_Add.calls a1 a0 a2 t161 t162 _ A6.out).mono ?_); rintro e w20 ⟨rfl, hb⟩; clear A6; refine ⟨_, rfl, ?_⟩; have n0_ := Aside0.mk (below_step (by repeat (first | (with_reducible first | exact HB.out | apply below_alloc | apply pw_below_drewN | apply below_drew1) | exact HB.out)) hb); clear HB; have HB := n0_; clear n0_; (try clear hb); (try clear hb2); (try clear hk); (try clear hi)) | ((with_reducible refine gate_callee (f := 13) rfl ?_); refine goesL_ (some 38) rfl rfl Try.func13 (by kernel_rfl) rfl #[.int .u64 a0, .int .u64 a1] rfl (by (try simp only [List.map_toArray, List.map_cons, List.map_nil]); first | done | rfl | (simp only [List.length_drop, List.length_take]; rfl)) ?_; (with_reducible refine (word_Mul.calls a0 a1 t163 t164 _ A7.out).mono ?_); rintro e w21 ⟨rfl, hb⟩; clear A7; refine ⟨_, rfl, ?_⟩; have n0_ := Aside0.mk (below_step (by repeat (first | (with_reducible first | exact HB.out | apply below_alloc | apply pw_below_drewN | apply below_drew1) | exact HB.out)) hb); clear HB; have HB := n0_; clear n0_; (try clear hb); (try clear hb2); (try clear hk); (try clear hi)) | ((with_reducible refine gate_callee (f := 13) rfl ?_); refine goesL_ (some 44) rfl rfl Try.func13 (by kernel_rfl) rfl #[.int .u64 a1, .int .u64 a0] rfl (by (try simp only [List.map_toArray, List.map_cons, List.map_nil]); first | done | rfl | (simp only [List.length_drop, List.length_take]; rfl)) ?_; (with_reducible refine (word_Mul.calls a1 a0 t165 t166 _ A8.out).mono ?_); rintro e w22 ⟨rfl, hb⟩; clear A8; refine ⟨_, rfl, ?_⟩; have n0_ := Aside0.mk (below_step (by repeat (first | (with_reducible first | exact HB.out | apply below_alloc | apply pw_below_drewN | apply below_drew1) | exact HB.out)) hb); clear HB; have HB := n0_; clear n0_; (try clear hb); (try clear hb2); (try clear hk); (try clear hi)) | ((with_reducible refine gate_callee (f := 18) rfl ?_); refine goesL_ (some 50) rfl rfl Try.func18 (by kernel_rfl) rfl #[.int .u64 a0, .int .u64 a1, .int .u64 0] rfl (by (try simp only [List.map_toArray, List.map_cons, List.map_nil]); first | done | rfl | (simp only [List.length_drop, List.length_take]; rfl)) ?_; (with_reducible refine (word_Sub.calls a0 a1 0 t167 t168 _ A9.out).mono ?_); rintro e w23 ⟨rfl, hb⟩; clear A9; refine ⟨_, rfl, ?_⟩; have n0_ := Aside0.mk (below_step (by repeat (first | (with_reducible first | exact HB.out | apply below_alloc | apply pw_below_drewN | apply below_drew1) | exact HB.out)) hb); clear HB; have HB := n0_; clear n0_; (try clear hb); (try clear hb2); (try clear hk); (try clear hi)) | ((with_reducible refine gate_callee (f := 18) rfl ?_); refine goesL_ (some 56) rfl rfl Try.func18 (by kernel_rfl) rfl #[.int .u64 a1, .int .u64 a0, .int .u64 0] rfl (by (try simp only [List.map_toArray, List.map_cons, List.map_nil]); first | done | rfl | (simp only [List.length_drop, List.length_take]; rfl)) ?_; (with_reducible refine (word_Sub.calls a1 a0 0 t169 t170 _ A10.out).mono ?_); rintro e w24 ⟨rfl, hb⟩; clear A10; refine ⟨_, rfl, ?_⟩; have n0_ := Aside0.mk (below_step (by repeat (first | (with_reducible first | exact HB.out | apply below_alloc | apply pw_below_drewN | apply below_drew1) | exact HB.out)) hb); clear HB; have HB := n0_; clear n0_; (try clear hb); (try clear hb2); (try clear hk); (try clear hi)))
                go_ret
                exact ⟨by first | rfl | (simp [errW_none, errW_some] <;> rfl) | (simp [*, errW_none, errW_some] <;> rfl), by repeat (first | (with_reducible first | exact HB.out | apply below_alloc | apply pw_below_drewN | apply below_drew1) | exact HB.out)⟩
              · rw [if_neg c17] at H
                have c17b0 : (a0 == a1) = false := beq_eq_false_iff_ne.mpr c17
                have c17b1 : (a0 != a1) = true := bne_iff_ne.mpr c17
                by_cases c25 : (IntKind.u64.wrap (t168 + t170)) = 1
                · rw [if_pos c25] at H
                  have c25b0 : ((IntKind.u64.wrap (t168 + t170)) == 1) = true := beq_iff_eq.mpr c25
                  have c25b1 : ((IntKind.u64.wrap (t168 + t170)) != 1) = false := bne_eq_false_iff_eq.mpr c25
                  clear c25
                  obtain rfl := Option.some.inj H
                  go_enter Try.func9, Try.ntmps9
                  go_wp2_with (first | ((with_reducible refine gate_callee (f := 11) rfl ?_); refine goesL_ (some 20) rfl rfl Try.func11 (by kernel_rfl) rfl #[] rfl (by (try simp only [List.map_toArray, List.map_cons, List.map_nil]); first | done | rfl | (simp only [List.length_drop, List.length_take]; rfl)) ?_; (with_reducible refine (tallysticklaw01_shown.calls  true _ A4.out).mono ?_); rintro e w26 ⟨rfl, hb⟩; clear A4; refine ⟨_, rfl, ?_⟩; have n0_ := Aside0.mk (below_step (by repeat (first | (with_reducible first | exact HB.out | apply below_alloc | apply pw_below_drewN | apply below_drew1) | exact HB.out)) hb); clear HB; have HB := n0_; clear n0_; (try clear hb); (try clear hb2); (try clear hk); (try clear hi)) | ((with_reducible refine gate_callee (f := 14) rfl ?_); refine goesL_ (some 25) rfl rfl Try.func14 (by kernel_rfl) rfl #[.int .u64 a0, .int .u64 a1, .int .u64 a2] rfl (by (try simp only [List.map_toArray, List.map_cons, List.map_nil]); first | done | rfl | (simp only [List.length_drop, List.length_take]; rfl)) ?_; (with_reducible refine (word_Add.calls a0 a1 a2 t159 t160 _ A5.out).mono ?_); rintro e w27 ⟨rfl, hb⟩; clear A5; refine ⟨_, rfl, ?_⟩; have n0_ := Aside0.mk (below_step (by repeat (first | (with_reducible first | exact HB.out | apply below_alloc | apply pw_below_drewN | apply below_drew1) | exact HB.out)) hb); clear HB; have HB := n0_; clear n0_; (try clear hb); (try clear hb2); (try clear hk); (try clear hi)) | ((with_reducible refine gate_callee (f := 14) rfl ?_); refine goesL_ (some 32) rfl rfl Try.func14 (by kernel_rfl) rfl #[.int .u64 a1, .int .u64 a0, .int .u64 a2] rfl (by (try simp only [List.map_toArray, List.map_cons, List.map_nil]); first | done | rfl | (simp only [List.length_drop, List.length_take]; rfl)) ?_; (with_reducible refine (word_Add.calls a1 a0 a2 t161 t162 _ A6.out).mono ?_); rintro e w28 ⟨rfl, hb⟩; clear A6; refine ⟨_, rfl, ?_⟩; have n0_ := Aside0.mk (below_step (by repeat (first | (with_reducible first | exact HB.out | apply below_alloc | apply pw_below_drewN | apply below_drew1) | exact HB.out)) hb); clear HB; have HB := n0_; clear n0_; (try clear hb); (try clear hb2); (try clear hk); (try clear hi)) | ((with_reducible refine gate_callee (f := 13) rfl ?_); refine goesL_ (some 38) rfl rfl Try.func13 (by kernel_rfl) rfl #[.int .u64 a0, .int .u64 a1] rfl (by (try simp only [List.map_toArray, List.map_cons, List.map_nil]); first | done | rfl | (simp only [List.length_drop, List.length_take]; rfl)) ?_; (with_reducible refine (word_Mul.calls a0 a1 t163 t164 _ A7.out).mono ?_); rintro e w29 ⟨rfl, hb⟩; clear A7; refine ⟨_, rfl, ?_⟩; have n0_ := Aside0.mk (below_step (by repeat (first | (with_reducible first | exact HB.out | apply below_alloc | apply pw_below_drewN | apply below_drew1) | exact HB.out)) hb); clear HB; have HB := n0_; clear n0_; (try clear hb); (try clear hb2); (try clear hk); (try clear hi)) | ((with_reducible refine gate_callee (f := 13) rfl ?_); refine goesL_ (some 44) rfl rfl Try.func13 (by kernel_rfl) rfl #[.int .u64 a1, .int .u64 a0] rfl (by (try simp only [List.map_toArray, List.map_cons, List.map_nil]); first | done | rfl | (simp only [List.length_drop, List.length_take]; rfl)) ?_; (with_reducible refine (word_Mul.calls a1 a0 t165 t166 _ A8.out).mono ?_); rintro e w30 ⟨rfl, hb⟩; clear A8; refine ⟨_, rfl, ?_⟩; have n0_ := Aside0.mk (below_step (by repeat (first | (with_reducible first | exact HB.out | apply below_alloc | apply pw_below_drewN | apply below_drew1) | exact HB.out)) hb); clear HB; have HB := n0_; clear n0_; (try clear hb); (try clear hb2); (try clear hk); (try clear hi)) | ((with_reducible refine gate_callee (f := 18) rfl ?_); refine goesL_ (some 50) rfl rfl Try.func18 (by kernel_rfl) rfl #[.int .u64 a0, .int .u64 a1, .int .u64 0] rfl (by (try simp only [List.map_toArray, List.map_cons, List.map_nil]); first | done | rfl | (simp only [List.length_drop, List.length_take]; rfl)) ?_; (with_reducible refine (word_Sub.calls a0 a1 0 t167 t168 _ A9.out).mono ?_); rintro e w31 ⟨rfl, hb⟩; clear A9; refine ⟨_, rfl, ?_⟩; have n0_ := Aside0.mk (below_step (by repeat (first | (with_reducible first | exact HB.out | apply below_alloc | apply pw_below_drewN | apply below_drew1) | exact HB.out)) hb); clear HB; have HB := n0_; clear n0_; (try clear hb); (try clear hb2); (try clear hk); (try clear hi)) | ((with_reducible refine gate_callee (f := 18) rfl ?_); refine goesL_ (some 56) rfl rfl Try.func18 (by kernel_rfl) rfl #[.int .u64 a1, .int .u64 a0, .int .u64 0] rfl (by (try simp only [List.map_toArray, List.map_cons, List.map_nil]); first | done | rfl | (simp only [List.length_drop, List.length_take]; rfl)) ?_; (with_reducible refine (word_Sub.calls a1 a0 0 t169 t170 _ A10.out).mono ?_); rintro e w32 ⟨rfl, hb⟩; clear A10; refine ⟨_, rfl, ?_⟩; have n0_ := Aside0.mk (below_step (by repeat (first | (with_reducible first | exact HB.out | apply below_alloc | apply pw_below_drewN | apply below_drew1) | exact HB.out)) hb); clear HB; have HB := n0_; clear n0_; (try clear hb); (try clear hb2); (try clear hk); (try clear hi)))
                  go_ret
                  exact ⟨by first | rfl | (simp [errW_none, errW_some] <;> rfl) | (simp [*, errW_none, errW_some] <;> rfl), by repeat (first | (with_reducible first | exact HB.out | apply below_alloc | apply pw_below_drewN | apply below_drew1) | exact HB.out)⟩
                · rw [if_neg c25] at H
                  have c25b0 : ((IntKind.u64.wrap (t168 + t170)) == 1) = false := beq_eq_false_iff_ne.mpr c25
                  have c25b1 : ((IntKind.u64.wrap (t168 + t170)) != 1) = true := bne_iff_ne.mpr c25
                  obtain rfl := Option.some.inj H
                  exact absurd hr_.out (by simp)
            · rw [if_neg c16] at H
              have c16b0 : (t167 == (IntKind.u64.wrap (-t169))) = false := beq_eq_false_iff_ne.mpr c16
              have c16b1 : (t167 != (IntKind.u64.wrap (-t169))) = true := bne_iff_ne.mpr c16
              obtain rfl := Option.some.inj H
              exact absurd hr_.out (by simp)
          · rw [if_neg c15] at H
            have c15b0 : (t164 == t166) = false := beq_eq_false_iff_ne.mpr c15
            have c15b1 : (t164 != t166) = true := bne_iff_ne.mpr c15
            obtain rfl := Option.some.inj H
            exact absurd hr_.out (by simp)
        · rw [if_neg c14] at H
          have c14b0 : (t163 == t165) = false := beq_eq_false_iff_ne.mpr c14
          have c14b1 : (t163 != t165) = true := bne_iff_ne.mpr c14
          obtain rfl := Option.some.inj H
          exact absurd hr_.out (by simp)
      · rw [if_neg c13] at H
        have c13b0 : (t160 == t162) = false := beq_eq_false_iff_ne.mpr c13
        have c13b1 : (t160 != t162) = true := bne_iff_ne.mpr c13
        obtain rfl := Option.some.inj H
        exact absurd hr_.out (by simp)
    · rw [if_neg c12] at H
      have c12b0 : (t159 == t161) = false := beq_eq_false_iff_ne.mpr c12
      have c12b1 : (t159 != t161) = true := bne_iff_ne.mpr c12
      obtain rfl := Option.some.inj H
      exact absurd hr_.out (by simp)
  · replace c11 := Bool.eq_false_iff.mpr c11
    subst c11
    have H1 : (some false) = some r := by rw [if_neg (show ¬ (false = true) by decide)] at H; exact H
    clear H
    have H := H1
    clear H1
    obtain rfl := Option.some.inj H
    exact absurd hr_.out (by simp)

/-- THE ONE PURE STATEMENT of tallysticklaw01_WordTurned: yours. -/
def tallysticklaw01_WordTurned.Pure : Prop := ∀ (a0 : Int) (a1 : Int) (a2 : Int), (Lit.int .u64 a0).wf = true → (Lit.int .u64 a1).wf = true → (Lit.int .u64 a2).wf = true → tallysticklaw01_WordTurned.f a0 a1 a2 = some true
theorem tallysticklaw01_WordTurned.walk (P : tallysticklaw01_WordTurned.Pure) (a0 : Int) (a1 : Int) (a2 : Int) (w : World) (w0 : (Lit.int .u64 a0).wf = true) (w1 : (Lit.int .u64 a1).wf = true) (w2 : (Lit.int .u64 a2).wf = true) :
    Calls Try.prog 9 #[.int .u64 a0, .int .u64 a1, .int .u64 a2] w fun e w' => e = .returned (.bool true) ∧ Below w.heap.size w w' := by
  have h := P a0 a1 a2 w0 w1 w2
  refine (tallysticklaw01_WordTurned.calls a0 a1 a2 true w ⟨rfl⟩ h).mono ?_
  rintro e w' ⟨rfl, hd⟩
  exact ⟨rfl, hd⟩

end Go.Proofs.Ytnmfinhmhmepdaa.Pa
