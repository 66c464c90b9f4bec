/- Contracts of functions and laws, written by this session's program myprint.py by way of the kit's print. -/
import Derived.Test.YtnmfinhmhmepdaaPa0
import Derived.Test.YtnmfinhmhmepdaaPa1
namespace Go.Proofs.Ytnmfinhmhmepdaa.Pa
open Go.RowKit Go.Proofs.Ytnmfinhmhmepdaa.Hand Go.Proofs.YtnmfinhmhmepdaaW.PrintWords Go.Proofs.YtnmfinhmhmepdaaW.PrintLast Go.Proofs.YtnmfinhmhmepdaaW.PrintMore
attribute [local go_sem] max2_int min2_int max_two min_two max_three min_three max_four min_four   -- for this text's walks alone
set_option linter.unusedVariables false
set_option linter.unusedSimpArgs false

/-! ### tallysticklaw01_WordSplits: function 4 -/
def tallysticklaw01_WordSplits.f (a0 : Int) (a1 : Int) (a2 : Int) : Option (Bool) := (tallysticklaw01_shown.f).bind fun t115 => ((word_Add.f a1 a2 0).bind fun bt116 => ((word_Mul.f a0 bt116.1).bind fun bt118 => ((word_Mul.f a0 a1).bind fun bt120 => ((word_Mul.f a0 a2).bind fun bt122 => ((word_Add.f bt120.2 bt122.2 0).bind fun bt124 => ((word_Add.f bt120.1 bt122.1 bt124.2).bind fun bt126 => ((word_Add.f bt118.1 (IntKind.u64.wrap (a0 * bt116.2)) 0).bind fun bt128 => (if t115 = true then (if bt124.1 = bt118.2 then (if bt126.1 = bt128.1 then (some (bt126.2 == bt128.2)) else (some false)) else (some false)) else (some false)))))))))
set_option maxHeartbeats 8000000 in
set_option maxRecDepth 100000 in
theorem tallysticklaw01_WordSplits.calls (a0 : Int) (a1 : Int) (a2 : Int) (r : Bool) (w : World) (hr_ : Aside0 (r = true)) (h : tallysticklaw01_WordSplits.f a0 a1 a2 = some r) :
    Calls Try.prog 4 #[.int .u64 a0, .int .u64 a1, .int .u64 a2] w fun e w' => e = .returned (.bool r) ∧ Below w.heap.size w w' := by
  have HB := Aside0.mk (Below.refl w.heap.size w)
  have H : ((tallysticklaw01_shown.f).bind fun t115 => ((word_Add.f a1 a2 0).bind fun bt116 => ((word_Mul.f a0 bt116.1).bind fun bt118 => ((word_Mul.f a0 a1).bind fun bt120 => ((word_Mul.f a0 a2).bind fun bt122 => ((word_Add.f bt120.2 bt122.2 0).bind fun bt124 => ((word_Add.f bt120.1 bt122.1 bt124.2).bind fun bt126 => ((word_Add.f bt118.1 (IntKind.u64.wrap (a0 * bt116.2)) 0).bind fun bt128 => (if t115 = true then (if bt124.1 = bt118.2 then (if bt126.1 = bt128.1 then (some (bt126.2 == bt128.2)) else (some false)) else (some false)) else (some false)))))))))) = some r := h
  clear h
  replace H := Option.bind_eq_some_iff.mp H
  obtain ⟨t115, A40, H⟩ := H
  replace H : ((word_Add.f a1 a2 0).bind fun bt116 => ((word_Mul.f a0 bt116.1).bind fun bt118 => ((word_Mul.f a0 a1).bind fun bt120 => ((word_Mul.f a0 a2).bind fun bt122 => ((word_Add.f bt120.2 bt122.2 0).bind fun bt124 => ((word_Add.f bt120.1 bt122.1 bt124.2).bind fun bt126 => ((word_Add.f bt118.1 (IntKind.u64.wrap (a0 * bt116.2)) 0).bind fun bt128 => (if t115 = true then (if bt124.1 = bt118.2 then (if bt126.1 = bt128.1 then (some (bt126.2 == bt128.2)) else (some false)) else (some false)) else (some false))))))))) = some r := H
  have A4 := Aside0.mk A40
  clear A40
  replace H := Option.bind_eq_some_iff.mp H
  obtain ⟨⟨t116, t117⟩, A50, H⟩ := H
  replace H : ((word_Mul.f a0 t116).bind fun bt118 => ((word_Mul.f a0 a1).bind fun bt120 => ((word_Mul.f a0 a2).bind fun bt122 => ((word_Add.f bt120.2 bt122.2 0).bind fun bt124 => ((word_Add.f bt120.1 bt122.1 bt124.2).bind fun bt126 => ((word_Add.f bt118.1 (IntKind.u64.wrap (a0 * t117)) 0).bind fun bt128 => (if t115 = true then (if bt124.1 = bt118.2 then (if bt126.1 = bt128.1 then (some (bt126.2 == bt128.2)) else (some false)) else (some false)) else (some false)))))))) = some r := H
  have A5 := Aside0.mk A50
  clear A50
  replace H := Option.bind_eq_some_iff.mp H
  obtain ⟨⟨t118, t119⟩, A60, H⟩ := H
  replace H : ((word_Mul.f a0 a1).bind fun bt120 => ((word_Mul.f a0 a2).bind fun bt122 => ((word_Add.f bt120.2 bt122.2 0).bind fun bt124 => ((word_Add.f bt120.1 bt122.1 bt124.2).bind fun bt126 => ((word_Add.f t118 (IntKind.u64.wrap (a0 * t117)) 0).bind fun bt128 => (if t115 = true then (if bt124.1 = t119 then (if bt126.1 = bt128.1 then (some (bt126.2 == bt128.2)) else (some false)) else (some false)) else (some false))))))) = some r := H
  have A6 := Aside0.mk A60
  clear A60
  replace H := Option.bind_eq_some_iff.mp H
  obtain ⟨⟨t120, t121⟩, A70, H⟩ := H
  replace H : ((word_Mul.f a0 a2).bind fun bt122 => ((word_Add.f t121 bt122.2 0).bind fun bt124 => ((word_Add.f t120 bt122.1 bt124.2).bind fun bt126 => ((word_Add.f t118 (IntKind.u64.wrap (a0 * t117)) 0).bind fun bt128 => (if t115 = true then (if bt124.1 = t119 then (if bt126.1 = bt128.1 then (some (bt126.2 == bt128.2)) else (some false)) else (some false)) else (some false)))))) = some r := H
  have A7 := Aside0.mk A70
  clear A70
  replace H := Option.bind_eq_some_iff.mp H
  obtain ⟨⟨t122, t123⟩, A80, H⟩ := H
  replace H : ((word_Add.f t121 t123 0).bind fun bt124 => ((word_Add.f t120 t122 bt124.2).bind fun bt126 => ((word_Add.f t118 (IntKind.u64.wrap (a0 * t117)) 0).bind fun bt128 => (if t115 = true then (if bt124.1 = t119 then (if bt126.1 = bt128.1 then (some (bt126.2 == bt128.2)) else (some false)) else (some false)) else (some false))))) = some r := H
  have A8 := Aside0.mk A80
  clear A80
  replace H := Option.bind_eq_some_iff.mp H
  obtain ⟨⟨t124, t125⟩, A90, H⟩ := H
  replace H : ((word_Add.f t120 t122 t125).bind fun bt126 => ((word_Add.f t118 (IntKind.u64.wrap (a0 * t117)) 0).bind fun bt128 => (if t115 = true then (if t124 = t119 then (if bt126.1 = bt128.1 then (some (bt126.2 == bt128.2)) else (some false)) else (some false)) else (some false)))) = some r := H
  have A9 := Aside0.mk A90
  clear A90
  replace H := Option.bind_eq_some_iff.mp H
  obtain ⟨⟨t126, t127⟩, A100, H⟩ := H
  replace H : ((word_Add.f t118 (IntKind.u64.wrap (a0 * t117)) 0).bind fun bt128 => (if t115 = true then (if t124 = t119 then (if t126 = bt128.1 then (some (t127 == bt128.2)) else (some false)) else (some false)) else (some false))) = some r := H
  have A10 := Aside0.mk A100
  clear A100
  replace H := Option.bind_eq_some_iff.mp H
  obtain ⟨⟨t128, t129⟩, A110, H⟩ := H
  replace H : (if t115 = true then (if t124 = t119 then (if t126 = t128 then (some (t127 == t129)) else (some false)) else (some false)) else (some false)) = some r := H
  have A11 := Aside0.mk A110
  clear A110
  by_cases c12 : t115 = true
  · subst c12
    have H1 : (if t124 = t119 then (if t126 = t128 then (some (t127 == t129)) else (some false)) else (some false)) = some r := by rw [if_pos rfl] at H; exact H
    clear H
    have H := H1
    clear H1
    by_cases c13 : t124 = t119
    · rw [if_pos c13] at H
      have c13b0 : (t124 == t119) = true := beq_iff_eq.mpr c13
      have c13b1 : (t124 != t119) = false := bne_eq_false_iff_eq.mpr c13
      clear c13
      by_cases c14 : t126 = t128
      · rw [if_pos c14] at H
        have c14b0 : (t126 == t128) = true := beq_iff_eq.mpr c14
        have c14b1 : (t126 != t128) = false := bne_eq_false_iff_eq.mpr c14
        clear c14
        obtain rfl := Option.some.inj H
        go_enter Try.func4, Try.ntmps4
        go_wp2_with (first | ((with_reducible refine gate_callee (f := 11) rfl ?_); refine goesL_ (some 22) rfl rfl Try.func11 (by kernel_rfl) rfl #[] rfl (by (try simp only [List.map_toArray, List.map_cons, List.map_nil]); first | done | rfl | (simp only [List.length_drop, List.length_take]; rfl)) ?_; (with_reducible refine (tallysticklaw01_shown.calls  true _ A4.out).mono ?_); rintro e w15 ⟨rfl, hb⟩; clear A4; refine ⟨_, rfl, ?_⟩; have n0_ := Aside0.mk (below_step (by repeat (first | (with_reducible first | exact HB.out | apply below_alloc | apply pw_below_drewN | apply below_drew1) | exact HB.out)) hb); clear HB; have HB := n0_; clear n0_; (try clear hb); (try clear hb2); (try clear hk); (try clear hi)) | ((with_reducible refine gate_callee (f := 14) rfl ?_); refine goesL_ (some 26) rfl rfl Try.func14 (by kernel_rfl) rfl #[.int .u64 a1, .int .u64 a2, .int .u64 0] rfl (by (try simp only [List.map_toArray, List.map_cons, List.map_nil]); first | done | rfl | (simp only [List.length_drop, List.length_take]; rfl)) ?_; (with_reducible refine (word_Add.calls a1 a2 0 t116 t117 _ A5.out).mono ?_); rintro e w16 ⟨rfl, hb⟩; clear A5; refine ⟨_, rfl, ?_⟩; have n0_ := Aside0.mk (below_step (by repeat (first | (with_reducible first | exact HB.out | apply below_alloc | apply pw_below_drewN | apply below_drew1) | exact HB.out)) hb); clear HB; have HB := n0_; clear n0_; (try clear hb); (try clear hb2); (try clear hk); (try clear hi)) | ((with_reducible refine gate_callee (f := 13) rfl ?_); refine goesL_ (some 32) rfl rfl Try.func13 (by kernel_rfl) rfl #[.int .u64 a0, .int .u64 t116] rfl (by (try simp only [List.map_toArray, List.map_cons, List.map_nil]); first | done | rfl | (simp only [List.length_drop, List.length_take]; rfl)) ?_; (with_reducible refine (word_Mul.calls a0 t116 t118 t119 _ A6.out).mono ?_); rintro e w17 ⟨rfl, hb⟩; clear A6; refine ⟨_, rfl, ?_⟩; have n0_ := Aside0.mk (below_step (by repeat (first | (with_reducible first | exact HB.out | apply below_alloc | apply pw_below_drewN | apply below_drew1) | exact HB.out)) hb); clear HB; have HB := n0_; clear n0_; (try clear hb); (try clear hb2); (try clear hk); (try clear hi)) | ((with_reducible refine gate_callee (f := 13) rfl ?_); refine goesL_ (some 38) rfl rfl Try.func13 (by kernel_rfl) rfl #[.int .u64 a0, .int .u64 a1] rfl (by (try simp only [List.map_toArray, List.map_cons, List.map_nil]); first | done | rfl | (simp only [List.length_drop, List.length_take]; rfl)) ?_; (with_reducible refine (word_Mul.calls a0 a1 t120 t121 _ A7.out).mono ?_); rintro e w18 ⟨rfl, hb⟩; clear A7; refine ⟨_, rfl, ?_⟩; have n0_ := Aside0.mk (below_step (by repeat (first | (with_reducible first | exact HB.out | apply below_alloc | apply pw_below_drewN | apply below_drew1) | exact HB.out)) hb); clear HB; have HB := n0_; clear n0_; (try clear hb); (try clear hb2); (try clear hk); (try clear hi)) | ((with_reducible refine gate_callee (f := 13) rfl ?_); refine goesL_ (some 44) rfl rfl Try.func13 (by kernel_rfl) rfl #[.int .u64 a0, .int .u64 a2] rfl (by (try simp only [List.map_toArray, List.map_cons, List.map_nil]); first | done | rfl | (simp only [List.length_drop, List.length_take]; rfl)) ?_; (with_reducible refine (word_Mul.calls a0 a2 t122 t123 _ A8.out).mono ?_); rintro e w19 ⟨rfl, hb⟩; clear A8; refine ⟨_, rfl, ?_⟩; have n0_ := Aside0.mk (below_step (by repeat (first | (with_reducible first | exact HB.out | apply below_alloc | apply pw_below_drewN | apply below_drew1) | exact HB.out)) hb); clear HB; have HB := n0_; clear n0_; (try clear hb); (try clear hb2); (try clear hk); (try clear hi)) | ((with_reducible refine gate_callee (f := 14) rfl ?_); refine goesL_ (some 50) rfl rfl Try.func14 (by kernel_rfl) rfl #[.int .u64 t121, .int .u64 t123, .int .u64 0] rfl (by (try simp only [List.map_toArray, List.map_cons, List.map_nil]); first | done | rfl | (simp only [List.length_drop, List.length_take]; rfl)) ?_; (with_reducible refine (word_Add.calls t121 t123 0 t124 t125 _ A9.out).mono ?_); rintro e w20 ⟨rfl, hb⟩; clear A9; refine ⟨_, rfl, ?_⟩; have n0_ := Aside0.mk (below_step (by repeat (first | (with_reducible first | exact HB.out | apply below_alloc | apply pw_below_drewN | apply below_drew1) | exact HB.out)) hb); clear HB; have HB := n0_; clear n0_; (try clear hb); (try clear hb2); (try clear hk); (try clear hi)) | ((with_reducible refine gate_callee (f := 14) rfl ?_); refine goesL_ (some 57) rfl rfl Try.func14 (by kernel_rfl) rfl #[.int .u64 t120, .int .u64 t122, .int .u64 t125] rfl (by (try simp only [List.map_toArray, List.map_cons, List.map_nil]); first | done | rfl | (simp only [List.length_drop, List.length_take]; rfl)) ?_; (with_reducible refine (word_Add.calls t120 t122 t125 t126 t127 _ A10.out).mono ?_); rintro e w21 ⟨rfl, hb⟩; clear A10; refine ⟨_, rfl, ?_⟩; have n0_ := Aside0.mk (below_step (by repeat (first | (with_reducible first | exact HB.out | apply below_alloc | apply pw_below_drewN | apply below_drew1) | exact HB.out)) hb); clear HB; have HB := n0_; clear n0_; (try clear hb); (try clear hb2); (try clear hk); (try clear hi)) | ((with_reducible refine gate_callee (f := 14) rfl ?_); refine goesL_ (some 65) rfl rfl Try.func14 (by kernel_rfl) rfl #[.int .u64 t118, .int .u64 (IntKind.u64.wrap (a0 * t117)), .int .u64 0] rfl (by (try simp only [List.map_toArray, List.map_cons, List.map_nil]); first | done | rfl | (simp only [List.length_drop, List.length_take]; rfl)) ?_; (with_reducible refine (word_Add.calls t118 (IntKind.u64.wrap (a0 * t117)) 0 t128 t129 _ A11.out).mono ?_); rintro e w22 ⟨rfl, hb⟩; clear A11; refine ⟨_, rfl, ?_⟩; have n0_ := Aside0.mk (below_step (by repeat (first | (with_reducible first | exact HB.out | apply below_alloc | apply pw_below_drewN | apply below_drew1) | exact HB.out)) hb); clear HB; have HB := n0_; clear n0_; (try clear hb); (try clear hb2); (try clear hk); (try clear hi)))
        go_ret
        exact ⟨by first | rfl | (simp [errW_none, errW_some] <;> rfl) | (simp [*, errW_none, errW_some] <;> rfl), by repeat (first | (with_reducible first | exact HB.out | apply below_alloc | apply pw_below_drewN | apply below_drew1) | exact HB.out)⟩
      · rw [if_neg c14] at H
        have c14b0 : (t126 == t128) = false := beq_eq_false_iff_ne.mpr c14
        have c14b1 : (t126 != t128) = true := bne_iff_ne.mpr c14
        obtain rfl := Option.some.inj H
        exact absurd hr_.out (by simp)
    · rw [if_neg c13] at H
      have c13b0 : (t124 == t119) = false := beq_eq_false_iff_ne.mpr c13
      have c13b1 : (t124 != t119) = true := bne_iff_ne.mpr c13
      obtain rfl := Option.some.inj H
      exact absurd hr_.out (by simp)
  · replace c12 := Bool.eq_false_iff.mpr c12
    subst c12
    have H1 : (some false) = some r := by rw [if_neg (show ¬ (false = true) by decide)] at H; exact H
    clear H
    have H := H1
    clear H1
    obtain rfl := Option.some.inj H
    exact absurd hr_.out (by simp)

/-- THE ONE PURE STATEMENT of tallysticklaw01_WordSplits: yours. -/
def tallysticklaw01_WordSplits.Pure : Prop := ∀ (a0 : Int) (a1 : Int) (a2 : Int), (Lit.int .u64 a0).wf = true → (Lit.int .u64 a1).wf = true → (Lit.int .u64 a2).wf = true → tallysticklaw01_WordSplits.f a0 a1 a2 = some true
theorem tallysticklaw01_WordSplits.walk (P : tallysticklaw01_WordSplits.Pure) (a0 : Int) (a1 : Int) (a2 : Int) (w : World) (w0 : (Lit.int .u64 a0).wf = true) (w1 : (Lit.int .u64 a1).wf = true) (w2 : (Lit.int .u64 a2).wf = true) :
    Calls Try.prog 4 #[.int .u64 a0, .int .u64 a1, .int .u64 a2] w fun e w' => e = .returned (.bool true) ∧ Below w.heap.size w w' := by
  have h := P a0 a1 a2 w0 w1 w2
  refine (tallysticklaw01_WordSplits.calls a0 a1 a2 true w ⟨rfl⟩ h).mono ?_
  rintro e w' ⟨rfl, hd⟩
  exact ⟨rfl, hd⟩

end Go.Proofs.Ytnmfinhmhmepdaa.Pa
