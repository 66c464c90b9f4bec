/- Contracts of functions and laws, written by this session's program myprint.py by way of the kit's print. -/
import Derived.Test.YtnmfinhmhmepdaaPa0
import Derived.Test.YtnmfinhmhmepdaaPa1
namespace Go.Proofs.Ytnmfinhmhmepdaa.Pa
open Go.RowKit Go.Proofs.Ytnmfinhmhmepdaa.Hand Go.Proofs.YtnmfinhmhmepdaaW.PrintWords Go.Proofs.YtnmfinhmhmepdaaW.PrintLast Go.Proofs.YtnmfinhmhmepdaaW.PrintMore
attribute [local go_sem] max2_int min2_int max_two min_two max_three min_three max_four min_four   -- for this text's walks alone
set_option linter.unusedVariables false
set_option linter.unusedSimpArgs false

/-! ### tallysticklaw01_WordWhole: function 3 -/
def tallysticklaw01_WordWhole.f (a0 : Int) (a1 : Int) (a2 : Int) : Option (Bool) := (tallysticklaw01_shown.f).bind fun t107 => ((word_Div.f a0 a1 a2).bind fun bt108 => (if bt108.2.2 = 0 then ((word_Mul.f bt108.1 a2).bind fun bt111 => ((word_Add.f bt111.2 bt108.2.1 0).bind fun bt113 => (if t107 = true then (if bt108.2.1 < a2 then (if (IntKind.u64.wrap (bt111.1 + bt113.2)) = a0 then (some (bt113.1 == a1)) else (some false)) else (some false)) else (some false)))) else (if t107 = true then (if ((a2 == 0) == (bt108.2.2 == 2)) = true then (if a2 = 0 then (some true) else (some (decide (a0 ≥ a2)))) else (some false)) else (some false))))
set_option maxHeartbeats 8000000 in
set_option maxRecDepth 100000 in
theorem tallysticklaw01_WordWhole.calls (a0 : Int) (a1 : Int) (a2 : Int) (r : Bool) (w : World) (hr_ : Aside0 (r = true)) (h : tallysticklaw01_WordWhole.f a0 a1 a2 = some r) :
    Calls Try.prog 3 #[.int .u64 a0, .int .u64 a1, .int .u64 a2] w fun e w' => e = .returned (.bool r) ∧ Below w.heap.size w w' := by
  have HB := Aside0.mk (Below.refl w.heap.size w)
  have H : ((tallysticklaw01_shown.f).bind fun t107 => ((word_Div.f a0 a1 a2).bind fun bt108 => (if bt108.2.2 = 0 then ((word_Mul.f bt108.1 a2).bind fun bt111 => ((word_Add.f bt111.2 bt108.2.1 0).bind fun bt113 => (if t107 = true then (if bt108.2.1 < a2 then (if (IntKind.u64.wrap (bt111.1 + bt113.2)) = a0 then (some (bt113.1 == a1)) else (some false)) else (some false)) else (some false)))) else (if t107 = true then (if ((a2 == 0) == (bt108.2.2 == 2)) = true then (if a2 = 0 then (some true) else (some (decide (a0 ≥ a2)))) else (some false)) else (some false))))) = some r := h
  clear h
  replace H := Option.bind_eq_some_iff.mp H
  obtain ⟨t107, A40, H⟩ := H
  replace H : ((word_Div.f a0 a1 a2).bind fun bt108 => (if bt108.2.2 = 0 then ((word_Mul.f bt108.1 a2).bind fun bt111 => ((word_Add.f bt111.2 bt108.2.1 0).bind fun bt113 => (if t107 = true then (if bt108.2.1 < a2 then (if (IntKind.u64.wrap (bt111.1 + bt113.2)) = a0 then (some (bt113.1 == a1)) else (some false)) else (some false)) else (some false)))) else (if t107 = true then (if ((a2 == 0) == (bt108.2.2 == 2)) = true then (if a2 = 0 then (some true) else (some (decide (a0 ≥ a2)))) else (some false)) else (some false)))) = some r := H
  have A4 := Aside0.mk A40
  clear A40
  replace H := Option.bind_eq_some_iff.mp H
  obtain ⟨⟨t108, t109, t110⟩, A50, H⟩ := H
  replace H : (if t110 = 0 then ((word_Mul.f t108 a2).bind fun bt111 => ((word_Add.f bt111.2 t109 0).bind fun bt113 => (if t107 = true then (if t109 < a2 then (if (IntKind.u64.wrap (bt111.1 + bt113.2)) = a0 then (some (bt113.1 == a1)) else (some false)) else (some false)) else (some false)))) else (if t107 = true then (if ((a2 == 0) == (t110 == 2)) = true then (if a2 = 0 then (some true) else (some (decide (a0 ≥ a2)))) else (some false)) else (some false))) = some r := H
  have A5 := Aside0.mk A50
  clear A50
  by_cases c6 : t110 = 0
  · rw [if_pos c6] at H
    have c6b0 : (t110 == 0) = true := beq_iff_eq.mpr c6
    have c6b1 : (t110 != 0) = false := bne_eq_false_iff_eq.mpr c6
    clear c6
    replace H := Option.bind_eq_some_iff.mp H
    obtain ⟨⟨t111, t112⟩, A70, H⟩ := H
    replace H : ((word_Add.f t112 t109 0).bind fun bt113 => (if t107 = true then (if t109 < a2 then (if (IntKind.u64.wrap (t111 + bt113.2)) = a0 then (some (bt113.1 == a1)) else (some false)) else (some false)) else (some false))) = some r := H
    have A7 := Aside0.mk A70
    clear A70
    replace H := Option.bind_eq_some_iff.mp H
    obtain ⟨⟨t113, t114⟩, A80, H⟩ := H
    replace H : (if t107 = true then (if t109 < a2 then (if (IntKind.u64.wrap (t111 + t114)) = a0 then (some (t113 == a1)) else (some false)) else (some false)) else (some false)) = some r := H
    have A8 := Aside0.mk A80
    clear A80
    by_cases c9 : t107 = true
    · subst c9
      have H1 : (if t109 < a2 then (if (IntKind.u64.wrap (t111 + t114)) = a0 then (some (t113 == a1)) else (some false)) else (some false)) = some r := by rw [if_pos rfl] at H; exact H
      clear H
      have H := H1
      clear H1
      by_cases c10 : t109 < a2
      · rw [if_pos c10] at H
        have c10b0 : decide (t109 < a2) = true := decide_eq_true c10
        clear c10
        by_cases c11 : (IntKind.u64.wrap (t111 + t114)) = a0
        · rw [if_pos c11] at H
          have c11b0 : ((IntKind.u64.wrap (t111 + t114)) == a0) = true := beq_iff_eq.mpr c11
          have c11b1 : ((IntKind.u64.wrap (t111 + t114)) != a0) = false := bne_eq_false_iff_eq.mpr c11
          clear c11
          obtain rfl := Option.some.inj H
          go_enter Try.func3, Try.ntmps3
          go_wp2_with (first | ((with_reducible refine gate_callee (f := 11) rfl ?_); refine goesL_ (some 15) rfl rfl Try.func11 (by kernel_rfl) rfl #[] rfl (by (try simp only [List.map_toArray, List.map_cons, List.map_nil]); first | done | rfl | (simp only [List.length_drop, List.length_take]; rfl)) ?_; (with_reducible refine (tallysticklaw01_shown.calls  true _ A4.out).mono ?_); rintro e w12 ⟨rfl, hb⟩; clear A4; refine ⟨_, rfl, ?_⟩; have n0_ := Aside0.mk (below_step (by repeat (first | (with_reducible first | exact HB.out | apply below_alloc | apply pw_below_drewN | apply below_drew1) | exact HB.out)) hb); clear HB; have HB := n0_; clear n0_; (try clear hb); (try clear hb2); (try clear hk); (try clear hi)) | ((with_reducible refine gate_callee (f := 12) rfl ?_); refine goesL_ (some 20) rfl rfl Try.func12 (by kernel_rfl) rfl #[.int .u64 a0, .int .u64 a1, .int .u64 a2] rfl (by (try simp only [List.map_toArray, List.map_cons, List.map_nil]); first | done | rfl | (simp only [List.length_drop, List.length_take]; rfl)) ?_; (with_reducible refine (word_Div.calls a0 a1 a2 t108 t109 t110 _ A5.out).mono ?_); rintro e w13 ⟨rfl, hb⟩; clear A5; refine ⟨_, rfl, ?_⟩; have n0_ := Aside0.mk (below_step (by repeat (first | (with_reducible first | exact HB.out | apply below_alloc | apply pw_below_drewN | apply below_drew1) | exact HB.out)) hb); clear HB; have HB := n0_; clear n0_; (try clear hb); (try clear hb2); (try clear hk); (try clear hi)) | ((with_reducible refine gate_callee (f := 13) rfl ?_); refine goesL_ (some 46) rfl rfl Try.func13 (by kernel_rfl) rfl #[.int .u64 t108, .int .u64 a2] rfl (by (try simp only [List.map_toArray, List.map_cons, List.map_nil]); first | done | rfl | (simp only [List.length_drop, List.length_take]; rfl)) ?_; (with_reducible refine (word_Mul.calls t108 a2 t111 t112 _ A7.out).mono ?_); rintro e w14 ⟨rfl, hb⟩; clear A7; refine ⟨_, rfl, ?_⟩; have n0_ := Aside0.mk (below_step (by repeat (first | (with_reducible first | exact HB.out | apply below_alloc | apply pw_below_drewN | apply below_drew1) | exact HB.out)) hb); clear HB; have HB := n0_; clear n0_; (try clear hb); (try clear hb2); (try clear hk); (try clear hi)) | ((with_reducible refine gate_callee (f := 14) rfl ?_); refine goesL_ (some 52) rfl rfl Try.func14 (by kernel_rfl) rfl #[.int .u64 t112, .int .u64 t109, .int .u64 0] rfl (by (try simp only [List.map_toArray, List.map_cons, List.map_nil]); first | done | rfl | (simp only [List.length_drop, List.length_take]; rfl)) ?_; (with_reducible refine (word_Add.calls t112 t109 0 t113 t114 _ A8.out).mono ?_); rintro e w15 ⟨rfl, hb⟩; clear A8; refine ⟨_, rfl, ?_⟩; have n0_ := Aside0.mk (below_step (by repeat (first | (with_reducible first | exact HB.out | apply below_alloc | apply pw_below_drewN | apply below_drew1) | exact HB.out)) hb); clear HB; have HB := n0_; clear n0_; (try clear hb); (try clear hb2); (try clear hk); (try clear hi)))
          go_ret
          exact ⟨by first | rfl | (simp [errW_none, errW_some] <;> rfl) | (simp [*, errW_none, errW_some] <;> rfl), by repeat (first | (with_reducible first | exact HB.out | apply below_alloc | apply pw_below_drewN | apply below_drew1) | exact HB.out)⟩
        · rw [if_neg c11] at H
          have c11b0 : ((IntKind.u64.wrap (t111 + t114)) == a0) = false := beq_eq_false_iff_ne.mpr c11
          have c11b1 : ((IntKind.u64.wrap (t111 + t114)) != a0) = true := bne_iff_ne.mpr c11
          obtain rfl := Option.some.inj H
          exact absurd hr_.out (by simp)
      · rw [if_neg c10] at H
        have c10b0 : decide (t109 < a2) = false := decide_eq_false c10
        clear c10
        obtain rfl := Option.some.inj H
        exact absurd hr_.out (by simp)
    · replace c9 := Bool.eq_false_iff.mpr c9
      subst c9
      have H1 : (some false) = some r := by rw [if_neg (show ¬ (false = true) by decide)] at H; exact H
      clear H
      have H := H1
      clear H1
      obtain rfl := Option.some.inj H
      exact absurd hr_.out (by simp)
  · rw [if_neg c6] at H
    have c6b0 : (t110 == 0) = false := beq_eq_false_iff_ne.mpr c6
    have c6b1 : (t110 != 0) = true := bne_iff_ne.mpr c6
    by_cases c16 : t107 = true
    · subst c16
      have H1 : (if ((a2 == 0) == (t110 == 2)) = true then (if a2 = 0 then (some true) else (some (decide (a0 ≥ a2)))) else (some false)) = some r := by rw [if_pos rfl] at H; exact H
      clear H
      have H := H1
      clear H1
      by_cases c17 : ((a2 == 0) == (t110 == 2)) = true
      · rw [if_pos c17] at H
        have c17b0 : ((a2 == 0) == (t110 == 2)) = true := c17
        (try (have c17b1 : decide ((a2 == 0) = (t110 == 2)) = true := by simpa using c17))
        (try (have c17b2 : ((a2 == 0) == (t110 == 2)) = true := by simpa using c17))
        clear c17
        by_cases c18 : a2 = 0
        · rw [if_pos c18] at H
          have c18b0 : (a2 == 0) = true := beq_iff_eq.mpr c18
          have g_c17 : (t110 == 2) = true := by have h_ := c17b0; rw [c18b0] at h_; simpa using h_
          have c18b1 : (a2 != 0) = false := bne_eq_false_iff_eq.mpr c18
          clear c18
          obtain rfl := Option.some.inj H
          go_enter Try.func3, Try.ntmps3
          go_wp2_with (first | ((with_reducible refine gate_callee (f := 11) rfl ?_); refine goesL_ (some 15) rfl rfl Try.func11 (by kernel_rfl) rfl #[] rfl (by (try simp only [List.map_toArray, List.map_cons, List.map_nil]); first | done | rfl | (simp only [List.length_drop, List.length_take]; rfl)) ?_; (with_reducible refine (tallysticklaw01_shown.calls  true _ A4.out).mono ?_); rintro e w19 ⟨rfl, hb⟩; clear A4; refine ⟨_, rfl, ?_⟩; have n0_ := Aside0.mk (below_step (by repeat (first | (with_reducible first | exact HB.out | apply below_alloc | apply pw_below_drewN | apply below_drew1) | exact HB.out)) hb); clear HB; have HB := n0_; clear n0_; (try clear hb); (try clear hb2); (try clear hk); (try clear hi)) | ((with_reducible refine gate_callee (f := 12) rfl ?_); refine goesL_ (some 20) rfl rfl Try.func12 (by kernel_rfl) rfl #[.int .u64 a0, .int .u64 a1, .int .u64 a2] rfl (by (try simp only [List.map_toArray, List.map_cons, List.map_nil]); first | done | rfl | (simp only [List.length_drop, List.length_take]; rfl)) ?_; (with_reducible refine (word_Div.calls a0 a1 a2 t108 t109 t110 _ A5.out).mono ?_); rintro e w20 ⟨rfl, hb⟩; clear A5; refine ⟨_, rfl, ?_⟩; have n0_ := Aside0.mk (below_step (by repeat (first | (with_reducible first | exact HB.out | apply below_alloc | apply pw_below_drewN | apply below_drew1) | exact HB.out)) hb); clear HB; have HB := n0_; clear n0_; (try clear hb); (try clear hb2); (try clear hk); (try clear hi)))
          go_ret
          exact ⟨by first | rfl | (simp [errW_none, errW_some] <;> rfl) | (simp [*, errW_none, errW_some] <;> rfl), by repeat (first | (with_reducible first | exact HB.out | apply below_alloc | apply pw_below_drewN | apply below_drew1) | exact HB.out)⟩
        · rw [if_neg c18] at H
          have c18b0 : (a2 == 0) = false := beq_eq_false_iff_ne.mpr c18
          have g_c17 : (t110 == 2) = false := by have h_ := c17b0; rw [c18b0] at h_; simpa using h_
          have c18b1 : (a2 != 0) = true := bne_iff_ne.mpr c18
          obtain rfl := Option.some.inj H
          go_enter Try.func3, Try.ntmps3
          go_wp2_with (first | ((with_reducible refine gate_callee (f := 11) rfl ?_); refine goesL_ (some 15) rfl rfl Try.func11 (by kernel_rfl) rfl #[] rfl (by (try simp only [List.map_toArray, List.map_cons, List.map_nil]); first | done | rfl | (simp only [List.length_drop, List.length_take]; rfl)) ?_; (with_reducible refine (tallysticklaw01_shown.calls  true _ A4.out).mono ?_); rintro e w21 ⟨rfl, hb⟩; clear A4; refine ⟨_, rfl, ?_⟩; have n0_ := Aside0.mk (below_step (by repeat (first | (with_reducible first | exact HB.out | apply below_alloc | apply pw_below_drewN | apply below_drew1) | exact HB.out)) hb); clear HB; have HB := n0_; clear n0_; (try clear hb); (try clear hb2); (try clear hk); (try clear hi)) | ((with_reducible refine gate_callee (f := 12) rfl ?_); refine goesL_ (some 20) rfl rfl Try.func12 (by kernel_rfl) rfl #[.int .u64 a0, .int .u64 a1, .int .u64 a2] rfl (by (try simp only [List.map_toArray, List.map_cons, List.map_nil]); first | done | rfl | (simp only [List.length_drop, List.length_take]; rfl)) ?_; (with_reducible refine (word_Div.calls a0 a1 a2 t108 t109 t110 _ A5.out).mono ?_); rintro e w22 ⟨rfl, hb⟩; clear A5; refine ⟨_, rfl, ?_⟩; have n0_ := Aside0.mk (below_step (by repeat (first | (with_reducible first | exact HB.out | apply below_alloc | apply pw_below_drewN | apply below_drew1) | exact HB.out)) hb); clear HB; have HB := n0_; clear n0_; (try clear hb); (try clear hb2); (try clear hk); (try clear hi)))
          go_ret
          exact ⟨by first | rfl | (simp [errW_none, errW_some] <;> rfl) | (simp [*, errW_none, errW_some] <;> rfl), by repeat (first | (with_reducible first | exact HB.out | apply below_alloc | apply pw_below_drewN | apply below_drew1) | exact HB.out)⟩
      · rw [if_neg c17] at H
        have c17b0 : ((a2 == 0) == (t110 == 2)) = false := by simpa using c17
        (try (have c17b1 : decide ((a2 == 0) = (t110 == 2)) = false := by simpa using c17))
        (try (have c17b2 : ((a2 == 0) == (t110 == 2)) = false := by simpa using c17))
        (try (have c17b3 : ¬ ((a2 == 0) = (t110 == 2)) := by simpa using c17))
        clear c17
        obtain rfl := Option.some.inj H
        exact absurd hr_.out (by simp)
    · replace c16 := Bool.eq_false_iff.mpr c16
      subst c16
      have H1 : (some false) = some r := by rw [if_neg (show ¬ (false = true) by decide)] at H; exact H
      clear H
      have H := H1
      clear H1
      obtain rfl := Option.some.inj H
      exact absurd hr_.out (by simp)

/-- THE ONE PURE STATEMENT of tallysticklaw01_WordWhole: yours. -/
def tallysticklaw01_WordWhole.Pure : Prop := ∀ (a0 : Int) (a1 : Int) (a2 : Int), (Lit.int .u64 a0).wf = true → (Lit.int .u64 a1).wf = true → (Lit.int .u64 a2).wf = true → tallysticklaw01_WordWhole.f a0 a1 a2 = some true
theorem tallysticklaw01_WordWhole.walk (P : tallysticklaw01_WordWhole.Pure) (a0 : Int) (a1 : Int) (a2 : Int) (w : World) (w0 : (Lit.int .u64 a0).wf = true) (w1 : (Lit.int .u64 a1).wf = true) (w2 : (Lit.int .u64 a2).wf = true) :
    Calls Try.prog 3 #[.int .u64 a0, .int .u64 a1, .int .u64 a2] w fun e w' => e = .returned (.bool true) ∧ Below w.heap.size w w' := by
  have h := P a0 a1 a2 w0 w1 w2
  refine (tallysticklaw01_WordWhole.calls a0 a1 a2 true w ⟨rfl⟩ h).mono ?_
  rintro e w' ⟨rfl, hd⟩
  exact ⟨rfl, hd⟩

end Go.Proofs.Ytnmfinhmhmepdaa.Pa
