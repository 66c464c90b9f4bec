/- Contracts of functions and laws, written by this session's program myprint.py by way of the kit's print. -/
import Derived.Test.YtnmfinhmhmepdaaPa0
import Derived.Test.YtnmfinhmhmepdaaPa1
namespace Go.Proofs.Ytnmfinhmhmepdaa.Pa
open Go.RowKit Go.Proofs.Ytnmfinhmhmepdaa.Hand Go.Proofs.YtnmfinhmhmepdaaW.PrintWords Go.Proofs.YtnmfinhmhmepdaaW.PrintLast Go.Proofs.YtnmfinhmhmepdaaW.PrintMore
attribute [local go_sem] max2_int min2_int max_two min_two max_three min_three max_four min_four   -- for this text's walks alone
set_option linter.unusedVariables false
set_option linter.unusedSimpArgs false

/-! ### tallysticklaw01_WordBack: function 8 -/
def tallysticklaw01_WordBack.f (a0 : Int) (a1 : Int) (a2 : Int) : Option (Bool) := (tallysticklaw01_shown.f).bind fun t153 => ((word_Add.f a0 a1 a2).bind fun bt154 => ((word_Sub.f bt154.1 a1 a2).bind fun bt156 => (if t153 = true then (if bt156.1 = a0 then (if bt154.2 = bt156.2 then (some (decide (bt154.2 ≤ 1))) else (some false)) else (some false)) else (some false))))
set_option maxHeartbeats 8000000 in
set_option maxRecDepth 100000 in
theorem tallysticklaw01_WordBack.calls (a0 : Int) (a1 : Int) (a2 : Int) (r : Bool) (w : World) (hr_ : Aside0 (r = true)) (h : tallysticklaw01_WordBack.f a0 a1 a2 = some r) :
    Calls Try.prog 8 #[.int .u64 a0, .int .u64 a1, .int .u64 a2] w fun e w' => e = .returned (.bool r) ∧ Below w.heap.size w w' := by
  have HB := Aside0.mk (Below.refl w.heap.size w)
  have H : ((tallysticklaw01_shown.f).bind fun t153 => ((word_Add.f a0 a1 a2).bind fun bt154 => ((word_Sub.f bt154.1 a1 a2).bind fun bt156 => (if t153 = true then (if bt156.1 = a0 then (if bt154.2 = bt156.2 then (some (decide (bt154.2 ≤ 1))) else (some false)) else (some false)) else (some false))))) = some r := h
  clear h
  replace H := Option.bind_eq_some_iff.mp H
  obtain ⟨t153, A40, H⟩ := H
  replace H : ((word_Add.f a0 a1 a2).bind fun bt154 => ((word_Sub.f bt154.1 a1 a2).bind fun bt156 => (if t153 = true then (if bt156.1 = a0 then (if bt154.2 = bt156.2 then (some (decide (bt154.2 ≤ 1))) else (some false)) else (some false)) else (some false)))) = some r := H
  have A4 := Aside0.mk A40
  clear A40
  replace H := Option.bind_eq_some_iff.mp H
  obtain ⟨⟨t154, t155⟩, A50, H⟩ := H
  replace H : ((word_Sub.f t154 a1 a2).bind fun bt156 => (if t153 = true then (if bt156.1 = a0 then (if t155 = bt156.2 then (some (decide (t155 ≤ 1))) else (some false)) else (some false)) else (some false))) = some r := H
  have A5 := Aside0.mk A50
  clear A50
  replace H := Option.bind_eq_some_iff.mp H
  obtain ⟨⟨t156, t157⟩, A60, H⟩ := H
  replace H : (if t153 = true then (if t156 = a0 then (if t155 = t157 then (some (decide (t155 ≤ 1))) else (some false)) else (some false)) else (some false)) = some r := H
  have A6 := Aside0.mk A60
  clear A60
  by_cases c7 : t153 = true
  · subst c7
    have H1 : (if t156 = a0 then (if t155 = t157 then (some (decide (t155 ≤ 1))) else (some false)) else (some false)) = some r := by rw [if_pos rfl] at H; exact H
    clear H
    have H := H1
    clear H1
    by_cases c8 : t156 = a0
    · rw [if_pos c8] at H
      have c8b0 : (t156 == a0) = true := beq_iff_eq.mpr c8
      have c8b1 : (t156 != a0) = false := bne_eq_false_iff_eq.mpr c8
      clear c8
      by_cases c9 : t155 = t157
      · rw [if_pos c9] at H
        have c9b0 : (t155 == t157) = true := beq_iff_eq.mpr c9
        have c9b1 : (t155 != t157) = false := bne_eq_false_iff_eq.mpr c9
        clear c9
        obtain rfl := Option.some.inj H
        go_enter Try.func8, Try.ntmps8
        go_wp2_with (first | ((with_reducible refine gate_callee (f := 11) rfl ?_); refine goesL_ (some 12) rfl rfl Try.func11 (by kernel_rfl) rfl #[] rfl (by (try simp only [List.map_toArray, List.map_cons, List.map_nil]); first | done | rfl | (simp only [List.length_drop, List.length_take]; rfl)) ?_; (with_reducible refine (tallysticklaw01_shown.calls  true _ A4.out).mono ?_); rintro e w10 ⟨rfl, hb⟩; clear A4; refine ⟨_, rfl, ?_⟩; have n0_ := Aside0.mk (below_step (by repeat (first | (with_reducible first | exact HB.out | apply below_alloc | apply pw_below_drewN | apply below_drew1) | exact HB.out)) hb); clear HB; have HB := n0_; clear n0_; (try clear hb); (try clear hb2); (try clear hk); (try clear hi)) | ((with_reducible refine gate_callee (f := 14) rfl ?_); refine goesL_ (some 17) rfl rfl Try.func14 (by kernel_rfl) rfl #[.int .u64 a0, .int .u64 a1, .int .u64 a2] rfl (by (try simp only [List.map_toArray, List.map_cons, List.map_nil]); first | done | rfl | (simp only [List.length_drop, List.length_take]; rfl)) ?_; (with_reducible refine (word_Add.calls a0 a1 a2 t154 t155 _ A5.out).mono ?_); rintro e w11 ⟨rfl, hb⟩; clear A5; refine ⟨_, rfl, ?_⟩; have n0_ := Aside0.mk (below_step (by repeat (first | (with_reducible first | exact HB.out | apply below_alloc | apply pw_below_drewN | apply below_drew1) | exact HB.out)) hb); clear HB; have HB := n0_; clear n0_; (try clear hb); (try clear hb2); (try clear hk); (try clear hi)) | ((with_reducible refine gate_callee (f := 18) rfl ?_); refine goesL_ (some 24) rfl rfl Try.func18 (by kernel_rfl) rfl #[.int .u64 t154, .int .u64 a1, .int .u64 a2] rfl (by (try simp only [List.map_toArray, List.map_cons, List.map_nil]); first | done | rfl | (simp only [List.length_drop, List.length_take]; rfl)) ?_; (with_reducible refine (word_Sub.calls t154 a1 a2 t156 t157 _ A6.out).mono ?_); rintro e w12 ⟨rfl, hb⟩; clear A6; refine ⟨_, rfl, ?_⟩; have n0_ := Aside0.mk (below_step (by repeat (first | (with_reducible first | exact HB.out | apply below_alloc | apply pw_below_drewN | apply below_drew1) | exact HB.out)) hb); clear HB; have HB := n0_; clear n0_; (try clear hb); (try clear hb2); (try clear hk); (try clear hi)))
        go_ret
        exact ⟨by first | rfl | (simp [errW_none, errW_some] <;> rfl) | (simp [*, errW_none, errW_some] <;> rfl), by repeat (first | (with_reducible first | exact HB.out | apply below_alloc | apply pw_below_drewN | apply below_drew1) | exact HB.out)⟩
      · rw [if_neg c9] at H
        have c9b0 : (t155 == t157) = false := beq_eq_false_iff_ne.mpr c9
        have c9b1 : (t155 != t157) = true := bne_iff_ne.mpr c9
        obtain rfl := Option.some.inj H
        exact absurd hr_.out (by simp)
    · rw [if_neg c8] at H
      have c8b0 : (t156 == a0) = false := beq_eq_false_iff_ne.mpr c8
      have c8b1 : (t156 != a0) = true := bne_iff_ne.mpr c8
      obtain rfl := Option.some.inj H
      exact absurd hr_.out (by simp)
  · replace c7 := Bool.eq_false_iff.mpr c7
    subst c7
    have H1 : (some false) = some r := by rw [if_neg (show ¬ (false = true) by decide)] at H; exact H
    clear H
    have H := H1
    clear H1
    obtain rfl := Option.some.inj H
    exact absurd hr_.out (by simp)

/-- THE ONE PURE STATEMENT of tallysticklaw01_WordBack: yours. -/
def tallysticklaw01_WordBack.Pure : Prop := ∀ (a0 : Int) (a1 : Int) (a2 : Int), (Lit.int .u64 a0).wf = true → (Lit.int .u64 a1).wf = true → (Lit.int .u64 a2).wf = true → tallysticklaw01_WordBack.f a0 a1 a2 = some true
theorem tallysticklaw01_WordBack.walk (P : tallysticklaw01_WordBack.Pure) (a0 : Int) (a1 : Int) (a2 : Int) (w : World) (w0 : (Lit.int .u64 a0).wf = true) (w1 : (Lit.int .u64 a1).wf = true) (w2 : (Lit.int .u64 a2).wf = true) :
    Calls Try.prog 8 #[.int .u64 a0, .int .u64 a1, .int .u64 a2] w fun e w' => e = .returned (.bool true) ∧ Below w.heap.size w w' := by
  have h := P a0 a1 a2 w0 w1 w2
  refine (tallysticklaw01_WordBack.calls a0 a1 a2 true w ⟨rfl⟩ h).mono ?_
  rintro e w' ⟨rfl, hd⟩
  exact ⟨rfl, hd⟩

end Go.Proofs.Ytnmfinhmhmepdaa.Pa
