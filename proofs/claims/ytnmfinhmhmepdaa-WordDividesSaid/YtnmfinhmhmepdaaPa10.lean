/- Contracts of functions and laws, written by this session's program myprint.py by way of the kit's print. -/
import Derived.Test.YtnmfinhmhmepdaaPa0
import Derived.Test.YtnmfinhmhmepdaaPa1
import Derived.Test.YtnmfinhmhmepdaaPa2
namespace Go.Proofs.Ytnmfinhmhmepdaa.Pa
open Go.RowKit Go.Proofs.Ytnmfinhmhmepdaa.Hand Go.Proofs.YtnmfinhmhmepdaaW.PrintWords Go.Proofs.YtnmfinhmhmepdaaW.PrintLast Go.Proofs.YtnmfinhmhmepdaaW.PrintMore
attribute [local go_sem] max2_int min2_int max_two min_two max_three min_three max_four min_four   -- for this text's walks alone
set_option linter.unusedVariables false
set_option linter.unusedSimpArgs false

/-! ### tallysticklaw01_WordDivides: function 10 -/
def tallysticklaw01_WordDivides.f (k : Nat) (a0 : Int) (a1 : Int) (a2 : Int) : Option (Bool) := (tallysticklaw01_shown.f).bind fun t171 => ((word_Div.f a0 a1 a2).bind fun bt172 => ((tallystickref01_Div.f k a0 a1 a2).bind fun bt175 => (if t171 = true then (if bt172.1 = bt175.1 then (if bt172.2.1 = bt175.2.1 then (if bt172.2.2 = bt175.2.2 then ((word_Len.f a1).bind fun t178 => ((tallystickref01_Len.f k a1).bind fun t179 => (if t178 = t179 then ((word_Gcd.f a1 a2).bind fun t180 => ((tallystickref01_Gcd.f k a1 a2).bind fun t181 => (some (t180 == t181)))) else (some false)))) else (some false)) else (some false)) else (some false)) else (some false))))
theorem tallysticklaw01_WordDivides.mono : ∀ a0 a1 a2 k, LeO (tallysticklaw01_WordDivides.f k a0 a1 a2) (tallysticklaw01_WordDivides.f (k + 1) a0 a1 a2) := by
  intro a0 a1 a2 k
  unfold tallysticklaw01_WordDivides.f
  repeat' first
      | (with_reducible exact tallystickref01_Div.mono _ _ _ _)
      | (with_reducible exact tallystickref01_Gcd.mono _ _ _)
      | (with_reducible exact tallystickref01_Len.mono _ _)
      | (with_reducible exact LeO.refl _)
      | (with_reducible exact LeO.none _)
      | (with_reducible refine LeO.ite ?_ ?_)
      | (with_reducible refine LeO.bind ?_ (fun _ => ?_))
      | exact tallystickref01_Div.mono _ _ _ _
      | exact tallystickref01_Gcd.mono _ _ _
      | exact tallystickref01_Len.mono _ _
      | exact LeO.none _
      | refine LeO.ite ?_ ?_
      | refine LeO.bind ?_ (fun _ => ?_)
set_option maxHeartbeats 8000000 in
set_option maxRecDepth 100000 in
theorem tallysticklaw01_WordDivides.calls (k : Nat) (a0 : Int) (a1 : Int) (a2 : Int) (r : Bool) (w : World) (hr_ : Aside0 (r = true)) (h : tallysticklaw01_WordDivides.f k a0 a1 a2 = some r) :
    Calls Try.prog 10 #[.int .u64 a0, .int .u64 a1, .int .u64 a2] w fun e w' => e = .returned (.bool r) ∧ Below w.heap.size w w' := by
  have HB := Aside0.mk (Below.refl w.heap.size w)
  have H : ((tallysticklaw01_shown.f).bind fun t171 => ((word_Div.f a0 a1 a2).bind fun bt172 => ((tallystickref01_Div.f k a0 a1 a2).bind fun bt175 => (if t171 = true then (if bt172.1 = bt175.1 then (if bt172.2.1 = bt175.2.1 then (if bt172.2.2 = bt175.2.2 then ((word_Len.f a1).bind fun t178 => ((tallystickref01_Len.f k a1).bind fun t179 => (if t178 = t179 then ((word_Gcd.f a1 a2).bind fun t180 => ((tallystickref01_Gcd.f k a1 a2).bind fun t181 => (some (t180 == t181)))) else (some false)))) else (some false)) else (some false)) else (some false)) else (some false))))) = some r := h
  clear h
  replace H := Option.bind_eq_some_iff.mp H
  obtain ⟨t171, A40, H⟩ := H
  replace H : ((word_Div.f a0 a1 a2).bind fun bt172 => ((tallystickref01_Div.f k a0 a1 a2).bind fun bt175 => (if t171 = true then (if bt172.1 = bt175.1 then (if bt172.2.1 = bt175.2.1 then (if bt172.2.2 = bt175.2.2 then ((word_Len.f a1).bind fun t178 => ((tallystickref01_Len.f k a1).bind fun t179 => (if t178 = t179 then ((word_Gcd.f a1 a2).bind fun t180 => ((tallystickref01_Gcd.f k a1 a2).bind fun t181 => (some (t180 == t181)))) else (some false)))) else (some false)) else (some false)) else (some false)) else (some false)))) = some r := H
  have A4 := Aside0.mk A40
  clear A40
  replace H := Option.bind_eq_some_iff.mp H
  obtain ⟨⟨t172, t173, t174⟩, A50, H⟩ := H
  replace H : ((tallystickref01_Div.f k a0 a1 a2).bind fun bt175 => (if t171 = true then (if t172 = bt175.1 then (if t173 = bt175.2.1 then (if t174 = bt175.2.2 then ((word_Len.f a1).bind fun t178 => ((tallystickref01_Len.f k a1).bind fun t179 => (if t178 = t179 then ((word_Gcd.f a1 a2).bind fun t180 => ((tallystickref01_Gcd.f k a1 a2).bind fun t181 => (some (t180 == t181)))) else (some false)))) else (some false)) else (some false)) else (some false)) else (some false))) = some r := H
  have A5 := Aside0.mk A50
  clear A50
  replace H := Option.bind_eq_some_iff.mp H
  obtain ⟨⟨t175, t176, t177⟩, A60, H⟩ := H
  replace H : (if t171 = true then (if t172 = t175 then (if t173 = t176 then (if t174 = t177 then ((word_Len.f a1).bind fun t178 => ((tallystickref01_Len.f k a1).bind fun t179 => (if t178 = t179 then ((word_Gcd.f a1 a2).bind fun t180 => ((tallystickref01_Gcd.f k a1 a2).bind fun t181 => (some (t180 == t181)))) else (some false)))) else (some false)) else (some false)) else (some false)) else (some false)) = some r := H
  have A6 := Aside0.mk A60
  clear A60
  by_cases c7 : t171 = true
  · subst c7
    have H1 : (if t172 = t175 then (if t173 = t176 then (if t174 = t177 then ((word_Len.f a1).bind fun t178 => ((tallystickref01_Len.f k a1).bind fun t179 => (if t178 = t179 then ((word_Gcd.f a1 a2).bind fun t180 => ((tallystickref01_Gcd.f k a1 a2).bind fun t181 => (some (t180 == t181)))) else (some false)))) else (some false)) else (some false)) else (some false)) = some r := by rw [if_pos rfl] at H; exact H
    clear H
    have H := H1
    clear H1
    by_cases c8 : t172 = t175
    · rw [if_pos c8] at H
      have c8b0 : (t172 == t175) = true := beq_iff_eq.mpr c8
      have c8b1 : (t172 != t175) = false := bne_eq_false_iff_eq.mpr c8
      clear c8
      by_cases c9 : t173 = t176
      · rw [if_pos c9] at H
        have c9b0 : (t173 == t176) = true := beq_iff_eq.mpr c9
        have c9b1 : (t173 != t176) = false := bne_eq_false_iff_eq.mpr c9
        clear c9
        by_cases c10 : t174 = t177
        · rw [if_pos c10] at H
          have c10b0 : (t174 == t177) = true := beq_iff_eq.mpr c10
          have c10b1 : (t174 != t177) = false := bne_eq_false_iff_eq.mpr c10
          clear c10
          replace H := Option.bind_eq_some_iff.mp H
          obtain ⟨t178, A110, H⟩ := H
          replace H : ((tallystickref01_Len.f k a1).bind fun t179 => (if t178 = t179 then ((word_Gcd.f a1 a2).bind fun t180 => ((tallystickref01_Gcd.f k a1 a2).bind fun t181 => (some (t180 == t181)))) else (some false))) = some r := H
          have A11 := Aside0.mk A110
          clear A110
          replace H := Option.bind_eq_some_iff.mp H
          obtain ⟨t179, A120, H⟩ := H
          replace H : (if t178 = t179 then ((word_Gcd.f a1 a2).bind fun t180 => ((tallystickref01_Gcd.f k a1 a2).bind fun t181 => (some (t180 == t181)))) else (some false)) = some r := H
          have A12 := Aside0.mk A120
          clear A120
          by_cases c13 : t178 = t179
          · rw [if_pos c13] at H
            have c13b0 : (t178 == t179) = true := beq_iff_eq.mpr c13
            have c13b1 : (t178 != t179) = false := bne_eq_false_iff_eq.mpr c13
            clear c13
            replace H := Option.bind_eq_some_iff.mp H
            obtain ⟨t180, A140, H⟩ := H
            replace H : ((tallystickref01_Gcd.f k a1 a2).bind fun t181 => (some (t180 == t181))) = some r := H
            have A14 := Aside0.mk A140
            clear A140
            replace H := Option.bind_eq_some_iff.mp H
            obtain ⟨t181, A150, H⟩ := H
            replace H : (some (t180 == t181)) = some r := H
            have A15 := Aside0.mk A150
            clear A150
            obtain rfl := Option.some.inj H
            go_enter Try.func10, Try.ntmps10
            go_wp2_with (first | ((with_reducible refine gate_callee (f := 11) rfl ?_); refine goesL_ (some 14) rfl rfl Try.func11 (by kernel_rfl) rfl #[] rfl (by (try simp only [List.map_toArray, List.map_cons, List.map_nil]); first | done | rfl | (simp only [List.length_drop, List.length_take]; rfl)) ?_; (with_reducible refine (tallysticklaw01_shown.calls  true _ A4.out).mono ?_); rintro e w16 ⟨rfl, hb⟩; clear A4; refine ⟨_, rfl, ?_⟩; have n0_ := Aside0.mk (below_step (by repeat (first | (with_reducible first | exact HB.out | apply below_alloc | apply pw_below_drewN | apply below_drew1) | exact HB.out)) hb); clear HB; have HB := n0_; clear n0_; (try clear hb); (try clear hb2); (try clear hk); (try clear hi)) | ((with_reducible refine gate_callee (f := 12) rfl ?_); refine goesL_ (some 19) rfl rfl Try.func12 (by kernel_rfl) rfl #[.int .u64 a0, .int .u64 a1, .int .u64 a2] rfl (by (try simp only [List.map_toArray, List.map_cons, List.map_nil]); first | done | rfl | (simp only [List.length_drop, List.length_take]; rfl)) ?_; (with_reducible refine (word_Div.calls a0 a1 a2 t172 t173 t174 _ A5.out).mono ?_); rintro e w17 ⟨rfl, hb⟩; clear A5; refine ⟨_, rfl, ?_⟩; have n0_ := Aside0.mk (below_step (by repeat (first | (with_reducible first | exact HB.out | apply below_alloc | apply pw_below_drewN | apply below_drew1) | exact HB.out)) hb); clear HB; have HB := n0_; clear n0_; (try clear hb); (try clear hb2); (try clear hk); (try clear hi)) | ((with_reducible refine gate_callee (f := 21) rfl ?_); refine goesL_ (some 27) rfl rfl Try.func21 (by kernel_rfl) rfl #[.int .u64 a0, .int .u64 a1, .int .u64 a2] rfl (by (try simp only [List.map_toArray, List.map_cons, List.map_nil]); first | done | rfl | (simp only [List.length_drop, List.length_take]; rfl)) ?_; (with_reducible refine (tallystickref01_Div.calls k a0 a1 a2 t175 t176 t177 _ A6.out).mono ?_); rintro e w' ⟨rfl, ⟨nd, rfl⟩⟩; refine ⟨_, rfl, ?_⟩) | (go_at_call 15; (with_reducible refine (word_Len.calls a1 t178 _ A11.out).mono ?_); rintro e w18 ⟨rfl, hb⟩; clear A11; have n0_ := Aside0.mk (below_step (by repeat (first | (with_reducible first | exact HB.out | apply below_alloc | apply pw_below_drewN | apply below_drew1) | exact HB.out)) hb); clear HB; have HB := n0_; clear n0_; (try clear hb); (try clear hb2); (try clear hk); (try clear hi)) | (go_at_call 22; (with_reducible refine (tallystickref01_Len.calls k a1 t179 _ A12.out).mono ?_); rintro e w' ⟨rfl, ⟨nd, rfl⟩⟩) | (go_at_call 16; (with_reducible refine (word_Gcd.calls a1 a2 t180 _ A14.out).mono ?_); rintro e w19 ⟨rfl, hb⟩; clear A14; have n0_ := Aside0.mk (below_step (by repeat (first | (with_reducible first | exact HB.out | apply below_alloc | apply pw_below_drewN | apply below_drew1) | exact HB.out)) hb); clear HB; have HB := n0_; clear n0_; (try clear hb); (try clear hb2); (try clear hk); (try clear hi)) | (go_at_call 23; (with_reducible refine (tallystickref01_Gcd.calls k a1 a2 t181 _ A15.out).mono ?_); rintro e w' ⟨rfl, ⟨nd, rfl⟩⟩))
            go_ret
            exact ⟨by first | rfl | (simp [errW_none, errW_some] <;> rfl) | (simp [*, errW_none, errW_some] <;> rfl), by repeat (first | (with_reducible first | exact HB.out | apply below_alloc | apply pw_below_drewN | apply below_drew1) | exact HB.out)⟩
          · rw [if_neg c13] at H
            have c13b0 : (t178 == t179) = false := beq_eq_false_iff_ne.mpr c13
            have c13b1 : (t178 != t179) = true := bne_iff_ne.mpr c13
            obtain rfl := Option.some.inj H
            exact absurd hr_.out (by simp)
        · rw [if_neg c10] at H
          have c10b0 : (t174 == t177) = false := beq_eq_false_iff_ne.mpr c10
          have c10b1 : (t174 != t177) = true := bne_iff_ne.mpr c10
          obtain rfl := Option.some.inj H
          exact absurd hr_.out (by simp)
      · rw [if_neg c9] at H
        have c9b0 : (t173 == t176) = false := beq_eq_false_iff_ne.mpr c9
        have c9b1 : (t173 != t176) = true := bne_iff_ne.mpr c9
        obtain rfl := Option.some.inj H
        exact absurd hr_.out (by simp)
    · rw [if_neg c8] at H
      have c8b0 : (t172 == t175) = false := beq_eq_false_iff_ne.mpr c8
      have c8b1 : (t172 != t175) = true := bne_iff_ne.mpr c8
      obtain rfl := Option.some.inj H
      exact absurd hr_.out (by simp)
  · replace c7 := Bool.eq_false_iff.mpr c7
    subst c7
    have H1 : (some false) = some r := by rw [if_neg (show ¬ (false = true) by decide)] at H; exact H
    clear H
    have H := H1
    clear H1
    obtain rfl := Option.some.inj H
    exact absurd hr_.out (by simp)

/-- THE ONE PURE STATEMENT of tallysticklaw01_WordDivides: yours. -/
def tallysticklaw01_WordDivides.Pure : Prop := ∀ (a0 : Int) (a1 : Int) (a2 : Int), (Lit.int .u64 a0).wf = true → (Lit.int .u64 a1).wf = true → (Lit.int .u64 a2).wf = true → ∃ k, tallysticklaw01_WordDivides.f k a0 a1 a2 = some true
theorem tallysticklaw01_WordDivides.walk (P : tallysticklaw01_WordDivides.Pure) (a0 : Int) (a1 : Int) (a2 : Int) (w : World) (w0 : (Lit.int .u64 a0).wf = true) (w1 : (Lit.int .u64 a1).wf = true) (w2 : (Lit.int .u64 a2).wf = true) :
    Calls Try.prog 10 #[.int .u64 a0, .int .u64 a1, .int .u64 a2] w fun e w' => e = .returned (.bool true) ∧ Below w.heap.size w w' := by
  obtain ⟨k, h⟩ := P a0 a1 a2 w0 w1 w2
  refine (tallysticklaw01_WordDivides.calls k a0 a1 a2 true w ⟨rfl⟩ h).mono ?_
  rintro e w' ⟨rfl, hd⟩
  exact ⟨rfl, hd⟩

end Go.Proofs.Ytnmfinhmhmepdaa.Pa
