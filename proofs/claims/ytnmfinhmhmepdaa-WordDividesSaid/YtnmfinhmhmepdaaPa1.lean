/- Contracts of functions and laws, written by this session's program myprint.py by way of the kit's print. -/
import Derived.Test.YtnmfinhmhmepdaaPa0
namespace Go.Proofs.Ytnmfinhmhmepdaa.Pa
open Go.RowKit Go.Proofs.Ytnmfinhmhmepdaa.Hand Go.Proofs.YtnmfinhmhmepdaaW.PrintWords Go.Proofs.YtnmfinhmhmepdaaW.PrintLast Go.Proofs.YtnmfinhmhmepdaaW.PrintMore
attribute [local go_sem] max2_int min2_int max_two min_two max_three min_three max_four min_four   -- for this text's walks alone
set_option linter.unusedVariables false
set_option linter.unusedSimpArgs false

-- by hand: function 12 (word_Div)

-- by hand: function 13 (word_Mul)

/-! ### tallysticklaw01_shown: function 11 -/
def tallysticklaw01_shown.f  : Option (Bool) := (word_Mul.f 9223372036854775808 6).bind fun bt102 => ((word_Div.f 1 0 2).bind fun bt104 => (if bt102.1 = 3 then (if bt102.2 = 0 then (if bt104.1 = 9223372036854775808 then (if bt104.2.1 = 0 then (some (bt104.2.2 == 0)) else (some false)) else (some false)) else (some false)) else (some false)))
set_option maxHeartbeats 8000000 in
set_option maxRecDepth 100000 in
theorem tallysticklaw01_shown.calls  (r : Bool) (w : World) (h : tallysticklaw01_shown.f  = some r) :
    Calls Try.prog 11 #[] w fun e w' => e = .returned (.bool r) ∧ Below w.heap.size w w' := by
  have HB := Aside0.mk (Below.refl w.heap.size w)
  have H : ((word_Mul.f 9223372036854775808 6).bind fun bt102 => ((word_Div.f 1 0 2).bind fun bt104 => (if bt102.1 = 3 then (if bt102.2 = 0 then (if bt104.1 = 9223372036854775808 then (if bt104.2.1 = 0 then (some (bt104.2.2 == 0)) else (some false)) else (some false)) else (some false)) else (some false)))) = some r := h
  clear h
  replace H := Option.bind_eq_some_iff.mp H
  obtain ⟨⟨t102, t103⟩, A10, H⟩ := H
  replace H : ((word_Div.f 1 0 2).bind fun bt104 => (if t102 = 3 then (if t103 = 0 then (if bt104.1 = 9223372036854775808 then (if bt104.2.1 = 0 then (some (bt104.2.2 == 0)) else (some false)) else (some false)) else (some false)) else (some false))) = some r := H
  have A1 := Aside0.mk A10
  clear A10
  replace H := Option.bind_eq_some_iff.mp H
  obtain ⟨⟨t104, t105, t106⟩, A20, H⟩ := H
  replace H : (if t102 = 3 then (if t103 = 0 then (if t104 = 9223372036854775808 then (if t105 = 0 then (some (t106 == 0)) else (some false)) else (some false)) else (some false)) else (some false)) = some r := H
  have A2 := Aside0.mk A20
  clear A20
  by_cases c3 : t102 = 3
  · rw [if_pos c3] at H
    have c3b0 : (t102 == 3) = true := beq_iff_eq.mpr c3
    have c3b1 : (t102 != 3) = false := bne_eq_false_iff_eq.mpr c3
    clear c3
    by_cases c4 : t103 = 0
    · rw [if_pos c4] at H
      have c4b0 : (t103 == 0) = true := beq_iff_eq.mpr c4
      have c4b1 : (t103 != 0) = false := bne_eq_false_iff_eq.mpr c4
      clear c4
      by_cases c5 : t104 = 9223372036854775808
      · rw [if_pos c5] at H
        have c5b0 : (t104 == 9223372036854775808) = true := beq_iff_eq.mpr c5
        have c5b1 : (t104 != 9223372036854775808) = false := bne_eq_false_iff_eq.mpr c5
        clear c5
        by_cases c6 : t105 = 0
        · rw [if_pos c6] at H
          have c6b0 : (t105 == 0) = true := beq_iff_eq.mpr c6
          have c6b1 : (t105 != 0) = false := bne_eq_false_iff_eq.mpr c6
          clear c6
          obtain rfl := Option.some.inj H
          go_enter Try.func11, Try.ntmps11
          go_wp2_with (first | ((with_reducible refine gate_callee (f := 13) rfl ?_); refine goesL_ (some 7) rfl rfl Try.func13 (by kernel_rfl) rfl #[.int .u64 9223372036854775808, .int .u64 6] rfl (by (try simp only [List.map_toArray, List.map_cons, List.map_nil]); first | done | rfl | (simp only [List.length_drop, List.length_take]; rfl)) ?_; (with_reducible refine (word_Mul.calls 9223372036854775808 6 t102 t103 _ A1.out).mono ?_); rintro e w7 ⟨rfl, hb⟩; refine ⟨_, rfl, ?_⟩; have n0_ := Aside0.mk (below_step (by repeat (first | (with_reducible first | exact HB.out | apply below_alloc | apply pw_below_drewN | apply below_drew1) | exact HB.out)) hb); clear HB; have HB := n0_; clear n0_; (try clear hb); (try clear hb2); (try clear hk); (try clear hi)) | ((with_reducible refine gate_callee (f := 12) rfl ?_); refine goesL_ (some 11) rfl rfl Try.func12 (by kernel_rfl) rfl #[.int .u64 1, .int .u64 0, .int .u64 2] rfl (by (try simp only [List.map_toArray, List.map_cons, List.map_nil]); first | done | rfl | (simp only [List.length_drop, List.length_take]; rfl)) ?_; (with_reducible refine (word_Div.calls 1 0 2 t104 t105 t106 _ A2.out).mono ?_); rintro e w8 ⟨rfl, hb⟩; refine ⟨_, rfl, ?_⟩; have n0_ := Aside0.mk (below_step (by repeat (first | (with_reducible first | exact HB.out | apply below_alloc | apply pw_below_drewN | apply below_drew1) | exact HB.out)) hb); clear HB; have HB := n0_; clear n0_; (try clear hb); (try clear hb2); (try clear hk); (try clear hi)))
          go_ret
          exact ⟨by first | rfl | (simp [errW_none, errW_some] <;> rfl) | (simp [*, errW_none, errW_some] <;> rfl), by repeat (first | (with_reducible first | exact HB.out | apply below_alloc | apply pw_below_drewN | apply below_drew1) | exact HB.out)⟩
        · rw [if_neg c6] at H
          have c6b0 : (t105 == 0) = false := beq_eq_false_iff_ne.mpr c6
          have c6b1 : (t105 != 0) = true := bne_iff_ne.mpr c6
          obtain rfl := Option.some.inj H
          go_enter Try.func11, Try.ntmps11
          go_wp2_with (first | ((with_reducible refine gate_callee (f := 13) rfl ?_); refine goesL_ (some 7) rfl rfl Try.func13 (by kernel_rfl) rfl #[.int .u64 9223372036854775808, .int .u64 6] rfl (by (try simp only [List.map_toArray, List.map_cons, List.map_nil]); first | done | rfl | (simp only [List.length_drop, List.length_take]; rfl)) ?_; (with_reducible refine (word_Mul.calls 9223372036854775808 6 t102 t103 _ A1.out).mono ?_); rintro e w9 ⟨rfl, hb⟩; refine ⟨_, rfl, ?_⟩; have n0_ := Aside0.mk (below_step (by repeat (first | (with_reducible first | exact HB.out | apply below_alloc | apply pw_below_drewN | apply below_drew1) | exact HB.out)) hb); clear HB; have HB := n0_; clear n0_; (try clear hb); (try clear hb2); (try clear hk); (try clear hi)) | ((with_reducible refine gate_callee (f := 12) rfl ?_); refine goesL_ (some 11) rfl rfl Try.func12 (by kernel_rfl) rfl #[.int .u64 1, .int .u64 0, .int .u64 2] rfl (by (try simp only [List.map_toArray, List.map_cons, List.map_nil]); first | done | rfl | (simp only [List.length_drop, List.length_take]; rfl)) ?_; (with_reducible refine (word_Div.calls 1 0 2 t104 t105 t106 _ A2.out).mono ?_); rintro e w10 ⟨rfl, hb⟩; refine ⟨_, rfl, ?_⟩; have n0_ := Aside0.mk (below_step (by repeat (first | (with_reducible first | exact HB.out | apply below_alloc | apply pw_below_drewN | apply below_drew1) | exact HB.out)) hb); clear HB; have HB := n0_; clear n0_; (try clear hb); (try clear hb2); (try clear hk); (try clear hi)))
          go_ret
          exact ⟨by first | rfl | (simp [errW_none, errW_some] <;> rfl) | (simp [*, errW_none, errW_some] <;> rfl), by repeat (first | (with_reducible first | exact HB.out | apply below_alloc | apply pw_below_drewN | apply below_drew1) | exact HB.out)⟩
      · rw [if_neg c5] at H
        have c5b0 : (t104 == 9223372036854775808) = false := beq_eq_false_iff_ne.mpr c5
        have c5b1 : (t104 != 9223372036854775808) = true := bne_iff_ne.mpr c5
        obtain rfl := Option.some.inj H
        go_enter Try.func11, Try.ntmps11
        go_wp2_with (first | ((with_reducible refine gate_callee (f := 13) rfl ?_); refine goesL_ (some 7) rfl rfl Try.func13 (by kernel_rfl) rfl #[.int .u64 9223372036854775808, .int .u64 6] rfl (by (try simp only [List.map_toArray, List.map_cons, List.map_nil]); first | done | rfl | (simp only [List.length_drop, List.length_take]; rfl)) ?_; (with_reducible refine (word_Mul.calls 9223372036854775808 6 t102 t103 _ A1.out).mono ?_); rintro e w11 ⟨rfl, hb⟩; refine ⟨_, rfl, ?_⟩; have n0_ := Aside0.mk (below_step (by repeat (first | (with_reducible first | exact HB.out | apply below_alloc | apply pw_below_drewN | apply below_drew1) | exact HB.out)) hb); clear HB; have HB := n0_; clear n0_; (try clear hb); (try clear hb2); (try clear hk); (try clear hi)) | ((with_reducible refine gate_callee (f := 12) rfl ?_); refine goesL_ (some 11) rfl rfl Try.func12 (by kernel_rfl) rfl #[.int .u64 1, .int .u64 0, .int .u64 2] rfl (by (try simp only [List.map_toArray, List.map_cons, List.map_nil]); first | done | rfl | (simp only [List.length_drop, List.length_take]; rfl)) ?_; (with_reducible refine (word_Div.calls 1 0 2 t104 t105 t106 _ A2.out).mono ?_); rintro e w12 ⟨rfl, hb⟩; refine ⟨_, rfl, ?_⟩; have n0_ := Aside0.mk (below_step (by repeat (first | (with_reducible first | exact HB.out | apply below_alloc | apply pw_below_drewN | apply below_drew1) | exact HB.out)) hb); clear HB; have HB := n0_; clear n0_; (try clear hb); (try clear hb2); (try clear hk); (try clear hi)))
        go_ret
        exact ⟨by first | rfl | (simp [errW_none, errW_some] <;> rfl) | (simp [*, errW_none, errW_some] <;> rfl), by repeat (first | (with_reducible first | exact HB.out | apply below_alloc | apply pw_below_drewN | apply below_drew1) | exact HB.out)⟩
    · rw [if_neg c4] at H
      have c4b0 : (t103 == 0) = false := beq_eq_false_iff_ne.mpr c4
      have c4b1 : (t103 != 0) = true := bne_iff_ne.mpr c4
      obtain rfl := Option.some.inj H
      go_enter Try.func11, Try.ntmps11
      go_wp2_with (first | ((with_reducible refine gate_callee (f := 13) rfl ?_); refine goesL_ (some 7) rfl rfl Try.func13 (by kernel_rfl) rfl #[.int .u64 9223372036854775808, .int .u64 6] rfl (by (try simp only [List.map_toArray, List.map_cons, List.map_nil]); first | done | rfl | (simp only [List.length_drop, List.length_take]; rfl)) ?_; (with_reducible refine (word_Mul.calls 9223372036854775808 6 t102 t103 _ A1.out).mono ?_); rintro e w13 ⟨rfl, hb⟩; refine ⟨_, rfl, ?_⟩; have n0_ := Aside0.mk (below_step (by repeat (first | (with_reducible first | exact HB.out | apply below_alloc | apply pw_below_drewN | apply below_drew1) | exact HB.out)) hb); clear HB; have HB := n0_; clear n0_; (try clear hb); (try clear hb2); (try clear hk); (try clear hi)) | ((with_reducible refine gate_callee (f := 12) rfl ?_); refine goesL_ (some 11) rfl rfl Try.func12 (by kernel_rfl) rfl #[.int .u64 1, .int .u64 0, .int .u64 2] rfl (by (try simp only [List.map_toArray, List.map_cons, List.map_nil]); first | done | rfl | (simp only [List.length_drop, List.length_take]; rfl)) ?_; (with_reducible refine (word_Div.calls 1 0 2 t104 t105 t106 _ A2.out).mono ?_); rintro e w14 ⟨rfl, hb⟩; refine ⟨_, rfl, ?_⟩; have n0_ := Aside0.mk (below_step (by repeat (first | (with_reducible first | exact HB.out | apply below_alloc | apply pw_below_drewN | apply below_drew1) | exact HB.out)) hb); clear HB; have HB := n0_; clear n0_; (try clear hb); (try clear hb2); (try clear hk); (try clear hi)))
      go_ret
      exact ⟨by first | rfl | (simp [errW_none, errW_some] <;> rfl) | (simp [*, errW_none, errW_some] <;> rfl), by repeat (first | (with_reducible first | exact HB.out | apply below_alloc | apply pw_below_drewN | apply below_drew1) | exact HB.out)⟩
  · rw [if_neg c3] at H
    have c3b0 : (t102 == 3) = false := beq_eq_false_iff_ne.mpr c3
    have c3b1 : (t102 != 3) = true := bne_iff_ne.mpr c3
    obtain rfl := Option.some.inj H
    go_enter Try.func11, Try.ntmps11
    go_wp2_with (first | ((with_reducible refine gate_callee (f := 13) rfl ?_); refine goesL_ (some 7) rfl rfl Try.func13 (by kernel_rfl) rfl #[.int .u64 9223372036854775808, .int .u64 6] rfl (by (try simp only [List.map_toArray, List.map_cons, List.map_nil]); first | done | rfl | (simp only [List.length_drop, List.length_take]; rfl)) ?_; (with_reducible refine (word_Mul.calls 9223372036854775808 6 t102 t103 _ A1.out).mono ?_); rintro e w15 ⟨rfl, hb⟩; refine ⟨_, rfl, ?_⟩; have n0_ := Aside0.mk (below_step (by repeat (first | (with_reducible first | exact HB.out | apply below_alloc | apply pw_below_drewN | apply below_drew1) | exact HB.out)) hb); clear HB; have HB := n0_; clear n0_; (try clear hb); (try clear hb2); (try clear hk); (try clear hi)) | ((with_reducible refine gate_callee (f := 12) rfl ?_); refine goesL_ (some 11) rfl rfl Try.func12 (by kernel_rfl) rfl #[.int .u64 1, .int .u64 0, .int .u64 2] rfl (by (try simp only [List.map_toArray, List.map_cons, List.map_nil]); first | done | rfl | (simp only [List.length_drop, List.length_take]; rfl)) ?_; (with_reducible refine (word_Div.calls 1 0 2 t104 t105 t106 _ A2.out).mono ?_); rintro e w16 ⟨rfl, hb⟩; refine ⟨_, rfl, ?_⟩; have n0_ := Aside0.mk (below_step (by repeat (first | (with_reducible first | exact HB.out | apply below_alloc | apply pw_below_drewN | apply below_drew1) | exact HB.out)) hb); clear HB; have HB := n0_; clear n0_; (try clear hb); (try clear hb2); (try clear hk); (try clear hi)))
    go_ret
    exact ⟨by first | rfl | (simp [errW_none, errW_some] <;> rfl) | (simp [*, errW_none, errW_some] <;> rfl), by repeat (first | (with_reducible first | exact HB.out | apply below_alloc | apply pw_below_drewN | apply below_drew1) | exact HB.out)⟩

-- NOT PRINTED: function 26 (bits_Add64)

-- by hand: function 14 (word_Add)

-- by hand: function 15 (word_Len)

-- by hand: function 16 (word_Gcd)

/-! ### tallystickref01_Add: function 17 -/
def tallystickref01_Add.j0 : Nat → Int → Int → Int → Option (Int × Int)
  | 0, _, _, _ => none
  | k + 1, x0, x1, x2 => if (IntKind.u64.wrap (x0 + x1)) < x0 then (if (IntKind.u64.wrap ((IntKind.u64.wrap (x0 + x1)) + x2)) < (IntKind.u64.wrap (x0 + x1)) then (some (IntKind.u64.wrap ((IntKind.u64.wrap (x0 + x1)) + x2), 1)) else (some (IntKind.u64.wrap ((IntKind.u64.wrap (x0 + x1)) + x2), 1))) else (if (IntKind.u64.wrap ((IntKind.u64.wrap (x0 + x1)) + x2)) < (IntKind.u64.wrap (x0 + x1)) then (some (IntKind.u64.wrap ((IntKind.u64.wrap (x0 + x1)) + x2), 1)) else (some (IntKind.u64.wrap ((IntKind.u64.wrap (x0 + x1)) + x2), 0)))
def tallystickref01_Add.f (k : Nat) (a0 : Int) (a1 : Int) (a2 : Int) : Option (Int × Int) := if a2 > 1 then (tallystickref01_Add.j0 k a0 a1 1) else (tallystickref01_Add.j0 k a0 a1 a2)
theorem tallystickref01_Add.mono_l : ∀ k, (∀ y0 y1 y2, LeO (tallystickref01_Add.j0 k y0 y1 y2) (tallystickref01_Add.j0 (k + 1) y0 y1 y2))
  | 0 => fun _ _ _ r h => by simp [tallystickref01_Add.j0] at h
  | k + 1 => by
    have ih0 := tallystickref01_Add.mono_l k
    · intro y0 y1 y2
      unfold tallystickref01_Add.j0
      repeat' first
      | (with_reducible exact ih0 _ _ _)
      | (with_reducible exact LeO.refl _)
      | (with_reducible exact LeO.none _)
      | (with_reducible refine LeO.ite ?_ ?_)
      | (with_reducible refine LeO.bind ?_ (fun _ => ?_))
      | exact ih0 _ _ _
      | exact LeO.none _
      | refine LeO.ite ?_ ?_
      | refine LeO.bind ?_ (fun _ => ?_)
theorem tallystickref01_Add.mono : ∀ a0 a1 a2 k, LeO (tallystickref01_Add.f k a0 a1 a2) (tallystickref01_Add.f (k + 1) a0 a1 a2) := by
  intro a0 a1 a2 k
  have ih0 := tallystickref01_Add.mono_l k
  unfold tallystickref01_Add.f
  repeat' first
      | (with_reducible exact ih0 _ _ _)
      | (with_reducible exact LeO.refl _)
      | (with_reducible exact LeO.none _)
      | (with_reducible refine LeO.ite ?_ ?_)
      | (with_reducible refine LeO.bind ?_ (fun _ => ?_))
      | exact ih0 _ _ _
      | exact LeO.none _
      | refine LeO.ite ?_ ?_
      | refine LeO.bind ?_ (fun _ => ?_)
set_option maxHeartbeats 8000000 in
set_option maxRecDepth 100000 in
theorem tallystickref01_Add.calls (k : Nat) (a0 : Int) (a1 : Int) (a2 : Int) (r1 : Int) (r2 : Int) (w : World) (h : tallystickref01_Add.f k a0 a1 a2 = some (r1, r2)) :
    Calls Try.prog 17 #[.int .u64 a0, .int .u64 a1, .int .u64 a2] w fun e w' => e = .returned (.tuple #[.int .u64 r1, .int .u64 r2]) ∧ Drawn0 w w' := by
  have H : (if a2 > 1 then (tallystickref01_Add.j0 k a0 a1 1) else (tallystickref01_Add.j0 k a0 a1 a2)) = some (r1, r2) := h
  clear h
  have HC4 := Aside0.mk H
  clear H
  go_enter Try.func17, Try.ntmps17
  go_upto_if 12 with (fail)
  go_cut [2] (fun v2 wc => ∃ (kq : Nat) (x2_3 : Int), v2 = .int .u64 x2_3 ∧ Aside0 (tallystickref01_Add.j0 kq a0 a1 x2_3 = some (r1, r2)) ∧ Aside0 (kq ≤ k) ∧ Drawn0 w wc)
  case first =>
    have H := HC4.out
    clear HC4
    by_cases c5 : a2 > 1
    · rw [if_pos c5] at H
      have c5b0 : decide (1 < a2) = true := decide_eq_true c5
      clear c5
      (first | rw [c5b0] | (simp only [i64_w, i32_w]; rw [c5b0]) | skip)
      have H' := Aside0.mk H
      clear H
      go_wp2
      go_meet
      case rel => exact ⟨_, (1), (by first | rfl | (simp; done) | (simp [*]; done)), H', ⟨by first | omega | exact Nat.le_refl _⟩, by repeat (first | exact Drawn0.refl _ | apply Drawn0.step)⟩
    · rw [if_neg c5] at H
      have c5b0 : decide (1 < a2) = false := decide_eq_false c5
      clear c5
      (first | rw [c5b0] | (simp only [i64_w, i32_w]; rw [c5b0]) | skip)
      have H' := Aside0.mk H
      clear H
      go_wp2
      go_meet
      case rel => exact ⟨_, (a2), (by first | rfl | (simp; done) | (simp [*]; done)), H', ⟨by first | omega | exact Nat.le_refl _⟩, by repeat (first | exact Drawn0.refl _ | apply Drawn0.step)⟩
  case rest =>
    clear HC4
    try clear c1
    try clear p2
    try clear c5
    try clear c5b0
    obtain ⟨kq, x2_3, rfl, HA, HJ3, ⟨mc3, rfl⟩⟩ := hcut
    cases kq with
    | zero => exact absurd HA.out (by simp [tallystickref01_Add.j0])
    | succ kj3 =>
      have H := HA.out
      clear HA
      simp only [tallystickref01_Add.j0] at H
      by_cases c6 : (IntKind.u64.wrap (a0 + a1)) < a0
      · rw [if_pos c6] at H
        have c6b0 : decide ((IntKind.u64.wrap (a0 + a1)) < a0) = true := decide_eq_true c6
        clear c6
        by_cases c7 : (IntKind.u64.wrap ((IntKind.u64.wrap (a0 + a1)) + x2_3)) < (IntKind.u64.wrap (a0 + a1))
        · rw [if_pos c7] at H
          have c7b0 : decide ((IntKind.u64.wrap ((IntKind.u64.wrap (a0 + a1)) + x2_3)) < (IntKind.u64.wrap (a0 + a1))) = true := decide_eq_true c7
          clear c7
          simp only [Option.some.injEq, Prod.mk.injEq] at H
          obtain ⟨rfl, rfl⟩ := H
          go_wp2
          go_ret2
          exact ⟨by first | rfl | (simp; done) | (simp [*]; done), by repeat (first | exact Drawn0.refl _ | apply Drawn0.step)⟩
        · rw [if_neg c7] at H
          have c7b0 : decide ((IntKind.u64.wrap ((IntKind.u64.wrap (a0 + a1)) + x2_3)) < (IntKind.u64.wrap (a0 + a1))) = false := decide_eq_false c7
          clear c7
          simp only [Option.some.injEq, Prod.mk.injEq] at H
          obtain ⟨rfl, rfl⟩ := H
          go_wp2
          go_ret2
          exact ⟨by first | rfl | (simp; done) | (simp [*]; done), by repeat (first | exact Drawn0.refl _ | apply Drawn0.step)⟩
      · rw [if_neg c6] at H
        have c6b0 : decide ((IntKind.u64.wrap (a0 + a1)) < a0) = false := decide_eq_false c6
        clear c6
        by_cases c8 : (IntKind.u64.wrap ((IntKind.u64.wrap (a0 + a1)) + x2_3)) < (IntKind.u64.wrap (a0 + a1))
        · rw [if_pos c8] at H
          have c8b0 : decide ((IntKind.u64.wrap ((IntKind.u64.wrap (a0 + a1)) + x2_3)) < (IntKind.u64.wrap (a0 + a1))) = true := decide_eq_true c8
          clear c8
          simp only [Option.some.injEq, Prod.mk.injEq] at H
          obtain ⟨rfl, rfl⟩ := H
          go_wp2
          go_ret2
          exact ⟨by first | rfl | (simp; done) | (simp [*]; done), by repeat (first | exact Drawn0.refl _ | apply Drawn0.step)⟩
        · rw [if_neg c8] at H
          have c8b0 : decide ((IntKind.u64.wrap ((IntKind.u64.wrap (a0 + a1)) + x2_3)) < (IntKind.u64.wrap (a0 + a1))) = false := decide_eq_false c8
          clear c8
          simp only [Option.some.injEq, Prod.mk.injEq] at H
          obtain ⟨rfl, rfl⟩ := H
          go_wp2
          go_ret2
          exact ⟨by first | rfl | (simp; done) | (simp [*]; done), by repeat (first | exact Drawn0.refl _ | apply Drawn0.step)⟩

-- NOT PRINTED: function 27 (bits_Sub64)

-- by hand: function 18 (word_Sub)

/-! ### tallystickref01_Sub: function 19 -/
def tallystickref01_Sub.f (a0 : Int) (a1 : Int) (a2 : Int) : Option (Int × Int) := if a2 > 1 then (if a0 > a1 then (some (IntKind.u64.wrap ((IntKind.u64.wrap (a0 - a1)) - 1), 0)) else (if a0 = a1 then (if 1 = 0 then (some (IntKind.u64.wrap ((IntKind.u64.wrap (a0 - a1)) - 1), 0)) else (some (IntKind.u64.wrap ((IntKind.u64.wrap (a0 - a1)) - 1), 1))) else (some (IntKind.u64.wrap ((IntKind.u64.wrap (a0 - a1)) - 1), 1)))) else (if a0 > a1 then (some (IntKind.u64.wrap ((IntKind.u64.wrap (a0 - a1)) - a2), 0)) else (if a0 = a1 then (if a2 = 0 then (some (IntKind.u64.wrap ((IntKind.u64.wrap (a0 - a1)) - a2), 0)) else (some (IntKind.u64.wrap ((IntKind.u64.wrap (a0 - a1)) - a2), 1))) else (some (IntKind.u64.wrap ((IntKind.u64.wrap (a0 - a1)) - a2), 1))))
set_option maxHeartbeats 8000000 in
set_option maxRecDepth 100000 in
theorem tallystickref01_Sub.calls (a0 : Int) (a1 : Int) (a2 : Int) (r1 : Int) (r2 : Int) (w : World) (h : tallystickref01_Sub.f a0 a1 a2 = some (r1, r2)) :
    Calls Try.prog 19 #[.int .u64 a0, .int .u64 a1, .int .u64 a2] w fun e w' => e = .returned (.tuple #[.int .u64 r1, .int .u64 r2]) ∧ Drawn0 w w' := by
  have H : (if a2 > 1 then (if a0 > a1 then (some (IntKind.u64.wrap ((IntKind.u64.wrap (a0 - a1)) - 1), 0)) else (if a0 = a1 then (if 1 = 0 then (some (IntKind.u64.wrap ((IntKind.u64.wrap (a0 - a1)) - 1), 0)) else (some (IntKind.u64.wrap ((IntKind.u64.wrap (a0 - a1)) - 1), 1))) else (some (IntKind.u64.wrap ((IntKind.u64.wrap (a0 - a1)) - 1), 1)))) else (if a0 > a1 then (some (IntKind.u64.wrap ((IntKind.u64.wrap (a0 - a1)) - a2), 0)) else (if a0 = a1 then (if a2 = 0 then (some (IntKind.u64.wrap ((IntKind.u64.wrap (a0 - a1)) - a2), 0)) else (some (IntKind.u64.wrap ((IntKind.u64.wrap (a0 - a1)) - a2), 1))) else (some (IntKind.u64.wrap ((IntKind.u64.wrap (a0 - a1)) - a2), 1))))) = some (r1, r2) := h
  clear h
  by_cases c4 : a2 > 1
  · rw [if_pos c4] at H
    have c4b0 : decide (1 < a2) = true := decide_eq_true c4
    clear c4
    by_cases c5 : a0 > a1
    · rw [if_pos c5] at H
      have c5b0 : decide (a1 < a0) = true := decide_eq_true c5
      clear c5
      simp only [Option.some.injEq, Prod.mk.injEq] at H
      obtain ⟨rfl, rfl⟩ := H
      go_enter Try.func19, Try.ntmps19
      go_wp2
      go_ret2
      exact ⟨by first | rfl | (simp; done) | (simp [*]; done), by repeat (first | exact Drawn0.refl _ | apply Drawn0.step)⟩
    · rw [if_neg c5] at H
      have c5b0 : decide (a1 < a0) = false := decide_eq_false c5
      clear c5
      by_cases c6 : a0 = a1
      · rw [if_pos c6] at H
        have c6b0 : (a0 == a1) = true := beq_iff_eq.mpr c6
        have c6b1 : (a0 != a1) = false := bne_eq_false_iff_eq.mpr c6
        clear c6
        by_cases c7 : 1 = 0
        · exact absurd c7 (by decide)
        · rw [if_neg c7] at H
          have c7b0 : (1 == 0) = false := beq_eq_false_iff_ne.mpr c7
          have c7b1 : (1 != 0) = true := bne_iff_ne.mpr c7
          simp only [Option.some.injEq, Prod.mk.injEq] at H
          obtain ⟨rfl, rfl⟩ := H
          go_enter Try.func19, Try.ntmps19
          go_wp2
          go_ret2
          exact ⟨by first | rfl | (simp; done) | (simp [*]; done), by repeat (first | exact Drawn0.refl _ | apply Drawn0.step)⟩
      · rw [if_neg c6] at H
        have c6b0 : (a0 == a1) = false := beq_eq_false_iff_ne.mpr c6
        have c6b1 : (a0 != a1) = true := bne_iff_ne.mpr c6
        simp only [Option.some.injEq, Prod.mk.injEq] at H
        obtain ⟨rfl, rfl⟩ := H
        go_enter Try.func19, Try.ntmps19
        go_wp2
        go_ret2
        exact ⟨by first | rfl | (simp; done) | (simp [*]; done), by repeat (first | exact Drawn0.refl _ | apply Drawn0.step)⟩
  · rw [if_neg c4] at H
    have c4b0 : decide (1 < a2) = false := decide_eq_false c4
    clear c4
    by_cases c8 : a0 > a1
    · rw [if_pos c8] at H
      have c8b0 : decide (a1 < a0) = true := decide_eq_true c8
      clear c8
      simp only [Option.some.injEq, Prod.mk.injEq] at H
      obtain ⟨rfl, rfl⟩ := H
      go_enter Try.func19, Try.ntmps19
      go_wp2
      go_ret2
      exact ⟨by first | rfl | (simp; done) | (simp [*]; done), by repeat (first | exact Drawn0.refl _ | apply Drawn0.step)⟩
    · rw [if_neg c8] at H
      have c8b0 : decide (a1 < a0) = false := decide_eq_false c8
      clear c8
      by_cases c9 : a0 = a1
      · rw [if_pos c9] at H
        have c9b0 : (a0 == a1) = true := beq_iff_eq.mpr c9
        have c9b1 : (a0 != a1) = false := bne_eq_false_iff_eq.mpr c9
        clear c9
        by_cases c10 : a2 = 0
        · rw [if_pos c10] at H
          have c10b0 : (a2 == 0) = true := beq_iff_eq.mpr c10
          have c10b1 : (a2 != 0) = false := bne_eq_false_iff_eq.mpr c10
          clear c10
          simp only [Option.some.injEq, Prod.mk.injEq] at H
          obtain ⟨rfl, rfl⟩ := H
          go_enter Try.func19, Try.ntmps19
          go_wp2
          go_ret2
          exact ⟨by first | rfl | (simp; done) | (simp [*]; done), by repeat (first | exact Drawn0.refl _ | apply Drawn0.step)⟩
        · rw [if_neg c10] at H
          have c10b0 : (a2 == 0) = false := beq_eq_false_iff_ne.mpr c10
          have c10b1 : (a2 != 0) = true := bne_iff_ne.mpr c10
          simp only [Option.some.injEq, Prod.mk.injEq] at H
          obtain ⟨rfl, rfl⟩ := H
          go_enter Try.func19, Try.ntmps19
          go_wp2
          go_ret2
          exact ⟨by first | rfl | (simp; done) | (simp [*]; done), by repeat (first | exact Drawn0.refl _ | apply Drawn0.step)⟩
      · rw [if_neg c9] at H
        have c9b0 : (a0 == a1) = false := beq_eq_false_iff_ne.mpr c9
        have c9b1 : (a0 != a1) = true := bne_iff_ne.mpr c9
        simp only [Option.some.injEq, Prod.mk.injEq] at H
        obtain ⟨rfl, rfl⟩ := H
        go_enter Try.func19, Try.ntmps19
        go_wp2
        go_ret2
        exact ⟨by first | rfl | (simp; done) | (simp [*]; done), by repeat (first | exact Drawn0.refl _ | apply Drawn0.step)⟩

/-! ### tallystickref01_Mul: function 20 -/
def tallystickref01_Mul.f (a0 : Int) (a1 : Int) : Option (Int × Int) := some (IntKind.u64.wrap ((IntKind.u64.wrap ((IntKind.u64.wrap ((IntKind.u64.wrap (Int.tdiv a0 4294967296)) * (IntKind.u64.wrap (Int.tdiv a1 4294967296)))) + (IntKind.u64.wrap (Int.tdiv (IntKind.u64.wrap ((IntKind.u64.wrap ((Int.tmod a0 4294967296) * (IntKind.u64.wrap (Int.tdiv a1 4294967296)))) + (IntKind.u64.wrap (Int.tdiv (IntKind.u64.wrap ((Int.tmod a0 4294967296) * (Int.tmod a1 4294967296))) 4294967296)))) 4294967296)))) + (IntKind.u64.wrap (Int.tdiv (IntKind.u64.wrap ((IntKind.u64.wrap ((IntKind.u64.wrap (Int.tdiv a0 4294967296)) * (Int.tmod a1 4294967296))) + (Int.tmod (IntKind.u64.wrap ((IntKind.u64.wrap ((Int.tmod a0 4294967296) * (IntKind.u64.wrap (Int.tdiv a1 4294967296)))) + (IntKind.u64.wrap (Int.tdiv (IntKind.u64.wrap ((Int.tmod a0 4294967296) * (Int.tmod a1 4294967296))) 4294967296)))) 4294967296))) 4294967296))), IntKind.u64.wrap (a0 * a1))
set_option maxHeartbeats 8000000 in
set_option maxRecDepth 100000 in
theorem tallystickref01_Mul.calls (a0 : Int) (a1 : Int) (r1 : Int) (r2 : Int) (w : World) (h : tallystickref01_Mul.f a0 a1 = some (r1, r2)) :
    Calls Try.prog 20 #[.int .u64 a0, .int .u64 a1] w fun e w' => e = .returned (.tuple #[.int .u64 r1, .int .u64 r2]) ∧ Drawn0 w w' := by
  have H : (some (IntKind.u64.wrap ((IntKind.u64.wrap ((IntKind.u64.wrap ((IntKind.u64.wrap (Int.tdiv a0 4294967296)) * (IntKind.u64.wrap (Int.tdiv a1 4294967296)))) + (IntKind.u64.wrap (Int.tdiv (IntKind.u64.wrap ((IntKind.u64.wrap ((Int.tmod a0 4294967296) * (IntKind.u64.wrap (Int.tdiv a1 4294967296)))) + (IntKind.u64.wrap (Int.tdiv (IntKind.u64.wrap ((Int.tmod a0 4294967296) * (Int.tmod a1 4294967296))) 4294967296)))) 4294967296)))) + (IntKind.u64.wrap (Int.tdiv (IntKind.u64.wrap ((IntKind.u64.wrap ((IntKind.u64.wrap (Int.tdiv a0 4294967296)) * (Int.tmod a1 4294967296))) + (Int.tmod (IntKind.u64.wrap ((IntKind.u64.wrap ((Int.tmod a0 4294967296) * (IntKind.u64.wrap (Int.tdiv a1 4294967296)))) + (IntKind.u64.wrap (Int.tdiv (IntKind.u64.wrap ((Int.tmod a0 4294967296) * (Int.tmod a1 4294967296))) 4294967296)))) 4294967296))) 4294967296))), IntKind.u64.wrap (a0 * a1))) = some (r1, r2) := h
  clear h
  simp only [Option.some.injEq, Prod.mk.injEq] at H
  obtain ⟨rfl, rfl⟩ := H
  go_enter Try.func20, Try.ntmps20
  go_wp2
  go_ret2
  exact ⟨by first | rfl | (simp; done) | (simp [*]; done), by repeat (first | exact Drawn0.refl _ | apply Drawn0.step)⟩

/-! ### tallystickref01_Div: function 21 -/
def tallystickref01_Div.l0 : Nat → Int → Int → Int → Int → Int → Int → Option (Int × Int × Int)
  | 0, _, _, _, _, _, _ => none
  | k + 1, x1, x2, x9, x10, x11, x12 => if x12 < 64 then (if x1 ≥ x11 then (if x10 ≥ 9223372036854775808 then (tallystickref01_Div.l0 k (IntKind.u64.wrap (x1 - x11)) x2 (IntKind.u64.wrap ((IntKind.u64.wrap (x9 + x9)) + 1)) (IntKind.u64.wrap ((IntKind.u64.wrap ((IntKind.u64.wrap (x10 + x10)) + 1)) - x2)) (IntKind.u64.wrap (Int.tdiv x11 2)) (wrap64 (x12 + 1))) else (if (IntKind.u64.wrap ((IntKind.u64.wrap (x10 + x10)) + 1)) ≥ x2 then (tallystickref01_Div.l0 k (IntKind.u64.wrap (x1 - x11)) x2 (IntKind.u64.wrap ((IntKind.u64.wrap (x9 + x9)) + 1)) (IntKind.u64.wrap ((IntKind.u64.wrap ((IntKind.u64.wrap (x10 + x10)) + 1)) - x2)) (IntKind.u64.wrap (Int.tdiv x11 2)) (wrap64 (x12 + 1))) else (tallystickref01_Div.l0 k (IntKind.u64.wrap (x1 - x11)) x2 (IntKind.u64.wrap (x9 + x9)) (IntKind.u64.wrap ((IntKind.u64.wrap (x10 + x10)) + 1)) (IntKind.u64.wrap (Int.tdiv x11 2)) (wrap64 (x12 + 1))))) else (if x10 ≥ 9223372036854775808 then (tallystickref01_Div.l0 k x1 x2 (IntKind.u64.wrap ((IntKind.u64.wrap (x9 + x9)) + 1)) (IntKind.u64.wrap ((IntKind.u64.wrap (x10 + x10)) - x2)) (IntKind.u64.wrap (Int.tdiv x11 2)) (wrap64 (x12 + 1))) else (if (IntKind.u64.wrap (x10 + x10)) ≥ x2 then (tallystickref01_Div.l0 k x1 x2 (IntKind.u64.wrap ((IntKind.u64.wrap (x9 + x9)) + 1)) (IntKind.u64.wrap ((IntKind.u64.wrap (x10 + x10)) - x2)) (IntKind.u64.wrap (Int.tdiv x11 2)) (wrap64 (x12 + 1))) else (tallystickref01_Div.l0 k x1 x2 (IntKind.u64.wrap (x9 + x9)) (IntKind.u64.wrap (x10 + x10)) (IntKind.u64.wrap (Int.tdiv x11 2)) (wrap64 (x12 + 1)))))) else (some (x9, x10, 0))
def tallystickref01_Div.f (k : Nat) (a0 : Int) (a1 : Int) (a2 : Int) : Option (Int × Int × Int) := if a2 = 0 then (some (0, 0, 2)) else (if a0 ≥ a2 then (some (0, 0, 1)) else (tallystickref01_Div.l0 k a1 a2 0 a0 9223372036854775808 0))
theorem tallystickref01_Div.mono_l : ∀ k, (∀ y0 y1 y2 y3 y4 y5, LeO (tallystickref01_Div.l0 k y0 y1 y2 y3 y4 y5) (tallystickref01_Div.l0 (k + 1) y0 y1 y2 y3 y4 y5))
  | 0 => fun _ _ _ _ _ _ r h => by simp [tallystickref01_Div.l0] at h
  | k + 1 => by
    have ih0 := tallystickref01_Div.mono_l k
    · intro y0 y1 y2 y3 y4 y5
      unfold tallystickref01_Div.l0
      repeat' first
      | (with_reducible exact ih0 _ _ _ _ _ _)
      | (with_reducible exact LeO.refl _)
      | (with_reducible exact LeO.none _)
      | (with_reducible refine LeO.ite ?_ ?_)
      | (with_reducible refine LeO.bind ?_ (fun _ => ?_))
      | exact ih0 _ _ _ _ _ _
      | exact LeO.none _
      | refine LeO.ite ?_ ?_
      | refine LeO.bind ?_ (fun _ => ?_)
theorem tallystickref01_Div.mono : ∀ a0 a1 a2 k, LeO (tallystickref01_Div.f k a0 a1 a2) (tallystickref01_Div.f (k + 1) a0 a1 a2) := by
  intro a0 a1 a2 k
  have ih0 := tallystickref01_Div.mono_l k
  unfold tallystickref01_Div.f
  repeat' first
      | (with_reducible exact ih0 _ _ _ _ _ _)
      | (with_reducible exact LeO.refl _)
      | (with_reducible exact LeO.none _)
      | (with_reducible refine LeO.ite ?_ ?_)
      | (with_reducible refine LeO.bind ?_ (fun _ => ?_))
      | exact ih0 _ _ _ _ _ _
      | exact LeO.none _
      | refine LeO.ite ?_ ?_
      | refine LeO.bind ?_ (fun _ => ?_)
set_option maxHeartbeats 8000000 in
set_option maxRecDepth 100000 in
theorem tallystickref01_Div.calls (k : Nat) (a0 : Int) (a1 : Int) (a2 : Int) (r1 : Int) (r2 : Int) (r3 : Int) (w : World) (h : tallystickref01_Div.f k a0 a1 a2 = some (r1, r2, r3)) :
    Calls Try.prog 21 #[.int .u64 a0, .int .u64 a1, .int .u64 a2] w fun e w' => e = .returned (.tuple #[.int .u64 r1, .int .u64 r2, .int .i64 r3]) ∧ Drawn0 w w' := by
  have H : (if a2 = 0 then (some (0, 0, 2)) else (if a0 ≥ a2 then (some (0, 0, 1)) else (tallystickref01_Div.l0 k a1 a2 0 a0 9223372036854775808 0))) = some (r1, r2, r3) := h
  clear h
  by_cases c4 : a2 = 0
  · rw [if_pos c4] at H
    have c4b0 : (a2 == 0) = true := beq_iff_eq.mpr c4
    have c4b1 : (a2 != 0) = false := bne_eq_false_iff_eq.mpr c4
    clear c4
    simp only [Option.some.injEq, Prod.mk.injEq] at H
    obtain ⟨rfl, rfl, rfl⟩ := H
    go_enter Try.func21, Try.ntmps21
    go_wp2
    go_ret3
    exact ⟨by first | rfl | (simp; done) | (simp [*]; done), by repeat (first | exact Drawn0.refl _ | apply Drawn0.step)⟩
  · rw [if_neg c4] at H
    have c4b0 : (a2 == 0) = false := beq_eq_false_iff_ne.mpr c4
    have c4b1 : (a2 != 0) = true := bne_iff_ne.mpr c4
    by_cases c5 : a0 ≥ a2
    · rw [if_pos c5] at H
      have c5b0 : decide (a2 ≤ a0) = true := decide_eq_true c5
      clear c5
      simp only [Option.some.injEq, Prod.mk.injEq] at H
      obtain ⟨rfl, rfl, rfl⟩ := H
      go_enter Try.func21, Try.ntmps21
      go_wp2
      go_ret3
      exact ⟨by first | rfl | (simp; done) | (simp [*]; done), by repeat (first | exact Drawn0.refl _ | apply Drawn0.step)⟩
    · rw [if_neg c5] at H
      have c5b0 : decide (a2 ≤ a0) = false := decide_eq_false c5
      clear c5
      have H' := Aside0.mk H
      clear H
      go_enter Try.func21, Try.ntmps21
      go_wp2
      go_loopg [1, 9, 10, 11, 12] k (fun kq v1 v9 v10 v11 v12 w' => ∃ (x1_1 : Int) (x9_1 : Int) (x10_1 : Int) (x11_1 : Int) (x12_1 : Int), v1 = .int .u64 x1_1 ∧ v9 = .int .u64 x9_1 ∧ v10 = .int .u64 x10_1 ∧ v11 = .int .u64 x11_1 ∧ v12 = .int .i64 x12_1 ∧ Aside0 (tallystickref01_Div.l0 kq x1_1 a2 x9_1 x10_1 x11_1 x12_1 = some (r1, r2, r3)) ∧ Aside0 (kq ≤ k) ∧ Drawn0 w w')
      case atStart => exact ⟨(a1), (0), (a0), (9223372036854775808), (0), (by first | rfl | (simp; done) | (simp [*]; done)), (by first | rfl | (simp; done) | (simp [*]; done)), (by first | rfl | (simp; done) | (simp [*]; done)), (by first | rfl | (simp; done) | (simp [*]; done)), (by first | rfl | (simp; done) | (simp [*]; done)), H', ⟨Nat.le_refl _⟩, by repeat (first | exact Drawn0.refl _ | apply Drawn0.step)⟩
      case round =>
        clear H'
        try clear c2
        try clear p2
        try clear c4
        try clear c4b0
        try clear c4b1
        try clear c5
        try clear c5b0
        obtain ⟨x1_1, x9_1, x10_1, x11_1, x12_1, rfl, rfl, rfl, rfl, rfl, HA, HK1, ⟨m1, rfl⟩⟩ := hrel
        cases gk with
        | zero => exact absurd HA.out (by simp [tallystickref01_Div.l0])
        | succ k1 =>
          have H := HA.out
          clear HA
          simp only [tallystickref01_Div.l0] at H
          by_cases c6 : x12_1 < 64
          · rw [if_pos c6] at H
            have c6b0 : decide (x12_1 < 64) = true := decide_eq_true c6
            clear c6
            by_cases c7 : x1_1 ≥ x11_1
            · rw [if_pos c7] at H
              have c7b0 : decide (x11_1 ≤ x1_1) = true := decide_eq_true c7
              clear c7
              by_cases c8 : x10_1 ≥ 9223372036854775808
              · rw [if_pos c8] at H
                have c8b0 : decide (9223372036854775808 ≤ x10_1) = true := decide_eq_true c8
                clear c8
                have H' := Aside0.mk H
                clear H
                go_wp2
                go_roundg k1
                case measure => have := HK1.out; omega
                case rel => exact ⟨(IntKind.u64.wrap (x1_1 - x11_1)), (IntKind.u64.wrap ((IntKind.u64.wrap (x9_1 + x9_1)) + 1)), (IntKind.u64.wrap ((IntKind.u64.wrap ((IntKind.u64.wrap (x10_1 + x10_1)) + 1)) - a2)), (IntKind.u64.wrap (Int.tdiv x11_1 2)), (wrap64 (x12_1 + 1)), (by first | rfl | (simp; done) | (simp [*]; done)), (by first | rfl | (simp; done) | (simp [*]; done)), (by first | rfl | (simp; done) | (simp [*]; done)), (by first | rfl | (simp; done) | (simp [*]; done)), (by first | rfl | (simp; done) | (simp [*]; done)), H', ⟨by have := HK1.out; omega⟩, by repeat (first | exact Drawn0.refl _ | apply Drawn0.step)⟩
              · rw [if_neg c8] at H
                have c8b0 : decide (9223372036854775808 ≤ x10_1) = false := decide_eq_false c8
                clear c8
                by_cases c9 : (IntKind.u64.wrap ((IntKind.u64.wrap (x10_1 + x10_1)) + 1)) ≥ a2
                · rw [if_pos c9] at H
                  have c9b0 : decide (a2 ≤ (IntKind.u64.wrap ((IntKind.u64.wrap (x10_1 + x10_1)) + 1))) = true := decide_eq_true c9
                  clear c9
                  have H' := Aside0.mk H
                  clear H
                  go_wp2
                  go_roundg k1
                  case measure => have := HK1.out; omega
                  case rel => exact ⟨(IntKind.u64.wrap (x1_1 - x11_1)), (IntKind.u64.wrap ((IntKind.u64.wrap (x9_1 + x9_1)) + 1)), (IntKind.u64.wrap ((IntKind.u64.wrap ((IntKind.u64.wrap (x10_1 + x10_1)) + 1)) - a2)), (IntKind.u64.wrap (Int.tdiv x11_1 2)), (wrap64 (x12_1 + 1)), (by first | rfl | (simp; done) | (simp [*]; done)), (by first | rfl | (simp; done) | (simp [*]; done)), (by first | rfl | (simp; done) | (simp [*]; done)), (by first | rfl | (simp; done) | (simp [*]; done)), (by first | rfl | (simp; done) | (simp [*]; done)), H', ⟨by have := HK1.out; omega⟩, by repeat (first | exact Drawn0.refl _ | apply Drawn0.step)⟩
                · rw [if_neg c9] at H
                  have c9b0 : decide (a2 ≤ (IntKind.u64.wrap ((IntKind.u64.wrap (x10_1 + x10_1)) + 1))) = false := decide_eq_false c9
                  clear c9
                  have H' := Aside0.mk H
                  clear H
                  go_wp2
                  go_roundg k1
                  case measure => have := HK1.out; omega
                  case rel => exact ⟨(IntKind.u64.wrap (x1_1 - x11_1)), (IntKind.u64.wrap (x9_1 + x9_1)), (IntKind.u64.wrap ((IntKind.u64.wrap (x10_1 + x10_1)) + 1)), (IntKind.u64.wrap (Int.tdiv x11_1 2)), (wrap64 (x12_1 + 1)), (by first | rfl | (simp; done) | (simp [*]; done)), (by first | rfl | (simp; done) | (simp [*]; done)), (by first | rfl | (simp; done) | (simp [*]; done)), (by first | rfl | (simp; done) | (simp [*]; done)), (by first | rfl | (simp; done) | (simp [*]; done)), H', ⟨by have := HK1.out; omega⟩, by repeat (first | exact Drawn0.refl _ | apply Drawn0.step)⟩
            · rw [if_neg c7] at H
              have c7b0 : decide (x11_1 ≤ x1_1) = false := decide_eq_false c7
              clear c7
              by_cases c10 : x10_1 ≥ 9223372036854775808
              · rw [if_pos c10] at H
                have c10b0 : decide (9223372036854775808 ≤ x10_1) = true := decide_eq_true c10
                clear c10
                have H' := Aside0.mk H
                clear H
                go_wp2
                go_roundg k1
                case measure => have := HK1.out; omega
                case rel => exact ⟨(x1_1), (IntKind.u64.wrap ((IntKind.u64.wrap (x9_1 + x9_1)) + 1)), (IntKind.u64.wrap ((IntKind.u64.wrap (x10_1 + x10_1)) - a2)), (IntKind.u64.wrap (Int.tdiv x11_1 2)), (wrap64 (x12_1 + 1)), (by first | rfl | (simp; done) | (simp [*]; done)), (by first | rfl | (simp; done) | (simp [*]; done)), (by first | rfl | (simp; done) | (simp [*]; done)), (by first | rfl | (simp; done) | (simp [*]; done)), (by first | rfl | (simp; done) | (simp [*]; done)), H', ⟨by have := HK1.out; omega⟩, by repeat (first | exact Drawn0.refl _ | apply Drawn0.step)⟩
              · rw [if_neg c10] at H
                have c10b0 : decide (9223372036854775808 ≤ x10_1) = false := decide_eq_false c10
                clear c10
                by_cases c11 : (IntKind.u64.wrap (x10_1 + x10_1)) ≥ a2
                · rw [if_pos c11] at H
                  have c11b0 : decide (a2 ≤ (IntKind.u64.wrap (x10_1 + x10_1))) = true := decide_eq_true c11
                  clear c11
                  have H' := Aside0.mk H
                  clear H
                  go_wp2
                  go_roundg k1
                  case measure => have := HK1.out; omega
                  case rel => exact ⟨(x1_1), (IntKind.u64.wrap ((IntKind.u64.wrap (x9_1 + x9_1)) + 1)), (IntKind.u64.wrap ((IntKind.u64.wrap (x10_1 + x10_1)) - a2)), (IntKind.u64.wrap (Int.tdiv x11_1 2)), (wrap64 (x12_1 + 1)), (by first | rfl | (simp; done) | (simp [*]; done)), (by first | rfl | (simp; done) | (simp [*]; done)), (by first | rfl | (simp; done) | (simp [*]; done)), (by first | rfl | (simp; done) | (simp [*]; done)), (by first | rfl | (simp; done) | (simp [*]; done)), H', ⟨by have := HK1.out; omega⟩, by repeat (first | exact Drawn0.refl _ | apply Drawn0.step)⟩
                · rw [if_neg c11] at H
                  have c11b0 : decide (a2 ≤ (IntKind.u64.wrap (x10_1 + x10_1))) = false := decide_eq_false c11
                  clear c11
                  have H' := Aside0.mk H
                  clear H
                  go_wp2
                  go_roundg k1
                  case measure => have := HK1.out; omega
                  case rel => exact ⟨(x1_1), (IntKind.u64.wrap (x9_1 + x9_1)), (IntKind.u64.wrap (x10_1 + x10_1)), (IntKind.u64.wrap (Int.tdiv x11_1 2)), (wrap64 (x12_1 + 1)), (by first | rfl | (simp; done) | (simp [*]; done)), (by first | rfl | (simp; done) | (simp [*]; done)), (by first | rfl | (simp; done) | (simp [*]; done)), (by first | rfl | (simp; done) | (simp [*]; done)), (by first | rfl | (simp; done) | (simp [*]; done)), H', ⟨by have := HK1.out; omega⟩, by repeat (first | exact Drawn0.refl _ | apply Drawn0.step)⟩
          · rw [if_neg c6] at H
            have c6b0 : decide (x12_1 < 64) = false := decide_eq_false c6
            clear c6
            simp only [Option.some.injEq, Prod.mk.injEq] at H
            obtain ⟨rfl, rfl, rfl⟩ := H
            go_wp2
            go_ret3
            exact ⟨by first | rfl | (simp; done) | (simp [*]; done), by repeat (first | exact Drawn0.refl _ | apply Drawn0.step)⟩

/-! ### tallystickref01_Len: function 22 -/
def tallystickref01_Len.l0 : Nat → Int → Int → Option (Int)
  | 0, _, _ => none
  | k + 1, x0, x3 => if x0 > 0 then (tallystickref01_Len.l0 k (IntKind.u64.wrap (Int.tdiv x0 2)) (wrap64 (x3 + 1))) else (some x3)
def tallystickref01_Len.f (k : Nat) (a0 : Int) : Option (Int) := tallystickref01_Len.l0 k a0 0
theorem tallystickref01_Len.mono_l : ∀ k, (∀ y0 y1, LeO (tallystickref01_Len.l0 k y0 y1) (tallystickref01_Len.l0 (k + 1) y0 y1))
  | 0 => fun _ _ r h => by simp [tallystickref01_Len.l0] at h
  | k + 1 => by
    have ih0 := tallystickref01_Len.mono_l k
    · intro y0 y1
      unfold tallystickref01_Len.l0
      repeat' first
      | (with_reducible exact ih0 _ _)
      | (with_reducible exact LeO.refl _)
      | (with_reducible exact LeO.none _)
      | (with_reducible refine LeO.ite ?_ ?_)
      | (with_reducible refine LeO.bind ?_ (fun _ => ?_))
      | exact ih0 _ _
      | exact LeO.none _
      | refine LeO.ite ?_ ?_
      | refine LeO.bind ?_ (fun _ => ?_)
theorem tallystickref01_Len.mono : ∀ a0 k, LeO (tallystickref01_Len.f k a0) (tallystickref01_Len.f (k + 1) a0) := by
  intro a0 k
  have ih0 := tallystickref01_Len.mono_l k
  unfold tallystickref01_Len.f
  repeat' first
      | (with_reducible exact ih0 _ _)
      | (with_reducible exact LeO.refl _)
      | (with_reducible exact LeO.none _)
      | (with_reducible refine LeO.ite ?_ ?_)
      | (with_reducible refine LeO.bind ?_ (fun _ => ?_))
      | exact ih0 _ _
      | exact LeO.none _
      | refine LeO.ite ?_ ?_
      | refine LeO.bind ?_ (fun _ => ?_)
set_option maxHeartbeats 8000000 in
set_option maxRecDepth 100000 in
theorem tallystickref01_Len.calls (k : Nat) (a0 : Int) (r : Int) (w : World) (h : tallystickref01_Len.f k a0 = some r) :
    Calls Try.prog 22 #[.int .u64 a0] w fun e w' => e = .returned (.int .i64 r) ∧ Drawn0 w w' := by
  have H : (tallystickref01_Len.l0 k a0 0) = some r := h
  clear h
  have H' := Aside0.mk H
  clear H
  go_enter Try.func22, Try.ntmps22
  go_wp2
  go_loopg [0, 3] k (fun kq v0 v3 w' => ∃ (x0_1 : Int) (x3_1 : Int), v0 = .int .u64 x0_1 ∧ v3 = .int .i64 x3_1 ∧ Aside0 (tallystickref01_Len.l0 kq x0_1 x3_1 = some r) ∧ Aside0 (kq ≤ k) ∧ Drawn0 w w')
  case atStart => exact ⟨(a0), (0), (by first | rfl | (simp; done) | (simp [*]; done)), (by first | rfl | (simp; done) | (simp [*]; done)), H', ⟨Nat.le_refl _⟩, by repeat (first | exact Drawn0.refl _ | apply Drawn0.step)⟩
  case round =>
    clear H'
    obtain ⟨x0_1, x3_1, rfl, rfl, HA, HK1, ⟨m1, rfl⟩⟩ := hrel
    cases gk with
    | zero => exact absurd HA.out (by simp [tallystickref01_Len.l0])
    | succ k1 =>
      have H := HA.out
      clear HA
      simp only [tallystickref01_Len.l0] at H
      by_cases c2 : x0_1 > 0
      · rw [if_pos c2] at H
        have c2b0 : decide (0 < x0_1) = true := decide_eq_true c2
        clear c2
        have H' := Aside0.mk H
        clear H
        go_wp2
        go_roundg k1
        case measure => have := HK1.out; omega
        case rel => exact ⟨(IntKind.u64.wrap (Int.tdiv x0_1 2)), (wrap64 (x3_1 + 1)), (by first | rfl | (simp; done) | (simp [*]; done)), (by first | rfl | (simp; done) | (simp [*]; done)), H', ⟨by have := HK1.out; omega⟩, by repeat (first | exact Drawn0.refl _ | apply Drawn0.step)⟩
      · rw [if_neg c2] at H
        have c2b0 : decide (0 < x0_1) = false := decide_eq_false c2
        clear c2
        obtain rfl := Option.some.inj H
        go_wp2
        go_ret
        exact ⟨by first | rfl | (simp; done) | (simp [*]; done), by repeat (first | exact Drawn0.refl _ | apply Drawn0.step)⟩

end Go.Proofs.Ytnmfinhmhmepdaa.Pa
