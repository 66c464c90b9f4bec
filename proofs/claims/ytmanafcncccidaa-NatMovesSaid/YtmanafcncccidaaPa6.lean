/- Contracts of functions and laws, written by this session's program myprint.py by way of the kit's print. -/
import Derived.Test.YtmanafcncccidaaPa0
import Derived.Test.YtmanafcncccidaaPa1
import Derived.Test.YtmanafcncccidaaPa2
import Derived.Test.YtmanafcncccidaaPa3
namespace Go.Proofs.Ytmanafcncccidaa.Pa
open Go.RowKit Go.Proofs.Ytmanafcncccidaa.Hand Go.Proofs.YtmanafcncccidaaW.PrintWords Go.Proofs.YtmanafcncccidaaW.PrintLast Go.Proofs.YtmanafcncccidaaW.PrintMore
attribute [local go_sem] max2_int min2_int max_two min_two max_three min_three max_four min_four   -- for this text's walks alone
set_option linter.unusedVariables false
set_option linter.unusedSimpArgs false

/-! ### tallysticklaw04_NatMoves: function 4 -/
mutual
def tallysticklaw04_NatMoves.j0 : Nat → List Int → Int → Bool → Bool → Option (Bool)
  | 0, _, _, _, _ => none
  | k + 1, x0, x1, x5, x22 => if x22 = true then (some x5) else (if x1 < 0 then (tallysticklaw04_NatMoves.j1 k x0 x1 x5 0) else (tallysticklaw04_NatMoves.j1 k x0 x1 x5 x1))
def tallysticklaw04_NatMoves.j1 : Nat → List Int → Int → Bool → Int → Option (Bool)
  | 0, _, _, _, _ => none
  | k + 1, x0, x1, x5, x7 => (tallystickref04_Digits.f k x0).bind fun t385 => ((tallystickref04_Power.f k x7).bind fun t388 => ((tallystickref04_Div.f k t385 t388).bind fun bt391 => ((nat_Shr.f x0 x1).bind fun t397 => ((tallystickref04_Words.f k bt391.1).bind fun t400 => ((tallystickref04_Same.f k t397 t400).bind fun t403 => ((nat_Low.f x0 x1).bind fun t404 => ((tallystickref04_Words.f k bt391.2).bind fun t407 => ((tallystickref04_Same.f k t404 t407).bind fun t410 => (if x5 = true then (if t403 = true then (if t410 = true then ((nat_Shl.f x0 x1).bind fun t411 => ((tallystickref04_Mul.f k t385 t388).bind fun t414 => ((tallystickref04_Words.f k t414).bind fun t417 => ((tallystickref04_Same.f k t411 t417).bind fun t420 => (some t420))))) else (some false)) else (some false)) else (some false))))))))))
end
def tallysticklaw04_NatMoves.f (k : Nat) (l0 : List Int) (a1 : Int) : Option (Bool) := (tallysticklaw04_shown.f).bind fun t383 => ((tallysticklaw04_few.f l0 ([] : List Int)).bind fun t384 => (if t384 = true then (tallysticklaw04_NatMoves.j0 k l0 a1 t383 (decide (a1 > 3000))) else (tallysticklaw04_NatMoves.j0 k l0 a1 t383 true)))
theorem tallysticklaw04_NatMoves.mono_l : ∀ k, (∀ y0 y1 y2 y3, LeO (tallysticklaw04_NatMoves.j0 k y0 y1 y2 y3) (tallysticklaw04_NatMoves.j0 (k + 1) y0 y1 y2 y3)) ∧ (∀ y0 y1 y2 y3, LeO (tallysticklaw04_NatMoves.j1 k y0 y1 y2 y3) (tallysticklaw04_NatMoves.j1 (k + 1) y0 y1 y2 y3))
  | 0 => ⟨fun _ _ _ _ r h => by simp [tallysticklaw04_NatMoves.j0] at h, fun _ _ _ _ r h => by simp [tallysticklaw04_NatMoves.j1] at h⟩
  | k + 1 => by
    obtain ⟨ih0, ih1⟩ := tallysticklaw04_NatMoves.mono_l k
    refine ⟨?_, ?_⟩
    · intro y0 y1 y2 y3
      unfold tallysticklaw04_NatMoves.j0
      repeat' first
      | (with_reducible exact ih0 _ _ _ _)
      | (with_reducible exact ih1 _ _ _ _)
      | (with_reducible exact tallystickref04_Digits.mono _ _)
      | (with_reducible exact tallystickref04_Div.mono _ _ _)
      | (with_reducible exact tallystickref04_Mul.mono _ _ _)
      | (with_reducible exact tallystickref04_Power.mono _ _)
      | (with_reducible exact tallystickref04_Same.mono _ _ _)
      | (with_reducible exact tallystickref04_Words.mono _ _)
      | (with_reducible exact LeO.refl _)
      | (with_reducible exact LeO.none _)
      | (with_reducible refine LeO.ite ?_ ?_)
      | (with_reducible refine LeO.bind ?_ (fun _ => ?_))
      | exact ih0 _ _ _ _
      | exact ih1 _ _ _ _
      | exact tallystickref04_Digits.mono _ _
      | exact tallystickref04_Div.mono _ _ _
      | exact tallystickref04_Mul.mono _ _ _
      | exact tallystickref04_Power.mono _ _
      | exact tallystickref04_Same.mono _ _ _
      | exact tallystickref04_Words.mono _ _
      | exact LeO.none _
      | refine LeO.ite ?_ ?_
      | refine LeO.bind ?_ (fun _ => ?_)
    · intro y0 y1 y2 y3
      unfold tallysticklaw04_NatMoves.j1
      repeat' first
      | (with_reducible exact ih0 _ _ _ _)
      | (with_reducible exact ih1 _ _ _ _)
      | (with_reducible exact tallystickref04_Digits.mono _ _)
      | (with_reducible exact tallystickref04_Div.mono _ _ _)
      | (with_reducible exact tallystickref04_Mul.mono _ _ _)
      | (with_reducible exact tallystickref04_Power.mono _ _)
      | (with_reducible exact tallystickref04_Same.mono _ _ _)
      | (with_reducible exact tallystickref04_Words.mono _ _)
      | (with_reducible exact LeO.refl _)
      | (with_reducible exact LeO.none _)
      | (with_reducible refine LeO.ite ?_ ?_)
      | (with_reducible refine LeO.bind ?_ (fun _ => ?_))
      | exact ih0 _ _ _ _
      | exact ih1 _ _ _ _
      | exact tallystickref04_Digits.mono _ _
      | exact tallystickref04_Div.mono _ _ _
      | exact tallystickref04_Mul.mono _ _ _
      | exact tallystickref04_Power.mono _ _
      | exact tallystickref04_Same.mono _ _ _
      | exact tallystickref04_Words.mono _ _
      | exact LeO.none _
      | refine LeO.ite ?_ ?_
      | refine LeO.bind ?_ (fun _ => ?_)
theorem tallysticklaw04_NatMoves.mono : ∀ a0 a1 k, LeO (tallysticklaw04_NatMoves.f k a0 a1) (tallysticklaw04_NatMoves.f (k + 1) a0 a1) := by
  intro a0 a1 k
  obtain ⟨ih0, ih1⟩ := tallysticklaw04_NatMoves.mono_l k
  unfold tallysticklaw04_NatMoves.f
  repeat' first
      | (with_reducible exact ih0 _ _ _ _)
      | (with_reducible exact ih1 _ _ _ _)
      | (with_reducible exact tallystickref04_Digits.mono _ _)
      | (with_reducible exact tallystickref04_Div.mono _ _ _)
      | (with_reducible exact tallystickref04_Mul.mono _ _ _)
      | (with_reducible exact tallystickref04_Power.mono _ _)
      | (with_reducible exact tallystickref04_Same.mono _ _ _)
      | (with_reducible exact tallystickref04_Words.mono _ _)
      | (with_reducible exact LeO.refl _)
      | (with_reducible exact LeO.none _)
      | (with_reducible refine LeO.ite ?_ ?_)
      | (with_reducible refine LeO.bind ?_ (fun _ => ?_))
      | exact ih0 _ _ _ _
      | exact ih1 _ _ _ _
      | exact tallystickref04_Digits.mono _ _
      | exact tallystickref04_Div.mono _ _ _
      | exact tallystickref04_Mul.mono _ _ _
      | exact tallystickref04_Power.mono _ _
      | exact tallystickref04_Same.mono _ _ _
      | exact tallystickref04_Words.mono _ _
      | exact LeO.none _
      | refine LeO.ite ?_ ?_
      | refine LeO.bind ?_ (fun _ => ?_)
set_option maxHeartbeats 8000000 in
set_option maxRecDepth 100000 in
theorem tallysticklaw04_NatMoves.calls (k : Nat) (A0 : Option Addr) (c0 : Nat) (l0 : List Int) (a1 : Int) (r : Bool) (w : World) (hr0 : Kd.C (Kd.int .u64) w A0 l0.length l0) (hc0 : l0.length ≤ c0) (hr_ : Aside0 (r = true)) (h : tallysticklaw04_NatMoves.f k l0 a1 = some r) :
    Calls Try.prog 4 #[.slice A0 l0.length c0, .int .i64 a1] w fun e w' => e = .returned (.bool r) ∧ Below w.heap.size w w' := by
  have HR0 := Aside0.mk hr0
  have HC0 := Aside0.mk hc0
  clear hr0 hc0
  have HB := Aside0.mk (Below.refl w.heap.size w)
  have H : ((tallysticklaw04_shown.f).bind fun t383 => ((tallysticklaw04_few.f l0 ([] : List Int)).bind fun t384 => (if t384 = true then (tallysticklaw04_NatMoves.j0 k l0 a1 t383 (decide (a1 > 3000))) else (tallysticklaw04_NatMoves.j0 k l0 a1 t383 true)))) = some r := h
  clear h
  replace H := Option.bind_eq_some_iff.mp H
  obtain ⟨t383, A30, H⟩ := H
  replace H : ((tallysticklaw04_few.f l0 ([] : List Int)).bind fun t384 => (if t384 = true then (tallysticklaw04_NatMoves.j0 k l0 a1 t383 (decide (a1 > 3000))) else (tallysticklaw04_NatMoves.j0 k l0 a1 t383 true))) = some r := H
  have A3 := Aside0.mk A30
  clear A30
  replace H := Option.bind_eq_some_iff.mp H
  obtain ⟨t384, A40, H⟩ := H
  replace H : (if t384 = true then (tallysticklaw04_NatMoves.j0 k l0 a1 t383 (decide (a1 > 3000))) else (tallysticklaw04_NatMoves.j0 k l0 a1 t383 true)) = some r := H
  have A4 := Aside0.mk A40
  clear A40
  have HC5 := Aside0.mk H
  clear H
  go_enter Try.func4, Try.ntmps4
  go_upto_region 3 with (first | ((with_reducible refine gate_callee (f := 11) rfl ?_); refine goesL_ (some 14) rfl rfl Try.func11 (by kernel_rfl) rfl #[] rfl (by (try simp only [List.map_toArray, List.map_cons, List.map_nil]); first | done | rfl | (simp only [List.length_drop, List.length_take]; rfl)) ?_; (with_reducible refine (tallysticklaw04_shown.calls  t383 _ A3.out).mono ?_); rintro e w6 ⟨rfl, hb⟩; refine ⟨_, rfl, ?_⟩; have n0_ := Aside0.mk (below_step (by repeat (first | (with_reducible first | exact HB.out | apply below_alloc | apply pw_below_drewN | apply below_drew1) | exact HB.out)) hb); clear HB; have HB := n0_; clear n0_; (try clear hb); (try clear hb2); (try clear hk); (try clear hi)) | ((with_reducible refine gate_callee (f := 12) rfl ?_); refine goesL_ (some 16) rfl rfl Try.func12 (by kernel_rfl) rfl #[.slice A0 l0.length c0, .slice none 0 0] rfl (by (try simp only [List.map_toArray, List.map_cons, List.map_nil]); first | done | rfl | (simp only [List.length_drop, List.length_take]; rfl)) ?_; (refine (tallysticklaw04_few.calls _ _ l0 _ _ ([] : List Int) t384 _ ?side1 ?side2 ?side3 ?side4 A4.out).mono ?_); (case side1 => repeat (first | exact (Kd.C_below HR0.out HB.out) | (with_reducible refine Kd.C_alloc ?_ _) | (with_reducible refine Kd.C_drewN ?_ _) | (with_reducible refine Kd.C_drew ?_))); (case side2 => exact HC0.out); (case side3 => exact Kd.C_nil _ _); (case side4 => exact Nat.le_refl _); rintro e w' ⟨rfl, ⟨nd, rfl⟩⟩; refine ⟨_, rfl, ?_⟩))
  (try simp only [Act.put, List.setIfInBounds_toArray, List.set_cons_zero, List.set_cons_succ])
  go_cut [22] (fun v22 wc => ∃ (kq : Nat) (x22_4 : Bool), v22 = .bool x22_4 ∧ Aside0 (tallysticklaw04_NatMoves.j0 kq l0 a1 t383 x22_4 = some r) ∧ Aside0 (kq ≤ k) ∧ Aside0 (Below w.heap.size w wc))
  case first =>
    have H := HC5.out
    clear HC5
    by_cases c7 : t384 = true
    · subst c7
      have H1 : (tallysticklaw04_NatMoves.j0 k l0 a1 t383 (decide (a1 > 3000))) = some r := by rw [if_pos rfl] at H; exact H
      clear H
      have H := H1
      clear H1
      have H' := Aside0.mk H
      clear H
      go_wp2
      go_meet
      case rel => exact ⟨_, (decide (a1 > 3000)), (by first | rfl | (simp; done) | (simp [*]; done)), H', ⟨by first | omega | exact Nat.le_refl _⟩, ⟨by repeat (first | (with_reducible first | exact HB.out | apply below_alloc | apply pw_below_drewN | apply below_drew1) | exact HB.out)⟩⟩
    · replace c7 := Bool.eq_false_iff.mpr c7
      subst c7
      have H1 : (tallysticklaw04_NatMoves.j0 k l0 a1 t383 true) = some r := by rw [if_neg (show ¬ (false = true) by decide)] at H; exact H
      clear H
      have H := H1
      clear H1
      have H' := Aside0.mk H
      clear H
      go_wp2
      go_meet
      case rel => exact ⟨_, (true), (by first | rfl | (simp; done) | (simp [*]; done)), H', ⟨by first | omega | exact Nat.le_refl _⟩, ⟨by repeat (first | (with_reducible first | exact HB.out | apply below_alloc | apply pw_below_drewN | apply below_drew1) | exact HB.out)⟩⟩
  case rest =>
    clear HC5
    try clear c1
    try clear p2
    try clear c4
    try clear c7
    obtain ⟨kq, x22_4, rfl, HA, HJ4, HB⟩ := hcut
    cases kq with
    | zero => exact absurd HA.out (by simp [tallysticklaw04_NatMoves.j0])
    | succ kj4 =>
      have H := HA.out
      clear HA
      simp only [tallysticklaw04_NatMoves.j0] at H
      by_cases c8 : x22_4 = true
      · subst c8
        have H1 : (some t383) = some r := by rw [if_pos rfl] at H; exact H
        clear H
        have H := H1
        clear H1
        obtain rfl := Option.some.inj H
        go_wp2
        go_ret
        exact ⟨by first | rfl | (simp [errW_none, errW_some] <;> rfl) | (simp [*, errW_none, errW_some] <;> rfl), by repeat (first | (with_reducible first | exact HB.out | apply below_alloc | apply pw_below_drewN | apply below_drew1) | exact HB.out)⟩
      · replace c8 := Bool.eq_false_iff.mpr c8
        subst c8
        have H1 : (if a1 < 0 then (tallysticklaw04_NatMoves.j1 kj4 l0 a1 t383 0) else (tallysticklaw04_NatMoves.j1 kj4 l0 a1 t383 a1)) = some r := by rw [if_neg (show ¬ (false = true) by decide)] at H; exact H
        clear H
        have H := H1
        clear H1
        have HC9 := Aside0.mk H
        clear H
        go_upto_if 26 with (fail)
        go_cut [7] (fun v7 wc => ∃ (kq : Nat) (x7_8 : Int), v7 = .int .i64 x7_8 ∧ Aside0 (tallysticklaw04_NatMoves.j1 kq l0 a1 t383 x7_8 = some r) ∧ Aside0 (kq ≤ kj4) ∧ Aside0 (Below w.heap.size w wc))
        case first =>
          have H := HC9.out
          clear HC9
          by_cases c10 : a1 < 0
          · rw [if_pos c10] at H
            have c10b0 : decide (a1 < 0) = true := decide_eq_true c10
            clear c10
            (first | rw [c10b0] | (simp only [i64_w, i32_w]; rw [c10b0]) | skip)
            have H' := Aside0.mk H
            clear H
            go_wp2
            go_meet
            case rel => exact ⟨_, (0), (by first | rfl | (simp; done) | (simp [*]; done)), H', ⟨by have := HJ4.out; first | omega | exact Nat.le_refl _⟩, ⟨by repeat (first | (with_reducible first | exact HB.out | apply below_alloc | apply pw_below_drewN | apply below_drew1) | exact HB.out)⟩⟩
          · rw [if_neg c10] at H
            have c10b0 : decide (a1 < 0) = false := decide_eq_false c10
            clear c10
            (first | rw [c10b0] | (simp only [i64_w, i32_w]; rw [c10b0]) | skip)
            have H' := Aside0.mk H
            clear H
            go_wp2
            go_meet
            case rel => exact ⟨_, (a1), (by first | rfl | (simp; done) | (simp [*]; done)), H', ⟨by have := HJ4.out; first | omega | exact Nat.le_refl _⟩, ⟨by repeat (first | (with_reducible first | exact HB.out | apply below_alloc | apply pw_below_drewN | apply below_drew1) | exact HB.out)⟩⟩
        case rest =>
          clear HC9
          try clear c1
          try clear p2
          try clear c4
          try clear c7
          try clear c8
          try clear c10
          try clear c10b0
          try clear p2
          obtain ⟨kq, x7_8, rfl, HA, HJ8, HB⟩ := hcut
          cases kq with
          | zero => exact absurd HA.out (by simp [tallysticklaw04_NatMoves.j1])
          | succ kj8 =>
            have H := HA.out
            clear HA
            simp only [tallysticklaw04_NatMoves.j1] at H
            replace H := Option.bind_eq_some_iff.mp H
            obtain ⟨t385, A110, H⟩ := H
            replace H : ((tallystickref04_Power.f kj8 x7_8).bind fun t388 => ((tallystickref04_Div.f kj8 t385 t388).bind fun bt391 => ((nat_Shr.f l0 a1).bind fun t397 => ((tallystickref04_Words.f kj8 bt391.1).bind fun t400 => ((tallystickref04_Same.f kj8 t397 t400).bind fun t403 => ((nat_Low.f l0 a1).bind fun t404 => ((tallystickref04_Words.f kj8 bt391.2).bind fun t407 => ((tallystickref04_Same.f kj8 t404 t407).bind fun t410 => (if t383 = true then (if t403 = true then (if t410 = true then ((nat_Shl.f l0 a1).bind fun t411 => ((tallystickref04_Mul.f kj8 t385 t388).bind fun t414 => ((tallystickref04_Words.f kj8 t414).bind fun t417 => ((tallystickref04_Same.f kj8 t411 t417).bind fun t420 => (some t420))))) else (some false)) else (some false)) else (some false)))))))))) = some r := H
            have A11 := Aside0.mk A110
            clear A110
            replace H := Option.bind_eq_some_iff.mp H
            obtain ⟨t388, A120, H⟩ := H
            replace H : ((tallystickref04_Div.f kj8 t385 t388).bind fun bt391 => ((nat_Shr.f l0 a1).bind fun t397 => ((tallystickref04_Words.f kj8 bt391.1).bind fun t400 => ((tallystickref04_Same.f kj8 t397 t400).bind fun t403 => ((nat_Low.f l0 a1).bind fun t404 => ((tallystickref04_Words.f kj8 bt391.2).bind fun t407 => ((tallystickref04_Same.f kj8 t404 t407).bind fun t410 => (if t383 = true then (if t403 = true then (if t410 = true then ((nat_Shl.f l0 a1).bind fun t411 => ((tallystickref04_Mul.f kj8 t385 t388).bind fun t414 => ((tallystickref04_Words.f kj8 t414).bind fun t417 => ((tallystickref04_Same.f kj8 t411 t417).bind fun t420 => (some t420))))) else (some false)) else (some false)) else (some false))))))))) = some r := H
            have A12 := Aside0.mk A120
            clear A120
            replace H := Option.bind_eq_some_iff.mp H
            obtain ⟨⟨t391, t392⟩, A130, H⟩ := H
            replace H : ((nat_Shr.f l0 a1).bind fun t397 => ((tallystickref04_Words.f kj8 t391).bind fun t400 => ((tallystickref04_Same.f kj8 t397 t400).bind fun t403 => ((nat_Low.f l0 a1).bind fun t404 => ((tallystickref04_Words.f kj8 t392).bind fun t407 => ((tallystickref04_Same.f kj8 t404 t407).bind fun t410 => (if t383 = true then (if t403 = true then (if t410 = true then ((nat_Shl.f l0 a1).bind fun t411 => ((tallystickref04_Mul.f kj8 t385 t388).bind fun t414 => ((tallystickref04_Words.f kj8 t414).bind fun t417 => ((tallystickref04_Same.f kj8 t411 t417).bind fun t420 => (some t420))))) else (some false)) else (some false)) else (some false)))))))) = some r := H
            have A13 := Aside0.mk A130
            clear A130
            replace H := Option.bind_eq_some_iff.mp H
            obtain ⟨t397, A140, H⟩ := H
            replace H : ((tallystickref04_Words.f kj8 t391).bind fun t400 => ((tallystickref04_Same.f kj8 t397 t400).bind fun t403 => ((nat_Low.f l0 a1).bind fun t404 => ((tallystickref04_Words.f kj8 t392).bind fun t407 => ((tallystickref04_Same.f kj8 t404 t407).bind fun t410 => (if t383 = true then (if t403 = true then (if t410 = true then ((nat_Shl.f l0 a1).bind fun t411 => ((tallystickref04_Mul.f kj8 t385 t388).bind fun t414 => ((tallystickref04_Words.f kj8 t414).bind fun t417 => ((tallystickref04_Same.f kj8 t411 t417).bind fun t420 => (some t420))))) else (some false)) else (some false)) else (some false))))))) = some r := H
            have A14 := Aside0.mk A140
            clear A140
            replace H := Option.bind_eq_some_iff.mp H
            obtain ⟨t400, A150, H⟩ := H
            replace H : ((tallystickref04_Same.f kj8 t397 t400).bind fun t403 => ((nat_Low.f l0 a1).bind fun t404 => ((tallystickref04_Words.f kj8 t392).bind fun t407 => ((tallystickref04_Same.f kj8 t404 t407).bind fun t410 => (if t383 = true then (if t403 = true then (if t410 = true then ((nat_Shl.f l0 a1).bind fun t411 => ((tallystickref04_Mul.f kj8 t385 t388).bind fun t414 => ((tallystickref04_Words.f kj8 t414).bind fun t417 => ((tallystickref04_Same.f kj8 t411 t417).bind fun t420 => (some t420))))) else (some false)) else (some false)) else (some false)))))) = some r := H
            have A15 := Aside0.mk A150
            clear A150
            replace H := Option.bind_eq_some_iff.mp H
            obtain ⟨t403, A160, H⟩ := H
            replace H : ((nat_Low.f l0 a1).bind fun t404 => ((tallystickref04_Words.f kj8 t392).bind fun t407 => ((tallystickref04_Same.f kj8 t404 t407).bind fun t410 => (if t383 = true then (if t403 = true then (if t410 = true then ((nat_Shl.f l0 a1).bind fun t411 => ((tallystickref04_Mul.f kj8 t385 t388).bind fun t414 => ((tallystickref04_Words.f kj8 t414).bind fun t417 => ((tallystickref04_Same.f kj8 t411 t417).bind fun t420 => (some t420))))) else (some false)) else (some false)) else (some false))))) = some r := H
            have A16 := Aside0.mk A160
            clear A160
            replace H := Option.bind_eq_some_iff.mp H
            obtain ⟨t404, A170, H⟩ := H
            replace H : ((tallystickref04_Words.f kj8 t392).bind fun t407 => ((tallystickref04_Same.f kj8 t404 t407).bind fun t410 => (if t383 = true then (if t403 = true then (if t410 = true then ((nat_Shl.f l0 a1).bind fun t411 => ((tallystickref04_Mul.f kj8 t385 t388).bind fun t414 => ((tallystickref04_Words.f kj8 t414).bind fun t417 => ((tallystickref04_Same.f kj8 t411 t417).bind fun t420 => (some t420))))) else (some false)) else (some false)) else (some false)))) = some r := H
            have A17 := Aside0.mk A170
            clear A170
            replace H := Option.bind_eq_some_iff.mp H
            obtain ⟨t407, A180, H⟩ := H
            replace H : ((tallystickref04_Same.f kj8 t404 t407).bind fun t410 => (if t383 = true then (if t403 = true then (if t410 = true then ((nat_Shl.f l0 a1).bind fun t411 => ((tallystickref04_Mul.f kj8 t385 t388).bind fun t414 => ((tallystickref04_Words.f kj8 t414).bind fun t417 => ((tallystickref04_Same.f kj8 t411 t417).bind fun t420 => (some t420))))) else (some false)) else (some false)) else (some false))) = some r := H
            have A18 := Aside0.mk A180
            clear A180
            replace H := Option.bind_eq_some_iff.mp H
            obtain ⟨t410, A190, H⟩ := H
            replace H : (if t383 = true then (if t403 = true then (if t410 = true then ((nat_Shl.f l0 a1).bind fun t411 => ((tallystickref04_Mul.f kj8 t385 t388).bind fun t414 => ((tallystickref04_Words.f kj8 t414).bind fun t417 => ((tallystickref04_Same.f kj8 t411 t417).bind fun t420 => (some t420))))) else (some false)) else (some false)) else (some false)) = some r := H
            have A19 := Aside0.mk A190
            clear A190
            by_cases c20 : t383 = true
            · subst c20
              have H1 : (if t403 = true then (if t410 = true then ((nat_Shl.f l0 a1).bind fun t411 => ((tallystickref04_Mul.f kj8 t385 t388).bind fun t414 => ((tallystickref04_Words.f kj8 t414).bind fun t417 => ((tallystickref04_Same.f kj8 t411 t417).bind fun t420 => (some t420))))) else (some false)) else (some false)) = some r := by rw [if_pos rfl] at H; exact H
              clear H
              have H := H1
              clear H1
              by_cases c21 : t403 = true
              · subst c21
                have H1 : (if t410 = true then ((nat_Shl.f l0 a1).bind fun t411 => ((tallystickref04_Mul.f kj8 t385 t388).bind fun t414 => ((tallystickref04_Words.f kj8 t414).bind fun t417 => ((tallystickref04_Same.f kj8 t411 t417).bind fun t420 => (some t420))))) else (some false)) = some r := by rw [if_pos rfl] at H; exact H
                clear H
                have H := H1
                clear H1
                by_cases c22 : t410 = true
                · subst c22
                  have H1 : ((nat_Shl.f l0 a1).bind fun t411 => ((tallystickref04_Mul.f kj8 t385 t388).bind fun t414 => ((tallystickref04_Words.f kj8 t414).bind fun t417 => ((tallystickref04_Same.f kj8 t411 t417).bind fun t420 => (some t420))))) = some r := by rw [if_pos rfl] at H; exact H
                  clear H
                  have H := H1
                  clear H1
                  replace H := Option.bind_eq_some_iff.mp H
                  obtain ⟨t411, A230, H⟩ := H
                  replace H : ((tallystickref04_Mul.f kj8 t385 t388).bind fun t414 => ((tallystickref04_Words.f kj8 t414).bind fun t417 => ((tallystickref04_Same.f kj8 t411 t417).bind fun t420 => (some t420)))) = some r := H
                  have A23 := Aside0.mk A230
                  clear A230
                  replace H := Option.bind_eq_some_iff.mp H
                  obtain ⟨t414, A240, H⟩ := H
                  replace H : ((tallystickref04_Words.f kj8 t414).bind fun t417 => ((tallystickref04_Same.f kj8 t411 t417).bind fun t420 => (some t420))) = some r := H
                  have A24 := Aside0.mk A240
                  clear A240
                  replace H := Option.bind_eq_some_iff.mp H
                  obtain ⟨t417, A250, H⟩ := H
                  replace H : ((tallystickref04_Same.f kj8 t411 t417).bind fun t420 => (some t420)) = some r := H
                  have A25 := Aside0.mk A250
                  clear A250
                  replace H := Option.bind_eq_some_iff.mp H
                  obtain ⟨t420, A260, H⟩ := H
                  replace H : (some t420) = some r := H
                  have A26 := Aside0.mk A260
                  clear A260
                  obtain rfl := Option.some.inj H
                  go_wp2_with (first | ((with_reducible refine gate_callee (f := 15) rfl ?_); refine goesL_ (some 28) rfl rfl Try.func15 (by kernel_rfl) rfl #[.slice A0 l0.length c0] rfl (by (try simp only [List.map_toArray, List.map_cons, List.map_nil]); first | done | rfl | (simp only [List.length_drop, List.length_take]; rfl)) ?_; (with_reducible refine (tallystickref04_Digits.calls kj8 _ _ l0 t385 _ ?side1 ?side2 A11.out).mono ?_); (case side1 => repeat (first | exact (Kd.C_below HR0.out HB.out) | (with_reducible refine Kd.C_alloc ?_ _) | (with_reducible refine Kd.C_drewN ?_ _) | (with_reducible refine Kd.C_drew ?_))); (case side2 => exact HC0.out); rintro e w27 ⟨v386, rfl, ho0, hb⟩; refine ⟨_, rfl, ?_⟩; have n0_ := Aside0.mk (Kd.R_lower ho0 (below_size (by repeat (first | (with_reducible first | exact HB.out | apply below_alloc | apply pw_below_drewN | apply below_drew1) | exact HB.out)))); have n1_ := Aside0.mk (below_step (by repeat (first | (with_reducible first | exact HB.out | apply below_alloc | apply pw_below_drewN | apply below_drew1) | exact HB.out)) hb); clear HB; have HO387 := n0_; have HB := n1_; clear n0_ n1_; (try clear hb); (try clear hb2); (try clear hk); (try clear hi); (try clear ho0)) | ((with_reducible refine gate_callee (f := 16) rfl ?_); refine goesL_ (some 30) rfl rfl Try.func16 (by kernel_rfl) rfl #[.int .i64 x7_8] rfl (by (try simp only [List.map_toArray, List.map_cons, List.map_nil]); first | done | rfl | (simp only [List.length_drop, List.length_take]; rfl)) ?_; (with_reducible refine (tallystickref04_Power.calls kj8 x7_8 t388 _ A12.out).mono ?_); rintro e w28 ⟨v389, rfl, ho0, hb⟩; refine ⟨_, rfl, ?_⟩; have n0_ := Aside0.mk (Kd.R_elder' (by (with_reducible repeat (first | apply Kd.R_alloc | apply Kd.R_drewN | apply Kd.R_drew)); exact HO387.out) (Kd.R_base ho0) hb); have n1_ := Aside0.mk (Kd.R_lower (Kd.R_new' ho0 (Kd.R_lt (by (with_reducible repeat (first | apply Kd.R_alloc | apply Kd.R_drewN | apply Kd.R_drew)); exact HO387.out))) (below_size (by repeat (first | (with_reducible first | exact HB.out | apply below_alloc | apply pw_below_drewN | apply below_drew1) | exact HB.out)))); have n2_ := Aside0.mk (below_step (by repeat (first | (with_reducible first | exact HB.out | apply below_alloc | apply pw_below_drewN | apply below_drew1) | exact HB.out)) hb); clear HO387; clear HB; have HO387 := n0_; have HO390 := n1_; have HB := n2_; clear n0_ n1_ n2_; (try clear hb); (try clear hb2); (try clear hk); (try clear hi); (try clear ho0); obtain ⟨Ao29, co29, eo29⟩ := Kd.R_slice HO387.out; subst eo29; obtain ⟨Ao30, co30, eo30⟩ := Kd.R_slice HO390.out; subst eo30) | ((with_reducible refine gate_callee (f := 17) rfl ?_); refine goesL_ (some 34) rfl rfl Try.func17 (by kernel_rfl) rfl #[.slice Ao29 t385.length co29, .slice Ao30 t388.length co30] rfl (by (try simp only [List.map_toArray, List.map_cons, List.map_nil]); first | done | rfl | (simp only [List.length_drop, List.length_take]; rfl)) ?_; (with_reducible refine (tallystickref04_Div.calls kj8 _ _ t385 _ _ t388 t391 t392 _ ?side1 ?side2 ?side3 ?side4 A13.out).mono ?_); (case side1 => repeat (first | exact (Kd.R_reads' HO387.out).2.2 | (with_reducible refine Kd.C_alloc ?_ _) | (with_reducible refine Kd.C_drewN ?_ _) | (with_reducible refine Kd.C_drew ?_))); (case side2 => exact (Kd.R_reads' HO387.out).2.1); (case side3 => repeat (first | exact (Kd.R_reads' HO390.out).2.2 | (with_reducible refine Kd.C_alloc ?_ _) | (with_reducible refine Kd.C_drewN ?_ _) | (with_reducible refine Kd.C_drew ?_))); (case side4 => exact (Kd.R_reads' HO390.out).2.1); rintro e w31 ⟨v393, v395, rfl, ho0, ho1, hb⟩; refine ⟨_, rfl, ?_⟩; have n0_ := Aside0.mk (Kd.R_mono (Kd.R_told (Kd.R_told (Kd.R_old (by (with_reducible repeat (first | apply Kd.R_alloc | apply Kd.R_drewN | apply Kd.R_drew)); exact HO387.out) hb) (Kd.R_base ho0)) (Kd.R_base ho1)) (fun _ h_ => h_.1)); have n1_ := Aside0.mk (Kd.R_mono (Kd.R_told (Kd.R_told (Kd.R_old (by (with_reducible repeat (first | apply Kd.R_alloc | apply Kd.R_drewN | apply Kd.R_drew)); exact HO390.out) hb) (Kd.R_base ho0)) (Kd.R_base ho1)) (fun _ h_ => h_.1)); have n2_ := Aside0.mk (Kd.R_lower (Kd.R_new' (Kd.R_new' ho0 (Kd.R_lt (by (with_reducible repeat (first | apply Kd.R_alloc | apply Kd.R_drewN | apply Kd.R_drew)); exact HO387.out))) (Kd.R_lt (by (with_reducible repeat (first | apply Kd.R_alloc | apply Kd.R_drewN | apply Kd.R_drew)); exact HO390.out))) (below_size (by repeat (first | (with_reducible first | exact HB.out | apply below_alloc | apply pw_below_drewN | apply below_drew1) | exact HB.out)))); have n3_ := Aside0.mk (Kd.R_lower (Kd.R_new' (Kd.R_new' ho1 (Kd.R_lt (by (with_reducible repeat (first | apply Kd.R_alloc | apply Kd.R_drewN | apply Kd.R_drew)); exact HO387.out))) (Kd.R_lt (by (with_reducible repeat (first | apply Kd.R_alloc | apply Kd.R_drewN | apply Kd.R_drew)); exact HO390.out))) (below_size (by repeat (first | (with_reducible first | exact HB.out | apply below_alloc | apply pw_below_drewN | apply below_drew1) | exact HB.out)))); have n4_ := Aside0.mk (below_step (by repeat (first | (with_reducible first | exact HB.out | apply below_alloc | apply pw_below_drewN | apply below_drew1) | exact HB.out)) hb); clear HO387; clear HO390; clear HB; have HO387 := n0_; have HO390 := n1_; have HO394 := n2_; have HO396 := n3_; have HB := n4_; clear n0_ n1_ n2_ n3_ n4_; (try clear hb); (try clear hb2); (try clear hk); (try clear hi); (try clear ho0); (try clear ho1)) | ((with_reducible refine gate_callee (f := 19) rfl ?_); refine goesL_ (some 39) rfl rfl Try.func19 (by kernel_rfl) rfl #[.slice A0 l0.length c0, .int .i64 a1] rfl (by (try simp only [List.map_toArray, List.map_cons, List.map_nil]); first | done | rfl | (simp only [List.length_drop, List.length_take]; rfl)) ?_; (with_reducible refine (nat_Shr.calls _ _ l0 a1 t397 _ ?side1 ?side2 A14.out).mono ?_); (case side1 => repeat (first | exact (Kd.C_below HR0.out HB.out) | (with_reducible refine Kd.C_alloc ?_ _) | (with_reducible refine Kd.C_drewN ?_ _) | (with_reducible refine Kd.C_drew ?_))); (case side2 => exact HC0.out); rintro e w32 ⟨v398, rfl, ho0, hb⟩; refine ⟨_, rfl, ?_⟩; have n0_ := Aside0.mk (Kd.R_below (by (with_reducible repeat (first | apply Kd.R_alloc | apply Kd.R_drewN | apply Kd.R_drew)); exact HO387.out) hb); have n1_ := Aside0.mk (Kd.R_below (by (with_reducible repeat (first | apply Kd.R_alloc | apply Kd.R_drewN | apply Kd.R_drew)); exact HO390.out) hb); have n2_ := Aside0.mk (Kd.R_below (by (with_reducible repeat (first | apply Kd.R_alloc | apply Kd.R_drewN | apply Kd.R_drew)); exact HO394.out) hb); have n3_ := Aside0.mk (Kd.R_below (by (with_reducible repeat (first | apply Kd.R_alloc | apply Kd.R_drewN | apply Kd.R_drew)); exact HO396.out) hb); have n4_ := Aside0.mk (Kd.V_lower (Kd.V_mono (ok' := fun k_ => some k_ ≠ (.slice Ao29 t385.length co29 : Value).ownBlock ∧ some k_ ≠ (.slice Ao30 t388.length co30 : Value).ownBlock ∧ some k_ ≠ (v393 : Value).ownBlock ∧ some k_ ≠ (v395 : Value).ownBlock) ho0 (fun k_ hk_ => ⟨(Kd.fresh' (Kd.R_lt (by (with_reducible repeat (first | apply Kd.R_alloc | apply Kd.R_drewN | apply Kd.R_drew)); exact HO387.out)) k_ hk_), (Kd.fresh' (Kd.R_lt (by (with_reducible repeat (first | apply Kd.R_alloc | apply Kd.R_drewN | apply Kd.R_drew)); exact HO390.out)) k_ hk_), (Kd.fresh' (Kd.R_lt (by (with_reducible repeat (first | apply Kd.R_alloc | apply Kd.R_drewN | apply Kd.R_drew)); exact HO394.out)) k_ hk_), (Kd.fresh' (Kd.R_lt (by (with_reducible repeat (first | apply Kd.R_alloc | apply Kd.R_drewN | apply Kd.R_drew)); exact HO396.out)) k_ hk_)⟩)) (below_size (by repeat (first | (with_reducible first | exact HB.out | apply below_alloc | apply pw_below_drewN | apply below_drew1) | exact HB.out)))); have n5_ := Aside0.mk (below_step (by repeat (first | (with_reducible first | exact HB.out | apply below_alloc | apply pw_below_drewN | apply below_drew1) | exact HB.out)) hb); clear HO387; clear HO390; clear HO394; clear HO396; clear HB; have HO387 := n0_; have HO390 := n1_; have HO394 := n2_; have HO396 := n3_; have HO399 := n4_; have HB := n5_; clear n0_ n1_ n2_ n3_ n4_ n5_; (try clear hb); (try clear hb2); (try clear hk); (try clear hi); (try clear ho0); obtain ⟨Ao33, co33, eo33⟩ := Kd.R_slice HO394.out; subst eo33) | ((with_reducible refine gate_callee (f := 20) rfl ?_); refine goesL_ (some 41) rfl rfl Try.func20 (by kernel_rfl) rfl #[.slice Ao33 t391.length co33] rfl (by (try simp only [List.map_toArray, List.map_cons, List.map_nil]); first | done | rfl | (simp only [List.length_drop, List.length_take]; rfl)) ?_; (with_reducible refine (tallystickref04_Words.calls kj8 _ _ t391 t400 _ ?side1 ?side2 A15.out).mono ?_); (case side1 => repeat (first | exact (Kd.R_reads' HO394.out).2.2 | (with_reducible refine Kd.C_alloc ?_ _) | (with_reducible refine Kd.C_drewN ?_ _) | (with_reducible refine Kd.C_drew ?_))); (case side2 => exact (Kd.R_reads' HO394.out).2.1); rintro e w34 ⟨v401, rfl, ho0, hb⟩; refine ⟨_, rfl, ?_⟩; have n0_ := Aside0.mk (Kd.R_below (by (with_reducible repeat (first | apply Kd.R_alloc | apply Kd.R_drewN | apply Kd.R_drew)); exact HO387.out) hb); have n1_ := Aside0.mk (Kd.R_below (by (with_reducible repeat (first | apply Kd.R_alloc | apply Kd.R_drewN | apply Kd.R_drew)); exact HO390.out) hb); have n2_ := Aside0.mk (Kd.R_below (by (with_reducible repeat (first | apply Kd.R_alloc | apply Kd.R_drewN | apply Kd.R_drew)); exact HO394.out) hb); have n3_ := Aside0.mk (Kd.R_below (by (with_reducible repeat (first | apply Kd.R_alloc | apply Kd.R_drewN | apply Kd.R_drew)); exact HO396.out) hb); have n4_ := Aside0.mk (Kd.V_elder' (by (with_reducible repeat (first | apply Kd.V_alloc | apply Kd.V_drewN | apply Kd.V_drew)); exact HO399.out) (Kd.R_base ho0) hb); have n5_ := Aside0.mk (Kd.R_lower ho0 (below_size (by repeat (first | (with_reducible first | exact HB.out | apply below_alloc | apply pw_below_drewN | apply below_drew1) | exact HB.out)))); have n6_ := Aside0.mk (below_step (by repeat (first | (with_reducible first | exact HB.out | apply below_alloc | apply pw_below_drewN | apply below_drew1) | exact HB.out)) hb); clear HO387; clear HO390; clear HO394; clear HO396; clear HO399; clear HB; have HO387 := n0_; have HO390 := n1_; have HO394 := n2_; have HO396 := n3_; have HO399 := n4_; have HO402 := n5_; have HB := n6_; clear n0_ n1_ n2_ n3_ n4_ n5_ n6_; (try clear hb); (try clear hb2); (try clear hk); (try clear hi); (try clear ho0); obtain ⟨Ao35, co35, eo35⟩ := Kd.V_slice HO399.out; subst eo35; obtain ⟨Ao36, co36, eo36⟩ := Kd.R_slice HO402.out; subst eo36) | ((with_reducible refine gate_callee (f := 18) rfl ?_); refine goesL_ (some 42) rfl rfl Try.func18 (by kernel_rfl) rfl #[.slice Ao35 t397.length co35, .slice Ao36 t400.length co36] rfl (by (try simp only [List.map_toArray, List.map_cons, List.map_nil]); first | done | rfl | (simp only [List.length_drop, List.length_take]; rfl)) ?_; (with_reducible refine (tallystickref04_Same.calls kj8 _ _ t397 _ _ t400 true _ ?side1 ?side2 ?side3 ?side4 A16.out).mono ?_); (case side1 => repeat (first | exact (Kd.V_reads' HO399.out).2.2 | (with_reducible refine Kd.C_alloc ?_ _) | (with_reducible refine Kd.C_drewN ?_ _) | (with_reducible refine Kd.C_drew ?_))); (case side2 => exact (Kd.V_reads' HO399.out).2.1); (case side3 => repeat (first | exact (Kd.R_reads' HO402.out).2.2 | (with_reducible refine Kd.C_alloc ?_ _) | (with_reducible refine Kd.C_drewN ?_ _) | (with_reducible refine Kd.C_drew ?_))); (case side4 => exact (Kd.R_reads' HO402.out).2.1); rintro e w' ⟨rfl, ⟨nd, rfl⟩⟩; refine ⟨_, rfl, ?_⟩) | ((with_reducible refine gate_callee (f := 21) rfl ?_); refine goesL_ (some 45) rfl rfl Try.func21 (by kernel_rfl) rfl #[.slice A0 l0.length c0, .int .i64 a1] rfl (by (try simp only [List.map_toArray, List.map_cons, List.map_nil]); first | done | rfl | (simp only [List.length_drop, List.length_take]; rfl)) ?_; (with_reducible refine (nat_Low.calls (fun k_ => k_ < w.heap.size) _ _ l0 a1 t404 _ ?side1 A17.out).mono ?_); (case side1 => exact Kd.V_mk HC0.out (Kd.F_below (Kd.C_F (Kd.heap_int .u64) HR0.out) (by repeat (first | (with_reducible first | exact HB.out | apply below_alloc | apply pw_below_drewN | apply below_drew1) | exact HB.out)))); rintro e w37 ⟨v405, rfl, ho0, hb⟩; refine ⟨_, rfl, ?_⟩; have n0_ := Aside0.mk (Kd.R_below (by (with_reducible repeat (first | apply Kd.R_alloc | apply Kd.R_drewN | apply Kd.R_drew)); exact HO387.out) hb); have n1_ := Aside0.mk (Kd.R_below (by (with_reducible repeat (first | apply Kd.R_alloc | apply Kd.R_drewN | apply Kd.R_drew)); exact HO390.out) hb); have n2_ := Aside0.mk (Kd.R_below (by (with_reducible repeat (first | apply Kd.R_alloc | apply Kd.R_drewN | apply Kd.R_drew)); exact HO394.out) hb); have n3_ := Aside0.mk (Kd.R_below (by (with_reducible repeat (first | apply Kd.R_alloc | apply Kd.R_drewN | apply Kd.R_drew)); exact HO396.out) hb); have n4_ := Aside0.mk (Kd.V_below (by (with_reducible repeat (first | apply Kd.V_alloc | apply Kd.V_drewN | apply Kd.V_drew)); exact HO399.out) hb); have n5_ := Aside0.mk (Kd.R_below (by (with_reducible repeat (first | apply Kd.R_alloc | apply Kd.R_drewN | apply Kd.R_drew)); exact HO402.out) hb); have n6_ := Aside0.mk (Kd.V_lower (Kd.V_mono (ok' := fun k_ => some k_ ≠ (.slice Ao29 t385.length co29 : Value).ownBlock ∧ some k_ ≠ (.slice Ao30 t388.length co30 : Value).ownBlock ∧ some k_ ≠ (.slice Ao33 t391.length co33 : Value).ownBlock ∧ some k_ ≠ (v395 : Value).ownBlock ∧ some k_ ≠ (.slice Ao36 t400.length co36 : Value).ownBlock) ho0 (fun k_ hk_ => ⟨Or.elim hk_ (fun hs_ => fun e_ => Nat.not_le.2 hs_ (Kd.R_base HO387.out k_ e_.symm)) (fun hn_ => (Kd.fresh' (Kd.R_lt (by (with_reducible repeat (first | apply Kd.R_alloc | apply Kd.R_drewN | apply Kd.R_drew)); exact HO387.out)) k_ hn_)), Or.elim hk_ (fun hs_ => fun e_ => Nat.not_le.2 hs_ (Kd.R_base HO390.out k_ e_.symm)) (fun hn_ => (Kd.fresh' (Kd.R_lt (by (with_reducible repeat (first | apply Kd.R_alloc | apply Kd.R_drewN | apply Kd.R_drew)); exact HO390.out)) k_ hn_)), Or.elim hk_ (fun hs_ => fun e_ => Nat.not_le.2 hs_ (Kd.R_base HO394.out k_ e_.symm)) (fun hn_ => (Kd.fresh' (Kd.R_lt (by (with_reducible repeat (first | apply Kd.R_alloc | apply Kd.R_drewN | apply Kd.R_drew)); exact HO394.out)) k_ hn_)), Or.elim hk_ (fun hs_ => fun e_ => Nat.not_le.2 hs_ (Kd.R_base HO396.out k_ e_.symm)) (fun hn_ => (Kd.fresh' (Kd.R_lt (by (with_reducible repeat (first | apply Kd.R_alloc | apply Kd.R_drewN | apply Kd.R_drew)); exact HO396.out)) k_ hn_)), Or.elim hk_ (fun hs_ => fun e_ => Nat.not_le.2 hs_ (Kd.R_base HO402.out k_ e_.symm)) (fun hn_ => (Kd.fresh' (Kd.R_lt (by (with_reducible repeat (first | apply Kd.R_alloc | apply Kd.R_drewN | apply Kd.R_drew)); exact HO402.out)) k_ hn_))⟩)) (below_size (by repeat (first | (with_reducible first | exact HB.out | apply below_alloc | apply pw_below_drewN | apply below_drew1) | exact HB.out)))); have n7_ := Aside0.mk (below_step (by repeat (first | (with_reducible first | exact HB.out | apply below_alloc | apply pw_below_drewN | apply below_drew1) | exact HB.out)) hb); clear HO387; clear HO390; clear HO394; clear HO396; clear HO399; clear HO402; clear HB; have HO387 := n0_; have HO390 := n1_; have HO394 := n2_; have HO396 := n3_; have HO399 := n4_; have HO402 := n5_; have HO406 := n6_; have HB := n7_; clear n0_ n1_ n2_ n3_ n4_ n5_ n6_ n7_; (try clear hb); (try clear hb2); (try clear hk); (try clear hi); (try clear ho0); obtain ⟨Ao38, co38, eo38⟩ := Kd.R_slice HO396.out; subst eo38) | ((with_reducible refine gate_callee (f := 20) rfl ?_); refine goesL_ (some 47) rfl rfl Try.func20 (by kernel_rfl) rfl #[.slice Ao38 t392.length co38] rfl (by (try simp only [List.map_toArray, List.map_cons, List.map_nil]); first | done | rfl | (simp only [List.length_drop, List.length_take]; rfl)) ?_; (with_reducible refine (tallystickref04_Words.calls kj8 _ _ t392 t407 _ ?side1 ?side2 A18.out).mono ?_); (case side1 => repeat (first | exact (Kd.R_reads' HO396.out).2.2 | (with_reducible refine Kd.C_alloc ?_ _) | (with_reducible refine Kd.C_drewN ?_ _) | (with_reducible refine Kd.C_drew ?_))); (case side2 => exact (Kd.R_reads' HO396.out).2.1); rintro e w39 ⟨v408, rfl, ho0, hb⟩; refine ⟨_, rfl, ?_⟩; have n0_ := Aside0.mk (Kd.R_below (by (with_reducible repeat (first | apply Kd.R_alloc | apply Kd.R_drewN | apply Kd.R_drew)); exact HO387.out) hb); have n1_ := Aside0.mk (Kd.R_below (by (with_reducible repeat (first | apply Kd.R_alloc | apply Kd.R_drewN | apply Kd.R_drew)); exact HO390.out) hb); have n2_ := Aside0.mk (Kd.R_below (by (with_reducible repeat (first | apply Kd.R_alloc | apply Kd.R_drewN | apply Kd.R_drew)); exact HO394.out) hb); have n3_ := Aside0.mk (Kd.R_below (by (with_reducible repeat (first | apply Kd.R_alloc | apply Kd.R_drewN | apply Kd.R_drew)); exact HO396.out) hb); have n4_ := Aside0.mk (Kd.V_elder' (by (with_reducible repeat (first | apply Kd.V_alloc | apply Kd.V_drewN | apply Kd.V_drew)); exact HO399.out) (Kd.R_base ho0) hb); have n5_ := Aside0.mk (Kd.R_elder' (by (with_reducible repeat (first | apply Kd.R_alloc | apply Kd.R_drewN | apply Kd.R_drew)); exact HO402.out) (Kd.R_base ho0) hb); have n6_ := Aside0.mk (Kd.V_elder' (by (with_reducible repeat (first | apply Kd.V_alloc | apply Kd.V_drewN | apply Kd.V_drew)); exact HO406.out) (Kd.R_base ho0) hb); have n7_ := Aside0.mk (Kd.R_lower (Kd.R_new' ho0 (Kd.R_lt (by (with_reducible repeat (first | apply Kd.R_alloc | apply Kd.R_drewN | apply Kd.R_drew)); exact HO402.out))) (below_size (by repeat (first | (with_reducible first | exact HB.out | apply below_alloc | apply pw_below_drewN | apply below_drew1) | exact HB.out)))); have n8_ := Aside0.mk (below_step (by repeat (first | (with_reducible first | exact HB.out | apply below_alloc | apply pw_below_drewN | apply below_drew1) | exact HB.out)) hb); clear HO387; clear HO390; clear HO394; clear HO396; clear HO399; clear HO402; clear HO406; clear HB; have HO387 := n0_; have HO390 := n1_; have HO394 := n2_; have HO396 := n3_; have HO399 := n4_; have HO402 := n5_; have HO406 := n6_; have HO409 := n7_; have HB := n8_; clear n0_ n1_ n2_ n3_ n4_ n5_ n6_ n7_ n8_; (try clear hb); (try clear hb2); (try clear hk); (try clear hi); (try clear ho0); obtain ⟨Ao40, co40, eo40⟩ := Kd.V_slice HO406.out; subst eo40; obtain ⟨Ao41, co41, eo41⟩ := Kd.R_slice HO409.out; subst eo41) | ((with_reducible refine gate_callee (f := 18) rfl ?_); refine goesL_ (some 48) rfl rfl Try.func18 (by kernel_rfl) rfl #[.slice Ao40 t404.length co40, .slice Ao41 t407.length co41] rfl (by (try simp only [List.map_toArray, List.map_cons, List.map_nil]); first | done | rfl | (simp only [List.length_drop, List.length_take]; rfl)) ?_; (with_reducible refine (tallystickref04_Same.calls kj8 _ _ t404 _ _ t407 true _ ?side1 ?side2 ?side3 ?side4 A19.out).mono ?_); (case side1 => repeat (first | exact (Kd.V_reads' HO406.out).2.2 | (with_reducible refine Kd.C_alloc ?_ _) | (with_reducible refine Kd.C_drewN ?_ _) | (with_reducible refine Kd.C_drew ?_))); (case side2 => exact (Kd.V_reads' HO406.out).2.1); (case side3 => repeat (first | exact (Kd.R_reads' HO409.out).2.2 | (with_reducible refine Kd.C_alloc ?_ _) | (with_reducible refine Kd.C_drewN ?_ _) | (with_reducible refine Kd.C_drew ?_))); (case side4 => exact (Kd.R_reads' HO409.out).2.1); rintro e w' ⟨rfl, ⟨nd, rfl⟩⟩; refine ⟨_, rfl, ?_⟩) | (go_at_call 22; (with_reducible refine (nat_Shl.calls _ _ l0 a1 t411 _ ?side1 ?side2 A23.out).mono ?_); (case side1 => repeat (first | exact (Kd.C_below HR0.out (by repeat (first | (with_reducible first | exact HB.out | apply below_alloc | apply pw_below_drewN | apply below_drew1) | exact HB.out))) | (with_reducible refine Kd.C_alloc ?_ _) | (with_reducible refine Kd.C_drewN ?_ _) | (with_reducible refine Kd.C_drew ?_))); (case side2 => exact HC0.out); rintro e w42 ⟨v412, rfl, ho0, hb⟩; have n0_ := Aside0.mk (Kd.R_below (by (with_reducible repeat (first | apply Kd.R_alloc | apply Kd.R_drewN | apply Kd.R_drew)); exact HO387.out) hb); have n1_ := Aside0.mk (Kd.R_below (by (with_reducible repeat (first | apply Kd.R_alloc | apply Kd.R_drewN | apply Kd.R_drew)); exact HO390.out) hb); have n2_ := Aside0.mk (Kd.R_below (by (with_reducible repeat (first | apply Kd.R_alloc | apply Kd.R_drewN | apply Kd.R_drew)); exact HO394.out) hb); have n3_ := Aside0.mk (Kd.R_below (by (with_reducible repeat (first | apply Kd.R_alloc | apply Kd.R_drewN | apply Kd.R_drew)); exact HO396.out) hb); have n4_ := Aside0.mk (Kd.V_below (by (with_reducible repeat (first | apply Kd.V_alloc | apply Kd.V_drewN | apply Kd.V_drew)); exact HO399.out) hb); have n5_ := Aside0.mk (Kd.R_below (by (with_reducible repeat (first | apply Kd.R_alloc | apply Kd.R_drewN | apply Kd.R_drew)); exact HO402.out) hb); have n6_ := Aside0.mk (Kd.V_below (by (with_reducible repeat (first | apply Kd.V_alloc | apply Kd.V_drewN | apply Kd.V_drew)); exact HO406.out) hb); have n7_ := Aside0.mk (Kd.R_below (by (with_reducible repeat (first | apply Kd.R_alloc | apply Kd.R_drewN | apply Kd.R_drew)); exact HO409.out) hb); have n8_ := Aside0.mk (Kd.V_lower (Kd.V_mono (ok' := fun k_ => some k_ ≠ (.slice Ao29 t385.length co29 : Value).ownBlock ∧ some k_ ≠ (.slice Ao30 t388.length co30 : Value).ownBlock ∧ some k_ ≠ (.slice Ao33 t391.length co33 : Value).ownBlock ∧ some k_ ≠ (.slice Ao38 t392.length co38 : Value).ownBlock ∧ some k_ ≠ (.slice Ao36 t400.length co36 : Value).ownBlock ∧ some k_ ≠ (.slice Ao41 t407.length co41 : Value).ownBlock) ho0 (fun k_ hk_ => ⟨(Kd.fresh' (Kd.R_lt (by (with_reducible repeat (first | apply Kd.R_alloc | apply Kd.R_drewN | apply Kd.R_drew)); exact HO387.out)) k_ hk_), (Kd.fresh' (Kd.R_lt (by (with_reducible repeat (first | apply Kd.R_alloc | apply Kd.R_drewN | apply Kd.R_drew)); exact HO390.out)) k_ hk_), (Kd.fresh' (Kd.R_lt (by (with_reducible repeat (first | apply Kd.R_alloc | apply Kd.R_drewN | apply Kd.R_drew)); exact HO394.out)) k_ hk_), (Kd.fresh' (Kd.R_lt (by (with_reducible repeat (first | apply Kd.R_alloc | apply Kd.R_drewN | apply Kd.R_drew)); exact HO396.out)) k_ hk_), (Kd.fresh' (Kd.R_lt (by (with_reducible repeat (first | apply Kd.R_alloc | apply Kd.R_drewN | apply Kd.R_drew)); exact HO402.out)) k_ hk_), (Kd.fresh' (Kd.R_lt (by (with_reducible repeat (first | apply Kd.R_alloc | apply Kd.R_drewN | apply Kd.R_drew)); exact HO409.out)) k_ hk_)⟩)) (below_size (by repeat (first | (with_reducible first | exact HB.out | apply below_alloc | apply pw_below_drewN | apply below_drew1) | exact HB.out)))); have n9_ := Aside0.mk (below_step (by repeat (first | (with_reducible first | exact HB.out | apply below_alloc | apply pw_below_drewN | apply below_drew1) | exact HB.out)) hb); clear HO387; clear HO390; clear HO394; clear HO396; clear HO399; clear HO402; clear HO406; clear HO409; clear HB; have HO387 := n0_; have HO390 := n1_; have HO394 := n2_; have HO396 := n3_; have HO399 := n4_; have HO402 := n5_; have HO406 := n6_; have HO409 := n7_; have HO413 := n8_; have HB := n9_; clear n0_ n1_ n2_ n3_ n4_ n5_ n6_ n7_ n8_ n9_; (try clear hb); (try clear hb2); (try clear hk); (try clear hi); (try clear ho0)) | (go_at_call 23; (with_reducible refine (tallystickref04_Mul.calls kj8 _ _ t385 _ _ t388 t414 _ ?side1 ?side2 ?side3 ?side4 A24.out).mono ?_); (case side1 => repeat (first | exact (Kd.R_reads' HO387.out).2.2 | (with_reducible refine Kd.C_alloc ?_ _) | (with_reducible refine Kd.C_drewN ?_ _) | (with_reducible refine Kd.C_drew ?_))); (case side2 => exact (Kd.R_reads' HO387.out).2.1); (case side3 => repeat (first | exact (Kd.R_reads' HO390.out).2.2 | (with_reducible refine Kd.C_alloc ?_ _) | (with_reducible refine Kd.C_drewN ?_ _) | (with_reducible refine Kd.C_drew ?_))); (case side4 => exact (Kd.R_reads' HO390.out).2.1); rintro e w43 ⟨v415, rfl, ho0, hb⟩; have n0_ := Aside0.mk (Kd.R_elder' (by (with_reducible repeat (first | apply Kd.R_alloc | apply Kd.R_drewN | apply Kd.R_drew)); exact HO387.out) (Kd.R_base ho0) hb); have n1_ := Aside0.mk (Kd.R_elder' (by (with_reducible repeat (first | apply Kd.R_alloc | apply Kd.R_drewN | apply Kd.R_drew)); exact HO390.out) (Kd.R_base ho0) hb); have n2_ := Aside0.mk (Kd.R_elder' (by (with_reducible repeat (first | apply Kd.R_alloc | apply Kd.R_drewN | apply Kd.R_drew)); exact HO394.out) (Kd.R_base ho0) hb); have n3_ := Aside0.mk (Kd.R_elder' (by (with_reducible repeat (first | apply Kd.R_alloc | apply Kd.R_drewN | apply Kd.R_drew)); exact HO396.out) (Kd.R_base ho0) hb); have n4_ := Aside0.mk (Kd.V_elder' (by (with_reducible repeat (first | apply Kd.V_alloc | apply Kd.V_drewN | apply Kd.V_drew)); exact HO399.out) (Kd.R_base ho0) hb); have n5_ := Aside0.mk (Kd.R_below (by (with_reducible repeat (first | apply Kd.R_alloc | apply Kd.R_drewN | apply Kd.R_drew)); exact HO402.out) hb); have n6_ := Aside0.mk (Kd.V_elder' (by (with_reducible repeat (first | apply Kd.V_alloc | apply Kd.V_drewN | apply Kd.V_drew)); exact HO406.out) (Kd.R_base ho0) hb); have n7_ := Aside0.mk (Kd.R_below (by (with_reducible repeat (first | apply Kd.R_alloc | apply Kd.R_drewN | apply Kd.R_drew)); exact HO409.out) hb); have n8_ := Aside0.mk (Kd.V_elder' (by (with_reducible repeat (first | apply Kd.V_alloc | apply Kd.V_drewN | apply Kd.V_drew)); exact HO413.out) (Kd.R_base ho0) hb); have n9_ := Aside0.mk (Kd.R_lower (Kd.R_new' (Kd.R_new' (Kd.R_new' (Kd.R_new' ho0 (Kd.R_lt (by (with_reducible repeat (first | apply Kd.R_alloc | apply Kd.R_drewN | apply Kd.R_drew)); exact HO387.out))) (Kd.R_lt (by (with_reducible repeat (first | apply Kd.R_alloc | apply Kd.R_drewN | apply Kd.R_drew)); exact HO390.out))) (Kd.R_lt (by (with_reducible repeat (first | apply Kd.R_alloc | apply Kd.R_drewN | apply Kd.R_drew)); exact HO394.out))) (Kd.R_lt (by (with_reducible repeat (first | apply Kd.R_alloc | apply Kd.R_drewN | apply Kd.R_drew)); exact HO396.out))) (below_size (by repeat (first | (with_reducible first | exact HB.out | apply below_alloc | apply pw_below_drewN | apply below_drew1) | exact HB.out)))); have n10_ := Aside0.mk (below_step (by repeat (first | (with_reducible first | exact HB.out | apply below_alloc | apply pw_below_drewN | apply below_drew1) | exact HB.out)) hb); clear HO387; clear HO390; clear HO394; clear HO396; clear HO399; clear HO402; clear HO406; clear HO409; clear HO413; clear HB; have HO387 := n0_; have HO390 := n1_; have HO394 := n2_; have HO396 := n3_; have HO399 := n4_; have HO402 := n5_; have HO406 := n6_; have HO409 := n7_; have HO413 := n8_; have HO416 := n9_; have HB := n10_; clear n0_ n1_ n2_ n3_ n4_ n5_ n6_ n7_ n8_ n9_ n10_; (try clear hb); (try clear hb2); (try clear hk); (try clear hi); (try clear ho0); obtain ⟨Ao44, co44, eo44⟩ := Kd.R_slice HO416.out; subst eo44) | (go_at_call 20; (with_reducible refine (tallystickref04_Words.calls kj8 _ _ t414 t417 _ ?side1 ?side2 A25.out).mono ?_); (case side1 => repeat (first | exact (Kd.R_reads' HO416.out).2.2 | (with_reducible refine Kd.C_alloc ?_ _) | (with_reducible refine Kd.C_drewN ?_ _) | (with_reducible refine Kd.C_drew ?_))); (case side2 => exact (Kd.R_reads' HO416.out).2.1); rintro e w45 ⟨v418, rfl, ho0, hb⟩; have n0_ := Aside0.mk (Kd.R_below (by (with_reducible repeat (first | apply Kd.R_alloc | apply Kd.R_drewN | apply Kd.R_drew)); exact HO387.out) hb); have n1_ := Aside0.mk (Kd.R_below (by (with_reducible repeat (first | apply Kd.R_alloc | apply Kd.R_drewN | apply Kd.R_drew)); exact HO390.out) hb); have n2_ := Aside0.mk (Kd.R_below (by (with_reducible repeat (first | apply Kd.R_alloc | apply Kd.R_drewN | apply Kd.R_drew)); exact HO394.out) hb); have n3_ := Aside0.mk (Kd.R_below (by (with_reducible repeat (first | apply Kd.R_alloc | apply Kd.R_drewN | apply Kd.R_drew)); exact HO396.out) hb); have n4_ := Aside0.mk (Kd.V_elder' (by (with_reducible repeat (first | apply Kd.V_alloc | apply Kd.V_drewN | apply Kd.V_drew)); exact HO399.out) (Kd.R_base ho0) hb); have n5_ := Aside0.mk (Kd.R_elder' (by (with_reducible repeat (first | apply Kd.R_alloc | apply Kd.R_drewN | apply Kd.R_drew)); exact HO402.out) (Kd.R_base ho0) hb); have n6_ := Aside0.mk (Kd.V_elder' (by (with_reducible repeat (first | apply Kd.V_alloc | apply Kd.V_drewN | apply Kd.V_drew)); exact HO406.out) (Kd.R_base ho0) hb); have n7_ := Aside0.mk (Kd.R_elder' (by (with_reducible repeat (first | apply Kd.R_alloc | apply Kd.R_drewN | apply Kd.R_drew)); exact HO409.out) (Kd.R_base ho0) hb); have n8_ := Aside0.mk (Kd.V_elder' (by (with_reducible repeat (first | apply Kd.V_alloc | apply Kd.V_drewN | apply Kd.V_drew)); exact HO413.out) (Kd.R_base ho0) hb); have n9_ := Aside0.mk (Kd.R_below (by (with_reducible repeat (first | apply Kd.R_alloc | apply Kd.R_drewN | apply Kd.R_drew)); exact HO416.out) hb); have n10_ := Aside0.mk (Kd.R_lower (Kd.R_new' (Kd.R_new' ho0 (Kd.R_lt (by (with_reducible repeat (first | apply Kd.R_alloc | apply Kd.R_drewN | apply Kd.R_drew)); exact HO402.out))) (Kd.R_lt (by (with_reducible repeat (first | apply Kd.R_alloc | apply Kd.R_drewN | apply Kd.R_drew)); exact HO409.out))) (below_size (by repeat (first | (with_reducible first | exact HB.out | apply below_alloc | apply pw_below_drewN | apply below_drew1) | exact HB.out)))); have n11_ := Aside0.mk (below_step (by repeat (first | (with_reducible first | exact HB.out | apply below_alloc | apply pw_below_drewN | apply below_drew1) | exact HB.out)) hb); clear HO387; clear HO390; clear HO394; clear HO396; clear HO399; clear HO402; clear HO406; clear HO409; clear HO413; clear HO416; clear HB; have HO387 := n0_; have HO390 := n1_; have HO394 := n2_; have HO396 := n3_; have HO399 := n4_; have HO402 := n5_; have HO406 := n6_; have HO409 := n7_; have HO413 := n8_; have HO416 := n9_; have HO419 := n10_; have HB := n11_; clear n0_ n1_ n2_ n3_ n4_ n5_ n6_ n7_ n8_ n9_ n10_ n11_; (try clear hb); (try clear hb2); (try clear hk); (try clear hi); (try clear ho0); obtain ⟨Ao46, co46, eo46⟩ := Kd.V_slice HO413.out; subst eo46; obtain ⟨Ao47, co47, eo47⟩ := Kd.R_slice HO419.out; subst eo47) | (go_at_call 18; (with_reducible refine (tallystickref04_Same.calls kj8 _ _ t411 _ _ t417 t420 _ ?side1 ?side2 ?side3 ?side4 A26.out).mono ?_); (case side1 => repeat (first | exact (Kd.V_reads' HO413.out).2.2 | (with_reducible refine Kd.C_alloc ?_ _) | (with_reducible refine Kd.C_drewN ?_ _) | (with_reducible refine Kd.C_drew ?_))); (case side2 => exact (Kd.V_reads' HO413.out).2.1); (case side3 => repeat (first | exact (Kd.R_reads' HO419.out).2.2 | (with_reducible refine Kd.C_alloc ?_ _) | (with_reducible refine Kd.C_drewN ?_ _) | (with_reducible refine Kd.C_drew ?_))); (case side4 => exact (Kd.R_reads' HO419.out).2.1); rintro e w' ⟨rfl, ⟨nd, rfl⟩⟩))
                  go_ret
                  exact ⟨by first | rfl | (simp [errW_none, errW_some] <;> rfl) | (simp [*, errW_none, errW_some] <;> rfl), by repeat (first | (with_reducible first | exact HB.out | apply below_alloc | apply pw_below_drewN | apply below_drew1) | exact HB.out)⟩
                · replace c22 := Bool.eq_false_iff.mpr c22
                  subst c22
                  have H1 : (some false) = some r := by rw [if_neg (show ¬ (false = true) by decide)] at H; exact H
                  clear H
                  have H := H1
                  clear H1
                  obtain rfl := Option.some.inj H
                  exact absurd hr_.out (by simp)
              · replace c21 := Bool.eq_false_iff.mpr c21
                subst c21
                have H1 : (some false) = some r := by rw [if_neg (show ¬ (false = true) by decide)] at H; exact H
                clear H
                have H := H1
                clear H1
                obtain rfl := Option.some.inj H
                exact absurd hr_.out (by simp)
            · replace c20 := Bool.eq_false_iff.mpr c20
              subst c20
              have H1 : (some false) = some r := by rw [if_neg (show ¬ (false = true) by decide)] at H; exact H
              clear H
              have H := H1
              clear H1
              obtain rfl := Option.some.inj H
              exact absurd hr_.out (by simp)

/-- THE ONE PURE STATEMENT of tallysticklaw04_NatMoves: yours. -/
def tallysticklaw04_NatMoves.Pure : Prop := ∀ (l0 : List Int) (a1 : Int), l0.length ≤ maxLen → l0.length * 8 ≤ 140737488351232 → (∀ x ∈ l0, (Lit.int .u64 x).wf = true) → (Lit.int .i64 a1).wf = true → ∃ k, tallysticklaw04_NatMoves.f k l0 a1 = some true
theorem tallysticklaw04_NatMoves.walk (P : tallysticklaw04_NatMoves.Pure) (a0 : Option Addr) (len0 cap0 : Nat) (z0 : List Int) (a1 : Int) (w : World) (w0 : (a0 = none ∧ len0 = 0 ∧ cap0 = 0 ∧ z0 = []) ∨ ∃ x, a0 = some x ∧ len0 ≤ cap0 ∧ cap0 ≤ maxLen ∧ z0.length = cap0 ∧ (∀ i, i < z0.length → w.cell? (x.add i) = some (.int .u64 (z0.getD i 0))) ∧ ∀ n ∈ z0, (Lit.int .u64 n).wf = true) (y0 : len0 * 8 ≤ 140737488351232) (w1 : (Lit.int .i64 a1).wf = true) :
    Calls Try.prog 4 #[.slice a0 len0 cap0, .int .i64 a1] w fun e w' => e = .returned (.bool true) ∧ Below w.heap.size w w' := by
  obtain ⟨l0, rfl, hr0, hm0, hw0, hc0⟩ := ReadsInt.ofRowC w0
  obtain ⟨k, h⟩ := P l0 a1 hm0 y0 hw0 w1
  refine (tallysticklaw04_NatMoves.calls k _ _ l0 a1 true w (Kd.C_of_reads (d := (0 : Int)) (h1 := fun _ => rfl) hr0) hc0 ⟨rfl⟩ h).mono ?_
  rintro e w' ⟨rfl, hd⟩
  exact ⟨rfl, hd⟩

end Go.Proofs.Ytmanafcncccidaa.Pa
