/- Contracts of functions and laws, written by this session's program myprint.py by way of the kit's print. -/
import Derived.Test.YtnmfinhmhmepdaaPa0
namespace Go.Proofs.Ytnmfinhmhmepdaa.Pa
open Go.RowKit Go.Proofs.Ytnmfinhmhmepdaa.Hand Go.Proofs.YtnmfinhmhmepdaaW.PrintWords Go.Proofs.YtnmfinhmhmepdaaW.PrintLast Go.Proofs.YtnmfinhmhmepdaaW.PrintMore
attribute [local go_sem] max2_int min2_int max_two min_two max_three min_three max_four min_four   -- for this text's walks alone
set_option linter.unusedVariables false
set_option linter.unusedSimpArgs false

/-! ### tallystickref01_Gcd: function 23 -/
mutual
def tallystickref01_Gcd.l0 : Nat → Int → Int → Option (Int)
  | 0, _, _ => none
  | k + 1, x0, x1 => if x0 = 0 then (tallystickref01_Gcd.j1 k x0 x1 false) else (tallystickref01_Gcd.j1 k x0 x1 (x1 != 0))
def tallystickref01_Gcd.j1 : Nat → Int → Int → Bool → Option (Int)
  | 0, _, _, _ => none
  | k + 1, x0, x1, x10 => if x10 = true then (if x0 ≥ x1 then (if x1 = 0 then (none) else (tallystickref01_Gcd.l0 k (Int.tmod x0 x1) x1)) else (if x0 = 0 then (none) else (tallystickref01_Gcd.l0 k x0 (Int.tmod x1 x0)))) else (some (IntKind.u64.wrap (x0 + x1)))
end
def tallystickref01_Gcd.f (k : Nat) (a0 : Int) (a1 : Int) : Option (Int) := tallystickref01_Gcd.l0 k a0 a1
theorem tallystickref01_Gcd.mono_l : ∀ k, (∀ y0 y1, LeO (tallystickref01_Gcd.l0 k y0 y1) (tallystickref01_Gcd.l0 (k + 1) y0 y1)) ∧ (∀ y0 y1 y2, LeO (tallystickref01_Gcd.j1 k y0 y1 y2) (tallystickref01_Gcd.j1 (k + 1) y0 y1 y2))
  | 0 => ⟨fun _ _ r h => by simp [tallystickref01_Gcd.l0] at h, fun _ _ _ r h => by simp [tallystickref01_Gcd.j1] at h⟩
  | k + 1 => by
    obtain ⟨ih0, ih1⟩ := tallystickref01_Gcd.mono_l k
    refine ⟨?_, ?_⟩
    · intro y0 y1
      unfold tallystickref01_Gcd.l0
      repeat' first
      | (with_reducible exact ih0 _ _)
      | (with_reducible exact ih1 _ _ _)
      | (with_reducible exact LeO.refl _)
      | (with_reducible exact LeO.none _)
      | (with_reducible refine LeO.ite ?_ ?_)
      | (with_reducible refine LeO.bind ?_ (fun _ => ?_))
      | exact ih0 _ _
      | exact ih1 _ _ _
      | exact LeO.none _
      | refine LeO.ite ?_ ?_
      | refine LeO.bind ?_ (fun _ => ?_)
    · intro y0 y1 y2
      unfold tallystickref01_Gcd.j1
      repeat' first
      | (with_reducible exact ih0 _ _)
      | (with_reducible exact ih1 _ _ _)
      | (with_reducible exact LeO.refl _)
      | (with_reducible exact LeO.none _)
      | (with_reducible refine LeO.ite ?_ ?_)
      | (with_reducible refine LeO.bind ?_ (fun _ => ?_))
      | exact ih0 _ _
      | exact ih1 _ _ _
      | exact LeO.none _
      | refine LeO.ite ?_ ?_
      | refine LeO.bind ?_ (fun _ => ?_)
theorem tallystickref01_Gcd.mono : ∀ a0 a1 k, LeO (tallystickref01_Gcd.f k a0 a1) (tallystickref01_Gcd.f (k + 1) a0 a1) := by
  intro a0 a1 k
  obtain ⟨ih0, ih1⟩ := tallystickref01_Gcd.mono_l k
  unfold tallystickref01_Gcd.f
  repeat' first
      | (with_reducible exact ih0 _ _)
      | (with_reducible exact ih1 _ _ _)
      | (with_reducible exact LeO.refl _)
      | (with_reducible exact LeO.none _)
      | (with_reducible refine LeO.ite ?_ ?_)
      | (with_reducible refine LeO.bind ?_ (fun _ => ?_))
      | exact ih0 _ _
      | exact ih1 _ _ _
      | exact LeO.none _
      | refine LeO.ite ?_ ?_
      | refine LeO.bind ?_ (fun _ => ?_)
set_option maxHeartbeats 8000000 in
set_option maxRecDepth 100000 in
theorem tallystickref01_Gcd.calls (k : Nat) (a0 : Int) (a1 : Int) (r : Int) (w : World) (h : tallystickref01_Gcd.f k a0 a1 = some r) :
    Calls Try.prog 23 #[.int .u64 a0, .int .u64 a1] w fun e w' => e = .returned (.int .u64 r) ∧ Drawn0 w w' := by
  have H : (tallystickref01_Gcd.l0 k a0 a1) = some r := h
  clear h
  have H' := Aside0.mk H
  clear H
  go_enter Try.func23, Try.ntmps23
  go_wp2
  go_loopg [0, 1] k (fun kq v0 v1 w' => ∃ (x0_1 : Int) (x1_1 : Int), v0 = .int .u64 x0_1 ∧ v1 = .int .u64 x1_1 ∧ Aside0 (tallystickref01_Gcd.l0 kq x0_1 x1_1 = some r) ∧ Aside0 (kq ≤ k) ∧ Drawn0 w w')
  case atStart => exact ⟨(a0), (a1), (by first | rfl | (simp; done) | (simp [*]; done)), (by first | rfl | (simp; done) | (simp [*]; done)), H', ⟨Nat.le_refl _⟩, by repeat (first | exact Drawn0.refl _ | apply Drawn0.step)⟩
  case round =>
    clear H'
    try clear c2
    try clear p2
    obtain ⟨x0_1, x1_1, rfl, rfl, HA, HK1, ⟨m1, rfl⟩⟩ := hrel
    cases gk with
    | zero => exact absurd HA.out (by simp [tallystickref01_Gcd.l0])
    | succ k1 =>
      have H := HA.out
      clear HA
      simp only [tallystickref01_Gcd.l0] at H
      have HC3 := Aside0.mk H
      clear H
      go_upto_region 1 with (fail)
      go_cut [10] (fun v10 wc => ∃ (kq : Nat) (x10_2 : Bool), v10 = .bool x10_2 ∧ Aside0 (tallystickref01_Gcd.j1 kq x0_1 x1_1 x10_2 = some r) ∧ Aside0 (kq ≤ k1) ∧ Drawn0 w wc)
      case first =>
        have H := HC3.out
        clear HC3
        by_cases c4 : x0_1 = 0
        · rw [if_pos c4] at H
          have c4b0 : (x0_1 == 0) = true := beq_iff_eq.mpr c4
          have c4b1 : (x0_1 != 0) = false := bne_eq_false_iff_eq.mpr c4
          clear c4
          (first | rw [c4b0] | (simp only [i64_w, i32_w]; rw [c4b0]) | skip)
          have H' := Aside0.mk H
          clear H
          go_wp2
          go_meet
          case rel => exact ⟨_, (false), (by first | rfl | (simp; done) | (simp [*]; done)), H', ⟨by have := HK1.out; first | omega | exact Nat.le_refl _⟩, by repeat (first | exact Drawn0.refl _ | apply Drawn0.step)⟩
        · rw [if_neg c4] at H
          have c4b0 : (x0_1 == 0) = false := beq_eq_false_iff_ne.mpr c4
          have c4b1 : (x0_1 != 0) = true := bne_iff_ne.mpr c4
          (first | rw [c4b0] | (simp only [i64_w, i32_w]; rw [c4b0]) | skip)
          have H' := Aside0.mk H
          clear H
          go_wp2
          go_meet
          case rel => exact ⟨_, ((x1_1 != 0)), (by first | rfl | (simp; done) | (simp [*]; done)), H', ⟨by have := HK1.out; first | omega | exact Nat.le_refl _⟩, by repeat (first | exact Drawn0.refl _ | apply Drawn0.step)⟩
      case rest =>
        clear HC3
        try clear c2
        try clear p2
        try clear c4
        try clear c4b0
        try clear c4b1
        try clear p2
        obtain ⟨kq, x10_2, rfl, HA, HJ2, ⟨mc2, rfl⟩⟩ := hcut
        cases kq with
        | zero => exact absurd HA.out (by simp [tallystickref01_Gcd.j1])
        | succ kj2 =>
          have H := HA.out
          clear HA
          simp only [tallystickref01_Gcd.j1] at H
          by_cases c5 : x10_2 = true
          · subst c5
            have H1 : (if x0_1 ≥ x1_1 then (if x1_1 = 0 then (none) else (tallystickref01_Gcd.l0 kj2 (Int.tmod x0_1 x1_1) x1_1)) else (if x0_1 = 0 then (none) else (tallystickref01_Gcd.l0 kj2 x0_1 (Int.tmod x1_1 x0_1)))) = some r := by rw [if_pos rfl] at H; exact H
            clear H
            have H := H1
            clear H1
            by_cases c6 : x0_1 ≥ x1_1
            · rw [if_pos c6] at H
              have c6b0 : decide (x1_1 ≤ x0_1) = true := decide_eq_true c6
              clear c6
              by_cases c7 : x1_1 = 0
              · rw [if_pos c7] at H
                exact absurd H (by simp)
              · rw [if_neg c7] at H
                have c7b0 : (x1_1 == 0) = false := beq_eq_false_iff_ne.mpr c7
                have c7b1 : (x1_1 != 0) = true := bne_iff_ne.mpr c7
                have H' := Aside0.mk H
                clear H
                go_wp2
                go_roundg kj2
                case measure => have := HK1.out; have := HJ2.out; omega
                case rel => exact ⟨(Int.tmod x0_1 x1_1), (x1_1), (by first | rfl | (simp; done) | (simp [*]; done)), (by first | rfl | (simp; done) | (simp [*]; done)), H', ⟨by have := HK1.out; have := HJ2.out; omega⟩, by repeat (first | exact Drawn0.refl _ | apply Drawn0.step)⟩
            · rw [if_neg c6] at H
              have c6b0 : decide (x1_1 ≤ x0_1) = false := decide_eq_false c6
              clear c6
              by_cases c8 : x0_1 = 0
              · rw [if_pos c8] at H
                exact absurd H (by simp)
              · rw [if_neg c8] at H
                have c8b0 : (x0_1 == 0) = false := beq_eq_false_iff_ne.mpr c8
                have c8b1 : (x0_1 != 0) = true := bne_iff_ne.mpr c8
                have H' := Aside0.mk H
                clear H
                go_wp2
                go_roundg kj2
                case measure => have := HK1.out; have := HJ2.out; omega
                case rel => exact ⟨(x0_1), (Int.tmod x1_1 x0_1), (by first | rfl | (simp; done) | (simp [*]; done)), (by first | rfl | (simp; done) | (simp [*]; done)), H', ⟨by have := HK1.out; have := HJ2.out; omega⟩, by repeat (first | exact Drawn0.refl _ | apply Drawn0.step)⟩
          · replace c5 := Bool.eq_false_iff.mpr c5
            subst c5
            have H1 : (some (IntKind.u64.wrap (x0_1 + x1_1))) = some r := by rw [if_neg (show ¬ (false = true) by decide)] at H; exact H
            clear H
            have H := H1
            clear H1
            obtain rfl := Option.some.inj H
            go_wp2
            go_ret
            exact ⟨by first | rfl | (simp; done) | (simp [*]; done), by repeat (first | exact Drawn0.refl _ | apply Drawn0.step)⟩

end Go.Proofs.Ytnmfinhmhmepdaa.Pa
