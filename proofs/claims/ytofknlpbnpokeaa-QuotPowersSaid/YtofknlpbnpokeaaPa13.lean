/- Contracts of functions and laws, written by this session's program myprint.py by way of the kit's print. -/
import Derived.Test.YtofknlpbnpokeaaPa0
import Derived.Test.YtofknlpbnpokeaaPa1
import Derived.Test.YtofknlpbnpokeaaPa2
import Derived.Test.YtofknlpbnpokeaaPa4
import Derived.Test.YtofknlpbnpokeaaPa5
import Derived.Test.YtofknlpbnpokeaaPa6
namespace Go.Proofs.Ytofknlpbnpokeaa.Pa
open Go.RowKit Go.Proofs.Ytofknlpbnpokeaa.Hand Go.Proofs.YtofknlpbnpokeaaW.PrintWords Go.Proofs.YtofknlpbnpokeaaW.PrintLast Go.Proofs.YtofknlpbnpokeaaW.PrintMore
attribute [local go_sem] max2_int min2_int max_two min_two max_three min_three max_four min_four   -- for this text's walks alone
set_option linter.unusedVariables false
set_option linter.unusedSimpArgs false

/-! ### tallysticklaw06_QuotPowers: function 9 -/
mutual
def tallysticklaw06_QuotPowers.j0 : Nat → List Int → List Int → Int → Bool → Bool → Option (Bool)
  | 0, _, _, _, _, _ => none
  | k + 1, x0, x1, x2, x7, x29 => if x29 = true then (some x7) else ((tallystickref04_Digits.f k x0).bind fun t541 => (if x2 > 40 then ((tallystickref04_Bits.f k t541).bind fun t544 => (if (wrap64 (t544 + 1)) = 0 then (none) else (tallysticklaw06_QuotPowers.j1 k x0 x1 x2 x7 t541 (decide ((wrap64 ((262144 : Int) / (wrap64 (t544 + 1)))) ≥ x2))))) else (tallysticklaw06_QuotPowers.j1 k x0 x1 x2 x7 t541 false)))
def tallysticklaw06_QuotPowers.j1 : Nat → List Int → List Int → Int → Bool → List Int → Bool → Option (Bool)
  | 0, _, _, _, _, _, _ => none
  | k + 1, x0, x1, x2, x7, x9, x42 => if x42 = true then (some x7) else ((quot_Gcd.f x0 x1).bind fun t545 => ((tallystickref06_Gcd.f k x0 x1).bind fun t548 => ((tallystickref04_Same.f k t545 t548).bind fun t551 => (if x2 > 40 then ((tallystickref04_Bits.f k x9).bind fun t552 => (tallysticklaw06_QuotPowers.j2 k x0 x2 x7 x9 t551 (t552 == 0))) else (tallysticklaw06_QuotPowers.j2 k x0 x2 x7 x9 t551 false)))))
def tallysticklaw06_QuotPowers.j2 : Nat → List Int → Int → Bool → List Int → Bool → Bool → Option (Bool)
  | 0, _, _, _, _, _, _ => none
  | k + 1, x0, x2, x7, x9, x10, x57 => if x57 = true then (if x7 = true then (some x10) else (some false)) else (if x2 > 40 then ((tallystickref04_Bits.f k x9).bind fun t553 => (if t553 = 0 then (none) else (tallysticklaw06_QuotPowers.j3 k x0 x2 x7 x10 (decide (x2 ≤ (wrap64 ((262144 : Int) / t553))))))) else (tallysticklaw06_QuotPowers.j3 k x0 x2 x7 x10 false))
def tallysticklaw06_QuotPowers.j3 : Nat → List Int → Int → Bool → Bool → Bool → Option (Bool)
  | 0, _, _, _, _, _ => none
  | k + 1, x0, x2, x7, x10, x70 => if x70 = true then (if x7 = true then (some x10) else (some false)) else ((quot_Pow.f x0 x2).bind fun bt554 => ((tallystickref06_Pow.f k x0 x2).bind fun bt558 => (if x7 = true then (if x10 = true then ((tallystickref04_Same.f k bt554.1 bt558.1).bind fun t562 => (if t562 = true then (some (bt554.2 == bt558.2)) else (some false))) else (some false)) else (some false))))
end
def tallysticklaw06_QuotPowers.f (k : Nat) (l0 : List Int) (l1 : List Int) (a2 : Int) : Option (Bool) := (tallysticklaw06_shown.f).bind fun t539 => ((tallysticklaw06_few.f l0 l1).bind fun t540 => (if t540 = true then (if a2 > 40 then (tallysticklaw06_QuotPowers.j0 k l0 l1 a2 t539 (decide ((l0.length : Int) < 1))) else (tallysticklaw06_QuotPowers.j0 k l0 l1 a2 t539 false)) else (tallysticklaw06_QuotPowers.j0 k l0 l1 a2 t539 true)))
theorem tallysticklaw06_QuotPowers.mono_l : ∀ k, (∀ y0 y1 y2 y3 y4, LeO (tallysticklaw06_QuotPowers.j0 k y0 y1 y2 y3 y4) (tallysticklaw06_QuotPowers.j0 (k + 1) y0 y1 y2 y3 y4)) ∧ (∀ y0 y1 y2 y3 y4 y5, LeO (tallysticklaw06_QuotPowers.j1 k y0 y1 y2 y3 y4 y5) (tallysticklaw06_QuotPowers.j1 (k + 1) y0 y1 y2 y3 y4 y5)) ∧ (∀ y0 y1 y2 y3 y4 y5, LeO (tallysticklaw06_QuotPowers.j2 k y0 y1 y2 y3 y4 y5) (tallysticklaw06_QuotPowers.j2 (k + 1) y0 y1 y2 y3 y4 y5)) ∧ (∀ y0 y1 y2 y3 y4, LeO (tallysticklaw06_QuotPowers.j3 k y0 y1 y2 y3 y4) (tallysticklaw06_QuotPowers.j3 (k + 1) y0 y1 y2 y3 y4))
  | 0 => ⟨fun _ _ _ _ _ r h => by simp [tallysticklaw06_QuotPowers.j0] at h, fun _ _ _ _ _ _ r h => by simp [tallysticklaw06_QuotPowers.j1] at h, fun _ _ _ _ _ _ r h => by simp [tallysticklaw06_QuotPowers.j2] at h, fun _ _ _ _ _ r h => by simp [tallysticklaw06_QuotPowers.j3] at h⟩
  | k + 1 => by
    obtain ⟨ih0, ih1, ih2, ih3⟩ := tallysticklaw06_QuotPowers.mono_l k
    refine ⟨?_, ?_, ?_, ?_⟩
    · intro y0 y1 y2 y3 y4
      unfold tallysticklaw06_QuotPowers.j0
      repeat' first
      | (with_reducible exact ih0 _ _ _ _ _)
      | (with_reducible exact ih1 _ _ _ _ _ _)
      | (with_reducible exact ih2 _ _ _ _ _ _)
      | (with_reducible exact ih3 _ _ _ _ _)
      | (with_reducible exact tallystickref04_Bits.mono _ _)
      | (with_reducible exact tallystickref04_Digits.mono _ _)
      | (with_reducible exact tallystickref04_Same.mono _ _ _)
      | (with_reducible exact tallystickref06_Gcd.mono _ _ _)
      | (with_reducible exact tallystickref06_Pow.mono _ _ _)
      | (with_reducible exact LeO.refl _)
      | (with_reducible exact LeO.none _)
      | (with_reducible refine LeO.ite ?_ ?_)
      | (with_reducible refine LeO.bind ?_ (fun _ => ?_))
      | exact ih0 _ _ _ _ _
      | exact ih1 _ _ _ _ _ _
      | exact ih2 _ _ _ _ _ _
      | exact ih3 _ _ _ _ _
      | exact tallystickref04_Bits.mono _ _
      | exact tallystickref04_Digits.mono _ _
      | exact tallystickref04_Same.mono _ _ _
      | exact tallystickref06_Gcd.mono _ _ _
      | exact tallystickref06_Pow.mono _ _ _
      | exact LeO.none _
      | refine LeO.ite ?_ ?_
      | refine LeO.bind ?_ (fun _ => ?_)
    · intro y0 y1 y2 y3 y4 y5
      unfold tallysticklaw06_QuotPowers.j1
      repeat' first
      | (with_reducible exact ih0 _ _ _ _ _)
      | (with_reducible exact ih1 _ _ _ _ _ _)
      | (with_reducible exact ih2 _ _ _ _ _ _)
      | (with_reducible exact ih3 _ _ _ _ _)
      | (with_reducible exact tallystickref04_Bits.mono _ _)
      | (with_reducible exact tallystickref04_Digits.mono _ _)
      | (with_reducible exact tallystickref04_Same.mono _ _ _)
      | (with_reducible exact tallystickref06_Gcd.mono _ _ _)
      | (with_reducible exact tallystickref06_Pow.mono _ _ _)
      | (with_reducible exact LeO.refl _)
      | (with_reducible exact LeO.none _)
      | (with_reducible refine LeO.ite ?_ ?_)
      | (with_reducible refine LeO.bind ?_ (fun _ => ?_))
      | exact ih0 _ _ _ _ _
      | exact ih1 _ _ _ _ _ _
      | exact ih2 _ _ _ _ _ _
      | exact ih3 _ _ _ _ _
      | exact tallystickref04_Bits.mono _ _
      | exact tallystickref04_Digits.mono _ _
      | exact tallystickref04_Same.mono _ _ _
      | exact tallystickref06_Gcd.mono _ _ _
      | exact tallystickref06_Pow.mono _ _ _
      | exact LeO.none _
      | refine LeO.ite ?_ ?_
      | refine LeO.bind ?_ (fun _ => ?_)
    · intro y0 y1 y2 y3 y4 y5
      unfold tallysticklaw06_QuotPowers.j2
      repeat' first
      | (with_reducible exact ih0 _ _ _ _ _)
      | (with_reducible exact ih1 _ _ _ _ _ _)
      | (with_reducible exact ih2 _ _ _ _ _ _)
      | (with_reducible exact ih3 _ _ _ _ _)
      | (with_reducible exact tallystickref04_Bits.mono _ _)
      | (with_reducible exact tallystickref04_Digits.mono _ _)
      | (with_reducible exact tallystickref04_Same.mono _ _ _)
      | (with_reducible exact tallystickref06_Gcd.mono _ _ _)
      | (with_reducible exact tallystickref06_Pow.mono _ _ _)
      | (with_reducible exact LeO.refl _)
      | (with_reducible exact LeO.none _)
      | (with_reducible refine LeO.ite ?_ ?_)
      | (with_reducible refine LeO.bind ?_ (fun _ => ?_))
      | exact ih0 _ _ _ _ _
      | exact ih1 _ _ _ _ _ _
      | exact ih2 _ _ _ _ _ _
      | exact ih3 _ _ _ _ _
      | exact tallystickref04_Bits.mono _ _
      | exact tallystickref04_Digits.mono _ _
      | exact tallystickref04_Same.mono _ _ _
      | exact tallystickref06_Gcd.mono _ _ _
      | exact tallystickref06_Pow.mono _ _ _
      | exact LeO.none _
      | refine LeO.ite ?_ ?_
      | refine LeO.bind ?_ (fun _ => ?_)
    · intro y0 y1 y2 y3 y4
      unfold tallysticklaw06_QuotPowers.j3
      repeat' first
      | (with_reducible exact ih0 _ _ _ _ _)
      | (with_reducible exact ih1 _ _ _ _ _ _)
      | (with_reducible exact ih2 _ _ _ _ _ _)
      | (with_reducible exact ih3 _ _ _ _ _)
      | (with_reducible exact tallystickref04_Bits.mono _ _)
      | (with_reducible exact tallystickref04_Digits.mono _ _)
      | (with_reducible exact tallystickref04_Same.mono _ _ _)
      | (with_reducible exact tallystickref06_Gcd.mono _ _ _)
      | (with_reducible exact tallystickref06_Pow.mono _ _ _)
      | (with_reducible exact LeO.refl _)
      | (with_reducible exact LeO.none _)
      | (with_reducible refine LeO.ite ?_ ?_)
      | (with_reducible refine LeO.bind ?_ (fun _ => ?_))
      | exact ih0 _ _ _ _ _
      | exact ih1 _ _ _ _ _ _
      | exact ih2 _ _ _ _ _ _
      | exact ih3 _ _ _ _ _
      | exact tallystickref04_Bits.mono _ _
      | exact tallystickref04_Digits.mono _ _
      | exact tallystickref04_Same.mono _ _ _
      | exact tallystickref06_Gcd.mono _ _ _
      | exact tallystickref06_Pow.mono _ _ _
      | exact LeO.none _
      | refine LeO.ite ?_ ?_
      | refine LeO.bind ?_ (fun _ => ?_)
theorem tallysticklaw06_QuotPowers.mono : ∀ a0 a1 a2 k, LeO (tallysticklaw06_QuotPowers.f k a0 a1 a2) (tallysticklaw06_QuotPowers.f (k + 1) a0 a1 a2) := by
  intro a0 a1 a2 k
  obtain ⟨ih0, ih1, ih2, ih3⟩ := tallysticklaw06_QuotPowers.mono_l k
  unfold tallysticklaw06_QuotPowers.f
  repeat' first
      | (with_reducible exact ih0 _ _ _ _ _)
      | (with_reducible exact ih1 _ _ _ _ _ _)
      | (with_reducible exact ih2 _ _ _ _ _ _)
      | (with_reducible exact ih3 _ _ _ _ _)
      | (with_reducible exact tallystickref04_Bits.mono _ _)
      | (with_reducible exact tallystickref04_Digits.mono _ _)
      | (with_reducible exact tallystickref04_Same.mono _ _ _)
      | (with_reducible exact tallystickref06_Gcd.mono _ _ _)
      | (with_reducible exact tallystickref06_Pow.mono _ _ _)
      | (with_reducible exact LeO.refl _)
      | (with_reducible exact LeO.none _)
      | (with_reducible refine LeO.ite ?_ ?_)
      | (with_reducible refine LeO.bind ?_ (fun _ => ?_))
      | exact ih0 _ _ _ _ _
      | exact ih1 _ _ _ _ _ _
      | exact ih2 _ _ _ _ _ _
      | exact ih3 _ _ _ _ _
      | exact tallystickref04_Bits.mono _ _
      | exact tallystickref04_Digits.mono _ _
      | exact tallystickref04_Same.mono _ _ _
      | exact tallystickref06_Gcd.mono _ _ _
      | exact tallystickref06_Pow.mono _ _ _
      | exact LeO.none _
      | refine LeO.ite ?_ ?_
      | refine LeO.bind ?_ (fun _ => ?_)
set_option maxHeartbeats 8000000 in
set_option maxRecDepth 100000 in
theorem tallysticklaw06_QuotPowers.calls (k : Nat) (A0 : Option Addr) (c0 : Nat) (l0 : List Int) (A1 : Option Addr) (c1 : Nat) (l1 : List Int) (a2 : Int) (r : Bool) (w : World) (hr0 : Kd.C (Kd.int .u64) w A0 l0.length l0) (hc0 : l0.length ≤ c0) (hr1 : Kd.C (Kd.int .u64) w A1 l1.length l1) (hc1 : l1.length ≤ c1) (hr_ : Aside0 (r = true)) (h : tallysticklaw06_QuotPowers.f k l0 l1 a2 = some r) :
    Calls Try.prog 9 #[.slice A0 l0.length c0, .slice A1 l1.length c1, .int .i64 a2] w fun e w' => e = .returned (.bool r) ∧ Below w.heap.size w w' := by
  have HR0 := Aside0.mk hr0
  have HC0 := Aside0.mk hc0
  clear hr0 hc0
  have HR1 := Aside0.mk hr1
  have HC1 := Aside0.mk hc1
  clear hr1 hc1
  have HB := Aside0.mk (Below.refl w.heap.size w)
  have H : ((tallysticklaw06_shown.f).bind fun t539 => ((tallysticklaw06_few.f l0 l1).bind fun t540 => (if t540 = true then (if a2 > 40 then (tallysticklaw06_QuotPowers.j0 k l0 l1 a2 t539 (decide ((l0.length : Int) < 1))) else (tallysticklaw06_QuotPowers.j0 k l0 l1 a2 t539 false)) else (tallysticklaw06_QuotPowers.j0 k l0 l1 a2 t539 true)))) = some r := h
  clear h
  replace H := Option.bind_eq_some_iff.mp H
  obtain ⟨t539, A40, H⟩ := H
  replace H : ((tallysticklaw06_few.f l0 l1).bind fun t540 => (if t540 = true then (if a2 > 40 then (tallysticklaw06_QuotPowers.j0 k l0 l1 a2 t539 (decide ((l0.length : Int) < 1))) else (tallysticklaw06_QuotPowers.j0 k l0 l1 a2 t539 false)) else (tallysticklaw06_QuotPowers.j0 k l0 l1 a2 t539 true))) = some r := H
  have A4 := Aside0.mk A40
  clear A40
  replace H := Option.bind_eq_some_iff.mp H
  obtain ⟨t540, A50, H⟩ := H
  replace H : (if t540 = true then (if a2 > 40 then (tallysticklaw06_QuotPowers.j0 k l0 l1 a2 t539 (decide ((l0.length : Int) < 1))) else (tallysticklaw06_QuotPowers.j0 k l0 l1 a2 t539 false)) else (tallysticklaw06_QuotPowers.j0 k l0 l1 a2 t539 true)) = some r := H
  have A5 := Aside0.mk A50
  clear A50
  have HC6 := Aside0.mk H
  clear H
  go_enter Try.func9, Try.ntmps9
  go_upto_region 3 with (first | ((with_reducible refine gate_callee (f := 10) rfl ?_); refine goesL_ (some 15) rfl rfl Try.func10 (by kernel_rfl) rfl #[] rfl (by (try simp only [List.map_toArray, List.map_cons, List.map_nil]); first | done | rfl | (simp only [List.length_drop, List.length_take]; rfl)) ?_; (with_reducible refine (tallysticklaw06_shown.calls  t539 _ A4.out).mono ?_); rintro e w7 ⟨rfl, hb⟩; clear A4; refine ⟨_, rfl, ?_⟩; have n0_ := Aside0.mk (below_step (by repeat (first | (with_reducible first | exact HB.out | apply below_alloc | apply pw_below_drewN | apply below_drew1) | exact HB.out)) hb); clear HB; have HB := n0_; clear n0_; (try clear hb); (try clear hb2); (try clear hk); (try clear hi)) | ((with_reducible refine gate_callee (f := 11) rfl ?_); refine goesL_ (some 18) rfl rfl Try.func11 (by kernel_rfl) rfl #[.slice A0 l0.length c0, .slice A1 l1.length c1] rfl (by (try simp only [List.map_toArray, List.map_cons, List.map_nil]); first | done | rfl | (simp only [List.length_drop, List.length_take]; rfl)) ?_; (with_reducible refine (tallysticklaw06_few.calls _ _ l0 _ _ l1 t540 _ ?side1 ?side2 ?side3 ?side4 A5.out).mono ?_); (case side1 => repeat (first | exact (Kd.C_below HR0.out HB.out) | (with_reducible refine Kd.C_alloc ?_ _) | (with_reducible refine Kd.C_drewN ?_ _) | (with_reducible refine Kd.C_drew ?_))); (case side2 => exact HC0.out); (case side3 => repeat (first | exact (Kd.C_below HR1.out HB.out) | (with_reducible refine Kd.C_alloc ?_ _) | (with_reducible refine Kd.C_drewN ?_ _) | (with_reducible refine Kd.C_drew ?_))); (case side4 => exact HC1.out); rintro e w' ⟨rfl, ⟨nd, rfl⟩⟩; refine ⟨_, rfl, ?_⟩))
  (try simp only [Act.put, List.setIfInBounds_toArray, List.set_cons_zero, List.set_cons_succ])
  go_cut [29] (fun v29 wc => ∃ (kq : Nat) (x29_5 : Bool), v29 = .bool x29_5 ∧ Aside0 (tallysticklaw06_QuotPowers.j0 kq l0 l1 a2 t539 x29_5 = some r) ∧ Aside0 (kq ≤ k) ∧ Aside0 (Below w.heap.size w wc))
  case first =>
    have H := HC6.out
    clear HC6
    by_cases c8 : t540 = true
    · subst c8
      have H1 : (if a2 > 40 then (tallysticklaw06_QuotPowers.j0 k l0 l1 a2 t539 (decide ((l0.length : Int) < 1))) else (tallysticklaw06_QuotPowers.j0 k l0 l1 a2 t539 false)) = some r := by rw [if_pos rfl] at H; exact H
      clear H
      have H := H1
      clear H1
      by_cases c9 : a2 > 40
      · rw [if_pos c9] at H
        have c9b0 : decide (40 < a2) = true := decide_eq_true c9
        clear c9
        (first | rw [c9b0] | (simp only [i64_w, i32_w]; rw [c9b0]) | skip)
        have H' := Aside0.mk H
        clear H
        go_wp2
        go_meet
        case rel => exact ⟨_, (decide ((l0.length : Int) < 1)), (by first | rfl | (simp; done) | (simp [Int.tdiv_eq_ediv_of_nonneg (show (0 : Int) ≤ 262144 by decide)]; done) | (simp [*]; done)), H', ⟨by first | omega | exact Nat.le_refl _⟩, ⟨by repeat (first | (with_reducible first | exact HB.out | apply below_alloc | apply pw_below_drewN | apply below_drew1) | exact HB.out)⟩⟩
      · rw [if_neg c9] at H
        have c9b0 : decide (40 < a2) = false := decide_eq_false c9
        clear c9
        (first | rw [c9b0] | (simp only [i64_w, i32_w]; rw [c9b0]) | skip)
        have H' := Aside0.mk H
        clear H
        go_wp2
        go_meet
        case rel => exact ⟨_, (false), (by first | rfl | (simp; done) | (simp [Int.tdiv_eq_ediv_of_nonneg (show (0 : Int) ≤ 262144 by decide)]; done) | (simp [*]; done)), H', ⟨by first | omega | exact Nat.le_refl _⟩, ⟨by repeat (first | (with_reducible first | exact HB.out | apply below_alloc | apply pw_below_drewN | apply below_drew1) | exact HB.out)⟩⟩
    · replace c8 := Bool.eq_false_iff.mpr c8
      subst c8
      have H1 : (tallysticklaw06_QuotPowers.j0 k l0 l1 a2 t539 true) = some r := by rw [if_neg (show ¬ (false = true) by decide)] at H; exact H
      clear H
      have H := H1
      clear H1
      have H' := Aside0.mk H
      clear H
      go_wp2
      go_meet
      case rel => exact ⟨_, (true), (by first | rfl | (simp; done) | (simp [Int.tdiv_eq_ediv_of_nonneg (show (0 : Int) ≤ 262144 by decide)]; done) | (simp [*]; done)), H', ⟨by first | omega | exact Nat.le_refl _⟩, ⟨by repeat (first | (with_reducible first | exact HB.out | apply below_alloc | apply pw_below_drewN | apply below_drew1) | exact HB.out)⟩⟩
  case rest =>
    clear HC6
    try clear c1
    try clear p2
    try clear c8
    try clear c9
    try clear c9b0
    obtain ⟨kq, x29_5, rfl, HA, HJ5, HB⟩ := hcut
    cases kq with
    | zero => exact absurd HA.out (by simp [tallysticklaw06_QuotPowers.j0])
    | succ kj5 =>
      have H := HA.out
      clear HA
      simp only [tallysticklaw06_QuotPowers.j0] at H
      by_cases c10 : x29_5 = true
      · subst c10
        have H1 : (some t539) = some r := by rw [if_pos rfl] at H; exact H
        clear H
        have H := H1
        clear H1
        obtain rfl := Option.some.inj H
        go_wp2
        go_ret
        exact ⟨by first | rfl | (simp [errW_none, errW_some] <;> rfl) | (simp [*, errW_none, errW_some] <;> rfl), by repeat (first | (with_reducible first | exact HB.out | apply below_alloc | apply pw_below_drewN | apply below_drew1) | exact HB.out)⟩
      · replace c10 := Bool.eq_false_iff.mpr c10
        subst c10
        have H1 : ((tallystickref04_Digits.f kj5 l0).bind fun t541 => (if a2 > 40 then ((tallystickref04_Bits.f kj5 t541).bind fun t544 => (if (wrap64 (t544 + 1)) = 0 then (none) else (tallysticklaw06_QuotPowers.j1 kj5 l0 l1 a2 t539 t541 (decide ((wrap64 ((262144 : Int) / (wrap64 (t544 + 1)))) ≥ a2))))) else (tallysticklaw06_QuotPowers.j1 kj5 l0 l1 a2 t539 t541 false))) = some r := by rw [if_neg (show ¬ (false = true) by decide)] at H; exact H
        clear H
        have H := H1
        clear H1
        replace H := Option.bind_eq_some_iff.mp H
        obtain ⟨t541, A110, H⟩ := H
        replace H : (if a2 > 40 then ((tallystickref04_Bits.f kj5 t541).bind fun t544 => (if (wrap64 (t544 + 1)) = 0 then (none) else (tallysticklaw06_QuotPowers.j1 kj5 l0 l1 a2 t539 t541 (decide ((wrap64 ((262144 : Int) / (wrap64 (t544 + 1)))) ≥ a2))))) else (tallysticklaw06_QuotPowers.j1 kj5 l0 l1 a2 t539 t541 false)) = some r := H
        have A11 := Aside0.mk A110
        clear A110
        have HC12 := Aside0.mk H
        clear H
        go_upto_region 6 with (first | ((with_reducible refine gate_callee (f := 13) rfl ?_); refine goesL_ (some 32) rfl rfl Try.func13 (by kernel_rfl) rfl #[.slice A0 l0.length c0] rfl (by (try simp only [List.map_toArray, List.map_cons, List.map_nil]); first | done | rfl | (simp only [List.length_drop, List.length_take]; rfl)) ?_; (with_reducible refine (tallystickref04_Digits.calls kj5 _ _ l0 t541 _ ?side1 ?side2 A11.out).mono ?_); (case side1 => repeat (first | exact (Kd.C_below HR0.out HB.out) | (with_reducible refine Kd.C_alloc ?_ _) | (with_reducible refine Kd.C_drewN ?_ _) | (with_reducible refine Kd.C_drew ?_))); (case side2 => exact HC0.out); rintro e w13 ⟨v542, rfl, ho0, hb⟩; clear A11; refine ⟨_, rfl, ?_⟩; have n0_ := Aside0.mk (Kd.R_lower ho0 (below_size (by repeat (first | (with_reducible first | exact HB.out | apply below_alloc | apply pw_below_drewN | apply below_drew1) | exact HB.out)))); have n1_ := Aside0.mk (below_step (by repeat (first | (with_reducible first | exact HB.out | apply below_alloc | apply pw_below_drewN | apply below_drew1) | exact HB.out)) hb); clear HB; have HO543 := n0_; have HB := n1_; clear n0_ n1_; (try clear hb); (try clear hb2); (try clear hk); (try clear hi); (try clear ho0)))
        (try simp only [Act.put, List.setIfInBounds_toArray, List.set_cons_zero, List.set_cons_succ])
        go_cut [42] (fun v42 wc => ∃ (kq : Nat) (x42_11 : Bool), v42 = .bool x42_11 ∧ Aside0 (tallysticklaw06_QuotPowers.j1 kq l0 l1 a2 t539 t541 x42_11 = some r) ∧ Aside0 (kq ≤ kj5) ∧ Aside0 (Kd.R (Kd.int .i64) 3 wc w.heap.size (fun _ => True) v542 t541) ∧ Aside0 (Below w.heap.size w wc))
        case first =>
          have H := HC12.out
          clear HC12
          by_cases c14 : a2 > 40
          · rw [if_pos c14] at H
            have c14b0 : decide (40 < a2) = true := decide_eq_true c14
            clear c14
            (first | rw [c14b0] | (simp only [i64_w, i32_w]; rw [c14b0]) | skip)
            replace H := Option.bind_eq_some_iff.mp H
            obtain ⟨t544, A150, H⟩ := H
            replace H : (if (wrap64 (t544 + 1)) = 0 then (none) else (tallysticklaw06_QuotPowers.j1 kj5 l0 l1 a2 t539 t541 (decide ((wrap64 ((262144 : Int) / (wrap64 (t544 + 1)))) ≥ a2)))) = some r := H
            have A15 := Aside0.mk A150
            clear A150
            by_cases c16 : (wrap64 (t544 + 1)) = 0
            · rw [if_pos c16] at H
              exact absurd H (by simp)
            · rw [if_neg c16] at H
              have c16b0 : ((wrap64 (t544 + 1)) == 0) = false := beq_eq_false_iff_ne.mpr c16
              have c16b1 : ((wrap64 (t544 + 1)) != 0) = true := bne_iff_ne.mpr c16
              have H' := Aside0.mk H
              clear H
              obtain ⟨Ao17, co17, eo17⟩ := Kd.R_slice HO543.out
              subst eo17
              go_wp2_with (first | (go_at_call 25; (with_reducible refine (tallystickref04_Bits.calls kj5 _ _ t541 t544 _ ?side1 ?side2 A15.out).mono ?_); (case side1 => repeat (first | exact (Kd.R_reads' HO543.out).2.2 | (with_reducible refine Kd.C_alloc ?_ _) | (with_reducible refine Kd.C_drewN ?_ _) | (with_reducible refine Kd.C_drew ?_))); (case side2 => exact (Kd.R_reads' HO543.out).2.1); rintro e w' ⟨rfl, ⟨nd, rfl⟩⟩))
              go_meet
              case rel => exact ⟨_, (decide ((wrap64 ((262144 : Int) / (wrap64 (t544 + 1)))) ≥ a2)), (by first | rfl | (simp; done) | (simp [Int.tdiv_eq_ediv_of_nonneg (show (0 : Int) ≤ 262144 by decide)]; done) | (simp [*]; done)), H', ⟨by have := HJ5.out; first | omega | exact Nat.le_refl _⟩, ⟨by (with_reducible repeat (first | apply Kd.R_alloc | apply Kd.R_drewN | apply Kd.R_drew)); exact HO543.out⟩, ⟨by repeat (first | (with_reducible first | exact HB.out | apply below_alloc | apply pw_below_drewN | apply below_drew1) | exact HB.out)⟩⟩
          · rw [if_neg c14] at H
            have c14b0 : decide (40 < a2) = false := decide_eq_false c14
            clear c14
            (first | rw [c14b0] | (simp only [i64_w, i32_w]; rw [c14b0]) | skip)
            have H' := Aside0.mk H
            clear H
            go_wp2
            go_meet
            case rel => exact ⟨_, (false), (by first | rfl | (simp; done) | (simp [Int.tdiv_eq_ediv_of_nonneg (show (0 : Int) ≤ 262144 by decide)]; done) | (simp [*]; done)), H', ⟨by have := HJ5.out; first | omega | exact Nat.le_refl _⟩, ⟨by (with_reducible repeat (first | apply Kd.R_alloc | apply Kd.R_drewN | apply Kd.R_drew)); exact HO543.out⟩, ⟨by repeat (first | (with_reducible first | exact HB.out | apply below_alloc | apply pw_below_drewN | apply below_drew1) | exact HB.out)⟩⟩
        case rest =>
          clear HC12
          try clear c1
          try clear p2
          try clear p6
          try clear c8
          try clear c9
          try clear c9b0
          try clear c10
          try clear c11
          try clear c13
          try clear c14
          try clear c14b0
          try clear c16
          try clear c16b0
          try clear c16b1
          try clear p2
          obtain ⟨kq, x42_11, rfl, HA, HJ11, HO_9, HB⟩ := hcut
          cases kq with
          | zero => exact absurd HA.out (by simp [tallysticklaw06_QuotPowers.j1])
          | succ kj11 =>
            have H := HA.out
            clear HA
            simp only [tallysticklaw06_QuotPowers.j1] at H
            by_cases c18 : x42_11 = true
            · subst c18
              have H1 : (some t539) = some r := by rw [if_pos rfl] at H; exact H
              clear H
              have H := H1
              clear H1
              obtain rfl := Option.some.inj H
              go_wp2
              go_ret
              exact ⟨by first | rfl | (simp [errW_none, errW_some] <;> rfl) | (simp [*, errW_none, errW_some] <;> rfl), by repeat (first | (with_reducible first | exact HB.out | apply below_alloc | apply pw_below_drewN | apply below_drew1) | exact HB.out)⟩
            · replace c18 := Bool.eq_false_iff.mpr c18
              subst c18
              have H1 : ((quot_Gcd.f l0 l1).bind fun t545 => ((tallystickref06_Gcd.f kj11 l0 l1).bind fun t548 => ((tallystickref04_Same.f kj11 t545 t548).bind fun t551 => (if a2 > 40 then ((tallystickref04_Bits.f kj11 t541).bind fun t552 => (tallysticklaw06_QuotPowers.j2 kj11 l0 a2 t539 t541 t551 (t552 == 0))) else (tallysticklaw06_QuotPowers.j2 kj11 l0 a2 t539 t541 t551 false))))) = some r := by rw [if_neg (show ¬ (false = true) by decide)] at H; exact H
              clear H
              have H := H1
              clear H1
              replace H := Option.bind_eq_some_iff.mp H
              obtain ⟨t545, A190, H⟩ := H
              replace H : ((tallystickref06_Gcd.f kj11 l0 l1).bind fun t548 => ((tallystickref04_Same.f kj11 t545 t548).bind fun t551 => (if a2 > 40 then ((tallystickref04_Bits.f kj11 t541).bind fun t552 => (tallysticklaw06_QuotPowers.j2 kj11 l0 a2 t539 t541 t551 (t552 == 0))) else (tallysticklaw06_QuotPowers.j2 kj11 l0 a2 t539 t541 t551 false)))) = some r := H
              have A19 := Aside0.mk A190
              clear A190
              replace H := Option.bind_eq_some_iff.mp H
              obtain ⟨t548, A200, H⟩ := H
              replace H : ((tallystickref04_Same.f kj11 t545 t548).bind fun t551 => (if a2 > 40 then ((tallystickref04_Bits.f kj11 t541).bind fun t552 => (tallysticklaw06_QuotPowers.j2 kj11 l0 a2 t539 t541 t551 (t552 == 0))) else (tallysticklaw06_QuotPowers.j2 kj11 l0 a2 t539 t541 t551 false))) = some r := H
              have A20 := Aside0.mk A200
              clear A200
              replace H := Option.bind_eq_some_iff.mp H
              obtain ⟨t551, A210, H⟩ := H
              replace H : (if a2 > 40 then ((tallystickref04_Bits.f kj11 t541).bind fun t552 => (tallysticklaw06_QuotPowers.j2 kj11 l0 a2 t539 t541 t551 (t552 == 0))) else (tallysticklaw06_QuotPowers.j2 kj11 l0 a2 t539 t541 t551 false)) = some r := H
              have A21 := Aside0.mk A210
              clear A210
              have HC22 := Aside0.mk H
              clear H
              go_upto_region 9 with (first | ((with_reducible refine gate_callee (f := 19) rfl ?_); refine goesL_ (some 46) rfl rfl Try.func19 (by kernel_rfl) rfl #[.slice A0 l0.length c0, .slice A1 l1.length c1] rfl (by (try simp only [List.map_toArray, List.map_cons, List.map_nil]); first | done | rfl | (simp only [List.length_drop, List.length_take]; rfl)) ?_; (with_reducible refine (quot_Gcd.calls (fun k_ => k_ < w.heap.size) _ _ l0 (fun k_ => k_ < w.heap.size) _ _ l1 t545 _ ?side1 ?side2 A19.out).mono ?_); (case side1 => exact Kd.V_mk HC0.out (Kd.F_below (Kd.C_F (Kd.heap_int .u64) HR0.out) (by repeat (first | (with_reducible first | exact HB.out | apply below_alloc | apply pw_below_drewN | apply below_drew1) | exact HB.out)))); (case side2 => exact Kd.V_mk HC1.out (Kd.F_below (Kd.C_F (Kd.heap_int .u64) HR1.out) (by repeat (first | (with_reducible first | exact HB.out | apply below_alloc | apply pw_below_drewN | apply below_drew1) | exact HB.out)))); rintro e w23 ⟨v546, rfl, ho0, hb⟩; clear A19; refine ⟨_, rfl, ?_⟩; have n0_ := Aside0.mk (Kd.R_below (by (with_reducible repeat (first | apply Kd.R_alloc | apply Kd.R_drewN | apply Kd.R_drew)); exact HO_9.out) hb); have n1_ := Aside0.mk (Kd.V_lower (Kd.V_mono (ok' := fun k_ => some k_ ≠ (v542 : Value).ownBlock) ho0 (fun k_ hk_ => Or.elim hk_ (fun hs_ => Or.elim hs_ (fun hs_ => fun e_ => Nat.not_le.2 hs_ (Kd.R_base HO_9.out k_ e_.symm)) (fun hs_ => fun e_ => Nat.not_le.2 hs_ (Kd.R_base HO_9.out k_ e_.symm))) (fun hn_ => (Kd.fresh' (Kd.R_lt (by (with_reducible repeat (first | apply Kd.R_alloc | apply Kd.R_drewN | apply Kd.R_drew)); exact HO_9.out)) k_ hn_)))) (below_size (by repeat (first | (with_reducible first | exact HB.out | apply below_alloc | apply pw_below_drewN | apply below_drew1) | exact HB.out)))); have n2_ := Aside0.mk (below_step (by repeat (first | (with_reducible first | exact HB.out | apply below_alloc | apply pw_below_drewN | apply below_drew1) | exact HB.out)) hb); clear HO_9; clear HB; have HO_9 := n0_; have HO547 := n1_; have HB := n2_; clear n0_ n1_ n2_; (try clear hb); (try clear hb2); (try clear hk); (try clear hi); (try clear ho0)) | ((with_reducible refine gate_callee (f := 26) rfl ?_); refine goesL_ (some 49) rfl rfl Try.func26 (by kernel_rfl) rfl #[.slice A0 l0.length c0, .slice A1 l1.length c1] rfl (by (try simp only [List.map_toArray, List.map_cons, List.map_nil]); first | done | rfl | (simp only [List.length_drop, List.length_take]; rfl)) ?_; (with_reducible refine (tallystickref06_Gcd.calls kj11 _ _ l0 _ _ l1 t548 _ ?side1 ?side2 ?side3 ?side4 A20.out).mono ?_); (case side1 => repeat (first | exact (Kd.C_below HR0.out HB.out) | (with_reducible refine Kd.C_alloc ?_ _) | (with_reducible refine Kd.C_drewN ?_ _) | (with_reducible refine Kd.C_drew ?_))); (case side2 => exact HC0.out); (case side3 => repeat (first | exact (Kd.C_below HR1.out HB.out) | (with_reducible refine Kd.C_alloc ?_ _) | (with_reducible refine Kd.C_drewN ?_ _) | (with_reducible refine Kd.C_drew ?_))); (case side4 => exact HC1.out); rintro e w24 ⟨v549, rfl, ho0, hb⟩; clear A20; refine ⟨_, rfl, ?_⟩; have n0_ := Aside0.mk (Kd.R_below (by (with_reducible repeat (first | apply Kd.R_alloc | apply Kd.R_drewN | apply Kd.R_drew)); exact HO_9.out) hb); have n1_ := Aside0.mk (Kd.V_elder' (by (with_reducible repeat (first | apply Kd.V_alloc | apply Kd.V_drewN | apply Kd.V_drew)); exact HO547.out) (Kd.R_base ho0) hb); have n2_ := Aside0.mk (Kd.R_lower ho0 (below_size (by repeat (first | (with_reducible first | exact HB.out | apply below_alloc | apply pw_below_drewN | apply below_drew1) | exact HB.out)))); have n3_ := Aside0.mk (below_step (by repeat (first | (with_reducible first | exact HB.out | apply below_alloc | apply pw_below_drewN | apply below_drew1) | exact HB.out)) hb); clear HO_9; clear HO547; clear HB; have HO_9 := n0_; have HO547 := n1_; have HO550 := n2_; have HB := n3_; clear n0_ n1_ n2_ n3_; (try clear hb); (try clear hb2); (try clear hk); (try clear hi); (try clear ho0); obtain ⟨Ao25, co25, eo25⟩ := Kd.V_slice HO547.out; subst eo25; obtain ⟨Ao26, co26, eo26⟩ := Kd.R_slice HO550.out; subst eo26) | ((with_reducible refine gate_callee (f := 17) rfl ?_); refine goesL_ (some 50) rfl rfl Try.func17 (by kernel_rfl) rfl #[.slice Ao25 t545.length co25, .slice Ao26 t548.length co26] rfl (by (try simp only [List.map_toArray, List.map_cons, List.map_nil]); first | done | rfl | (simp only [List.length_drop, List.length_take]; rfl)) ?_; (with_reducible refine (tallystickref04_Same.calls kj11 _ _ t545 _ _ t548 t551 _ ?side1 ?side2 ?side3 ?side4 A21.out).mono ?_); (case side1 => repeat (first | exact (Kd.V_reads' HO547.out).2.2 | (with_reducible refine Kd.C_alloc ?_ _) | (with_reducible refine Kd.C_drewN ?_ _) | (with_reducible refine Kd.C_drew ?_))); (case side2 => exact (Kd.V_reads' HO547.out).2.1); (case side3 => repeat (first | exact (Kd.R_reads' HO550.out).2.2 | (with_reducible refine Kd.C_alloc ?_ _) | (with_reducible refine Kd.C_drewN ?_ _) | (with_reducible refine Kd.C_drew ?_))); (case side4 => exact (Kd.R_reads' HO550.out).2.1); rintro e w' ⟨rfl, ⟨nd, rfl⟩⟩; refine ⟨_, rfl, ?_⟩))
              (try simp only [Act.put, List.setIfInBounds_toArray, List.set_cons_zero, List.set_cons_succ])
              go_cut [57] (fun v57 wc => ∃ (kq : Nat) (x57_21 : Bool), v57 = .bool x57_21 ∧ Aside0 (tallysticklaw06_QuotPowers.j2 kq l0 a2 t539 t541 t551 x57_21 = some r) ∧ Aside0 (kq ≤ kj11) ∧ Aside0 (Kd.R (Kd.int .i64) 3 wc w.heap.size (fun _ => True) v542 t541) ∧ Aside0 (Below w.heap.size w wc))
              case first =>
                have H := HC22.out
                clear HC22
                by_cases c27 : a2 > 40
                · rw [if_pos c27] at H
                  have c27b0 : decide (40 < a2) = true := decide_eq_true c27
                  clear c27
                  (first | rw [c27b0] | (simp only [i64_w, i32_w]; rw [c27b0]) | skip)
                  replace H := Option.bind_eq_some_iff.mp H
                  obtain ⟨t552, A280, H⟩ := H
                  replace H : (tallysticklaw06_QuotPowers.j2 kj11 l0 a2 t539 t541 t551 (t552 == 0)) = some r := H
                  have A28 := Aside0.mk A280
                  clear A280
                  have H' := Aside0.mk H
                  clear H
                  obtain ⟨Ao29, co29, eo29⟩ := Kd.R_slice HO_9.out
                  subst eo29
                  go_wp2_with (first | (go_at_call 25; (with_reducible refine (tallystickref04_Bits.calls kj11 _ _ t541 t552 _ ?side1 ?side2 A28.out).mono ?_); (case side1 => repeat (first | exact (Kd.R_reads' HO_9.out).2.2 | (with_reducible refine Kd.C_alloc ?_ _) | (with_reducible refine Kd.C_drewN ?_ _) | (with_reducible refine Kd.C_drew ?_))); (case side2 => exact (Kd.R_reads' HO_9.out).2.1); rintro e w' ⟨rfl, ⟨nd, rfl⟩⟩))
                  go_meet
                  case rel => exact ⟨_, ((t552 == 0)), (by first | rfl | (simp; done) | (simp [Int.tdiv_eq_ediv_of_nonneg (show (0 : Int) ≤ 262144 by decide)]; done) | (simp [*]; done)), H', ⟨by have := HJ5.out; have := HJ11.out; first | omega | exact Nat.le_refl _⟩, ⟨by (with_reducible repeat (first | apply Kd.R_alloc | apply Kd.R_drewN | apply Kd.R_drew)); exact HO_9.out⟩, ⟨by repeat (first | (with_reducible first | exact HB.out | apply below_alloc | apply pw_below_drewN | apply below_drew1) | exact HB.out)⟩⟩
                · rw [if_neg c27] at H
                  have c27b0 : decide (40 < a2) = false := decide_eq_false c27
                  clear c27
                  (first | rw [c27b0] | (simp only [i64_w, i32_w]; rw [c27b0]) | skip)
                  have H' := Aside0.mk H
                  clear H
                  go_wp2
                  go_meet
                  case rel => exact ⟨_, (false), (by first | rfl | (simp; done) | (simp [Int.tdiv_eq_ediv_of_nonneg (show (0 : Int) ≤ 262144 by decide)]; done) | (simp [*]; done)), H', ⟨by have := HJ5.out; have := HJ11.out; first | omega | exact Nat.le_refl _⟩, ⟨by (with_reducible repeat (first | apply Kd.R_alloc | apply Kd.R_drewN | apply Kd.R_drew)); exact HO_9.out⟩, ⟨by repeat (first | (with_reducible first | exact HB.out | apply below_alloc | apply pw_below_drewN | apply below_drew1) | exact HB.out)⟩⟩
              case rest =>
                clear HC22
                try clear c1
                try clear c2
                try clear p2
                try clear p6
                try clear c8
                try clear c9
                try clear c9b0
                try clear c10
                try clear c11
                try clear c13
                try clear c14
                try clear c14b0
                try clear c16
                try clear c16b0
                try clear c16b1
                try clear c17
                try clear c18
                try clear c19
                try clear c26
                try clear c27
                try clear c27b0
                try clear p2
                try clear p6
                obtain ⟨kq, x57_21, rfl, HA, HJ21, HO_9, HB⟩ := hcut
                cases kq with
                | zero => exact absurd HA.out (by simp [tallysticklaw06_QuotPowers.j2])
                | succ kj21 =>
                  have H := HA.out
                  clear HA
                  simp only [tallysticklaw06_QuotPowers.j2] at H
                  by_cases c30 : x57_21 = true
                  · subst c30
                    have H1 : (if t539 = true then (some t551) else (some false)) = some r := by rw [if_pos rfl] at H; exact H
                    clear H
                    have H := H1
                    clear H1
                    by_cases c31 : t539 = true
                    · subst c31
                      have H1 : (some t551) = some r := by rw [if_pos rfl] at H; exact H
                      clear H
                      have H := H1
                      clear H1
                      obtain rfl := Option.some.inj H
                      go_wp2
                      go_ret
                      exact ⟨by first | rfl | (simp [errW_none, errW_some] <;> rfl) | (simp [*, errW_none, errW_some] <;> rfl), by repeat (first | (with_reducible first | exact HB.out | apply below_alloc | apply pw_below_drewN | apply below_drew1) | exact HB.out)⟩
                    · replace c31 := Bool.eq_false_iff.mpr c31
                      subst c31
                      have H1 : (some false) = some r := by rw [if_neg (show ¬ (false = true) by decide)] at H; exact H
                      clear H
                      have H := H1
                      clear H1
                      obtain rfl := Option.some.inj H
                      exact absurd hr_.out (by simp)
                  · replace c30 := Bool.eq_false_iff.mpr c30
                    subst c30
                    have H1 : (if a2 > 40 then ((tallystickref04_Bits.f kj21 t541).bind fun t553 => (if t553 = 0 then (none) else (tallysticklaw06_QuotPowers.j3 kj21 l0 a2 t539 t551 (decide (a2 ≤ (wrap64 ((262144 : Int) / t553))))))) else (tallysticklaw06_QuotPowers.j3 kj21 l0 a2 t539 t551 false)) = some r := by rw [if_neg (show ¬ (false = true) by decide)] at H; exact H
                    clear H
                    have H := H1
                    clear H1
                    have HC32 := Aside0.mk H
                    clear H
                    go_upto_region 11 with (fail)
                    go_cut [70] (fun v70 wc => ∃ (kq : Nat) (x70_31 : Bool), v70 = .bool x70_31 ∧ Aside0 (tallysticklaw06_QuotPowers.j3 kq l0 a2 t539 t551 x70_31 = some r) ∧ Aside0 (kq ≤ kj21) ∧ Aside0 (Below w.heap.size w wc))
                    case first =>
                      have H := HC32.out
                      clear HC32
                      by_cases c33 : a2 > 40
                      · rw [if_pos c33] at H
                        have c33b0 : decide (40 < a2) = true := decide_eq_true c33
                        clear c33
                        (first | rw [c33b0] | (simp only [i64_w, i32_w]; rw [c33b0]) | skip)
                        replace H := Option.bind_eq_some_iff.mp H
                        obtain ⟨t553, A340, H⟩ := H
                        replace H : (if t553 = 0 then (none) else (tallysticklaw06_QuotPowers.j3 kj21 l0 a2 t539 t551 (decide (a2 ≤ (wrap64 ((262144 : Int) / t553)))))) = some r := H
                        have A34 := Aside0.mk A340
                        clear A340
                        by_cases c35 : t553 = 0
                        · rw [if_pos c35] at H
                          exact absurd H (by simp)
                        · rw [if_neg c35] at H
                          have c35b0 : (t553 == 0) = false := beq_eq_false_iff_ne.mpr c35
                          have c35b1 : (t553 != 0) = true := bne_iff_ne.mpr c35
                          have H' := Aside0.mk H
                          clear H
                          obtain ⟨Ao36, co36, eo36⟩ := Kd.R_slice HO_9.out
                          subst eo36
                          go_wp2_with (first | (go_at_call 25; (with_reducible refine (tallystickref04_Bits.calls kj21 _ _ t541 t553 _ ?side1 ?side2 A34.out).mono ?_); (case side1 => repeat (first | exact (Kd.R_reads' HO_9.out).2.2 | (with_reducible refine Kd.C_alloc ?_ _) | (with_reducible refine Kd.C_drewN ?_ _) | (with_reducible refine Kd.C_drew ?_))); (case side2 => exact (Kd.R_reads' HO_9.out).2.1); rintro e w' ⟨rfl, ⟨nd, rfl⟩⟩))
                          go_meet
                          case rel => exact ⟨_, (decide (a2 ≤ (wrap64 ((262144 : Int) / t553)))), (by first | rfl | (simp; done) | (simp [Int.tdiv_eq_ediv_of_nonneg (show (0 : Int) ≤ 262144 by decide)]; done) | (simp [*]; done)), H', ⟨by have := HJ5.out; have := HJ11.out; have := HJ21.out; first | omega | exact Nat.le_refl _⟩, ⟨by repeat (first | (with_reducible first | exact HB.out | apply below_alloc | apply pw_below_drewN | apply below_drew1) | exact HB.out)⟩⟩
                      · rw [if_neg c33] at H
                        have c33b0 : decide (40 < a2) = false := decide_eq_false c33
                        clear c33
                        (first | rw [c33b0] | (simp only [i64_w, i32_w]; rw [c33b0]) | skip)
                        have H' := Aside0.mk H
                        clear H
                        go_wp2
                        go_meet
                        case rel => exact ⟨_, (false), (by first | rfl | (simp; done) | (simp [Int.tdiv_eq_ediv_of_nonneg (show (0 : Int) ≤ 262144 by decide)]; done) | (simp [*]; done)), H', ⟨by have := HJ5.out; have := HJ11.out; have := HJ21.out; first | omega | exact Nat.le_refl _⟩, ⟨by repeat (first | (with_reducible first | exact HB.out | apply below_alloc | apply pw_below_drewN | apply below_drew1) | exact HB.out)⟩⟩
                    case rest =>
                      clear HC32
                      try clear c1
                      try clear c2
                      try clear p2
                      try clear c3
                      try clear p6
                      try clear c8
                      try clear c9
                      try clear c9b0
                      try clear c10
                      try clear c11
                      try clear c13
                      try clear c14
                      try clear c14b0
                      try clear c16
                      try clear c16b0
                      try clear c16b1
                      try clear c17
                      try clear c18
                      try clear c19
                      try clear c26
                      try clear c27
                      try clear c27b0
                      try clear c30
                      try clear c31
                      try clear c33
                      try clear c33b0
                      try clear c35
                      try clear c35b0
                      try clear c35b1
                      try clear p2
                      try clear p6
                      obtain ⟨kq, x70_31, rfl, HA, HJ31, HB⟩ := hcut
                      cases kq with
                      | zero => exact absurd HA.out (by simp [tallysticklaw06_QuotPowers.j3])
                      | succ kj31 =>
                        have H := HA.out
                        clear HA
                        simp only [tallysticklaw06_QuotPowers.j3] at H
                        by_cases c37 : x70_31 = true
                        · subst c37
                          have H1 : (if t539 = true then (some t551) else (some false)) = some r := by rw [if_pos rfl] at H; exact H
                          clear H
                          have H := H1
                          clear H1
                          by_cases c38 : t539 = true
                          · subst c38
                            have H1 : (some t551) = some r := by rw [if_pos rfl] at H; exact H
                            clear H
                            have H := H1
                            clear H1
                            obtain rfl := Option.some.inj H
                            go_wp2
                            go_ret
                            exact ⟨by first | rfl | (simp [errW_none, errW_some] <;> rfl) | (simp [*, errW_none, errW_some] <;> rfl), by repeat (first | (with_reducible first | exact HB.out | apply below_alloc | apply pw_below_drewN | apply below_drew1) | exact HB.out)⟩
                          · replace c38 := Bool.eq_false_iff.mpr c38
                            subst c38
                            have H1 : (some false) = some r := by rw [if_neg (show ¬ (false = true) by decide)] at H; exact H
                            clear H
                            have H := H1
                            clear H1
                            obtain rfl := Option.some.inj H
                            exact absurd hr_.out (by simp)
                        · replace c37 := Bool.eq_false_iff.mpr c37
                          subst c37
                          have H1 : ((quot_Pow.f l0 a2).bind fun bt554 => ((tallystickref06_Pow.f kj31 l0 a2).bind fun bt558 => (if t539 = true then (if t551 = true then ((tallystickref04_Same.f kj31 bt554.1 bt558.1).bind fun t562 => (if t562 = true then (some (bt554.2 == bt558.2)) else (some false))) else (some false)) else (some false)))) = some r := by rw [if_neg (show ¬ (false = true) by decide)] at H; exact H
                          clear H
                          have H := H1
                          clear H1
                          replace H := Option.bind_eq_some_iff.mp H
                          obtain ⟨⟨t554, t557⟩, A390, H⟩ := H
                          replace H : ((tallystickref06_Pow.f kj31 l0 a2).bind fun bt558 => (if t539 = true then (if t551 = true then ((tallystickref04_Same.f kj31 t554 bt558.1).bind fun t562 => (if t562 = true then (some (t557 == bt558.2)) else (some false))) else (some false)) else (some false))) = some r := H
                          have A39 := Aside0.mk A390
                          clear A390
                          replace H := Option.bind_eq_some_iff.mp H
                          obtain ⟨⟨t558, t559⟩, A400, H⟩ := H
                          replace H : (if t539 = true then (if t551 = true then ((tallystickref04_Same.f kj31 t554 t558).bind fun t562 => (if t562 = true then (some (t557 == t559)) else (some false))) else (some false)) else (some false)) = some r := H
                          have A40 := Aside0.mk A400
                          clear A400
                          by_cases c41 : t539 = true
                          · subst c41
                            have H1 : (if t551 = true then ((tallystickref04_Same.f kj31 t554 t558).bind fun t562 => (if t562 = true then (some (t557 == t559)) else (some false))) else (some false)) = some r := by rw [if_pos rfl] at H; exact H
                            clear H
                            have H := H1
                            clear H1
                            by_cases c42 : t551 = true
                            · subst c42
                              have H1 : ((tallystickref04_Same.f kj31 t554 t558).bind fun t562 => (if t562 = true then (some (t557 == t559)) else (some false))) = some r := by rw [if_pos rfl] at H; exact H
                              clear H
                              have H := H1
                              clear H1
                              replace H := Option.bind_eq_some_iff.mp H
                              obtain ⟨t562, A430, H⟩ := H
                              replace H : (if t562 = true then (some (t557 == t559)) else (some false)) = some r := H
                              have A43 := Aside0.mk A430
                              clear A430
                              by_cases c44 : t562 = true
                              · subst c44
                                have H1 : (some (t557 == t559)) = some r := by rw [if_pos rfl] at H; exact H
                                clear H
                                have H := H1
                                clear H1
                                obtain rfl := Option.some.inj H
                                go_wp2_with (first | ((with_reducible refine gate_callee (f := 24) rfl ?_); refine goesL_ (some 78) rfl rfl Try.func24 (by kernel_rfl) rfl #[.slice A0 l0.length c0, .int .i64 a2] rfl (by (try simp only [List.map_toArray, List.map_cons, List.map_nil]); first | done | rfl | (simp only [List.length_drop, List.length_take]; rfl)) ?_; (with_reducible refine (quot_Pow.calls _ _ l0 a2 t554 t557 _ ?side1 ?side2 A39.out).mono ?_); (case side1 => repeat (first | exact (Kd.C_below HR0.out HB.out) | (with_reducible refine Kd.C_alloc ?_ _) | (with_reducible refine Kd.C_drewN ?_ _) | (with_reducible refine Kd.C_drew ?_))); (case side2 => exact HC0.out); rintro e w45 ⟨v555, rfl, ho0, hb⟩; clear A39; refine ⟨_, rfl, ?_⟩; have n0_ := Aside0.mk (Kd.V_lower (Kd.V_mono (ok' := fun k_ => True) ho0 (fun k_ hk_ => trivial)) (below_size (by repeat (first | (with_reducible first | exact HB.out | apply below_alloc | apply pw_below_drewN | apply below_drew1) | exact HB.out)))); have n1_ := Aside0.mk (below_step (by repeat (first | (with_reducible first | exact HB.out | apply below_alloc | apply pw_below_drewN | apply below_drew1) | exact HB.out)) hb); clear HB; have HO556 := n0_; have HB := n1_; clear n0_ n1_; (try clear hb); (try clear hb2); (try clear hk); (try clear hi); (try clear ho0)) | ((with_reducible refine gate_callee (f := 27) rfl ?_); refine goesL_ (some 84) rfl rfl Try.func27 (by kernel_rfl) rfl #[.slice A0 l0.length c0, .int .i64 a2] rfl (by (try simp only [List.map_toArray, List.map_cons, List.map_nil]); first | done | rfl | (simp only [List.length_drop, List.length_take]; rfl)) ?_; (with_reducible refine (tallystickref06_Pow.calls kj31 _ _ l0 a2 t558 t559 _ ?side1 ?side2 A40.out).mono ?_); (case side1 => repeat (first | exact (Kd.C_below HR0.out HB.out) | (with_reducible refine Kd.C_alloc ?_ _) | (with_reducible refine Kd.C_drewN ?_ _) | (with_reducible refine Kd.C_drew ?_))); (case side2 => exact HC0.out); rintro e w46 ⟨v560, rfl, ho0, hb⟩; clear A40; refine ⟨_, rfl, ?_⟩; have n0_ := Aside0.mk (Kd.V_elder' (by (with_reducible repeat (first | apply Kd.V_alloc | apply Kd.V_drewN | apply Kd.V_drew)); exact HO556.out) (Kd.R_base ho0) hb); have n1_ := Aside0.mk (Kd.R_lower ho0 (below_size (by repeat (first | (with_reducible first | exact HB.out | apply below_alloc | apply pw_below_drewN | apply below_drew1) | exact HB.out)))); have n2_ := Aside0.mk (below_step (by repeat (first | (with_reducible first | exact HB.out | apply below_alloc | apply pw_below_drewN | apply below_drew1) | exact HB.out)) hb); clear HO556; clear HB; have HO556 := n0_; have HO561 := n1_; have HB := n2_; clear n0_ n1_ n2_; (try clear hb); (try clear hb2); (try clear hk); (try clear hi); (try clear ho0); obtain ⟨Ao47, co47, eo47⟩ := Kd.V_slice HO556.out; subst eo47; obtain ⟨Ao48, co48, eo48⟩ := Kd.R_slice HO561.out; subst eo48) | (go_at_call 17; (with_reducible refine (tallystickref04_Same.calls kj31 _ _ t554 _ _ t558 true _ ?side1 ?side2 ?side3 ?side4 A43.out).mono ?_); (case side1 => repeat (first | exact (Kd.V_reads' HO556.out).2.2 | (with_reducible refine Kd.C_alloc ?_ _) | (with_reducible refine Kd.C_drewN ?_ _) | (with_reducible refine Kd.C_drew ?_))); (case side2 => exact (Kd.V_reads' HO556.out).2.1); (case side3 => repeat (first | exact (Kd.R_reads' HO561.out).2.2 | (with_reducible refine Kd.C_alloc ?_ _) | (with_reducible refine Kd.C_drewN ?_ _) | (with_reducible refine Kd.C_drew ?_))); (case side4 => exact (Kd.R_reads' HO561.out).2.1); rintro e w' ⟨rfl, ⟨nd, rfl⟩⟩))
                                go_ret
                                exact ⟨by first | rfl | (simp [errW_none, errW_some] <;> rfl) | (simp [*, errW_none, errW_some] <;> rfl), by repeat (first | (with_reducible first | exact HB.out | apply below_alloc | apply pw_below_drewN | apply below_drew1) | exact HB.out)⟩
                              · replace c44 := Bool.eq_false_iff.mpr c44
                                subst c44
                                have H1 : (some false) = some r := by rw [if_neg (show ¬ (false = true) by decide)] at H; exact H
                                clear H
                                have H := H1
                                clear H1
                                obtain rfl := Option.some.inj H
                                exact absurd hr_.out (by simp)
                            · replace c42 := Bool.eq_false_iff.mpr c42
                              subst c42
                              have H1 : (some false) = some r := by rw [if_neg (show ¬ (false = true) by decide)] at H; exact H
                              clear H
                              have H := H1
                              clear H1
                              obtain rfl := Option.some.inj H
                              exact absurd hr_.out (by simp)
                          · replace c41 := Bool.eq_false_iff.mpr c41
                            subst c41
                            have H1 : (some false) = some r := by rw [if_neg (show ¬ (false = true) by decide)] at H; exact H
                            clear H
                            have H := H1
                            clear H1
                            obtain rfl := Option.some.inj H
                            exact absurd hr_.out (by simp)

/-- THE ONE PURE STATEMENT of tallysticklaw06_QuotPowers: yours. -/
def tallysticklaw06_QuotPowers.Pure : Prop := ∀ (l0 : List Int) (l1 : List Int) (a2 : Int), l0.length ≤ maxLen → l0.length * 8 ≤ 140737488351232 → (∀ x ∈ l0, (Lit.int .u64 x).wf = true) → l1.length ≤ maxLen → l1.length * 8 ≤ 140737488351232 → (∀ x ∈ l1, (Lit.int .u64 x).wf = true) → (Lit.int .i64 a2).wf = true → ∃ k, tallysticklaw06_QuotPowers.f k l0 l1 a2 = some true
theorem tallysticklaw06_QuotPowers.walk (P : tallysticklaw06_QuotPowers.Pure) (a0 : Option Addr) (len0 cap0 : Nat) (z0 : List Int) (a1 : Option Addr) (len1 cap1 : Nat) (z1 : List Int) (a2 : Int) (w : World) (w0 : (a0 = none ∧ len0 = 0 ∧ cap0 = 0 ∧ z0 = []) ∨ ∃ x, a0 = some x ∧ len0 ≤ cap0 ∧ cap0 ≤ maxLen ∧ z0.length = cap0 ∧ (∀ i, i < z0.length → w.cell? (x.add i) = some (.int .u64 (z0.getD i 0))) ∧ ∀ n ∈ z0, (Lit.int .u64 n).wf = true) (y0 : len0 * 8 ≤ 140737488351232) (w1 : (a1 = none ∧ len1 = 0 ∧ cap1 = 0 ∧ z1 = []) ∨ ∃ x, a1 = some x ∧ len1 ≤ cap1 ∧ cap1 ≤ maxLen ∧ z1.length = cap1 ∧ (∀ i, i < z1.length → w.cell? (x.add i) = some (.int .u64 (z1.getD i 0))) ∧ ∀ n ∈ z1, (Lit.int .u64 n).wf = true) (y1 : len1 * 8 ≤ 140737488351232) (w2 : (Lit.int .i64 a2).wf = true) :
    Calls Try.prog 9 #[.slice a0 len0 cap0, .slice a1 len1 cap1, .int .i64 a2] w fun e w' => e = .returned (.bool true) ∧ Below w.heap.size w w' := by
  obtain ⟨l0, rfl, hr0, hm0, hw0, hc0⟩ := ReadsInt.ofRowC w0
  obtain ⟨l1, rfl, hr1, hm1, hw1, hc1⟩ := ReadsInt.ofRowC w1
  obtain ⟨k, h⟩ := P l0 l1 a2 hm0 y0 hw0 hm1 y1 hw1 w2
  refine (tallysticklaw06_QuotPowers.calls k _ _ l0 _ _ l1 a2 true w (Kd.C_of_reads (d := (0 : Int)) (h1 := fun _ => rfl) hr0) hc0 (Kd.C_of_reads (d := (0 : Int)) (h1 := fun _ => rfl) hr1) hc1 ⟨rfl⟩ h).mono ?_
  rintro e w' ⟨rfl, hd⟩
  exact ⟨rfl, hd⟩

end Go.Proofs.Ytofknlpbnpokeaa.Pa
