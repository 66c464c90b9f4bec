/- A law's contract, written by this session's programs myprint.py and pbify.py by way of the kit's print. -/
import Derived.Test.YtaakniobgljniaaDoorPa0
import Derived.Test.YtaakniobgljniaaDoorPa12
import Derived.Test.YtaakniobgljniaaDoorPb0
namespace Go.Proofs.YtaakniobgljniaaDoor.Pb
open Go.RowKit Go.Proofs.YtaakniobgljniaaDoor.Pa Go.Proofs.YtaakniobgljniaaDoor.Hand Go.Proofs.YtaakniobgljniaaDoorW.PrintWords Go.Proofs.YtaakniobgljniaaDoorW.PrintLast Go.Proofs.YtaakniobgljniaaDoorW.PrintMore
attribute [local go_sem] max2_int min2_int max_two min_two max_three min_three max_four min_four   -- for this text's walks alone
set_option linter.unusedVariables false
set_option linter.unusedSimpArgs false

attribute [local go_sem high] eqA47
/-! ### tallysticklaw09_TrioAgrees: function 9 -/
mutual
def tallysticklaw09_TrioAgrees.j0 : Nat → List Int → List Int → Int → Bool → Bool → Option (Bool)
  | 0, _, _, _, _, _ => none
  | k + 1, x0, x1, x2, x7, x25 => if x25 = true then (some x7) else ((trio_Times.f x0 x1).bind fun bt517 => (if bt517.2 = 0 then ((trio_Mod.f x0 x1 998244353).bind fun bt521 => ((trio_Mod.f x0 x1 167772161).bind fun bt525 => ((trio_Mod.f x0 x1 469762049).bind fun bt529 => (if bt521.2 = 0 then (if bt525.2 = 0 then (if bt529.2 = 0 then (if (bt521.1.length : Int) = (bt517.1.length : Int) then (if (bt525.1.length : Int) = (bt517.1.length : Int) then (tallysticklaw09_TrioAgrees.j1 k x2 x7 bt517.1 bt521.1 bt525.1 bt529.1 ((bt529.1.length : Int) != (bt517.1.length : Int))) else (tallysticklaw09_TrioAgrees.j1 k x2 x7 bt517.1 bt521.1 bt525.1 bt529.1 true)) else (tallysticklaw09_TrioAgrees.j1 k x2 x7 bt517.1 bt521.1 bt525.1 bt529.1 true)) else (tallysticklaw09_TrioAgrees.j1 k x2 x7 bt517.1 bt521.1 bt525.1 bt529.1 true)) else (tallysticklaw09_TrioAgrees.j1 k x2 x7 bt517.1 bt521.1 bt525.1 bt529.1 true)) else (tallysticklaw09_TrioAgrees.j1 k x2 x7 bt517.1 bt521.1 bt525.1 bt529.1 true))))) else (if x7 = true then (some ((bt517.1.length : Int) == 0)) else (some false))))
def tallysticklaw09_TrioAgrees.j1 : Nat → Int → Bool → List (S41) → List Int → List Int → List Int → Bool → Option (Bool)
  | 0, _, _, _, _, _, _, _ => none
  | k + 1, x2, x7, x8, x10, x12, x14, x89 => if x89 = true then (some false) else (if x2 < 0 then (tallysticklaw09_TrioAgrees.j2 k x2 x7 x8 x10 x12 x14 true) else (tallysticklaw09_TrioAgrees.j2 k x2 x7 x8 x10 x12 x14 (decide (x2 ≥ (x8.length : Int)))))
def tallysticklaw09_TrioAgrees.j2 : Nat → Int → Bool → List (S41) → List Int → List Int → List Int → Bool → Option (Bool)
  | 0, _, _, _, _, _, _, _ => none
  | k + 1, x2, x7, x8, x10, x12, x14, x97 => if x97 = true then (some x7) else (if 0 ≤ x2 then (if x2 < (x8.length : Int) then ((trio_Bound.f).bind fun bt534 => ((tallysticklaw09_below.f ((rd_T41 x8 x2).f0) ((rd_T41 x8 x2).f1) bt534.1 bt534.2).bind fun t536 => (if x7 = true then (if t536 = true then ((trio_Split.f ((rd_T41 x8 x2).f0) ((rd_T41 x8 x2).f1)).bind fun bt538 => (if x2 < (x10.length : Int) then (if x2 < (x12.length : Int) then (if x2 < (x14.length : Int) then (some (bt538.1 == (rd x10 x2) && (bt538.2.1 == (rd x12 x2) && (bt538.2.2 == (rd x14 x2))))) else (none)) else (none)) else (none))) else (some false)) else (some false)))) else (none)) else (none))
end
def tallysticklaw09_TrioAgrees.f (k : Nat) (l0 : List Int) (l1 : List Int) (a2 : Int) : Option (Bool) := (tallysticklaw09_shown.f).bind fun t516 => (if (l0.length : Int) > 600 then (tallysticklaw09_TrioAgrees.j0 k l0 l1 a2 t516 true) else (tallysticklaw09_TrioAgrees.j0 k l0 l1 a2 t516 (decide ((l1.length : Int) > 600))))
theorem tallysticklaw09_TrioAgrees.mono_l : ∀ k, (∀ y0 y1 y2 y3 y4, LeO (tallysticklaw09_TrioAgrees.j0 k y0 y1 y2 y3 y4) (tallysticklaw09_TrioAgrees.j0 (k + 1) y0 y1 y2 y3 y4)) ∧ (∀ y0 y1 y2 y3 y4 y5 y6, LeO (tallysticklaw09_TrioAgrees.j1 k y0 y1 y2 y3 y4 y5 y6) (tallysticklaw09_TrioAgrees.j1 (k + 1) y0 y1 y2 y3 y4 y5 y6)) ∧ (∀ y0 y1 y2 y3 y4 y5 y6, LeO (tallysticklaw09_TrioAgrees.j2 k y0 y1 y2 y3 y4 y5 y6) (tallysticklaw09_TrioAgrees.j2 (k + 1) y0 y1 y2 y3 y4 y5 y6))
  | 0 => ⟨fun _ _ _ _ _ r h => by simp [tallysticklaw09_TrioAgrees.j0] at h, fun _ _ _ _ _ _ _ r h => by simp [tallysticklaw09_TrioAgrees.j1] at h, fun _ _ _ _ _ _ _ r h => by simp [tallysticklaw09_TrioAgrees.j2] at h⟩
  | k + 1 => by
    obtain ⟨ih0, ih1, ih2⟩ := tallysticklaw09_TrioAgrees.mono_l k
    refine ⟨?_, ?_, ?_⟩
    · intro y0 y1 y2 y3 y4
      unfold tallysticklaw09_TrioAgrees.j0
      repeat' first
      | (with_reducible exact ih0 _ _ _ _ _)
      | (with_reducible exact ih1 _ _ _ _ _ _ _)
      | (with_reducible exact ih2 _ _ _ _ _ _ _)
      | (with_reducible exact LeO.refl _)
      | (with_reducible exact LeO.none _)
      | (with_reducible refine LeO.ite ?_ ?_)
      | (with_reducible refine LeO.bind ?_ (fun _ => ?_))
      | exact ih0 _ _ _ _ _
      | exact ih1 _ _ _ _ _ _ _
      | exact ih2 _ _ _ _ _ _ _
      | exact LeO.none _
      | refine LeO.ite ?_ ?_
      | refine LeO.bind ?_ (fun _ => ?_)
    · intro y0 y1 y2 y3 y4 y5 y6
      unfold tallysticklaw09_TrioAgrees.j1
      repeat' first
      | (with_reducible exact ih0 _ _ _ _ _)
      | (with_reducible exact ih1 _ _ _ _ _ _ _)
      | (with_reducible exact ih2 _ _ _ _ _ _ _)
      | (with_reducible exact LeO.refl _)
      | (with_reducible exact LeO.none _)
      | (with_reducible refine LeO.ite ?_ ?_)
      | (with_reducible refine LeO.bind ?_ (fun _ => ?_))
      | exact ih0 _ _ _ _ _
      | exact ih1 _ _ _ _ _ _ _
      | exact ih2 _ _ _ _ _ _ _
      | exact LeO.none _
      | refine LeO.ite ?_ ?_
      | refine LeO.bind ?_ (fun _ => ?_)
    · intro y0 y1 y2 y3 y4 y5 y6
      unfold tallysticklaw09_TrioAgrees.j2
      repeat' first
      | (with_reducible exact ih0 _ _ _ _ _)
      | (with_reducible exact ih1 _ _ _ _ _ _ _)
      | (with_reducible exact ih2 _ _ _ _ _ _ _)
      | (with_reducible exact LeO.refl _)
      | (with_reducible exact LeO.none _)
      | (with_reducible refine LeO.ite ?_ ?_)
      | (with_reducible refine LeO.bind ?_ (fun _ => ?_))
      | exact ih0 _ _ _ _ _
      | exact ih1 _ _ _ _ _ _ _
      | exact ih2 _ _ _ _ _ _ _
      | exact LeO.none _
      | refine LeO.ite ?_ ?_
      | refine LeO.bind ?_ (fun _ => ?_)
theorem tallysticklaw09_TrioAgrees.mono : ∀ a0 a1 a2 k, LeO (tallysticklaw09_TrioAgrees.f k a0 a1 a2) (tallysticklaw09_TrioAgrees.f (k + 1) a0 a1 a2) := by
  intro a0 a1 a2 k
  obtain ⟨ih0, ih1, ih2⟩ := tallysticklaw09_TrioAgrees.mono_l k
  unfold tallysticklaw09_TrioAgrees.f
  repeat' first
      | (with_reducible exact ih0 _ _ _ _ _)
      | (with_reducible exact ih1 _ _ _ _ _ _ _)
      | (with_reducible exact ih2 _ _ _ _ _ _ _)
      | (with_reducible exact LeO.refl _)
      | (with_reducible exact LeO.none _)
      | (with_reducible refine LeO.ite ?_ ?_)
      | (with_reducible refine LeO.bind ?_ (fun _ => ?_))
      | exact ih0 _ _ _ _ _
      | exact ih1 _ _ _ _ _ _ _
      | exact ih2 _ _ _ _ _ _ _
      | exact LeO.none _
      | refine LeO.ite ?_ ?_
      | refine LeO.bind ?_ (fun _ => ?_)
def tallysticklaw09_TrioAgrees.T15 : Bool × List (List Nat × List Nat) := (true, [([], []), ([0], [0]), ([1], [1]), ([1, 2], [1, 2]), ([3, 1], [3]), ([4], [4]), ([4], [4]), ([5, 6, 4], [4, 5, 6]), ([7, 4], [4, 7]), ([8, 4, 4], [4, 8]), ([4], [4]), ([4], [4]), ([10, 11, 4], [4, 10, 11]), ([12, 4], [4, 12]), ([4], [4]), ([4], [4]), ([14, 15, 4], [4, 14, 15]), ([16, 4], [4, 16]), ([4], [4]), ([4], [4]), ([18, 19, 4], [4, 18, 19]), ([20, 4], [4, 20]), ([13, 17, 21, 4], [4, 13, 17, 21]), ([9, 22, 4], [4, 9, 22]), ([4, 23], [4, 23]), ([24, 9, 0, 1, 2, 3, 4, 5, 6, 7, 8, 9, 10, 11, 12, 13, 14, 15, 16, 17, 18, 19, 20, 21, 22, 23, 24], [24])])
def tallysticklaw09_TrioAgrees.B15 : List Nat := [0, 1, 3, 7, 15, 31, 31, 127, 255, 511, 31, 31, 3103, 7199, 31, 31, 49183, 114719, 31, 31, 786463, 1835039, 4193311, 8388607, 16777215, 33554431]
theorem tallysticklaw09_TrioAgrees.tab15 : rtab .any (opsOf Tryd.f9 15) = tallysticklaw09_TrioAgrees.T15 := by kernel_rfl
theorem tallysticklaw09_TrioAgrees.bits15 : waitsOk tallysticklaw09_TrioAgrees.T15.2 tallysticklaw09_TrioAgrees.B15 = true := by kernel_rfl
set_option maxHeartbeats 8000000 in
set_option maxRecDepth 100000 in
theorem tallysticklaw09_TrioAgrees.calls (k : Nat) (A0 : Option Addr) (c0 : Nat) (l0 : List Int) (A1 : Option Addr) (c1 : Nat) (l1 : List Int) (a2 : Int) (r : Bool) (w : World) (HPR : Aside0 (PrimesAt w)) (hr0 : Kd.C (Kd.int .u64) w A0 l0.length l0) (hc0 : l0.length ≤ c0) (hr1 : Kd.C (Kd.int .u64) w A1 l1.length l1) (hc1 : l1.length ≤ c1) (hr_ : Aside0 (r = true)) (h : tallysticklaw09_TrioAgrees.f k l0 l1 a2 = some r) :
    Calls Tryd.prog 9 #[.slice A0 l0.length c0, .slice A1 l1.length c1, .int .i64 a2] w fun e w' => e = .returned (.bool r) ∧ Below w.heap.size w w' := by
  have hu41 := Tryd.underlying41
  have hu47 := Tryd.underlying47
  have HR0 := Aside0.mk hr0
  have HC0 := Aside0.mk hc0
  clear hr0 hc0
  have HR1 := Aside0.mk hr1
  have HC1 := Aside0.mk hc1
  clear hr1 hc1
  have HB := Aside0.mk (Below.refl w.heap.size w)
  have H : ((tallysticklaw09_shown.f).bind fun t516 => (if (l0.length : Int) > 600 then (tallysticklaw09_TrioAgrees.j0 k l0 l1 a2 t516 true) else (tallysticklaw09_TrioAgrees.j0 k l0 l1 a2 t516 (decide ((l1.length : Int) > 600))))) = some r := h
  clear h
  replace H := Option.bind_eq_some_iff.mp H
  obtain ⟨t516, A40, H⟩ := H
  replace H : (if (l0.length : Int) > 600 then (tallysticklaw09_TrioAgrees.j0 k l0 l1 a2 t516 true) else (tallysticklaw09_TrioAgrees.j0 k l0 l1 a2 t516 (decide ((l1.length : Int) > 600)))) = some r := H
  have A4 := Aside0.mk A40
  clear A40
  have HC5 := Aside0.mk H
  clear H
  go_enter Tryd.func9, Tryd.ntmps9
  go_upto_region 2 with (first | ((with_reducible refine gate_callee (f := 10) rfl ?_); refine goesL_ (some 17) rfl rfl Tryd.func10 (by kernel_rfl) rfl #[] rfl (by (try simp only [List.map_toArray, List.map_cons, List.map_nil]); first | done | rfl | (simp only [List.length_drop, List.length_take]; rfl)) ?_; (with_reducible refine (tallysticklaw09_shown.calls  t516 _ A4.out (HPR.out.later (by repeat (first | (with_reducible first | exact HB.out | apply below_alloc | apply pw_below_drewN | apply below_drew1 | refine set_below ?_ (Aside0.out (by assumption))) | exact HB.out)))).mono ?_); rintro e w6 ⟨rfl, hb⟩; refine ⟨_, rfl, ?_⟩; have n0_ := Aside0.mk (below_step (by repeat (first | (with_reducible first | exact HB.out | apply below_alloc | apply pw_below_drewN | apply below_drew1) | exact HB.out)) hb); clear HB; have HB := n0_; clear n0_; (try clear hb); (try clear hb2); (try clear hk); (try clear hi)))
  (try simp only [Act.put, List.setIfInBounds_toArray, List.set_cons_zero, List.set_cons_succ])
  go_cut [25] (fun v25 wc => ∃ (kq : Nat) (x25_4 : Bool), v25 = .bool x25_4 ∧ Aside0 (tallysticklaw09_TrioAgrees.j0 kq l0 l1 a2 t516 x25_4 = some r) ∧ Aside0 (kq ≤ k) ∧ Aside0 (Below w.heap.size w wc))
  case first =>
    have H := HC5.out
    clear HC5
    by_cases c7 : (l0.length : Int) > 600
    · rw [if_pos c7] at H
      have c7b0 : decide (600 < (l0.length : Int)) = true := decide_eq_true c7
      have c7b1 : decide (600 < l0.length) = true := decide_eq_true (by omega)
      clear c7
      (first | rw [c7b0] | (simp only [i64_w, i32_w]; rw [c7b0]) | skip)
      have H' := Aside0.mk H
      clear H
      go_wp2
      go_meet
      case rel => exact ⟨_, (true), (by first | rfl | (simp; done) | (simp [*]; done)), H', ⟨by first | omega | exact Nat.le_refl _⟩, ⟨by repeat (first | (with_reducible first | exact HB.out | apply below_alloc | apply pw_below_drewN | apply below_drew1) | exact HB.out)⟩⟩
    · rw [if_neg c7] at H
      have c7b0 : decide (600 < (l0.length : Int)) = false := decide_eq_false c7
      have c7b1 : decide (600 < l0.length) = false := decide_eq_false (by omega)
      clear c7
      (first | rw [c7b0] | (simp only [i64_w, i32_w]; rw [c7b0]) | skip)
      have H' := Aside0.mk H
      clear H
      go_wp2
      go_meet
      case rel => exact ⟨_, (decide ((l1.length : Int) > 600)), (by first | rfl | (simp; done) | (simp [*]; done)), H', ⟨by first | omega | exact Nat.le_refl _⟩, ⟨by repeat (first | (with_reducible first | exact HB.out | apply below_alloc | apply pw_below_drewN | apply below_drew1) | exact HB.out)⟩⟩
  case rest =>
    clear HC5
    try clear c1
    try clear p2
    try clear c7
    try clear c7b0
    try clear c7b1
    obtain ⟨kq, x25_4, rfl, HA, HJ4, HB⟩ := hcut
    cases kq with
    | zero => exact absurd HA.out (by simp [tallysticklaw09_TrioAgrees.j0])
    | succ kj4 =>
      have H := HA.out
      clear HA
      simp only [tallysticklaw09_TrioAgrees.j0] at H
      by_cases c8 : x25_4 = true
      · subst c8
        have H1 : (some t516) = some r := by rw [if_pos rfl] at H; exact H
        clear H
        have H := H1
        clear H1
        obtain rfl := Option.some.inj H
        go_wp2
        go_ret
        exact ⟨by first | rfl | (simp [errW_none, errW_some] <;> rfl) | (simp [*, errW_none, errW_some] <;> rfl), by repeat (first | (with_reducible first | exact HB.out | apply below_alloc | apply pw_below_drewN | apply below_drew1) | exact HB.out)⟩
      · replace c8 := Bool.eq_false_iff.mpr c8
        subst c8
        have H1 : ((trio_Times.f l0 l1).bind fun bt517 => (if bt517.2 = 0 then ((trio_Mod.f l0 l1 998244353).bind fun bt521 => ((trio_Mod.f l0 l1 167772161).bind fun bt525 => ((trio_Mod.f l0 l1 469762049).bind fun bt529 => (if bt521.2 = 0 then (if bt525.2 = 0 then (if bt529.2 = 0 then (if (bt521.1.length : Int) = (bt517.1.length : Int) then (if (bt525.1.length : Int) = (bt517.1.length : Int) then (tallysticklaw09_TrioAgrees.j1 kj4 a2 t516 bt517.1 bt521.1 bt525.1 bt529.1 ((bt529.1.length : Int) != (bt517.1.length : Int))) else (tallysticklaw09_TrioAgrees.j1 kj4 a2 t516 bt517.1 bt521.1 bt525.1 bt529.1 true)) else (tallysticklaw09_TrioAgrees.j1 kj4 a2 t516 bt517.1 bt521.1 bt525.1 bt529.1 true)) else (tallysticklaw09_TrioAgrees.j1 kj4 a2 t516 bt517.1 bt521.1 bt525.1 bt529.1 true)) else (tallysticklaw09_TrioAgrees.j1 kj4 a2 t516 bt517.1 bt521.1 bt525.1 bt529.1 true)) else (tallysticklaw09_TrioAgrees.j1 kj4 a2 t516 bt517.1 bt521.1 bt525.1 bt529.1 true))))) else (if t516 = true then (some ((bt517.1.length : Int) == 0)) else (some false)))) = some r := by rw [if_neg (show ¬ (false = true) by decide)] at H; exact H
        clear H
        have H := H1
        clear H1
        replace H := Option.bind_eq_some_iff.mp H
        obtain ⟨⟨t517, t518⟩, A90, H⟩ := H
        replace H : (if t518 = 0 then ((trio_Mod.f l0 l1 998244353).bind fun bt521 => ((trio_Mod.f l0 l1 167772161).bind fun bt525 => ((trio_Mod.f l0 l1 469762049).bind fun bt529 => (if bt521.2 = 0 then (if bt525.2 = 0 then (if bt529.2 = 0 then (if (bt521.1.length : Int) = (t517.length : Int) then (if (bt525.1.length : Int) = (t517.length : Int) then (tallysticklaw09_TrioAgrees.j1 kj4 a2 t516 t517 bt521.1 bt525.1 bt529.1 ((bt529.1.length : Int) != (t517.length : Int))) else (tallysticklaw09_TrioAgrees.j1 kj4 a2 t516 t517 bt521.1 bt525.1 bt529.1 true)) else (tallysticklaw09_TrioAgrees.j1 kj4 a2 t516 t517 bt521.1 bt525.1 bt529.1 true)) else (tallysticklaw09_TrioAgrees.j1 kj4 a2 t516 t517 bt521.1 bt525.1 bt529.1 true)) else (tallysticklaw09_TrioAgrees.j1 kj4 a2 t516 t517 bt521.1 bt525.1 bt529.1 true)) else (tallysticklaw09_TrioAgrees.j1 kj4 a2 t516 t517 bt521.1 bt525.1 bt529.1 true))))) else (if t516 = true then (some ((t517.length : Int) == 0)) else (some false))) = some r := H
        have A9 := Aside0.mk A90
        clear A90
        by_cases c10 : t518 = 0
        · rw [if_pos c10] at H
          have c10b0 : (t518 == 0) = true := beq_iff_eq.mpr c10
          have c10b1 : (t518 != 0) = false := bne_eq_false_iff_eq.mpr c10
          clear c10
          replace H := Option.bind_eq_some_iff.mp H
          obtain ⟨⟨t521, t524⟩, A110, H⟩ := H
          replace H : ((trio_Mod.f l0 l1 167772161).bind fun bt525 => ((trio_Mod.f l0 l1 469762049).bind fun bt529 => (if t524 = 0 then (if bt525.2 = 0 then (if bt529.2 = 0 then (if (t521.length : Int) = (t517.length : Int) then (if (bt525.1.length : Int) = (t517.length : Int) then (tallysticklaw09_TrioAgrees.j1 kj4 a2 t516 t517 t521 bt525.1 bt529.1 ((bt529.1.length : Int) != (t517.length : Int))) else (tallysticklaw09_TrioAgrees.j1 kj4 a2 t516 t517 t521 bt525.1 bt529.1 true)) else (tallysticklaw09_TrioAgrees.j1 kj4 a2 t516 t517 t521 bt525.1 bt529.1 true)) else (tallysticklaw09_TrioAgrees.j1 kj4 a2 t516 t517 t521 bt525.1 bt529.1 true)) else (tallysticklaw09_TrioAgrees.j1 kj4 a2 t516 t517 t521 bt525.1 bt529.1 true)) else (tallysticklaw09_TrioAgrees.j1 kj4 a2 t516 t517 t521 bt525.1 bt529.1 true)))) = some r := H
          have A11 := Aside0.mk A110
          clear A110
          replace H := Option.bind_eq_some_iff.mp H
          obtain ⟨⟨t525, t528⟩, A120, H⟩ := H
          replace H : ((trio_Mod.f l0 l1 469762049).bind fun bt529 => (if t524 = 0 then (if t528 = 0 then (if bt529.2 = 0 then (if (t521.length : Int) = (t517.length : Int) then (if (t525.length : Int) = (t517.length : Int) then (tallysticklaw09_TrioAgrees.j1 kj4 a2 t516 t517 t521 t525 bt529.1 ((bt529.1.length : Int) != (t517.length : Int))) else (tallysticklaw09_TrioAgrees.j1 kj4 a2 t516 t517 t521 t525 bt529.1 true)) else (tallysticklaw09_TrioAgrees.j1 kj4 a2 t516 t517 t521 t525 bt529.1 true)) else (tallysticklaw09_TrioAgrees.j1 kj4 a2 t516 t517 t521 t525 bt529.1 true)) else (tallysticklaw09_TrioAgrees.j1 kj4 a2 t516 t517 t521 t525 bt529.1 true)) else (tallysticklaw09_TrioAgrees.j1 kj4 a2 t516 t517 t521 t525 bt529.1 true))) = some r := H
          have A12 := Aside0.mk A120
          clear A120
          replace H := Option.bind_eq_some_iff.mp H
          obtain ⟨⟨t529, t532⟩, A130, H⟩ := H
          replace H : (if t524 = 0 then (if t528 = 0 then (if t532 = 0 then (if (t521.length : Int) = (t517.length : Int) then (if (t525.length : Int) = (t517.length : Int) then (tallysticklaw09_TrioAgrees.j1 kj4 a2 t516 t517 t521 t525 t529 ((t529.length : Int) != (t517.length : Int))) else (tallysticklaw09_TrioAgrees.j1 kj4 a2 t516 t517 t521 t525 t529 true)) else (tallysticklaw09_TrioAgrees.j1 kj4 a2 t516 t517 t521 t525 t529 true)) else (tallysticklaw09_TrioAgrees.j1 kj4 a2 t516 t517 t521 t525 t529 true)) else (tallysticklaw09_TrioAgrees.j1 kj4 a2 t516 t517 t521 t525 t529 true)) else (tallysticklaw09_TrioAgrees.j1 kj4 a2 t516 t517 t521 t525 t529 true)) = some r := H
          have A13 := Aside0.mk A130
          clear A130
          have HC14 := Aside0.mk H
          clear H
          go_upto_region 10 with (first | ((with_reducible refine gate_callee (f := 13) rfl ?_); refine goesL_ (some 30) rfl rfl Tryd.func13 (by kernel_rfl) rfl #[.slice A0 l0.length c0, .slice A1 l1.length c1] rfl (by (try simp only [List.map_toArray, List.map_cons, List.map_nil]); first | done | rfl | (simp only [List.length_drop, List.length_take]; rfl)) ?_; (with_reducible refine (trio_Times.calls _ _ l0 _ _ l1 t517 t518 _ ?side1 ?side2 ?side3 ?side4 A9.out (HPR.out.later (by repeat (first | (with_reducible first | exact HB.out | apply below_alloc | apply pw_below_drewN | apply below_drew1 | refine set_below ?_ (Aside0.out (by assumption))) | exact HB.out)))).mono ?_); (case side1 => repeat (first | exact (Kd.C_below HR0.out HB.out) | (with_reducible refine Kd.C_alloc ?_ _) | (with_reducible refine Kd.C_drewN ?_ _) | (with_reducible refine Kd.C_drew ?_))); (case side2 => exact HC0.out); (case side3 => repeat (first | exact (Kd.C_below HR1.out HB.out) | (with_reducible refine Kd.C_alloc ?_ _) | (with_reducible refine Kd.C_drewN ?_ _) | (with_reducible refine Kd.C_drew ?_))); (case side4 => exact HC1.out); rintro e w15 ⟨v519, rfl, ho0, hb⟩; refine ⟨_, rfl, ?_⟩; have n0_ := Aside0.mk (Kd.R_lower ho0 (below_size (by repeat (first | (with_reducible first | exact HB.out | apply below_alloc | apply pw_below_drewN | apply below_drew1) | exact HB.out)))); have n1_ := Aside0.mk (below_step (by repeat (first | (with_reducible first | exact HB.out | apply below_alloc | apply pw_below_drewN | apply below_drew1) | exact HB.out)) hb); clear HB; have HO520 := n0_; have HB := n1_; clear n0_ n1_; (try clear hb); (try clear hb2); (try clear hk); (try clear hi); (try clear ho0)) | ((with_reducible refine gate_callee (f := 11) rfl ?_); refine goesL_ (some 44) rfl rfl Tryd.func11 (by kernel_rfl) rfl #[.slice A0 l0.length c0, .slice A1 l1.length c1, .int .u32 998244353] rfl (by (try simp only [List.map_toArray, List.map_cons, List.map_nil]); first | done | rfl | (simp only [List.length_drop, List.length_take]; rfl)) ?_; (with_reducible refine (trio_Mod.calls _ _ l0 _ _ l1 998244353 t521 t524 _ ?side1 ?side2 ?side3 ?side4 A11.out (HPR.out.later (by repeat (first | (with_reducible first | exact HB.out | apply below_alloc | apply pw_below_drewN | apply below_drew1 | refine set_below ?_ (Aside0.out (by assumption))) | exact HB.out)))).mono ?_); (case side1 => repeat (first | exact (Kd.C_below HR0.out HB.out) | (with_reducible refine Kd.C_alloc ?_ _) | (with_reducible refine Kd.C_drewN ?_ _) | (with_reducible refine Kd.C_drew ?_))); (case side2 => exact HC0.out); (case side3 => repeat (first | exact (Kd.C_below HR1.out HB.out) | (with_reducible refine Kd.C_alloc ?_ _) | (with_reducible refine Kd.C_drewN ?_ _) | (with_reducible refine Kd.C_drew ?_))); (case side4 => exact HC1.out); rintro e w16 ⟨v522, rfl, ho0, hb⟩; refine ⟨_, rfl, ?_⟩; have n0_ := Aside0.mk (Kd.R_below (by (with_reducible repeat (first | apply Kd.R_alloc | apply Kd.R_drewN | apply Kd.R_drew)); exact HO520.out) hb); have n1_ := Aside0.mk (Kd.V_lower (Kd.V_mono (ok' := fun k_ => some k_ ≠ (v519 : Value).ownBlock) ho0 (fun k_ hk_ => (Kd.fresh' (Kd.R_lt (by (with_reducible repeat (first | apply Kd.R_alloc | apply Kd.R_drewN | apply Kd.R_drew)); exact HO520.out)) k_ hk_))) (below_size (by repeat (first | (with_reducible first | exact HB.out | apply below_alloc | apply pw_below_drewN | apply below_drew1) | exact HB.out)))); have n2_ := Aside0.mk (below_step (by repeat (first | (with_reducible first | exact HB.out | apply below_alloc | apply pw_below_drewN | apply below_drew1) | exact HB.out)) hb); clear HO520; clear HB; have HO520 := n0_; have HO523 := n1_; have HB := n2_; clear n0_ n1_ n2_; (try clear hb); (try clear hb2); (try clear hk); (try clear hi); (try clear ho0)) | ((with_reducible refine gate_callee (f := 11) rfl ?_); refine goesL_ (some 50) rfl rfl Tryd.func11 (by kernel_rfl) rfl #[.slice A0 l0.length c0, .slice A1 l1.length c1, .int .u32 167772161] rfl (by (try simp only [List.map_toArray, List.map_cons, List.map_nil]); first | done | rfl | (simp only [List.length_drop, List.length_take]; rfl)) ?_; (with_reducible refine (trio_Mod.calls _ _ l0 _ _ l1 167772161 t525 t528 _ ?side1 ?side2 ?side3 ?side4 A12.out (HPR.out.later (by repeat (first | (with_reducible first | exact HB.out | apply below_alloc | apply pw_below_drewN | apply below_drew1 | refine set_below ?_ (Aside0.out (by assumption))) | exact HB.out)))).mono ?_); (case side1 => repeat (first | exact (Kd.C_below HR0.out HB.out) | (with_reducible refine Kd.C_alloc ?_ _) | (with_reducible refine Kd.C_drewN ?_ _) | (with_reducible refine Kd.C_drew ?_))); (case side2 => exact HC0.out); (case side3 => repeat (first | exact (Kd.C_below HR1.out HB.out) | (with_reducible refine Kd.C_alloc ?_ _) | (with_reducible refine Kd.C_drewN ?_ _) | (with_reducible refine Kd.C_drew ?_))); (case side4 => exact HC1.out); rintro e w17 ⟨v526, rfl, ho0, hb⟩; refine ⟨_, rfl, ?_⟩; have n0_ := Aside0.mk (Kd.R_below (by (with_reducible repeat (first | apply Kd.R_alloc | apply Kd.R_drewN | apply Kd.R_drew)); exact HO520.out) hb); have n1_ := Aside0.mk (Kd.V_below (by (with_reducible repeat (first | apply Kd.V_alloc | apply Kd.V_drewN | apply Kd.V_drew)); exact HO523.out) hb); have n2_ := Aside0.mk (Kd.V_lower (Kd.V_mono (ok' := fun k_ => some k_ ≠ (v519 : Value).ownBlock) ho0 (fun k_ hk_ => (Kd.fresh' (Kd.R_lt (by (with_reducible repeat (first | apply Kd.R_alloc | apply Kd.R_drewN | apply Kd.R_drew)); exact HO520.out)) k_ hk_))) (below_size (by repeat (first | (with_reducible first | exact HB.out | apply below_alloc | apply pw_below_drewN | apply below_drew1) | exact HB.out)))); have n3_ := Aside0.mk (below_step (by repeat (first | (with_reducible first | exact HB.out | apply below_alloc | apply pw_below_drewN | apply below_drew1) | exact HB.out)) hb); clear HO520; clear HO523; clear HB; have HO520 := n0_; have HO523 := n1_; have HO527 := n2_; have HB := n3_; clear n0_ n1_ n2_ n3_; (try clear hb); (try clear hb2); (try clear hk); (try clear hi); (try clear ho0)) | ((with_reducible refine gate_callee (f := 11) rfl ?_); refine goesL_ (some 56) rfl rfl Tryd.func11 (by kernel_rfl) rfl #[.slice A0 l0.length c0, .slice A1 l1.length c1, .int .u32 469762049] rfl (by (try simp only [List.map_toArray, List.map_cons, List.map_nil]); first | done | rfl | (simp only [List.length_drop, List.length_take]; rfl)) ?_; (with_reducible refine (trio_Mod.calls _ _ l0 _ _ l1 469762049 t529 t532 _ ?side1 ?side2 ?side3 ?side4 A13.out (HPR.out.later (by repeat (first | (with_reducible first | exact HB.out | apply below_alloc | apply pw_below_drewN | apply below_drew1 | refine set_below ?_ (Aside0.out (by assumption))) | exact HB.out)))).mono ?_); (case side1 => repeat (first | exact (Kd.C_below HR0.out HB.out) | (with_reducible refine Kd.C_alloc ?_ _) | (with_reducible refine Kd.C_drewN ?_ _) | (with_reducible refine Kd.C_drew ?_))); (case side2 => exact HC0.out); (case side3 => repeat (first | exact (Kd.C_below HR1.out HB.out) | (with_reducible refine Kd.C_alloc ?_ _) | (with_reducible refine Kd.C_drewN ?_ _) | (with_reducible refine Kd.C_drew ?_))); (case side4 => exact HC1.out); rintro e w18 ⟨v530, rfl, ho0, hb⟩; refine ⟨_, rfl, ?_⟩; have n0_ := Aside0.mk (Kd.R_below (by (with_reducible repeat (first | apply Kd.R_alloc | apply Kd.R_drewN | apply Kd.R_drew)); exact HO520.out) hb); have n1_ := Aside0.mk (Kd.V_below (by (with_reducible repeat (first | apply Kd.V_alloc | apply Kd.V_drewN | apply Kd.V_drew)); exact HO523.out) hb); have n2_ := Aside0.mk (Kd.V_below (by (with_reducible repeat (first | apply Kd.V_alloc | apply Kd.V_drewN | apply Kd.V_drew)); exact HO527.out) hb); have n3_ := Aside0.mk (Kd.V_lower (Kd.V_mono (ok' := fun k_ => some k_ ≠ (v519 : Value).ownBlock) ho0 (fun k_ hk_ => (Kd.fresh' (Kd.R_lt (by (with_reducible repeat (first | apply Kd.R_alloc | apply Kd.R_drewN | apply Kd.R_drew)); exact HO520.out)) k_ hk_))) (below_size (by repeat (first | (with_reducible first | exact HB.out | apply below_alloc | apply pw_below_drewN | apply below_drew1) | exact HB.out)))); have n4_ := Aside0.mk (below_step (by repeat (first | (with_reducible first | exact HB.out | apply below_alloc | apply pw_below_drewN | apply below_drew1) | exact HB.out)) hb); clear HO520; clear HO523; clear HO527; clear HB; have HO520 := n0_; have HO523 := n1_; have HO527 := n2_; have HO531 := n3_; have HB := n4_; clear n0_ n1_ n2_ n3_ n4_; (try clear hb); (try clear hb2); (try clear hk); (try clear hi); (try clear ho0)))
          (try simp only [Act.put, List.setIfInBounds_toArray, List.set_cons_zero, List.set_cons_succ])
          go_cut [89] (fun v89 wc => ∃ (kq : Nat) (x89_13 : Bool), v89 = .bool x89_13 ∧ Aside0 (tallysticklaw09_TrioAgrees.j1 kq a2 t516 t517 t521 t525 t529 x89_13 = some r) ∧ Aside0 (kq ≤ kj4) ∧ Aside0 (Kd.R k41 41 wc w.heap.size (fun _ => True) v519 t517) ∧ Aside0 (Kd.V (Kd.int .u32) 23 wc w.heap.size (fun k_ => some k_ ≠ (v519 : Value).ownBlock) v522 t521) ∧ Aside0 (Kd.V (Kd.int .u32) 23 wc w.heap.size (fun k_ => some k_ ≠ (v519 : Value).ownBlock) v526 t525) ∧ Aside0 (Kd.V (Kd.int .u32) 23 wc w.heap.size (fun k_ => some k_ ≠ (v519 : Value).ownBlock) v530 t529) ∧ Aside0 (Below w.heap.size w wc))
          case first =>
            have H := HC14.out
            clear HC14
            by_cases c19 : t524 = 0
            · rw [if_pos c19] at H
              have c19b0 : (t524 == 0) = true := beq_iff_eq.mpr c19
              have c19b1 : (t524 != 0) = false := bne_eq_false_iff_eq.mpr c19
              clear c19
              (first | rw [c19b0] | (simp only [i64_w, i32_w]; rw [c19b0]) | skip)
              by_cases c20 : t528 = 0
              · rw [if_pos c20] at H
                have c20b0 : (t528 == 0) = true := beq_iff_eq.mpr c20
                have c20b1 : (t528 != 0) = false := bne_eq_false_iff_eq.mpr c20
                clear c20
                by_cases c21 : t532 = 0
                · rw [if_pos c21] at H
                  have c21b0 : (t532 == 0) = true := beq_iff_eq.mpr c21
                  have c21b1 : (t532 != 0) = false := bne_eq_false_iff_eq.mpr c21
                  clear c21
                  by_cases c22 : (t521.length : Int) = (t517.length : Int)
                  · rw [if_pos c22] at H
                    have c22b0 : ((t521.length : Int) == (t517.length : Int)) = true := beq_iff_eq.mpr c22
                    have c22b1 : ((t521.length : Int) != (t517.length : Int)) = false := bne_eq_false_iff_eq.mpr c22
                    have c22b2 : (t521.length == t517.length) = true := by first | simpa using c22 | (simp at c22 ⊢; omega)
                    clear c22
                    by_cases c23 : (t525.length : Int) = (t517.length : Int)
                    · rw [if_pos c23] at H
                      have c23b0 : ((t525.length : Int) == (t517.length : Int)) = true := beq_iff_eq.mpr c23
                      have c23b1 : ((t525.length : Int) != (t517.length : Int)) = false := bne_eq_false_iff_eq.mpr c23
                      have c23b2 : (t525.length == t517.length) = true := by first | simpa using c23 | (simp at c23 ⊢; omega)
                      clear c23
                      have H' := Aside0.mk H
                      clear H
                      obtain ⟨Ao24, co24, eo24⟩ := Kd.V_slice HO523.out
                      subst eo24
                      obtain ⟨Ao25, co25, eo25⟩ := Kd.R_slice HO520.out
                      subst eo25
                      obtain ⟨Ao26, co26, eo26⟩ := Kd.V_slice HO527.out
                      subst eo26
                      obtain ⟨Ao27, co27, eo27⟩ := Kd.V_slice HO531.out
                      subst eo27
                      go_wp2
                      go_meet
                      case rel => exact ⟨_, (((t529.length : Int) != (t517.length : Int))), (by first | rfl | (simp; done) | (simp [*]; done)), H', ⟨by have := HJ4.out; first | omega | exact Nat.le_refl _⟩, ⟨by (with_reducible repeat (first | apply Kd.R_alloc | apply Kd.R_drewN | apply Kd.R_drew)); exact HO520.out⟩, ⟨by (with_reducible repeat (first | apply Kd.V_alloc | apply Kd.V_drewN | apply Kd.V_drew)); exact HO523.out⟩, ⟨by (with_reducible repeat (first | apply Kd.V_alloc | apply Kd.V_drewN | apply Kd.V_drew)); exact HO527.out⟩, ⟨by (with_reducible repeat (first | apply Kd.V_alloc | apply Kd.V_drewN | apply Kd.V_drew)); exact HO531.out⟩, ⟨by repeat (first | (with_reducible first | exact HB.out | apply below_alloc | apply pw_below_drewN | apply below_drew1) | exact HB.out)⟩⟩
                    · rw [if_neg c23] at H
                      have c23b0 : ((t525.length : Int) == (t517.length : Int)) = false := beq_eq_false_iff_ne.mpr c23
                      have c23b1 : ((t525.length : Int) != (t517.length : Int)) = true := bne_iff_ne.mpr c23
                      have c23b2 : (t525.length == t517.length) = false := by first | simpa using c23 | (simp at c23 ⊢; omega)
                      have H' := Aside0.mk H
                      clear H
                      obtain ⟨Ao28, co28, eo28⟩ := Kd.V_slice HO523.out
                      subst eo28
                      obtain ⟨Ao29, co29, eo29⟩ := Kd.R_slice HO520.out
                      subst eo29
                      obtain ⟨Ao30, co30, eo30⟩ := Kd.V_slice HO527.out
                      subst eo30
                      go_wp2
                      go_meet
                      case rel => exact ⟨_, (true), (by first | rfl | (simp; done) | (simp [*]; done)), H', ⟨by have := HJ4.out; first | omega | exact Nat.le_refl _⟩, ⟨by (with_reducible repeat (first | apply Kd.R_alloc | apply Kd.R_drewN | apply Kd.R_drew)); exact HO520.out⟩, ⟨by (with_reducible repeat (first | apply Kd.V_alloc | apply Kd.V_drewN | apply Kd.V_drew)); exact HO523.out⟩, ⟨by (with_reducible repeat (first | apply Kd.V_alloc | apply Kd.V_drewN | apply Kd.V_drew)); exact HO527.out⟩, ⟨by (with_reducible repeat (first | apply Kd.V_alloc | apply Kd.V_drewN | apply Kd.V_drew)); exact HO531.out⟩, ⟨by repeat (first | (with_reducible first | exact HB.out | apply below_alloc | apply pw_below_drewN | apply below_drew1) | exact HB.out)⟩⟩
                  · rw [if_neg c22] at H
                    have c22b0 : ((t521.length : Int) == (t517.length : Int)) = false := beq_eq_false_iff_ne.mpr c22
                    have c22b1 : ((t521.length : Int) != (t517.length : Int)) = true := bne_iff_ne.mpr c22
                    have c22b2 : (t521.length == t517.length) = false := by first | simpa using c22 | (simp at c22 ⊢; omega)
                    have H' := Aside0.mk H
                    clear H
                    obtain ⟨Ao31, co31, eo31⟩ := Kd.V_slice HO523.out
                    subst eo31
                    obtain ⟨Ao32, co32, eo32⟩ := Kd.R_slice HO520.out
                    subst eo32
                    go_wp2
                    go_meet
                    case rel => exact ⟨_, (true), (by first | rfl | (simp; done) | (simp [*]; done)), H', ⟨by have := HJ4.out; first | omega | exact Nat.le_refl _⟩, ⟨by (with_reducible repeat (first | apply Kd.R_alloc | apply Kd.R_drewN | apply Kd.R_drew)); exact HO520.out⟩, ⟨by (with_reducible repeat (first | apply Kd.V_alloc | apply Kd.V_drewN | apply Kd.V_drew)); exact HO523.out⟩, ⟨by (with_reducible repeat (first | apply Kd.V_alloc | apply Kd.V_drewN | apply Kd.V_drew)); exact HO527.out⟩, ⟨by (with_reducible repeat (first | apply Kd.V_alloc | apply Kd.V_drewN | apply Kd.V_drew)); exact HO531.out⟩, ⟨by repeat (first | (with_reducible first | exact HB.out | apply below_alloc | apply pw_below_drewN | apply below_drew1) | exact HB.out)⟩⟩
                · rw [if_neg c21] at H
                  have c21b0 : (t532 == 0) = false := beq_eq_false_iff_ne.mpr c21
                  have c21b1 : (t532 != 0) = true := bne_iff_ne.mpr c21
                  have H' := Aside0.mk H
                  clear H
                  go_wp2
                  go_meet
                  case rel => exact ⟨_, (true), (by first | rfl | (simp; done) | (simp [*]; done)), H', ⟨by have := HJ4.out; first | omega | exact Nat.le_refl _⟩, ⟨by (with_reducible repeat (first | apply Kd.R_alloc | apply Kd.R_drewN | apply Kd.R_drew)); exact HO520.out⟩, ⟨by (with_reducible repeat (first | apply Kd.V_alloc | apply Kd.V_drewN | apply Kd.V_drew)); exact HO523.out⟩, ⟨by (with_reducible repeat (first | apply Kd.V_alloc | apply Kd.V_drewN | apply Kd.V_drew)); exact HO527.out⟩, ⟨by (with_reducible repeat (first | apply Kd.V_alloc | apply Kd.V_drewN | apply Kd.V_drew)); exact HO531.out⟩, ⟨by repeat (first | (with_reducible first | exact HB.out | apply below_alloc | apply pw_below_drewN | apply below_drew1) | exact HB.out)⟩⟩
              · rw [if_neg c20] at H
                have c20b0 : (t528 == 0) = false := beq_eq_false_iff_ne.mpr c20
                have c20b1 : (t528 != 0) = true := bne_iff_ne.mpr c20
                have H' := Aside0.mk H
                clear H
                go_wp2
                go_meet
                case rel => exact ⟨_, (true), (by first | rfl | (simp; done) | (simp [*]; done)), H', ⟨by have := HJ4.out; first | omega | exact Nat.le_refl _⟩, ⟨by (with_reducible repeat (first | apply Kd.R_alloc | apply Kd.R_drewN | apply Kd.R_drew)); exact HO520.out⟩, ⟨by (with_reducible repeat (first | apply Kd.V_alloc | apply Kd.V_drewN | apply Kd.V_drew)); exact HO523.out⟩, ⟨by (with_reducible repeat (first | apply Kd.V_alloc | apply Kd.V_drewN | apply Kd.V_drew)); exact HO527.out⟩, ⟨by (with_reducible repeat (first | apply Kd.V_alloc | apply Kd.V_drewN | apply Kd.V_drew)); exact HO531.out⟩, ⟨by repeat (first | (with_reducible first | exact HB.out | apply below_alloc | apply pw_below_drewN | apply below_drew1) | exact HB.out)⟩⟩
            · rw [if_neg c19] at H
              have c19b0 : (t524 == 0) = false := beq_eq_false_iff_ne.mpr c19
              have c19b1 : (t524 != 0) = true := bne_iff_ne.mpr c19
              (first | rw [c19b0] | (simp only [i64_w, i32_w]; rw [c19b0]) | skip)
              have H' := Aside0.mk H
              clear H
              go_wp2
              go_meet
              case rel => exact ⟨_, (true), (by first | rfl | (simp; done) | (simp [*]; done)), H', ⟨by have := HJ4.out; first | omega | exact Nat.le_refl _⟩, ⟨by (with_reducible repeat (first | apply Kd.R_alloc | apply Kd.R_drewN | apply Kd.R_drew)); exact HO520.out⟩, ⟨by (with_reducible repeat (first | apply Kd.V_alloc | apply Kd.V_drewN | apply Kd.V_drew)); exact HO523.out⟩, ⟨by (with_reducible repeat (first | apply Kd.V_alloc | apply Kd.V_drewN | apply Kd.V_drew)); exact HO527.out⟩, ⟨by (with_reducible repeat (first | apply Kd.V_alloc | apply Kd.V_drewN | apply Kd.V_drew)); exact HO531.out⟩, ⟨by repeat (first | (with_reducible first | exact HB.out | apply below_alloc | apply pw_below_drewN | apply below_drew1) | exact HB.out)⟩⟩
          case rest =>
            clear HC14
            try clear c1
            try clear c2
            try clear p2
            try clear c7
            try clear c7b0
            try clear c7b1
            try clear c8
            try clear c9
            try clear c10
            try clear c10b0
            try clear c10b1
            try clear c11
            try clear c13
            try clear c19
            try clear c19b0
            try clear c19b1
            try clear c20
            try clear c20b0
            try clear c20b1
            try clear c21
            try clear c21b0
            try clear c21b1
            try clear c22
            try clear c22b0
            try clear c22b1
            try clear c22b2
            try clear c23
            try clear c23b0
            try clear c23b1
            try clear c23b2
            try clear p2
            obtain ⟨kq, x89_13, rfl, HA, HJ13, HO_8, HO_10, HO_12, HO_14, HB⟩ := hcut
            cases kq with
            | zero => exact absurd HA.out (by simp [tallysticklaw09_TrioAgrees.j1])
            | succ kj13 =>
              have H := HA.out
              clear HA
              simp only [tallysticklaw09_TrioAgrees.j1] at H
              by_cases c33 : x89_13 = true
              · subst c33
                have H1 : (some false) = some r := by rw [if_pos rfl] at H; exact H
                clear H
                have H := H1
                clear H1
                obtain rfl := Option.some.inj H
                exact absurd hr_.out (by simp)
              · replace c33 := Bool.eq_false_iff.mpr c33
                subst c33
                have H1 : (if a2 < 0 then (tallysticklaw09_TrioAgrees.j2 kj13 a2 t516 t517 t521 t525 t529 true) else (tallysticklaw09_TrioAgrees.j2 kj13 a2 t516 t517 t521 t525 t529 (decide (a2 ≥ (t517.length : Int))))) = some r := by rw [if_neg (show ¬ (false = true) by decide)] at H; exact H
                clear H
                have H := H1
                clear H1
                have HC34 := Aside0.mk H
                clear H
                go_upto_region 12 with (fail)
                go_cut [97] (fun v97 wc => ∃ (kq : Nat) (x97_33 : Bool), v97 = .bool x97_33 ∧ Aside0 (tallysticklaw09_TrioAgrees.j2 kq a2 t516 t517 t521 t525 t529 x97_33 = some r) ∧ Aside0 (kq ≤ kj13) ∧ Aside0 (Kd.R k41 41 wc w.heap.size (fun _ => True) v519 t517) ∧ Aside0 (Kd.V (Kd.int .u32) 23 wc w.heap.size (fun k_ => some k_ ≠ (v519 : Value).ownBlock) v522 t521) ∧ Aside0 (Kd.V (Kd.int .u32) 23 wc w.heap.size (fun k_ => some k_ ≠ (v519 : Value).ownBlock) v526 t525) ∧ Aside0 (Kd.V (Kd.int .u32) 23 wc w.heap.size (fun k_ => some k_ ≠ (v519 : Value).ownBlock) v530 t529) ∧ Aside0 (Below w.heap.size w wc))
                case first =>
                  have H := HC34.out
                  clear HC34
                  by_cases c35 : a2 < 0
                  · rw [if_pos c35] at H
                    have c35b0 : decide (a2 < 0) = true := decide_eq_true c35
                    clear c35
                    (first | rw [c35b0] | (simp only [i64_w, i32_w]; rw [c35b0]) | skip)
                    have H' := Aside0.mk H
                    clear H
                    go_wp2
                    go_meet
                    case rel => exact ⟨_, (true), (by first | rfl | (simp; done) | (simp [*]; done)), H', ⟨by have := HJ4.out; have := HJ13.out; first | omega | exact Nat.le_refl _⟩, ⟨by (with_reducible repeat (first | apply Kd.R_alloc | apply Kd.R_drewN | apply Kd.R_drew)); exact HO_8.out⟩, ⟨by (with_reducible repeat (first | apply Kd.V_alloc | apply Kd.V_drewN | apply Kd.V_drew)); exact HO_10.out⟩, ⟨by (with_reducible repeat (first | apply Kd.V_alloc | apply Kd.V_drewN | apply Kd.V_drew)); exact HO_12.out⟩, ⟨by (with_reducible repeat (first | apply Kd.V_alloc | apply Kd.V_drewN | apply Kd.V_drew)); exact HO_14.out⟩, ⟨by repeat (first | (with_reducible first | exact HB.out | apply below_alloc | apply pw_below_drewN | apply below_drew1) | exact HB.out)⟩⟩
                  · rw [if_neg c35] at H
                    have c35b0 : decide (a2 < 0) = false := decide_eq_false c35
                    clear c35
                    (first | rw [c35b0] | (simp only [i64_w, i32_w]; rw [c35b0]) | skip)
                    have H' := Aside0.mk H
                    clear H
                    obtain ⟨Ao36, co36, eo36⟩ := Kd.R_slice HO_8.out
                    subst eo36
                    go_wp2
                    go_meet
                    case rel => exact ⟨_, (decide (a2 ≥ (t517.length : Int))), (by first | rfl | (simp; done) | (simp [*]; done)), H', ⟨by have := HJ4.out; have := HJ13.out; first | omega | exact Nat.le_refl _⟩, ⟨by (with_reducible repeat (first | apply Kd.R_alloc | apply Kd.R_drewN | apply Kd.R_drew)); exact HO_8.out⟩, ⟨by (with_reducible repeat (first | apply Kd.V_alloc | apply Kd.V_drewN | apply Kd.V_drew)); exact HO_10.out⟩, ⟨by (with_reducible repeat (first | apply Kd.V_alloc | apply Kd.V_drewN | apply Kd.V_drew)); exact HO_12.out⟩, ⟨by (with_reducible repeat (first | apply Kd.V_alloc | apply Kd.V_drewN | apply Kd.V_drew)); exact HO_14.out⟩, ⟨by repeat (first | (with_reducible first | exact HB.out | apply below_alloc | apply pw_below_drewN | apply below_drew1) | exact HB.out)⟩⟩
                case rest =>
                  clear HC34
                  try clear c1
                  try clear c2
                  try clear p2
                  try clear c3
                  try clear c7
                  try clear c7b0
                  try clear c7b1
                  try clear c8
                  try clear c9
                  try clear c10
                  try clear c10b0
                  try clear c10b1
                  try clear c11
                  try clear c13
                  try clear c19
                  try clear c19b0
                  try clear c19b1
                  try clear c20
                  try clear c20b0
                  try clear c20b1
                  try clear c21
                  try clear c21b0
                  try clear c21b1
                  try clear c22
                  try clear c22b0
                  try clear c22b1
                  try clear c22b2
                  try clear c23
                  try clear c23b0
                  try clear c23b1
                  try clear c23b2
                  try clear c33
                  try clear c35
                  try clear c35b0
                  try clear p2
                  obtain ⟨kq, x97_33, rfl, HA, HJ33, HO_8, HO_10, HO_12, HO_14, HB⟩ := hcut
                  cases kq with
                  | zero => exact absurd HA.out (by simp [tallysticklaw09_TrioAgrees.j2])
                  | succ kj33 =>
                    have H := HA.out
                    clear HA
                    simp only [tallysticklaw09_TrioAgrees.j2] at H
                    by_cases c37 : x97_33 = true
                    · subst c37
                      have H1 : (some t516) = some r := by rw [if_pos rfl] at H; exact H
                      clear H
                      have H := H1
                      clear H1
                      obtain rfl := Option.some.inj H
                      go_wp2
                      go_ret
                      exact ⟨by first | rfl | (simp [errW_none, errW_some] <;> rfl) | (simp [*, errW_none, errW_some] <;> rfl), by repeat (first | (with_reducible first | exact HB.out | apply below_alloc | apply pw_below_drewN | apply below_drew1) | exact HB.out)⟩
                    · replace c37 := Bool.eq_false_iff.mpr c37
                      subst c37
                      have H1 : (if 0 ≤ a2 then (if a2 < (t517.length : Int) then ((trio_Bound.f).bind fun bt534 => ((tallysticklaw09_below.f ((rd_T41 t517 a2).f0) ((rd_T41 t517 a2).f1) bt534.1 bt534.2).bind fun t536 => (if t516 = true then (if t536 = true then ((trio_Split.f ((rd_T41 t517 a2).f0) ((rd_T41 t517 a2).f1)).bind fun bt538 => (if a2 < (t521.length : Int) then (if a2 < (t525.length : Int) then (if a2 < (t529.length : Int) then (some (bt538.1 == (rd t521 a2) && (bt538.2.1 == (rd t525 a2) && (bt538.2.2 == (rd t529 a2))))) else (none)) else (none)) else (none))) else (some false)) else (some false)))) else (none)) else (none)) = some r := by rw [if_neg (show ¬ (false = true) by decide)] at H; exact H
                      clear H
                      have H := H1
                      clear H1
                      by_cases c38 : 0 ≤ a2
                      · rw [if_pos c38] at H
                        have c38b0 : decide (0 ≤ a2) = true := decide_eq_true c38
                        clear c38
                        by_cases c39 : a2 < (t517.length : Int)
                        · rw [if_pos c39] at H
                          have c39b0 : decide (a2 < (t517.length : Int)) = true := decide_eq_true c39
                          clear c39
                          replace H := Option.bind_eq_some_iff.mp H
                          obtain ⟨⟨t534, t535⟩, A400, H⟩ := H
                          replace H : ((tallysticklaw09_below.f ((rd_T41 t517 a2).f0) ((rd_T41 t517 a2).f1) t534 t535).bind fun t536 => (if t516 = true then (if t536 = true then ((trio_Split.f ((rd_T41 t517 a2).f0) ((rd_T41 t517 a2).f1)).bind fun bt538 => (if a2 < (t521.length : Int) then (if a2 < (t525.length : Int) then (if a2 < (t529.length : Int) then (some (bt538.1 == (rd t521 a2) && (bt538.2.1 == (rd t525 a2) && (bt538.2.2 == (rd t529 a2))))) else (none)) else (none)) else (none))) else (some false)) else (some false))) = some r := H
                          have A40 := Aside0.mk A400
                          clear A400
                          replace H := Option.bind_eq_some_iff.mp H
                          obtain ⟨t536, A410, H⟩ := H
                          replace H : (if t516 = true then (if t536 = true then ((trio_Split.f ((rd_T41 t517 a2).f0) ((rd_T41 t517 a2).f1)).bind fun bt538 => (if a2 < (t521.length : Int) then (if a2 < (t525.length : Int) then (if a2 < (t529.length : Int) then (some (bt538.1 == (rd t521 a2) && (bt538.2.1 == (rd t525 a2) && (bt538.2.2 == (rd t529 a2))))) else (none)) else (none)) else (none))) else (some false)) else (some false)) = some r := H
                          have A41 := Aside0.mk A410
                          clear A410
                          by_cases c42 : t516 = true
                          · subst c42
                            have H1 : (if t536 = true then ((trio_Split.f ((rd_T41 t517 a2).f0) ((rd_T41 t517 a2).f1)).bind fun bt538 => (if a2 < (t521.length : Int) then (if a2 < (t525.length : Int) then (if a2 < (t529.length : Int) then (some (bt538.1 == (rd t521 a2) && (bt538.2.1 == (rd t525 a2) && (bt538.2.2 == (rd t529 a2))))) else (none)) else (none)) else (none))) else (some false)) = some r := by rw [if_pos rfl] at H; exact H
                            clear H
                            have H := H1
                            clear H1
                            by_cases c43 : t536 = true
                            · subst c43
                              have H1 : ((trio_Split.f ((rd_T41 t517 a2).f0) ((rd_T41 t517 a2).f1)).bind fun bt538 => (if a2 < (t521.length : Int) then (if a2 < (t525.length : Int) then (if a2 < (t529.length : Int) then (some (bt538.1 == (rd t521 a2) && (bt538.2.1 == (rd t525 a2) && (bt538.2.2 == (rd t529 a2))))) else (none)) else (none)) else (none))) = some r := by rw [if_pos rfl] at H; exact H
                              clear H
                              have H := H1
                              clear H1
                              replace H := Option.bind_eq_some_iff.mp H
                              obtain ⟨⟨t538, t539, t540⟩, A440, H⟩ := H
                              replace H : (if a2 < (t521.length : Int) then (if a2 < (t525.length : Int) then (if a2 < (t529.length : Int) then (some (t538 == (rd t521 a2) && (t539 == (rd t525 a2) && (t540 == (rd t529 a2))))) else (none)) else (none)) else (none)) = some r := H
                              have A44 := Aside0.mk A440
                              clear A440
                              by_cases c45 : a2 < (t521.length : Int)
                              · rw [if_pos c45] at H
                                have c45b0 : decide (a2 < (t521.length : Int)) = true := decide_eq_true c45
                                clear c45
                                by_cases c46 : a2 < (t525.length : Int)
                                · rw [if_pos c46] at H
                                  have c46b0 : decide (a2 < (t525.length : Int)) = true := decide_eq_true c46
                                  clear c46
                                  by_cases c47 : a2 < (t529.length : Int)
                                  · rw [if_pos c47] at H
                                    have c47b0 : decide (a2 < (t529.length : Int)) = true := decide_eq_true c47
                                    clear c47
                                    obtain rfl := Option.some.inj H
                                    try go_wp2
                                    have n0_ := Aside0.mk (Kd.R_drew HO_8.out)
                                    have n1_ := Aside0.mk (Kd.V_drew HO_10.out)
                                    have n2_ := Aside0.mk (Kd.V_drew HO_12.out)
                                    have n3_ := Aside0.mk (Kd.V_drew HO_14.out)
                                    have n4_ := Aside0.mk (below_drew1 HB.out)
                                    clear HO_8
                                    clear HO_10
                                    clear HO_12
                                    clear HO_14
                                    clear HB
                                    have HO_8 := n0_
                                    have HO_10 := n1_
                                    have HO_12 := n2_
                                    have HO_14 := n3_
                                    have HB := n4_
                                    clear n0_ n1_ n2_ n3_ n4_
                                    obtain ⟨Ao49, co49, eo49⟩ := Kd.R_slice HO_8.out
                                    (first | subst eo49 | (injection eo49 with f1_ f2_ f3_; have f4_ := f1_.symm; have f5_ := f3_.symm; clear f1_ f2_ f3_; subst f4_; subst f5_))
                                    have p533 : 0 ≤ (a2 : Int) := of_decide_eq_true (by first | (with_reducible assumption) | assumption)
                                    have q533 : a2 < (t517.length : Int) := of_decide_eq_true (by first | (with_reducible assumption) | assumption)
                                    obtain ⟨ad533, e533, hx533_0, hx533_1⟩ := at_T41 (Kd.R_reads' HO_8.out).2.2 a2 p533 q533
                                    cases e533
                                    replace p533 := eq_true p533
                                    replace q533 := eq_true q533
                                    refine start_ (n := 7) (S := fun w' => w'.cell? (ad533.add ((a2).toNat * 2)) = some (.int .u64 ((rd_T41 t517 a2).f0)) ∧ w'.cell? ⟨(ad533.add ((a2).toNat * 2)).block, (ad533.add ((a2).toNat * 2)).off + 1, none⟩ = some (.int .u64 ((rd_T41 t517 a2).f1))) (ds := []) #[false, false, false, false, false, false, false] (by kernel_rfl) rfl rfl ⟨hx533_0, hx533_1⟩ (fun hHeld => ?_)
                                    generalize wc.drew = w48 at HO_8 HO_10 HO_12 HO_14 HB hx533_0 hx533_1 hHeld ⊢
                                    refine pure_ (i := 0) (N := some 99) (v := ?_) (a' := ?_) #[true, false, false, false, false, false, false] rfl rfl (by kernel_rfl) (fun _ _ _ h => h) (Or.inl ⟨by rfl, ?_⟩) ?_ ?_
                                    rotate_left
                                    · intro w'
                                      go_simp
                                      with_reducible rfl
                                    rotate_left
                                    · simp only [Act.put, List.setIfInBounds_toArray, List.set_cons_zero, List.set_cons_succ, i64_w, i32_w]
                                      rfl
                                    refine pure_ (i := 1) (N := some 100) (v := ?_) (a' := ?_) #[true, true, false, false, false, false, false] rfl rfl (by kernel_rfl) (fun _ _ _ h => h) (Or.inl ⟨by rfl, ?_⟩) ?_ ?_
                                    rotate_left
                                    · intro w'
                                      go_simp
                                      with_reducible rfl
                                    rotate_left
                                    · simp only [Act.put, List.setIfInBounds_toArray, List.set_cons_zero, List.set_cons_succ, i64_w, i32_w]
                                      rfl
                                    refine pure_ (i := 2) (N := some 101) (v := ?_) (a' := ?_) #[true, true, true, false, false, false, false] rfl rfl (by kernel_rfl) (fun _ _ _ h => h) (Or.inl ⟨by rfl, ?_⟩) ?_ ?_
                                    rotate_left
                                    · intro w'
                                      go_simp
                                      with_reducible rfl
                                    rotate_left
                                    · simp only [Act.put, List.setIfInBounds_toArray, List.set_cons_zero, List.set_cons_succ, i64_w, i32_w]
                                      rfl
                                    refine take_ (i := 3) (N := some 102) (v := ?_) (a' := ?_) #[true, true, true, true, false, false, false] rfl rfl (by kernel_rfl) (fun _ _ _ h => h) (Or.inl ⟨by rfl, ?_⟩) hHeld ?_ ?_
                                    rotate_left
                                    · rintro w' ⟨s0, s1⟩
                                      go_simp
                                      with_reducible rfl
                                    rotate_left
                                    · simp only [Act.put, List.setIfInBounds_toArray, List.set_cons_zero, List.set_cons_succ, i64_w, i32_w]
                                      rfl
                                    refine one_ (i := 4) (N := some 103) #[true, true, true, true, true, false, false] rfl rfl (by kernel_rfl) (by decide) (fun K hK => ?_)
                                    refine goes_ Tryd.func22 (by kernel_rfl) rfl #[] (by rfl) rfl rfl (by (try simp only [List.map_toArray, List.map_cons, List.map_nil]); first | done | rfl | (simp only [List.length_drop, List.length_take]; rfl)) ?_
                                    with_reducible refine (trio_Bound.calls  t534 t535 _ A40.out).mono ?_
                                    rintro e w50 ⟨rfl, hb⟩
                                    have HS0_ := (hb.cell (World.block_lt_of_cell? _ _ (hHeld.1))).trans (hHeld.1)
                                    have HS1_ := (hb.cell (World.block_lt_of_cell? _ _ (hHeld.2))).trans (hHeld.2)
                                    refine ⟨_, rfl, ?_⟩
                                    have n0_ := Aside0.mk (Kd.R_below (by (with_reducible repeat (first | apply Kd.R_alloc | apply Kd.R_drewN | apply Kd.R_drew)); exact HO_8.out) hb)
                                    have n1_ := Aside0.mk (Kd.V_below (by (with_reducible repeat (first | apply Kd.V_alloc | apply Kd.V_drewN | apply Kd.V_drew)); exact HO_10.out) hb)
                                    have n2_ := Aside0.mk (Kd.V_below (by (with_reducible repeat (first | apply Kd.V_alloc | apply Kd.V_drewN | apply Kd.V_drew)); exact HO_12.out) hb)
                                    have n3_ := Aside0.mk (Kd.V_below (by (with_reducible repeat (first | apply Kd.V_alloc | apply Kd.V_drewN | apply Kd.V_drew)); exact HO_14.out) hb)
                                    have n4_ := Aside0.mk (below_step (by repeat (first | (with_reducible first | exact HB.out | apply below_alloc | apply pw_below_drewN | apply below_drew1) | exact HB.out)) hb)
                                    clear HO_8
                                    clear HO_10
                                    clear HO_12
                                    clear HO_14
                                    clear HB
                                    have HO_8 := n0_
                                    have HO_10 := n1_
                                    have HO_12 := n2_
                                    have HO_14 := n3_
                                    have HB := n4_
                                    clear n0_ n1_ n2_ n3_ n4_
                                    (try clear hb)
                                    (try clear hb2)
                                    (try clear hk)
                                    (try clear hi)
                                    refine hK.out _ _ ⟨HS0_, HS1_⟩ (fun hHeld => ?_)
                                    clear hK K
                                    refine norm_ (a' := ?_) ?_ ?_
                                    rotate_left
                                    · show Act.put _ (some 103) _ = _
                                      simp only [Act.put, List.setIfInBounds_toArray, List.set_cons_zero, List.set_cons_succ, i64_w, i32_w]
                                      rfl
                                    refine one_ (i := 5) (N := some 104) #[true, true, true, true, true, true, false] rfl rfl (by kernel_rfl) (by decide) (fun K hK => ?_)
                                    refine goes_ Tryd.func24 (by kernel_rfl) rfl #[.agg #[.int .u64 ((rd_T41 t517 a2).f0), .int .u64 ((rd_T41 t517 a2).f1)], .agg #[.int .u64 t534, .int .u64 t535]] (by rfl) rfl rfl (by (try simp only [List.map_toArray, List.map_cons, List.map_nil]); first | done | rfl | (simp only [List.length_drop, List.length_take]; rfl)) ?_
                                    with_reducible refine (tallysticklaw09_below.calls ((rd_T41 t517 a2).f0) ((rd_T41 t517 a2).f1) t534 t535 true _ A41.out).mono ?_
                                    rintro e w51 ⟨rfl, hb⟩
                                    have HS0_ := (hb.cell (World.block_lt_of_cell? _ _ (hHeld.1))).trans (hHeld.1)
                                    have HS1_ := (hb.cell (World.block_lt_of_cell? _ _ (hHeld.2))).trans (hHeld.2)
                                    refine ⟨_, rfl, ?_⟩
                                    have n0_ := Aside0.mk (Kd.R_below (by (with_reducible repeat (first | apply Kd.R_alloc | apply Kd.R_drewN | apply Kd.R_drew)); exact HO_8.out) hb)
                                    have n1_ := Aside0.mk (Kd.V_below (by (with_reducible repeat (first | apply Kd.V_alloc | apply Kd.V_drewN | apply Kd.V_drew)); exact HO_10.out) hb)
                                    have n2_ := Aside0.mk (Kd.V_below (by (with_reducible repeat (first | apply Kd.V_alloc | apply Kd.V_drewN | apply Kd.V_drew)); exact HO_12.out) hb)
                                    have n3_ := Aside0.mk (Kd.V_below (by (with_reducible repeat (first | apply Kd.V_alloc | apply Kd.V_drewN | apply Kd.V_drew)); exact HO_14.out) hb)
                                    have n4_ := Aside0.mk (below_step (by repeat (first | (with_reducible first | exact HB.out | apply below_alloc | apply pw_below_drewN | apply below_drew1) | exact HB.out)) hb)
                                    clear HO_8
                                    clear HO_10
                                    clear HO_12
                                    clear HO_14
                                    clear HB
                                    have HO_8 := n0_
                                    have HO_10 := n1_
                                    have HO_12 := n2_
                                    have HO_14 := n3_
                                    have HB := n4_
                                    clear n0_ n1_ n2_ n3_ n4_
                                    (try clear hb)
                                    (try clear hb2)
                                    (try clear hk)
                                    (try clear hi)
                                    refine hK.out _ _ ⟨HS0_, HS1_⟩ (fun hHeld => ?_)
                                    clear hK K
                                    refine norm_ (a' := ?_) ?_ ?_
                                    rotate_left
                                    · show Act.put _ (some 104) _ = _
                                      simp only [Act.put, List.setIfInBounds_toArray, List.set_cons_zero, List.set_cons_succ, i64_w, i32_w]
                                      rfl
                                    refine pure_ (i := 6) (N := some 16) (v := ?_) (a' := ?_) #[true, true, true, true, true, true, true] rfl rfl (by kernel_rfl) (fun _ _ _ h => h) (Or.inl ⟨by rfl, ?_⟩) ?_ ?_
                                    rotate_left
                                    · intro w'
                                      go_simp
                                      with_reducible rfl
                                    rotate_left
                                    · simp only [Act.put, List.setIfInBounds_toArray, List.set_cons_zero, List.set_cons_succ, i64_w, i32_w]
                                      rfl
                                    refine done_ (by kernel_rfl) ?_
                                    try go_wp2
                                    have n0_ := Aside0.mk (Kd.R_drew HO_8.out)
                                    have n1_ := Aside0.mk (Kd.V_drew HO_10.out)
                                    have n2_ := Aside0.mk (Kd.V_drew HO_12.out)
                                    have n3_ := Aside0.mk (Kd.V_drew HO_14.out)
                                    have n4_ := Aside0.mk (below_drew1 HB.out)
                                    clear HO_8
                                    clear HO_10
                                    clear HO_12
                                    clear HO_14
                                    clear HB
                                    have HO_8 := n0_
                                    have HO_10 := n1_
                                    have HO_12 := n2_
                                    have HO_14 := n3_
                                    have HB := n4_
                                    clear n0_ n1_ n2_ n3_ n4_
                                    have p537 : 0 ≤ (a2 : Int) := of_decide_eq_true (by first | (with_reducible assumption) | assumption)
                                    have q537 : a2 < (t517.length : Int) := of_decide_eq_true (by first | (with_reducible assumption) | assumption)
                                    obtain ⟨ad537, e537, hx537_0, hx537_1⟩ := at_T41 (Kd.R_reads' HO_8.out).2.2 a2 p537 q537
                                    obtain rfl : ad533 = ad537 := (by injection e537)
                                    replace p537 := eq_true p537
                                    replace q537 := eq_true q537
                                    obtain ⟨Ao53, co53, eo53⟩ := Kd.V_slice HO_10.out
                                    (first | subst eo53 | (injection eo53 with f1_ f2_ f3_; have f4_ := f1_.symm; have f5_ := f3_.symm; clear f1_ f2_ f3_; subst f4_; subst f5_))
                                    have p541 : 0 ≤ (a2 : Int) := of_decide_eq_true (by first | (with_reducible assumption) | assumption)
                                    have q541 : a2 < (t521.length : Int) := of_decide_eq_true (by first | (with_reducible assumption) | assumption)
                                    obtain ⟨ad541, e541, hx541_0⟩ := Kd.at_int (Kd.V_reads' HO_10.out).2.2 a2 p541 q541
                                    cases e541
                                    replace p541 := eq_true p541
                                    replace q541 := eq_true q541
                                    obtain ⟨Ao54, co54, eo54⟩ := Kd.V_slice HO_12.out
                                    (first | subst eo54 | (injection eo54 with f1_ f2_ f3_; have f4_ := f1_.symm; have f5_ := f3_.symm; clear f1_ f2_ f3_; subst f4_; subst f5_))
                                    have p542 : 0 ≤ (a2 : Int) := of_decide_eq_true (by first | (with_reducible assumption) | assumption)
                                    have q542 : a2 < (t525.length : Int) := of_decide_eq_true (by first | (with_reducible assumption) | assumption)
                                    obtain ⟨ad542, e542, hx542_0⟩ := Kd.at_int (Kd.V_reads' HO_12.out).2.2 a2 p542 q542
                                    cases e542
                                    replace p542 := eq_true p542
                                    replace q542 := eq_true q542
                                    obtain ⟨Ao55, co55, eo55⟩ := Kd.V_slice HO_14.out
                                    (first | subst eo55 | (injection eo55 with f1_ f2_ f3_; have f4_ := f1_.symm; have f5_ := f3_.symm; clear f1_ f2_ f3_; subst f4_; subst f5_))
                                    have p543 : 0 ≤ (a2 : Int) := of_decide_eq_true (by first | (with_reducible assumption) | assumption)
                                    have q543 : a2 < (t529.length : Int) := of_decide_eq_true (by first | (with_reducible assumption) | assumption)
                                    obtain ⟨ad543, e543, hx543_0⟩ := Kd.at_int (Kd.V_reads' HO_14.out).2.2 a2 p543 q543
                                    cases e543
                                    replace p543 := eq_true p543
                                    replace q543 := eq_true q543
                                    refine start_ (n := 26) (S := fun w' => w'.cell? (ad533.add ((a2).toNat * 2)) = some (.int .u64 ((rd_T41 t517 a2).f0)) ∧ w'.cell? ⟨(ad533.add ((a2).toNat * 2)).block, (ad533.add ((a2).toNat * 2)).off + 1, none⟩ = some (.int .u64 ((rd_T41 t517 a2).f1)) ∧ w'.cell? (ad541.add (a2).toNat) = some (.int .u32 (rd t521 a2)) ∧ w'.cell? (ad542.add (a2).toNat) = some (.int .u32 (rd t525 a2)) ∧ w'.cell? (ad543.add (a2).toNat) = some (.int .u32 (rd t529 a2))) (ds := []) #[false, false, false, false, false, false, false, false, false, false, false, false, false, false, false, false, false, false, false, false, false, false, false, false, false, false] (by kernel_rfl) rfl rfl ⟨hx537_0, hx537_1, hx541_0, hx542_0, hx543_0⟩ (fun hHeld => ?_); refine with_tabW tallysticklaw09_TrioAgrees.tab15 tallysticklaw09_TrioAgrees.bits15 (fun HT_ HW_ => ?_)
                                    generalize w51.drew = w52 at HO_8 HO_10 HO_12 HO_14 HB hx537_0 hx537_1 hx541_0 hx542_0 hx543_0 hHeld ⊢
                                    refine pure_ (i := 0) (N := some 105) (v := ?_) (a' := ?_) #[true, false, false, false, false, false, false, false, false, false, false, false, false, false, false, false, false, false, false, false, false, false, false, false, false, false] rfl rfl (any_of HT_.out (by kernel_rfl)) (fun _ _ _ h => h) (Or.inl ⟨by rfl, ?_⟩) ?_ ?_
                                    rotate_left
                                    · intro w'
                                      go_simp
                                      with_reducible rfl
                                    rotate_left
                                    · simp only [Act.put, List.setIfInBounds_toArray, List.set_cons_zero, List.set_cons_succ, i64_w, i32_w]
                                      rfl
                                    refine pure_ (i := 1) (N := some 106) (v := ?_) (a' := ?_) #[true, true, false, false, false, false, false, false, false, false, false, false, false, false, false, false, false, false, false, false, false, false, false, false, false, false] rfl rfl (any_of HT_.out (by kernel_rfl)) (fun _ _ _ h => h) (Or.inl ⟨by rfl, ?_⟩) ?_ ?_
                                    rotate_left
                                    · intro w'
                                      go_simp
                                      with_reducible rfl
                                    rotate_left
                                    · simp only [Act.put, List.setIfInBounds_toArray, List.set_cons_zero, List.set_cons_succ, i64_w, i32_w]
                                      rfl
                                    refine pure_ (i := 2) (N := some 107) (v := ?_) (a' := ?_) #[true, true, true, false, false, false, false, false, false, false, false, false, false, false, false, false, false, false, false, false, false, false, false, false, false, false] rfl rfl (any_of HT_.out (by kernel_rfl)) (fun _ _ _ h => h) (Or.inl ⟨by rfl, ?_⟩) ?_ ?_
                                    rotate_left
                                    · intro w'
                                      go_simp
                                      with_reducible rfl
                                    rotate_left
                                    · simp only [Act.put, List.setIfInBounds_toArray, List.set_cons_zero, List.set_cons_succ, i64_w, i32_w]
                                      rfl
                                    refine pure_ (i := 3) (N := some 108) (v := ?_) (a' := ?_) #[true, true, true, true, false, false, false, false, false, false, false, false, false, false, false, false, false, false, false, false, false, false, false, false, false, false] rfl rfl (any_of HT_.out (by kernel_rfl)) (fun _ _ _ h => h) (Or.inl ⟨by rfl, ?_⟩) ?_ ?_
                                    rotate_left
                                    · intro w'
                                      go_simp
                                      with_reducible rfl
                                    rotate_left
                                    · simp only [Act.put, List.setIfInBounds_toArray, List.set_cons_zero, List.set_cons_succ, i64_w, i32_w]
                                      rfl
                                    refine pure_ (i := 4) (N := some 109) (v := ?_) (a' := ?_) #[true, true, true, true, true, false, false, false, false, false, false, false, false, false, false, false, false, false, false, false, false, false, false, false, false, false] rfl rfl (any_of HT_.out (by kernel_rfl)) (fun _ _ _ h => h) (Or.inl ⟨by rfl, ?_⟩) ?_ ?_
                                    rotate_left
                                    · intro w'
                                      go_simp
                                      with_reducible rfl
                                    rotate_left
                                    · simp only [Act.put, List.setIfInBounds_toArray, List.set_cons_zero, List.set_cons_succ, i64_w, i32_w]
                                      rfl
                                    refine pure_ (i := 5) (N := some 110) (v := ?_) (a' := ?_) #[true, true, true, true, true, true, false, false, false, false, false, false, false, false, false, false, false, false, false, false, false, false, false, false, false, false] rfl rfl (any_of HT_.out (by kernel_rfl)) (fun _ _ _ h => h) (Or.inl ⟨by rfl, ?_⟩) ?_ ?_
                                    rotate_left
                                    · intro w'
                                      go_simp
                                      with_reducible rfl
                                    rotate_left
                                    · simp only [Act.put, List.setIfInBounds_toArray, List.set_cons_zero, List.set_cons_succ, i64_w, i32_w]
                                      rfl
                                    refine pure_ (i := 6) (N := some 111) (v := ?_) (a' := ?_) #[true, true, true, true, true, true, true, false, false, false, false, false, false, false, false, false, false, false, false, false, false, false, false, false, false, false] rfl rfl (any_of HT_.out (by kernel_rfl)) (fun _ _ _ h => h) (Or.inl ⟨by rfl, ?_⟩) ?_ ?_
                                    rotate_left
                                    · intro w'
                                      go_simp
                                      with_reducible rfl
                                    rotate_left
                                    · simp only [Act.put, List.setIfInBounds_toArray, List.set_cons_zero, List.set_cons_succ, i64_w, i32_w]
                                      rfl
                                    refine pure_ (i := 7) (N := some 112) (v := ?_) (a' := ?_) #[true, true, true, true, true, true, true, true, false, false, false, false, false, false, false, false, false, false, false, false, false, false, false, false, false, false] rfl rfl (any_of HT_.out (by kernel_rfl)) (fun _ _ _ h => h) (Or.inl ⟨by rfl, ?_⟩) ?_ ?_
                                    rotate_left
                                    · intro w'
                                      go_simp
                                      with_reducible rfl
                                    rotate_left
                                    · simp only [Act.put, List.setIfInBounds_toArray, List.set_cons_zero, List.set_cons_succ, i64_w, i32_w]
                                      rfl
                                    refine pure_ (i := 10) (N := some 115) (v := ?_) (a' := ?_) #[true, true, true, true, true, true, true, true, false, false, true, false, false, false, false, false, false, false, false, false, false, false, false, false, false, false] rfl rfl (any_of HT_.out (by kernel_rfl)) (fun _ _ _ h => h) (Or.inl ⟨by rfl, ?_⟩) ?_ ?_
                                    rotate_left
                                    · intro w'
                                      go_simp
                                      with_reducible rfl
                                    rotate_left
                                    · simp only [Act.put, List.setIfInBounds_toArray, List.set_cons_zero, List.set_cons_succ, i64_w, i32_w]
                                      rfl
                                    refine pure_ (i := 11) (N := some 116) (v := ?_) (a' := ?_) #[true, true, true, true, true, true, true, true, false, false, true, true, false, false, false, false, false, false, false, false, false, false, false, false, false, false] rfl rfl (any_of HT_.out (by kernel_rfl)) (fun _ _ _ h => h) (Or.inl ⟨by rfl, ?_⟩) ?_ ?_
                                    rotate_left
                                    · intro w'
                                      go_simp
                                      with_reducible rfl
                                    rotate_left
                                    · simp only [Act.put, List.setIfInBounds_toArray, List.set_cons_zero, List.set_cons_succ, i64_w, i32_w]
                                      rfl
                                    refine pure_ (i := 12) (N := some 117) (v := ?_) (a' := ?_) #[true, true, true, true, true, true, true, true, false, false, true, true, true, false, false, false, false, false, false, false, false, false, false, false, false, false] rfl rfl (any_of HT_.out (by kernel_rfl)) (fun _ _ _ h => h) (Or.inl ⟨by rfl, ?_⟩) ?_ ?_
                                    rotate_left
                                    · intro w'
                                      go_simp
                                      with_reducible rfl
                                    rotate_left
                                    · simp only [Act.put, List.setIfInBounds_toArray, List.set_cons_zero, List.set_cons_succ, i64_w, i32_w]
                                      rfl
                                    refine pure_ (i := 14) (N := some 119) (v := ?_) (a' := ?_) #[true, true, true, true, true, true, true, true, false, false, true, true, true, false, true, false, false, false, false, false, false, false, false, false, false, false] rfl rfl (any_of HT_.out (by kernel_rfl)) (fun _ _ _ h => h) (Or.inl ⟨by rfl, ?_⟩) ?_ ?_
                                    rotate_left
                                    · intro w'
                                      go_simp
                                      with_reducible rfl
                                    rotate_left
                                    · simp only [Act.put, List.setIfInBounds_toArray, List.set_cons_zero, List.set_cons_succ, i64_w, i32_w]
                                      rfl
                                    refine pure_ (i := 15) (N := some 120) (v := ?_) (a' := ?_) #[true, true, true, true, true, true, true, true, false, false, true, true, true, false, true, true, false, false, false, false, false, false, false, false, false, false] rfl rfl (any_of HT_.out (by kernel_rfl)) (fun _ _ _ h => h) (Or.inl ⟨by rfl, ?_⟩) ?_ ?_
                                    rotate_left
                                    · intro w'
                                      go_simp
                                      with_reducible rfl
                                    rotate_left
                                    · simp only [Act.put, List.setIfInBounds_toArray, List.set_cons_zero, List.set_cons_succ, i64_w, i32_w]
                                      rfl
                                    refine pure_ (i := 16) (N := some 121) (v := ?_) (a' := ?_) #[true, true, true, true, true, true, true, true, false, false, true, true, true, false, true, true, true, false, false, false, false, false, false, false, false, false] rfl rfl (any_of HT_.out (by kernel_rfl)) (fun _ _ _ h => h) (Or.inl ⟨by rfl, ?_⟩) ?_ ?_
                                    rotate_left
                                    · intro w'
                                      go_simp
                                      with_reducible rfl
                                    rotate_left
                                    · simp only [Act.put, List.setIfInBounds_toArray, List.set_cons_zero, List.set_cons_succ, i64_w, i32_w]
                                      rfl
                                    refine pure_ (i := 18) (N := some 123) (v := ?_) (a' := ?_) #[true, true, true, true, true, true, true, true, false, false, true, true, true, false, true, true, true, false, true, false, false, false, false, false, false, false] rfl rfl (any_of HT_.out (by kernel_rfl)) (fun _ _ _ h => h) (Or.inl ⟨by rfl, ?_⟩) ?_ ?_
                                    rotate_left
                                    · intro w'
                                      go_simp
                                      with_reducible rfl
                                    rotate_left
                                    · simp only [Act.put, List.setIfInBounds_toArray, List.set_cons_zero, List.set_cons_succ, i64_w, i32_w]
                                      rfl
                                    refine pure_ (i := 19) (N := some 124) (v := ?_) (a' := ?_) #[true, true, true, true, true, true, true, true, false, false, true, true, true, false, true, true, true, false, true, true, false, false, false, false, false, false] rfl rfl (any_of HT_.out (by kernel_rfl)) (fun _ _ _ h => h) (Or.inl ⟨by rfl, ?_⟩) ?_ ?_
                                    rotate_left
                                    · intro w'
                                      go_simp
                                      with_reducible rfl
                                    rotate_left
                                    · simp only [Act.put, List.setIfInBounds_toArray, List.set_cons_zero, List.set_cons_succ, i64_w, i32_w]
                                      rfl
                                    refine pure_ (i := 20) (N := some 125) (v := ?_) (a' := ?_) #[true, true, true, true, true, true, true, true, false, false, true, true, true, false, true, true, true, false, true, true, true, false, false, false, false, false] rfl rfl (any_of HT_.out (by kernel_rfl)) (fun _ _ _ h => h) (Or.inl ⟨by rfl, ?_⟩) ?_ ?_
                                    rotate_left
                                    · intro w'
                                      go_simp
                                      with_reducible rfl
                                    rotate_left
                                    · simp only [Act.put, List.setIfInBounds_toArray, List.set_cons_zero, List.set_cons_succ, i64_w, i32_w]
                                      rfl
                                    refine take_ (i := 8) (N := some 113) (v := ?_) (a' := ?_) #[true, true, true, true, true, true, true, true, true, false, true, true, true, false, true, true, true, false, true, true, true, false, false, false, false, false] rfl rfl (take_ofW HT_.out HW_.out (by kernel_rfl)) (fun _ _ _ h => h) (Or.inl ⟨by rfl, ?_⟩) hHeld ?_ ?_
                                    rotate_left
                                    · rintro w' ⟨s0, s1, s2, s3, s4⟩
                                      go_simp
                                      with_reducible rfl
                                    rotate_left
                                    · simp only [Act.put, List.setIfInBounds_toArray, List.set_cons_zero, List.set_cons_succ, i64_w, i32_w]
                                      rfl
                                    refine take_ (i := 13) (N := some 118) (v := ?_) (a' := ?_) #[true, true, true, true, true, true, true, true, true, false, true, true, true, true, true, true, true, false, true, true, true, false, false, false, false, false] rfl rfl (take_ofW HT_.out HW_.out (by kernel_rfl)) (fun _ _ _ h => h) (Or.inl ⟨by rfl, ?_⟩) hHeld ?_ ?_
                                    rotate_left
                                    · rintro w' ⟨s0, s1, s2, s3, s4⟩
                                      go_simp
                                      with_reducible rfl
                                    rotate_left
                                    · simp only [Act.put, List.setIfInBounds_toArray, List.set_cons_zero, List.set_cons_succ, i64_w, i32_w]
                                      rfl
                                    refine take_ (i := 17) (N := some 122) (v := ?_) (a' := ?_) #[true, true, true, true, true, true, true, true, true, false, true, true, true, true, true, true, true, true, true, true, true, false, false, false, false, false] rfl rfl (take_ofW HT_.out HW_.out (by kernel_rfl)) (fun _ _ _ h => h) (Or.inl ⟨by rfl, ?_⟩) hHeld ?_ ?_
                                    rotate_left
                                    · rintro w' ⟨s0, s1, s2, s3, s4⟩
                                      go_simp
                                      with_reducible rfl
                                    rotate_left
                                    · simp only [Act.put, List.setIfInBounds_toArray, List.set_cons_zero, List.set_cons_succ, i64_w, i32_w]
                                      rfl
                                    refine take_ (i := 21) (N := some 126) (v := ?_) (a' := ?_) #[true, true, true, true, true, true, true, true, true, false, true, true, true, true, true, true, true, true, true, true, true, true, false, false, false, false] rfl rfl (take_ofW HT_.out HW_.out (by kernel_rfl)) (fun _ _ _ h => h) (Or.inl ⟨by rfl, ?_⟩) hHeld ?_ ?_
                                    rotate_left
                                    · rintro w' ⟨s0, s1, s2, s3, s4⟩
                                      go_simp
                                      with_reducible rfl
                                    rotate_left
                                    · simp only [Act.put, List.setIfInBounds_toArray, List.set_cons_zero, List.set_cons_succ, i64_w, i32_w]
                                      rfl
                                    refine pure_ (i := 22) (N := some 127) (v := ?_) (a' := ?_) #[true, true, true, true, true, true, true, true, true, false, true, true, true, true, true, true, true, true, true, true, true, true, true, false, false, false] rfl rfl (any_of HT_.out (by kernel_rfl)) (fun _ _ _ h => h) (Or.inl ⟨by rfl, ?_⟩) ?_ ?_
                                    rotate_left
                                    · intro w'
                                      go_simp
                                      with_reducible rfl
                                    rotate_left
                                    · simp only [Act.put, List.setIfInBounds_toArray, List.set_cons_zero, List.set_cons_succ, i64_w, i32_w]
                                      rfl
                                    refine one_ (i := 9) (N := some 114) #[true, true, true, true, true, true, true, true, true, true, true, true, true, true, true, true, true, true, true, true, true, true, true, false, false, false] rfl rfl (one_of HT_.out (by kernel_rfl)) (by decide) (fun K hK => ?_)
                                    refine goes_ Tryd.func18 (by kernel_rfl) rfl #[.agg #[.int .u64 ((rd_T41 t517 a2).f0), .int .u64 ((rd_T41 t517 a2).f1)]] (by rfl) rfl rfl (by (try simp only [List.map_toArray, List.map_cons, List.map_nil]); first | done | rfl | (simp only [List.length_drop, List.length_take]; rfl)) ?_
                                    with_reducible refine (trio_Split.calls ((rd_T41 t517 a2).f0) ((rd_T41 t517 a2).f1) t538 t539 t540 _ A44.out (HPR.out.later (by repeat (first | (with_reducible first | exact HB.out | apply below_alloc | apply pw_below_drewN | apply below_drew1 | refine set_below ?_ (Aside0.out (by assumption))) | exact HB.out)))).mono ?_
                                    rintro e w56 ⟨rfl, hb⟩
                                    have HS0_ := (hb.cell (World.block_lt_of_cell? _ _ (hHeld.1))).trans (hHeld.1)
                                    have HS1_ := (hb.cell (World.block_lt_of_cell? _ _ (hHeld.2.1))).trans (hHeld.2.1)
                                    have HS2_ := (hb.cell (World.block_lt_of_cell? _ _ (hHeld.2.2.1))).trans (hHeld.2.2.1)
                                    have HS3_ := (hb.cell (World.block_lt_of_cell? _ _ (hHeld.2.2.2.1))).trans (hHeld.2.2.2.1)
                                    have HS4_ := (hb.cell (World.block_lt_of_cell? _ _ (hHeld.2.2.2.2))).trans (hHeld.2.2.2.2)
                                    refine ⟨_, rfl, ?_⟩
                                    have n0_ := Aside0.mk (Kd.R_below (by (with_reducible repeat (first | apply Kd.R_alloc | apply Kd.R_drewN | apply Kd.R_drew)); exact HO_8.out) hb)
                                    have n1_ := Aside0.mk (Kd.V_below (by (with_reducible repeat (first | apply Kd.V_alloc | apply Kd.V_drewN | apply Kd.V_drew)); exact HO_10.out) hb)
                                    have n2_ := Aside0.mk (Kd.V_below (by (with_reducible repeat (first | apply Kd.V_alloc | apply Kd.V_drewN | apply Kd.V_drew)); exact HO_12.out) hb)
                                    have n3_ := Aside0.mk (Kd.V_below (by (with_reducible repeat (first | apply Kd.V_alloc | apply Kd.V_drewN | apply Kd.V_drew)); exact HO_14.out) hb)
                                    have n4_ := Aside0.mk (below_step (by repeat (first | (with_reducible first | exact HB.out | apply below_alloc | apply pw_below_drewN | apply below_drew1) | exact HB.out)) hb)
                                    clear HO_8
                                    clear HO_10
                                    clear HO_12
                                    clear HO_14
                                    clear HB
                                    have HO_8 := n0_
                                    have HO_10 := n1_
                                    have HO_12 := n2_
                                    have HO_14 := n3_
                                    have HB := n4_
                                    clear n0_ n1_ n2_ n3_ n4_
                                    (try clear hb)
                                    (try clear hb2)
                                    (try clear hk)
                                    (try clear hi)
                                    refine hK.out _ _ ⟨HS0_, HS1_, HS2_, HS3_, HS4_⟩ (fun hHeld => ?_)
                                    clear hK K
                                    refine norm_ (a' := ?_) ?_ ?_
                                    rotate_left
                                    · show Act.put _ (some 114) _ = _
                                      simp only [Act.put, List.setIfInBounds_toArray, List.set_cons_zero, List.set_cons_succ, i64_w, i32_w]
                                      rfl
                                    refine pure_ (i := 23) (N := some 128) (v := ?_) (a' := ?_) #[true, true, true, true, true, true, true, true, true, true, true, true, true, true, true, true, true, true, true, true, true, true, true, true, false, false] rfl rfl (any_of HT_.out (by kernel_rfl)) (fun _ _ _ h => h) (Or.inl ⟨by rfl, ?_⟩) ?_ ?_
                                    rotate_left
                                    · intro w'
                                      go_simp
                                      with_reducible rfl
                                    rotate_left
                                    · simp only [Act.put, List.setIfInBounds_toArray, List.set_cons_zero, List.set_cons_succ, i64_w, i32_w]
                                      rfl
                                    refine pure_ (i := 24) (N := some 129) (v := ?_) (a' := ?_) #[true, true, true, true, true, true, true, true, true, true, true, true, true, true, true, true, true, true, true, true, true, true, true, true, true, false] rfl rfl (any_of HT_.out (by kernel_rfl)) (fun _ _ _ h => h) (Or.inl ⟨by rfl, ?_⟩) ?_ ?_
                                    rotate_left
                                    · intro w'
                                      go_simp
                                      with_reducible rfl
                                    rotate_left
                                    · simp only [Act.put, List.setIfInBounds_toArray, List.set_cons_zero, List.set_cons_succ, i64_w, i32_w]
                                      rfl
                                    refine pure_ (i := 25) (N := some 6) (v := ?_) (a' := ?_) #[true, true, true, true, true, true, true, true, true, true, true, true, true, true, true, true, true, true, true, true, true, true, true, true, true, true] rfl rfl (any_of HT_.out (by kernel_rfl)) (fun _ _ _ h => h) (Or.inl ⟨by rfl, ?_⟩) ?_ ?_
                                    rotate_left
                                    · intro w'
                                      go_simp
                                      with_reducible rfl
                                    rotate_left
                                    · simp only [Act.put, List.setIfInBounds_toArray, List.set_cons_zero, List.set_cons_succ, i64_w, i32_w]
                                      rfl
                                    refine done_ (done_of HT_.out (by kernel_rfl)) ?_
                                    try go_wp2
                                    go_ret
                                    exact ⟨by first | rfl | (simp [errW_none, errW_some] <;> rfl) | (simp [*, errW_none, errW_some] <;> rfl), by repeat (first | (with_reducible first | exact HB.out | apply below_alloc | apply pw_below_drewN | apply below_drew1) | exact HB.out)⟩
                                  · rw [if_neg c47] at H
                                    exact absurd H (by simp)
                                · rw [if_neg c46] at H
                                  exact absurd H (by simp)
                              · rw [if_neg c45] at H
                                exact absurd H (by simp)
                            · replace c43 := Bool.eq_false_iff.mpr c43
                              subst c43
                              have H1 : (some false) = some r := by rw [if_neg (show ¬ (false = true) by decide)] at H; exact H
                              clear H
                              have H := H1
                              clear H1
                              obtain rfl := Option.some.inj H
                              exact absurd hr_.out (by simp)
                          · replace c42 := Bool.eq_false_iff.mpr c42
                            subst c42
                            have H1 : (some false) = some r := by rw [if_neg (show ¬ (false = true) by decide)] at H; exact H
                            clear H
                            have H := H1
                            clear H1
                            obtain rfl := Option.some.inj H
                            exact absurd hr_.out (by simp)
                        · rw [if_neg c39] at H
                          exact absurd H (by simp)
                      · rw [if_neg c38] at H
                        exact absurd H (by simp)
        · rw [if_neg c10] at H
          have c10b0 : (t518 == 0) = false := beq_eq_false_iff_ne.mpr c10
          have c10b1 : (t518 != 0) = true := bne_iff_ne.mpr c10
          by_cases c57 : t516 = true
          · subst c57
            have H1 : (some ((t517.length : Int) == 0)) = some r := by rw [if_pos rfl] at H; exact H
            clear H
            have H := H1
            clear H1
            obtain rfl := Option.some.inj H
            go_wp2_with (first | ((with_reducible refine gate_callee (f := 13) rfl ?_); refine goesL_ (some 30) rfl rfl Tryd.func13 (by kernel_rfl) rfl #[.slice A0 l0.length c0, .slice A1 l1.length c1] rfl (by (try simp only [List.map_toArray, List.map_cons, List.map_nil]); first | done | rfl | (simp only [List.length_drop, List.length_take]; rfl)) ?_; (with_reducible refine (trio_Times.calls _ _ l0 _ _ l1 t517 t518 _ ?side1 ?side2 ?side3 ?side4 A9.out (HPR.out.later (by repeat (first | (with_reducible first | exact HB.out | apply below_alloc | apply pw_below_drewN | apply below_drew1 | refine set_below ?_ (Aside0.out (by assumption))) | exact HB.out)))).mono ?_); (case side1 => repeat (first | exact (Kd.C_below HR0.out HB.out) | (with_reducible refine Kd.C_alloc ?_ _) | (with_reducible refine Kd.C_drewN ?_ _) | (with_reducible refine Kd.C_drew ?_))); (case side2 => exact HC0.out); (case side3 => repeat (first | exact (Kd.C_below HR1.out HB.out) | (with_reducible refine Kd.C_alloc ?_ _) | (with_reducible refine Kd.C_drewN ?_ _) | (with_reducible refine Kd.C_drew ?_))); (case side4 => exact HC1.out); rintro e w58 ⟨v519, rfl, ho0, hb⟩; refine ⟨_, rfl, ?_⟩; have n0_ := Aside0.mk (Kd.R_lower ho0 (below_size (by repeat (first | (with_reducible first | exact HB.out | apply below_alloc | apply pw_below_drewN | apply below_drew1) | exact HB.out)))); have n1_ := Aside0.mk (below_step (by repeat (first | (with_reducible first | exact HB.out | apply below_alloc | apply pw_below_drewN | apply below_drew1) | exact HB.out)) hb); clear HB; have HO520 := n0_; have HB := n1_; clear n0_ n1_; (try clear hb); (try clear hb2); (try clear hk); (try clear hi); (try clear ho0); obtain ⟨Ao59, co59, eo59⟩ := Kd.R_slice HO520.out; subst eo59))
            go_ret
            exact ⟨by first | rfl | (simp [errW_none, errW_some] <;> rfl) | (simp [*, errW_none, errW_some] <;> rfl), by repeat (first | (with_reducible first | exact HB.out | apply below_alloc | apply pw_below_drewN | apply below_drew1) | exact HB.out)⟩
          · replace c57 := Bool.eq_false_iff.mpr c57
            subst c57
            have H1 : (some false) = some r := by rw [if_neg (show ¬ (false = true) by decide)] at H; exact H
            clear H
            have H := H1
            clear H1
            obtain rfl := Option.some.inj H
            exact absurd hr_.out (by simp)

end Go.Proofs.YtaakniobgljniaaDoor.Pb
