/- Contracts of functions and laws, written by this session's program myprint.py by way of the kit's print. -/
import Derived.Test.YtgoglfojjpibnaaHProdE
import Derived.Test.YtgoglfojjpibnaaPa0
import Derived.Test.YtgoglfojjpibnaaPa1
import Derived.Test.YtgoglfojjpibnaaPa2
import Derived.Test.YtgoglfojjpibnaaPa5
import Derived.Test.YtgoglfojjpibnaaPa6
namespace Go.Proofs.Ytgoglfojjpibnaa.Pa
open Go.RowKit Go.Proofs.Ytgoglfojjpibnaa.Hand Go.Proofs.YtgoglfojjpibnaaW.PrintWords Go.Proofs.YtgoglfojjpibnaaW.PrintLast Go.Proofs.YtgoglfojjpibnaaW.PrintMore
attribute [local go_sem] max2_int min2_int max_two min_two max_three min_three max_four min_four   -- for this text's walks alone
set_option linter.unusedVariables false
set_option linter.unusedSimpArgs false

/-! ### tallysticklaw05_ProdBits: function 7 -/
def tallysticklaw05_ProdBits.j0 : Nat → Bool → List Int → Int → Bool → Bool → Option (Bool)
  | 0, _, _, _, _, _ => none
  | k + 1, x7, x9, x10, x11, x43 => if x43 = true then (if x7 = true then (if (x9.length : Int) = 0 then (some x11) else (some false)) else (some false)) else (if x7 = true then (if x11 = true then ((tallysticklaw05_bits.f k x9).bind fun t448 => (if t448 = x10 then (if 0 ≤ (wrap64 ((x9.length : Int) - 1)) then (if (wrap64 ((x9.length : Int) - 1)) < (x9.length : Int) then ((tallystickref01_Len.f k (rd x9 (wrap64 ((x9.length : Int) - 1)))).bind fun t450 => (some (decide (t450 > 0)))) else (none)) else (none)) else ((tallysticklaw05_bits.f k x9).bind fun t451 => (if t451 = (wrap64 (x10 - 1)) then (if 0 ≤ (wrap64 ((x9.length : Int) - 1)) then (if (wrap64 ((x9.length : Int) - 1)) < (x9.length : Int) then ((tallystickref01_Len.f k (rd x9 (wrap64 ((x9.length : Int) - 1)))).bind fun t453 => (some (decide (t453 > 0)))) else (none)) else (none)) else (some false))))) else (some false)) else (some false))
def tallysticklaw05_ProdBits.f (k : Nat) (l0 : List Int) (l1 : List Int) (a2 : Int) : Option (Bool) := (tallysticklaw05_shown.f).bind fun t426 => ((tallysticklaw05_few.f l0 l1).bind fun t427 => (if t427 = true then ((prod_Kara.f l0 l1 a2).bind fun t428 => ((tallysticklaw05_bits.f k l0).bind fun t431 => ((tallysticklaw05_bits.f k l1).bind fun t432 => ((prod_Kara.f l0 (([1] : List Int)) a2).bind fun t436 => ((tallystickref04_Digits.f k l0).bind fun t439 => ((tallystickref04_Words.f k t439).bind fun t442 => ((tallystickref04_Same.f k t436 t442).bind fun t445 => ((tallysticklaw05_bits.f k l0).bind fun t446 => (if t446 = 0 then (tallysticklaw05_ProdBits.j0 k t426 t428 (wrap64 (t431 + t432)) t445 true) else ((tallysticklaw05_bits.f k l1).bind fun t447 => (tallysticklaw05_ProdBits.j0 k t426 t428 (wrap64 (t431 + t432)) t445 (t447 == 0)))))))))))) else (some t426)))
theorem tallysticklaw05_ProdBits.mono_l : ∀ k, (∀ y0 y1 y2 y3 y4, LeO (tallysticklaw05_ProdBits.j0 k y0 y1 y2 y3 y4) (tallysticklaw05_ProdBits.j0 (k + 1) y0 y1 y2 y3 y4))
  | 0 => fun _ _ _ _ _ r h => by simp [tallysticklaw05_ProdBits.j0] at h
  | k + 1 => by
    have ih0 := tallysticklaw05_ProdBits.mono_l k
    · intro y0 y1 y2 y3 y4
      unfold tallysticklaw05_ProdBits.j0
      repeat' first
      | (with_reducible exact ih0 _ _ _ _ _)
      | (with_reducible exact tallysticklaw05_bits.mono _ _)
      | (with_reducible exact tallystickref01_Len.mono _ _)
      | (with_reducible exact tallystickref04_Digits.mono _ _)
      | (with_reducible exact tallystickref04_Same.mono _ _ _)
      | (with_reducible exact tallystickref04_Words.mono _ _)
      | (with_reducible exact LeO.refl _)
      | (with_reducible exact LeO.none _)
      | (with_reducible refine LeO.ite ?_ ?_)
      | (with_reducible refine LeO.bind ?_ (fun _ => ?_))
      | exact ih0 _ _ _ _ _
      | exact tallysticklaw05_bits.mono _ _
      | exact tallystickref01_Len.mono _ _
      | exact tallystickref04_Digits.mono _ _
      | exact tallystickref04_Same.mono _ _ _
      | exact tallystickref04_Words.mono _ _
      | exact LeO.none _
      | refine LeO.ite ?_ ?_
      | refine LeO.bind ?_ (fun _ => ?_)
theorem tallysticklaw05_ProdBits.mono : ∀ a0 a1 a2 k, LeO (tallysticklaw05_ProdBits.f k a0 a1 a2) (tallysticklaw05_ProdBits.f (k + 1) a0 a1 a2) := by
  intro a0 a1 a2 k
  have ih0 := tallysticklaw05_ProdBits.mono_l k
  unfold tallysticklaw05_ProdBits.f
  repeat' first
      | (with_reducible exact ih0 _ _ _ _ _)
      | (with_reducible exact tallysticklaw05_bits.mono _ _)
      | (with_reducible exact tallystickref01_Len.mono _ _)
      | (with_reducible exact tallystickref04_Digits.mono _ _)
      | (with_reducible exact tallystickref04_Same.mono _ _ _)
      | (with_reducible exact tallystickref04_Words.mono _ _)
      | (with_reducible exact LeO.refl _)
      | (with_reducible exact LeO.none _)
      | (with_reducible refine LeO.ite ?_ ?_)
      | (with_reducible refine LeO.bind ?_ (fun _ => ?_))
      | exact ih0 _ _ _ _ _
      | exact tallysticklaw05_bits.mono _ _
      | exact tallystickref01_Len.mono _ _
      | exact tallystickref04_Digits.mono _ _
      | exact tallystickref04_Same.mono _ _ _
      | exact tallystickref04_Words.mono _ _
      | exact LeO.none _
      | refine LeO.ite ?_ ?_
      | refine LeO.bind ?_ (fun _ => ?_)
set_option maxHeartbeats 8000000 in
set_option maxRecDepth 100000 in
theorem tallysticklaw05_ProdBits.calls (k : Nat) (A0 : Option Addr) (c0 : Nat) (l0 : List Int) (A1 : Option Addr) (c1 : Nat) (l1 : List Int) (a2 : Int) (r : Bool) (w : World) (hr0 : Kd.C (Kd.int .u64) w A0 l0.length l0) (hc0 : l0.length ≤ c0) (hr1 : Kd.C (Kd.int .u64) w A1 l1.length l1) (hc1 : l1.length ≤ c1) (hr_ : Aside0 (r = true)) (h : tallysticklaw05_ProdBits.f k l0 l1 a2 = some r) :
    Calls Try.prog 7 #[.slice A0 l0.length c0, .slice A1 l1.length c1, .int .i64 a2] w fun e w' => e = .returned (.bool r) ∧ Below w.heap.size w w' := by
  have HR0 := Aside0.mk hr0
  have HC0 := Aside0.mk hc0
  clear hr0 hc0
  have HR1 := Aside0.mk hr1
  have HC1 := Aside0.mk hc1
  clear hr1 hc1
  have HB := Aside0.mk (Below.refl w.heap.size w)
  have H : ((tallysticklaw05_shown.f).bind fun t426 => ((tallysticklaw05_few.f l0 l1).bind fun t427 => (if t427 = true then ((prod_Kara.f l0 l1 a2).bind fun t428 => ((tallysticklaw05_bits.f k l0).bind fun t431 => ((tallysticklaw05_bits.f k l1).bind fun t432 => ((prod_Kara.f l0 (([1] : List Int)) a2).bind fun t436 => ((tallystickref04_Digits.f k l0).bind fun t439 => ((tallystickref04_Words.f k t439).bind fun t442 => ((tallystickref04_Same.f k t436 t442).bind fun t445 => ((tallysticklaw05_bits.f k l0).bind fun t446 => (if t446 = 0 then (tallysticklaw05_ProdBits.j0 k t426 t428 (wrap64 (t431 + t432)) t445 true) else ((tallysticklaw05_bits.f k l1).bind fun t447 => (tallysticklaw05_ProdBits.j0 k t426 t428 (wrap64 (t431 + t432)) t445 (t447 == 0)))))))))))) else (some t426)))) = some r := h
  clear h
  replace H := Option.bind_eq_some_iff.mp H
  obtain ⟨t426, A40, H⟩ := H
  replace H : ((tallysticklaw05_few.f l0 l1).bind fun t427 => (if t427 = true then ((prod_Kara.f l0 l1 a2).bind fun t428 => ((tallysticklaw05_bits.f k l0).bind fun t431 => ((tallysticklaw05_bits.f k l1).bind fun t432 => ((prod_Kara.f l0 (([1] : List Int)) a2).bind fun t436 => ((tallystickref04_Digits.f k l0).bind fun t439 => ((tallystickref04_Words.f k t439).bind fun t442 => ((tallystickref04_Same.f k t436 t442).bind fun t445 => ((tallysticklaw05_bits.f k l0).bind fun t446 => (if t446 = 0 then (tallysticklaw05_ProdBits.j0 k t426 t428 (wrap64 (t431 + t432)) t445 true) else ((tallysticklaw05_bits.f k l1).bind fun t447 => (tallysticklaw05_ProdBits.j0 k t426 t428 (wrap64 (t431 + t432)) t445 (t447 == 0)))))))))))) else (some t426))) = some r := H
  have A4 := Aside0.mk A40
  clear A40
  replace H := Option.bind_eq_some_iff.mp H
  obtain ⟨t427, A50, H⟩ := H
  replace H : (if t427 = true then ((prod_Kara.f l0 l1 a2).bind fun t428 => ((tallysticklaw05_bits.f k l0).bind fun t431 => ((tallysticklaw05_bits.f k l1).bind fun t432 => ((prod_Kara.f l0 (([1] : List Int)) a2).bind fun t436 => ((tallystickref04_Digits.f k l0).bind fun t439 => ((tallystickref04_Words.f k t439).bind fun t442 => ((tallystickref04_Same.f k t436 t442).bind fun t445 => ((tallysticklaw05_bits.f k l0).bind fun t446 => (if t446 = 0 then (tallysticklaw05_ProdBits.j0 k t426 t428 (wrap64 (t431 + t432)) t445 true) else ((tallysticklaw05_bits.f k l1).bind fun t447 => (tallysticklaw05_ProdBits.j0 k t426 t428 (wrap64 (t431 + t432)) t445 (t447 == 0)))))))))))) else (some t426)) = some r := H
  have A5 := Aside0.mk A50
  clear A50
  by_cases c6 : t427 = true
  · subst c6
    have H1 : ((prod_Kara.f l0 l1 a2).bind fun t428 => ((tallysticklaw05_bits.f k l0).bind fun t431 => ((tallysticklaw05_bits.f k l1).bind fun t432 => ((prod_Kara.f l0 (([1] : List Int)) a2).bind fun t436 => ((tallystickref04_Digits.f k l0).bind fun t439 => ((tallystickref04_Words.f k t439).bind fun t442 => ((tallystickref04_Same.f k t436 t442).bind fun t445 => ((tallysticklaw05_bits.f k l0).bind fun t446 => (if t446 = 0 then (tallysticklaw05_ProdBits.j0 k t426 t428 (wrap64 (t431 + t432)) t445 true) else ((tallysticklaw05_bits.f k l1).bind fun t447 => (tallysticklaw05_ProdBits.j0 k t426 t428 (wrap64 (t431 + t432)) t445 (t447 == 0)))))))))))) = some r := by rw [if_pos rfl] at H; exact H
    clear H
    have H := H1
    clear H1
    replace H := Option.bind_eq_some_iff.mp H
    obtain ⟨t428, A70, H⟩ := H
    replace H : ((tallysticklaw05_bits.f k l0).bind fun t431 => ((tallysticklaw05_bits.f k l1).bind fun t432 => ((prod_Kara.f l0 (([1] : List Int)) a2).bind fun t436 => ((tallystickref04_Digits.f k l0).bind fun t439 => ((tallystickref04_Words.f k t439).bind fun t442 => ((tallystickref04_Same.f k t436 t442).bind fun t445 => ((tallysticklaw05_bits.f k l0).bind fun t446 => (if t446 = 0 then (tallysticklaw05_ProdBits.j0 k t426 t428 (wrap64 (t431 + t432)) t445 true) else ((tallysticklaw05_bits.f k l1).bind fun t447 => (tallysticklaw05_ProdBits.j0 k t426 t428 (wrap64 (t431 + t432)) t445 (t447 == 0))))))))))) = some r := H
    have A7 := Aside0.mk A70
    clear A70
    replace H := Option.bind_eq_some_iff.mp H
    obtain ⟨t431, A80, H⟩ := H
    replace H : ((tallysticklaw05_bits.f k l1).bind fun t432 => ((prod_Kara.f l0 (([1] : List Int)) a2).bind fun t436 => ((tallystickref04_Digits.f k l0).bind fun t439 => ((tallystickref04_Words.f k t439).bind fun t442 => ((tallystickref04_Same.f k t436 t442).bind fun t445 => ((tallysticklaw05_bits.f k l0).bind fun t446 => (if t446 = 0 then (tallysticklaw05_ProdBits.j0 k t426 t428 (wrap64 (t431 + t432)) t445 true) else ((tallysticklaw05_bits.f k l1).bind fun t447 => (tallysticklaw05_ProdBits.j0 k t426 t428 (wrap64 (t431 + t432)) t445 (t447 == 0)))))))))) = some r := H
    have A8 := Aside0.mk A80
    clear A80
    replace H := Option.bind_eq_some_iff.mp H
    obtain ⟨t432, A90, H⟩ := H
    replace H : ((prod_Kara.f l0 (([1] : List Int)) a2).bind fun t436 => ((tallystickref04_Digits.f k l0).bind fun t439 => ((tallystickref04_Words.f k t439).bind fun t442 => ((tallystickref04_Same.f k t436 t442).bind fun t445 => ((tallysticklaw05_bits.f k l0).bind fun t446 => (if t446 = 0 then (tallysticklaw05_ProdBits.j0 k t426 t428 (wrap64 (t431 + t432)) t445 true) else ((tallysticklaw05_bits.f k l1).bind fun t447 => (tallysticklaw05_ProdBits.j0 k t426 t428 (wrap64 (t431 + t432)) t445 (t447 == 0))))))))) = some r := H
    have A9 := Aside0.mk A90
    clear A90
    obtain ⟨y433, hy433⟩ : ∃ y_ : List Int, y_ = (([1] : List Int)) := ⟨_, rfl⟩
    replace H : ((prod_Kara.f l0 y433 a2).bind fun t436 => ((tallystickref04_Digits.f k l0).bind fun t439 => ((tallystickref04_Words.f k t439).bind fun t442 => ((tallystickref04_Same.f k t436 t442).bind fun t445 => ((tallysticklaw05_bits.f k l0).bind fun t446 => (if t446 = 0 then (tallysticklaw05_ProdBits.j0 k t426 t428 (wrap64 (t431 + t432)) t445 true) else ((tallysticklaw05_bits.f k l1).bind fun t447 => (tallysticklaw05_ProdBits.j0 k t426 t428 (wrap64 (t431 + t432)) t445 (t447 == 0))))))))) = some r := by first | (rw [hy433]; with_reducible exact H) | (have H2_ := (Option.bind_some _ _).symm.trans H; rw [hy433]; with_reducible exact H2_) | (have H2_ := (Option.bind_some _ _).symm.trans H; with_reducible exact H2_) | with_reducible exact H | (rw [hy433]; exact H) | exact H
    have Ny433 := Aside0.mk hy433
    clear hy433
    replace H := Option.bind_eq_some_iff.mp H
    obtain ⟨t436, A100, H⟩ := H
    replace H : ((tallystickref04_Digits.f k l0).bind fun t439 => ((tallystickref04_Words.f k t439).bind fun t442 => ((tallystickref04_Same.f k t436 t442).bind fun t445 => ((tallysticklaw05_bits.f k l0).bind fun t446 => (if t446 = 0 then (tallysticklaw05_ProdBits.j0 k t426 t428 (wrap64 (t431 + t432)) t445 true) else ((tallysticklaw05_bits.f k l1).bind fun t447 => (tallysticklaw05_ProdBits.j0 k t426 t428 (wrap64 (t431 + t432)) t445 (t447 == 0)))))))) = some r := H
    have A10 := Aside0.mk A100
    clear A100
    replace H := Option.bind_eq_some_iff.mp H
    obtain ⟨t439, A110, H⟩ := H
    replace H : ((tallystickref04_Words.f k t439).bind fun t442 => ((tallystickref04_Same.f k t436 t442).bind fun t445 => ((tallysticklaw05_bits.f k l0).bind fun t446 => (if t446 = 0 then (tallysticklaw05_ProdBits.j0 k t426 t428 (wrap64 (t431 + t432)) t445 true) else ((tallysticklaw05_bits.f k l1).bind fun t447 => (tallysticklaw05_ProdBits.j0 k t426 t428 (wrap64 (t431 + t432)) t445 (t447 == 0))))))) = some r := H
    have A11 := Aside0.mk A110
    clear A110
    replace H := Option.bind_eq_some_iff.mp H
    obtain ⟨t442, A120, H⟩ := H
    replace H : ((tallystickref04_Same.f k t436 t442).bind fun t445 => ((tallysticklaw05_bits.f k l0).bind fun t446 => (if t446 = 0 then (tallysticklaw05_ProdBits.j0 k t426 t428 (wrap64 (t431 + t432)) t445 true) else ((tallysticklaw05_bits.f k l1).bind fun t447 => (tallysticklaw05_ProdBits.j0 k t426 t428 (wrap64 (t431 + t432)) t445 (t447 == 0)))))) = some r := H
    have A12 := Aside0.mk A120
    clear A120
    replace H := Option.bind_eq_some_iff.mp H
    obtain ⟨t445, A130, H⟩ := H
    replace H : ((tallysticklaw05_bits.f k l0).bind fun t446 => (if t446 = 0 then (tallysticklaw05_ProdBits.j0 k t426 t428 (wrap64 (t431 + t432)) t445 true) else ((tallysticklaw05_bits.f k l1).bind fun t447 => (tallysticklaw05_ProdBits.j0 k t426 t428 (wrap64 (t431 + t432)) t445 (t447 == 0))))) = some r := H
    have A13 := Aside0.mk A130
    clear A130
    have HC14 := Aside0.mk H
    clear H
    go_enter Try.func7, Try.ntmps7
    go_upto_region 8 with (first | ((with_reducible refine gate_callee (f := 10) rfl ?_); refine goesL_ (some 12) rfl rfl Try.func10 (by kernel_rfl) rfl #[] rfl (by (try simp only [List.map_toArray, List.map_cons, List.map_nil]); first | done | rfl | (simp only [List.length_drop, List.length_take]; rfl)) ?_; (with_reducible refine (tallysticklaw05_shown.calls  t426 _ A4.out).mono ?_); rintro e w15 ⟨rfl, hb⟩; clear A4; refine ⟨_, rfl, ?_⟩; have n0_ := Aside0.mk (below_step (by repeat (first | (with_reducible first | exact HB.out | apply below_alloc | apply pw_below_drewN | apply below_drew1) | exact HB.out)) hb); clear HB; have HB := n0_; clear n0_; (try clear hb); (try clear hb2); (try clear hk); (try clear hi)) | ((with_reducible refine gate_callee (f := 11) rfl ?_); refine goesL_ (some 15) rfl rfl Try.func11 (by kernel_rfl) rfl #[.slice A0 l0.length c0, .slice A1 l1.length c1] rfl (by (try simp only [List.map_toArray, List.map_cons, List.map_nil]); first | done | rfl | (simp only [List.length_drop, List.length_take]; rfl)) ?_; (with_reducible refine (tallysticklaw05_few.calls _ _ l0 _ _ l1 true _ ?side1 ?side2 ?side3 ?side4 A5.out).mono ?_); (case side1 => repeat (first | exact (Kd.C_below HR0.out HB.out) | (with_reducible refine Kd.C_alloc ?_ _) | (with_reducible refine Kd.C_drewN ?_ _) | (with_reducible refine Kd.C_drew ?_))); (case side2 => exact HC0.out); (case side3 => repeat (first | exact (Kd.C_below HR1.out HB.out) | (with_reducible refine Kd.C_alloc ?_ _) | (with_reducible refine Kd.C_drewN ?_ _) | (with_reducible refine Kd.C_drew ?_))); (case side4 => exact HC1.out); rintro e w' ⟨rfl, ⟨nd, rfl⟩⟩; refine ⟨_, rfl, ?_⟩) | ((with_reducible refine gate_callee (f := 25) rfl ?_); refine goesL_ (some 22) rfl rfl Try.func25 (by kernel_rfl) rfl #[.slice A0 l0.length c0, .slice A1 l1.length c1, .int .i64 a2] rfl (by (try simp only [List.map_toArray, List.map_cons, List.map_nil]); first | done | rfl | (simp only [List.length_drop, List.length_take]; rfl)) ?_; (with_reducible refine (prod_Kara.calls _ _ l0 _ _ l1 a2 t428 _ ?side1 ?side2 ?side3 ?side4 A7.out).mono ?_); (case side1 => repeat (first | exact (Kd.C_below HR0.out (by repeat (first | (with_reducible first | exact HB.out | apply below_alloc | apply pw_below_drewN | apply below_drew1) | exact HB.out))) | (with_reducible refine Kd.C_alloc ?_ _) | (with_reducible refine Kd.C_drewN ?_ _) | (with_reducible refine Kd.C_drew ?_))); (case side2 => exact HC0.out); (case side3 => repeat (first | exact (Kd.C_below HR1.out (by repeat (first | (with_reducible first | exact HB.out | apply below_alloc | apply pw_below_drewN | apply below_drew1) | exact HB.out))) | (with_reducible refine Kd.C_alloc ?_ _) | (with_reducible refine Kd.C_drewN ?_ _) | (with_reducible refine Kd.C_drew ?_))); (case side4 => exact HC1.out); rintro e w16 ⟨v429, rfl, ho0, hb⟩; clear A7; refine ⟨_, rfl, ?_⟩; have n0_ := Aside0.mk (Kd.V_lower (Kd.V_mono (ok' := fun k_ => True) ho0 (fun k_ hk_ => trivial)) (below_size (by repeat (first | (with_reducible first | exact HB.out | apply below_alloc | apply pw_below_drewN | apply below_drew1) | exact HB.out)))); have n1_ := Aside0.mk (below_step (by repeat (first | (with_reducible first | exact HB.out | apply below_alloc | apply pw_below_drewN | apply below_drew1) | exact HB.out)) hb); clear HB; have HO430 := n0_; have HB := n1_; clear n0_ n1_; (try clear hb); (try clear hb2); (try clear hk); (try clear hi); (try clear ho0)) | ((with_reducible refine gate_callee (f := 26) rfl ?_); refine goesL_ (some 24) rfl rfl Try.func26 (by kernel_rfl) rfl #[.slice A0 l0.length c0] rfl (by (try simp only [List.map_toArray, List.map_cons, List.map_nil]); first | done | rfl | (simp only [List.length_drop, List.length_take]; rfl)) ?_; (with_reducible refine (tallysticklaw05_bits.calls k _ _ l0 t431 _ ?side1 ?side2 A8.out).mono ?_); (case side1 => repeat (first | exact (Kd.C_below HR0.out HB.out) | (with_reducible refine Kd.C_alloc ?_ _) | (with_reducible refine Kd.C_drewN ?_ _) | (with_reducible refine Kd.C_drew ?_))); (case side2 => exact HC0.out); rintro e w17 ⟨rfl, hb⟩; clear A8; refine ⟨_, rfl, ?_⟩; have n0_ := Aside0.mk (Kd.V_below (by (with_reducible repeat (first | apply Kd.V_alloc | apply Kd.V_drewN | apply Kd.V_drew)); exact HO430.out) hb); have n1_ := Aside0.mk (below_step (by repeat (first | (with_reducible first | exact HB.out | apply below_alloc | apply pw_below_drewN | apply below_drew1) | exact HB.out)) hb); clear HO430; clear HB; have HO430 := n0_; have HB := n1_; clear n0_ n1_; (try clear hb); (try clear hb2); (try clear hk); (try clear hi)) | ((with_reducible refine gate_callee (f := 26) rfl ?_); refine goesL_ (some 26) rfl rfl Try.func26 (by kernel_rfl) rfl #[.slice A1 l1.length c1] rfl (by (try simp only [List.map_toArray, List.map_cons, List.map_nil]); first | done | rfl | (simp only [List.length_drop, List.length_take]; rfl)) ?_; (with_reducible refine (tallysticklaw05_bits.calls k _ _ l1 t432 _ ?side1 ?side2 A9.out).mono ?_); (case side1 => repeat (first | exact (Kd.C_below HR1.out HB.out) | (with_reducible refine Kd.C_alloc ?_ _) | (with_reducible refine Kd.C_drewN ?_ _) | (with_reducible refine Kd.C_drew ?_))); (case side2 => exact HC1.out); rintro e w18 ⟨rfl, hb⟩; clear A9; refine ⟨_, rfl, ?_⟩; have n0_ := Aside0.mk (Kd.V_below (by (with_reducible repeat (first | apply Kd.V_alloc | apply Kd.V_drewN | apply Kd.V_drew)); exact HO430.out) hb); have n1_ := Aside0.mk (below_step (by repeat (first | (with_reducible first | exact HB.out | apply below_alloc | apply pw_below_drewN | apply below_drew1) | exact HB.out)) hb); clear HO430; clear HB; have HO430 := n0_; have HB := n1_; clear n0_ n1_; (try clear hb); (try clear hb2); (try clear hk); (try clear hi)) | ((with_reducible refine gate_dst (N := 29) rfl ?_); (try (refine gate_guard (by rfl) ?_; dsimp only)); refine Kd.R_lit (Kd.int .u64) _ 38 ?hg (N := 29) ?hd (xs := ([1] : List Int)) (inner := [.int .u64 1]) (ok := fun _ => True) (okp := fun _ => True) ?hr ?hp (fun _ hk => hk) trivial (Below.refl _ _) (Nat.le_refl _) (by simp) ?_; (case hd => rfl); (case hg => rfl); (case hr => first | (go_simp; done) | (go_simp; rfl)); (case hp => exact (Reps.one (show Kd.M (Kd.int .u64) _ _ _ 1 [.int .u64 1] from rfl) (Reps.none _ _))); intro v434 w19 ho20 hb hg_ hnew_; clear hg_ hnew_; (first | rw [← Ny433.out] at ho20 | (simp only [Int.reduceToNat] at ho20; rw [← Ny433.out] at ho20)); have n0_ := Aside0.mk (Kd.V_elder' (by (with_reducible repeat (first | apply Kd.V_alloc | apply Kd.V_drewN | apply Kd.V_drew)); exact HO430.out) (Kd.R_base ho20) hb); have n1_ := Aside0.mk (Kd.R_lower ho20 (below_size (by repeat (first | (with_reducible first | exact HB.out | apply below_alloc | apply pw_below_drewN | apply below_drew1) | exact HB.out)))); have n2_ := Aside0.mk (below_step (by repeat (first | (with_reducible first | exact HB.out | apply below_alloc | apply pw_below_drewN | apply below_drew1) | exact HB.out)) hb); clear HO430; clear HB; have HO430 := n0_; have HO435 := n1_; have HB := n2_; clear n0_ n1_ n2_; clear hb ho20; obtain ⟨Ao21, co21, eo21⟩ := Kd.R_slice HO435.out; subst eo21) | ((with_reducible refine gate_callee (f := 25) rfl ?_); refine goesL_ (some 31) rfl rfl Try.func25 (by kernel_rfl) rfl #[.slice A0 l0.length c0, .slice Ao21 y433.length co21, .int .i64 a2] rfl (by (try simp only [List.map_toArray, List.map_cons, List.map_nil]); first | done | rfl | (simp only [List.length_drop, List.length_take]; rfl)) ?_; (with_reducible refine (prod_Kara.calls _ _ l0 _ _ y433 a2 t436 _ ?side1 ?side2 ?side3 ?side4 A10.out).mono ?_); (case side1 => repeat (first | exact (Kd.C_below HR0.out HB.out) | (with_reducible refine Kd.C_alloc ?_ _) | (with_reducible refine Kd.C_drewN ?_ _) | (with_reducible refine Kd.C_drew ?_))); (case side2 => exact HC0.out); (case side3 => repeat (first | exact (Kd.R_reads' HO435.out).2.2 | (with_reducible refine Kd.C_alloc ?_ _) | (with_reducible refine Kd.C_drewN ?_ _) | (with_reducible refine Kd.C_drew ?_))); (case side4 => exact (Kd.R_reads' HO435.out).2.1); rintro e w22 ⟨v437, rfl, ho0, hb⟩; clear A10; refine ⟨_, rfl, ?_⟩; have n0_ := Aside0.mk (Kd.V_below (by (with_reducible repeat (first | apply Kd.V_alloc | apply Kd.V_drewN | apply Kd.V_drew)); exact HO430.out) hb); have n1_ := Aside0.mk (Kd.R_below (by (with_reducible repeat (first | apply Kd.R_alloc | apply Kd.R_drewN | apply Kd.R_drew)); exact HO435.out) hb); have n2_ := Aside0.mk (Kd.V_lower (Kd.V_mono (ok' := fun k_ => some k_ ≠ (.slice Ao21 y433.length co21 : Value).ownBlock) ho0 (fun k_ hk_ => (Kd.fresh' (Kd.R_lt (by (with_reducible repeat (first | apply Kd.R_alloc | apply Kd.R_drewN | apply Kd.R_drew)); exact HO435.out)) k_ hk_))) (below_size (by repeat (first | (with_reducible first | exact HB.out | apply below_alloc | apply pw_below_drewN | apply below_drew1) | exact HB.out)))); have n3_ := Aside0.mk (below_step (by repeat (first | (with_reducible first | exact HB.out | apply below_alloc | apply pw_below_drewN | apply below_drew1) | exact HB.out)) hb); clear HO430; clear HO435; clear HB; have HO430 := n0_; have HO435 := n1_; have HO438 := n2_; have HB := n3_; clear n0_ n1_ n2_ n3_; (try clear hb); (try clear hb2); (try clear hk); (try clear hi); (try clear ho0)) | ((with_reducible refine gate_callee (f := 14) rfl ?_); refine goesL_ (some 33) rfl rfl Try.func14 (by kernel_rfl) rfl #[.slice A0 l0.length c0] rfl (by (try simp only [List.map_toArray, List.map_cons, List.map_nil]); first | done | rfl | (simp only [List.length_drop, List.length_take]; rfl)) ?_; (with_reducible refine (tallystickref04_Digits.calls k _ _ l0 t439 _ ?side1 ?side2 A11.out).mono ?_); (case side1 => repeat (first | exact (Kd.C_below HR0.out HB.out) | (with_reducible refine Kd.C_alloc ?_ _) | (with_reducible refine Kd.C_drewN ?_ _) | (with_reducible refine Kd.C_drew ?_))); (case side2 => exact HC0.out); rintro e w23 ⟨v440, rfl, ho0, hb⟩; clear A11; refine ⟨_, rfl, ?_⟩; have n0_ := Aside0.mk (Kd.V_elder' (by (with_reducible repeat (first | apply Kd.V_alloc | apply Kd.V_drewN | apply Kd.V_drew)); exact HO430.out) (Kd.R_base ho0) hb); have n1_ := Aside0.mk (Kd.R_below (by (with_reducible repeat (first | apply Kd.R_alloc | apply Kd.R_drewN | apply Kd.R_drew)); exact HO435.out) hb); have n2_ := Aside0.mk (Kd.V_elder' (by (with_reducible repeat (first | apply Kd.V_alloc | apply Kd.V_drewN | apply Kd.V_drew)); exact HO438.out) (Kd.R_base ho0) hb); have n3_ := Aside0.mk (Kd.R_lower ho0 (below_size (by repeat (first | (with_reducible first | exact HB.out | apply below_alloc | apply pw_below_drewN | apply below_drew1) | exact HB.out)))); have n4_ := Aside0.mk (below_step (by repeat (first | (with_reducible first | exact HB.out | apply below_alloc | apply pw_below_drewN | apply below_drew1) | exact HB.out)) hb); clear HO430; clear HO435; clear HO438; clear HB; have HO430 := n0_; have HO435 := n1_; have HO438 := n2_; have HO441 := n3_; have HB := n4_; clear n0_ n1_ n2_ n3_ n4_; (try clear hb); (try clear hb2); (try clear hk); (try clear hi); (try clear ho0); obtain ⟨Ao24, co24, eo24⟩ := Kd.R_slice HO441.out; subst eo24) | ((with_reducible refine gate_callee (f := 12) rfl ?_); refine goesL_ (some 34) rfl rfl Try.func12 (by kernel_rfl) rfl #[.slice Ao24 t439.length co24] rfl (by (try simp only [List.map_toArray, List.map_cons, List.map_nil]); first | done | rfl | (simp only [List.length_drop, List.length_take]; rfl)) ?_; (with_reducible refine (tallystickref04_Words.calls k _ _ t439 t442 _ ?side1 ?side2 A12.out).mono ?_); (case side1 => repeat (first | exact (Kd.R_reads' HO441.out).2.2 | (with_reducible refine Kd.C_alloc ?_ _) | (with_reducible refine Kd.C_drewN ?_ _) | (with_reducible refine Kd.C_drew ?_))); (case side2 => exact (Kd.R_reads' HO441.out).2.1); rintro e w25 ⟨v443, rfl, ho0, hb⟩; clear A12; refine ⟨_, rfl, ?_⟩; have n0_ := Aside0.mk (Kd.V_elder' (by (with_reducible repeat (first | apply Kd.V_alloc | apply Kd.V_drewN | apply Kd.V_drew)); exact HO430.out) (Kd.R_base ho0) hb); have n1_ := Aside0.mk (Kd.R_elder' (by (with_reducible repeat (first | apply Kd.R_alloc | apply Kd.R_drewN | apply Kd.R_drew)); exact HO435.out) (Kd.R_base ho0) hb); have n2_ := Aside0.mk (Kd.V_elder' (by (with_reducible repeat (first | apply Kd.V_alloc | apply Kd.V_drewN | apply Kd.V_drew)); exact HO438.out) (Kd.R_base ho0) hb); have n3_ := Aside0.mk (Kd.R_below (by (with_reducible repeat (first | apply Kd.R_alloc | apply Kd.R_drewN | apply Kd.R_drew)); exact HO441.out) hb); have n4_ := Aside0.mk (Kd.R_lower (Kd.R_new' ho0 (Kd.R_lt (by (with_reducible repeat (first | apply Kd.R_alloc | apply Kd.R_drewN | apply Kd.R_drew)); exact HO435.out))) (below_size (by repeat (first | (with_reducible first | exact HB.out | apply below_alloc | apply pw_below_drewN | apply below_drew1) | exact HB.out)))); have n5_ := Aside0.mk (below_step (by repeat (first | (with_reducible first | exact HB.out | apply below_alloc | apply pw_below_drewN | apply below_drew1) | exact HB.out)) hb); clear HO430; clear HO435; clear HO438; clear HO441; clear HB; have HO430 := n0_; have HO435 := n1_; have HO438 := n2_; have HO441 := n3_; have HO444 := n4_; have HB := n5_; clear n0_ n1_ n2_ n3_ n4_ n5_; (try clear hb); (try clear hb2); (try clear hk); (try clear hi); (try clear ho0); obtain ⟨Ao26, co26, eo26⟩ := Kd.V_slice HO438.out; subst eo26; obtain ⟨Ao27, co27, eo27⟩ := Kd.R_slice HO444.out; subst eo27) | ((with_reducible refine gate_callee (f := 16) rfl ?_); refine goesL_ (some 35) rfl rfl Try.func16 (by kernel_rfl) rfl #[.slice Ao26 t436.length co26, .slice Ao27 t442.length co27] rfl (by (try simp only [List.map_toArray, List.map_cons, List.map_nil]); first | done | rfl | (simp only [List.length_drop, List.length_take]; rfl)) ?_; (with_reducible refine (tallystickref04_Same.calls k _ _ t436 _ _ t442 t445 _ ?side1 ?side2 ?side3 ?side4 A13.out).mono ?_); (case side1 => repeat (first | exact (Kd.V_reads' HO438.out).2.2 | (with_reducible refine Kd.C_alloc ?_ _) | (with_reducible refine Kd.C_drewN ?_ _) | (with_reducible refine Kd.C_drew ?_))); (case side2 => exact (Kd.V_reads' HO438.out).2.1); (case side3 => repeat (first | exact (Kd.R_reads' HO444.out).2.2 | (with_reducible refine Kd.C_alloc ?_ _) | (with_reducible refine Kd.C_drewN ?_ _) | (with_reducible refine Kd.C_drew ?_))); (case side4 => exact (Kd.R_reads' HO444.out).2.1); rintro e w' ⟨rfl, ⟨nd, rfl⟩⟩; refine ⟨_, rfl, ?_⟩))
    (try simp only [Act.put, List.setIfInBounds_toArray, List.set_cons_zero, List.set_cons_succ])
    go_cut [43] (fun v43 wc => ∃ (kq : Nat) (x43_13 : Bool), v43 = .bool x43_13 ∧ Aside0 (tallysticklaw05_ProdBits.j0 kq t426 t428 (wrap64 (t431 + t432)) t445 x43_13 = some r) ∧ Aside0 (kq ≤ k) ∧ Aside0 (Kd.V (Kd.int .u64) 38 wc w.heap.size (fun _ => True) v429 t428) ∧ Aside0 (Below w.heap.size w wc))
    case first =>
      have H := HC14.out
      clear HC14
      replace H := Option.bind_eq_some_iff.mp H
      obtain ⟨t446, A280, H⟩ := H
      replace H : (if t446 = 0 then (tallysticklaw05_ProdBits.j0 k t426 t428 (wrap64 (t431 + t432)) t445 true) else ((tallysticklaw05_bits.f k l1).bind fun t447 => (tallysticklaw05_ProdBits.j0 k t426 t428 (wrap64 (t431 + t432)) t445 (t447 == 0)))) = some r := H
      have A28 := Aside0.mk A280
      clear A280
      by_cases c29 : t446 = 0
      · rw [if_pos c29] at H
        have c29b0 : (t446 == 0) = true := beq_iff_eq.mpr c29
        have c29b1 : (t446 != 0) = false := bne_eq_false_iff_eq.mpr c29
        clear c29
        (first | rw [c29b0] | (simp only [i64_w, i32_w]; rw [c29b0]) | skip)
        have H' := Aside0.mk H
        clear H
        go_wp2_with (first | ((with_reducible refine gate_callee (f := 26) rfl ?_); refine goesL_ (some 37) rfl rfl Try.func26 (by kernel_rfl) rfl #[.slice A0 l0.length c0] rfl (by (try simp only [List.map_toArray, List.map_cons, List.map_nil]); first | done | rfl | (simp only [List.length_drop, List.length_take]; rfl)) ?_; (with_reducible refine (tallysticklaw05_bits.calls k _ _ l0 t446 _ ?side1 ?side2 A28.out).mono ?_); (case side1 => repeat (first | exact (Kd.C_below HR0.out HB.out) | (with_reducible refine Kd.C_alloc ?_ _) | (with_reducible refine Kd.C_drewN ?_ _) | (with_reducible refine Kd.C_drew ?_))); (case side2 => exact HC0.out); rintro e w30 ⟨rfl, hb⟩; clear A28; refine ⟨_, rfl, ?_⟩; have n0_ := Aside0.mk (Kd.V_below (by (with_reducible repeat (first | apply Kd.V_alloc | apply Kd.V_drewN | apply Kd.V_drew)); exact HO430.out) hb); have n1_ := Aside0.mk (Kd.R_below (by (with_reducible repeat (first | apply Kd.R_alloc | apply Kd.R_drewN | apply Kd.R_drew)); exact HO435.out) hb); have n2_ := Aside0.mk (Kd.V_below (by (with_reducible repeat (first | apply Kd.V_alloc | apply Kd.V_drewN | apply Kd.V_drew)); exact HO438.out) hb); have n3_ := Aside0.mk (Kd.R_below (by (with_reducible repeat (first | apply Kd.R_alloc | apply Kd.R_drewN | apply Kd.R_drew)); exact HO441.out) hb); have n4_ := Aside0.mk (Kd.R_below (by (with_reducible repeat (first | apply Kd.R_alloc | apply Kd.R_drewN | apply Kd.R_drew)); exact HO444.out) hb); have n5_ := Aside0.mk (below_step (by repeat (first | (with_reducible first | exact HB.out | apply below_alloc | apply pw_below_drewN | apply below_drew1) | exact HB.out)) hb); clear HO430; clear HO435; clear HO438; clear HO441; clear HO444; clear HB; have HO430 := n0_; have HO435 := n1_; have HO438 := n2_; have HO441 := n3_; have HO444 := n4_; have HB := n5_; clear n0_ n1_ n2_ n3_ n4_ n5_; (try clear hb); (try clear hb2); (try clear hk); (try clear hi)))
        go_meet
        case rel => exact ⟨_, (true), (by first | rfl | (simp; done) | (simp [*]; done)), H', ⟨by first | omega | exact Nat.le_refl _⟩, ⟨by (with_reducible repeat (first | apply Kd.V_alloc | apply Kd.V_drewN | apply Kd.V_drew)); exact Kd.V_mono HO430.out (fun _ hk => trivial)⟩, ⟨by repeat (first | (with_reducible first | exact HB.out | apply below_alloc | apply pw_below_drewN | apply below_drew1) | exact HB.out)⟩⟩
      · rw [if_neg c29] at H
        have c29b0 : (t446 == 0) = false := beq_eq_false_iff_ne.mpr c29
        have c29b1 : (t446 != 0) = true := bne_iff_ne.mpr c29
        (first | rw [c29b0] | (simp only [i64_w, i32_w]; rw [c29b0]) | skip)
        replace H := Option.bind_eq_some_iff.mp H
        obtain ⟨t447, A310, H⟩ := H
        replace H : (tallysticklaw05_ProdBits.j0 k t426 t428 (wrap64 (t431 + t432)) t445 (t447 == 0)) = some r := H
        have A31 := Aside0.mk A310
        clear A310
        have H' := Aside0.mk H
        clear H
        go_wp2_with (first | ((with_reducible refine gate_callee (f := 26) rfl ?_); refine goesL_ (some 37) rfl rfl Try.func26 (by kernel_rfl) rfl #[.slice A0 l0.length c0] rfl (by (try simp only [List.map_toArray, List.map_cons, List.map_nil]); first | done | rfl | (simp only [List.length_drop, List.length_take]; rfl)) ?_; (with_reducible refine (tallysticklaw05_bits.calls k _ _ l0 t446 _ ?side1 ?side2 A28.out).mono ?_); (case side1 => repeat (first | exact (Kd.C_below HR0.out HB.out) | (with_reducible refine Kd.C_alloc ?_ _) | (with_reducible refine Kd.C_drewN ?_ _) | (with_reducible refine Kd.C_drew ?_))); (case side2 => exact HC0.out); rintro e w32 ⟨rfl, hb⟩; clear A28; refine ⟨_, rfl, ?_⟩; have n0_ := Aside0.mk (Kd.V_below (by (with_reducible repeat (first | apply Kd.V_alloc | apply Kd.V_drewN | apply Kd.V_drew)); exact HO430.out) hb); have n1_ := Aside0.mk (Kd.R_below (by (with_reducible repeat (first | apply Kd.R_alloc | apply Kd.R_drewN | apply Kd.R_drew)); exact HO435.out) hb); have n2_ := Aside0.mk (Kd.V_below (by (with_reducible repeat (first | apply Kd.V_alloc | apply Kd.V_drewN | apply Kd.V_drew)); exact HO438.out) hb); have n3_ := Aside0.mk (Kd.R_below (by (with_reducible repeat (first | apply Kd.R_alloc | apply Kd.R_drewN | apply Kd.R_drew)); exact HO441.out) hb); have n4_ := Aside0.mk (Kd.R_below (by (with_reducible repeat (first | apply Kd.R_alloc | apply Kd.R_drewN | apply Kd.R_drew)); exact HO444.out) hb); have n5_ := Aside0.mk (below_step (by repeat (first | (with_reducible first | exact HB.out | apply below_alloc | apply pw_below_drewN | apply below_drew1) | exact HB.out)) hb); clear HO430; clear HO435; clear HO438; clear HO441; clear HO444; clear HB; have HO430 := n0_; have HO435 := n1_; have HO438 := n2_; have HO441 := n3_; have HO444 := n4_; have HB := n5_; clear n0_ n1_ n2_ n3_ n4_ n5_; (try clear hb); (try clear hb2); (try clear hk); (try clear hi)) | (go_at_call 26; (with_reducible refine (tallysticklaw05_bits.calls k _ _ l1 t447 _ ?side1 ?side2 A31.out).mono ?_); (case side1 => repeat (first | exact (Kd.C_below HR1.out HB.out) | (with_reducible refine Kd.C_alloc ?_ _) | (with_reducible refine Kd.C_drewN ?_ _) | (with_reducible refine Kd.C_drew ?_))); (case side2 => exact HC1.out); rintro e w33 ⟨rfl, hb⟩; clear A31; have n0_ := Aside0.mk (Kd.V_below (by (with_reducible repeat (first | apply Kd.V_alloc | apply Kd.V_drewN | apply Kd.V_drew)); exact HO430.out) hb); have n1_ := Aside0.mk (Kd.R_below (by (with_reducible repeat (first | apply Kd.R_alloc | apply Kd.R_drewN | apply Kd.R_drew)); exact HO435.out) hb); have n2_ := Aside0.mk (Kd.V_below (by (with_reducible repeat (first | apply Kd.V_alloc | apply Kd.V_drewN | apply Kd.V_drew)); exact HO438.out) hb); have n3_ := Aside0.mk (Kd.R_below (by (with_reducible repeat (first | apply Kd.R_alloc | apply Kd.R_drewN | apply Kd.R_drew)); exact HO441.out) hb); have n4_ := Aside0.mk (Kd.R_below (by (with_reducible repeat (first | apply Kd.R_alloc | apply Kd.R_drewN | apply Kd.R_drew)); exact HO444.out) hb); have n5_ := Aside0.mk (below_step (by repeat (first | (with_reducible first | exact HB.out | apply below_alloc | apply pw_below_drewN | apply below_drew1) | exact HB.out)) hb); clear HO430; clear HO435; clear HO438; clear HO441; clear HO444; clear HB; have HO430 := n0_; have HO435 := n1_; have HO438 := n2_; have HO441 := n3_; have HO444 := n4_; have HB := n5_; clear n0_ n1_ n2_ n3_ n4_ n5_; (try clear hb); (try clear hb2); (try clear hk); (try clear hi)))
        go_meet
        case rel => exact ⟨_, ((t447 == 0)), (by first | rfl | (simp; done) | (simp [*]; done)), H', ⟨by first | omega | exact Nat.le_refl _⟩, ⟨by (with_reducible repeat (first | apply Kd.V_alloc | apply Kd.V_drewN | apply Kd.V_drew)); exact Kd.V_mono HO430.out (fun _ hk => trivial)⟩, ⟨by repeat (first | (with_reducible first | exact HB.out | apply below_alloc | apply pw_below_drewN | apply below_drew1) | exact HB.out)⟩⟩
    case rest =>
      clear HC14
      try clear c1
      try clear c2
      try clear p2
      try clear c6
      try clear p6
      try clear c7
      try clear c10
      try clear c11
      try clear c12
      try clear c14
      try clear c16
      try clear c25
      try clear c26
      try clear c29
      try clear c29b0
      try clear c29b1
      obtain ⟨kq, x43_13, rfl, HA, HJ13, HO_9, HB⟩ := hcut
      cases kq with
      | zero => exact absurd HA.out (by simp [tallysticklaw05_ProdBits.j0])
      | succ kj13 =>
        have H := HA.out
        clear HA
        simp only [tallysticklaw05_ProdBits.j0] at H
        by_cases c34 : x43_13 = true
        · subst c34
          have H1 : (if t426 = true then (if (t428.length : Int) = 0 then (some t445) else (some false)) else (some false)) = some r := by rw [if_pos rfl] at H; exact H
          clear H
          have H := H1
          clear H1
          by_cases c35 : t426 = true
          · subst c35
            have H1 : (if (t428.length : Int) = 0 then (some t445) else (some false)) = some r := by rw [if_pos rfl] at H; exact H
            clear H
            have H := H1
            clear H1
            by_cases c36 : (t428.length : Int) = 0
            · rw [if_pos c36] at H
              have c36b0 : ((t428.length : Int) == 0) = true := beq_iff_eq.mpr c36
              have c36b1 : ((t428.length : Int) != 0) = false := bne_eq_false_iff_eq.mpr c36
              clear c36
              obtain rfl := Option.some.inj H
              obtain ⟨Ao37, co37, eo37⟩ := Kd.V_slice HO_9.out
              subst eo37
              go_wp2
              go_ret
              exact ⟨by first | rfl | (simp [errW_none, errW_some] <;> rfl) | (simp [*, errW_none, errW_some] <;> rfl), by repeat (first | (with_reducible first | exact HB.out | apply below_alloc | apply pw_below_drewN | apply below_drew1) | exact HB.out)⟩
            · rw [if_neg c36] at H
              have c36b0 : ((t428.length : Int) == 0) = false := beq_eq_false_iff_ne.mpr c36
              have c36b1 : ((t428.length : Int) != 0) = true := bne_iff_ne.mpr c36
              have c36b2 : ¬ (t428 = []) := fun h_ => c36 (by rw [h_]; rfl)
              obtain rfl := Option.some.inj H
              exact absurd hr_.out (by simp)
          · replace c35 := Bool.eq_false_iff.mpr c35
            subst c35
            have H1 : (some false) = some r := by rw [if_neg (show ¬ (false = true) by decide)] at H; exact H
            clear H
            have H := H1
            clear H1
            obtain rfl := Option.some.inj H
            exact absurd hr_.out (by simp)
        · replace c34 := Bool.eq_false_iff.mpr c34
          subst c34
          have H1 : (if t426 = true then (if t445 = true then ((tallysticklaw05_bits.f kj13 t428).bind fun t448 => (if t448 = (wrap64 (t431 + t432)) then (if 0 ≤ (wrap64 ((t428.length : Int) - 1)) then (if (wrap64 ((t428.length : Int) - 1)) < (t428.length : Int) then ((tallystickref01_Len.f kj13 (rd t428 (wrap64 ((t428.length : Int) - 1)))).bind fun t450 => (some (decide (t450 > 0)))) else (none)) else (none)) else ((tallysticklaw05_bits.f kj13 t428).bind fun t451 => (if t451 = (wrap64 ((wrap64 (t431 + t432)) - 1)) then (if 0 ≤ (wrap64 ((t428.length : Int) - 1)) then (if (wrap64 ((t428.length : Int) - 1)) < (t428.length : Int) then ((tallystickref01_Len.f kj13 (rd t428 (wrap64 ((t428.length : Int) - 1)))).bind fun t453 => (some (decide (t453 > 0)))) else (none)) else (none)) else (some false))))) else (some false)) else (some false)) = some r := by rw [if_neg (show ¬ (false = true) by decide)] at H; exact H
          clear H
          have H := H1
          clear H1
          by_cases c38 : t426 = true
          · subst c38
            have H1 : (if t445 = true then ((tallysticklaw05_bits.f kj13 t428).bind fun t448 => (if t448 = (wrap64 (t431 + t432)) then (if 0 ≤ (wrap64 ((t428.length : Int) - 1)) then (if (wrap64 ((t428.length : Int) - 1)) < (t428.length : Int) then ((tallystickref01_Len.f kj13 (rd t428 (wrap64 ((t428.length : Int) - 1)))).bind fun t450 => (some (decide (t450 > 0)))) else (none)) else (none)) else ((tallysticklaw05_bits.f kj13 t428).bind fun t451 => (if t451 = (wrap64 ((wrap64 (t431 + t432)) - 1)) then (if 0 ≤ (wrap64 ((t428.length : Int) - 1)) then (if (wrap64 ((t428.length : Int) - 1)) < (t428.length : Int) then ((tallystickref01_Len.f kj13 (rd t428 (wrap64 ((t428.length : Int) - 1)))).bind fun t453 => (some (decide (t453 > 0)))) else (none)) else (none)) else (some false))))) else (some false)) = some r := by rw [if_pos rfl] at H; exact H
            clear H
            have H := H1
            clear H1
            by_cases c39 : t445 = true
            · subst c39
              have H1 : ((tallysticklaw05_bits.f kj13 t428).bind fun t448 => (if t448 = (wrap64 (t431 + t432)) then (if 0 ≤ (wrap64 ((t428.length : Int) - 1)) then (if (wrap64 ((t428.length : Int) - 1)) < (t428.length : Int) then ((tallystickref01_Len.f kj13 (rd t428 (wrap64 ((t428.length : Int) - 1)))).bind fun t450 => (some (decide (t450 > 0)))) else (none)) else (none)) else ((tallysticklaw05_bits.f kj13 t428).bind fun t451 => (if t451 = (wrap64 ((wrap64 (t431 + t432)) - 1)) then (if 0 ≤ (wrap64 ((t428.length : Int) - 1)) then (if (wrap64 ((t428.length : Int) - 1)) < (t428.length : Int) then ((tallystickref01_Len.f kj13 (rd t428 (wrap64 ((t428.length : Int) - 1)))).bind fun t453 => (some (decide (t453 > 0)))) else (none)) else (none)) else (some false))))) = some r := by rw [if_pos rfl] at H; exact H
              clear H
              have H := H1
              clear H1
              replace H := Option.bind_eq_some_iff.mp H
              obtain ⟨t448, A400, H⟩ := H
              replace H : (if t448 = (wrap64 (t431 + t432)) then (if 0 ≤ (wrap64 ((t428.length : Int) - 1)) then (if (wrap64 ((t428.length : Int) - 1)) < (t428.length : Int) then ((tallystickref01_Len.f kj13 (rd t428 (wrap64 ((t428.length : Int) - 1)))).bind fun t450 => (some (decide (t450 > 0)))) else (none)) else (none)) else ((tallysticklaw05_bits.f kj13 t428).bind fun t451 => (if t451 = (wrap64 ((wrap64 (t431 + t432)) - 1)) then (if 0 ≤ (wrap64 ((t428.length : Int) - 1)) then (if (wrap64 ((t428.length : Int) - 1)) < (t428.length : Int) then ((tallystickref01_Len.f kj13 (rd t428 (wrap64 ((t428.length : Int) - 1)))).bind fun t453 => (some (decide (t453 > 0)))) else (none)) else (none)) else (some false)))) = some r := H
              have A40 := Aside0.mk A400
              clear A400
              by_cases c41 : t448 = (wrap64 (t431 + t432))
              · rw [if_pos c41] at H
                have c41b0 : (t448 == (wrap64 (t431 + t432))) = true := beq_iff_eq.mpr c41
                have c41b1 : (t448 != (wrap64 (t431 + t432))) = false := bne_eq_false_iff_eq.mpr c41
                clear c41
                obtain ⟨ji42, hji42⟩ : ∃ j_ : Int, (wrap64 ((t428.length : Int) - 1)) = j_ := ⟨_, rfl⟩
                replace H : (if 0 ≤ (ji42) then (if (ji42) < (t428.length : Int) then ((tallystickref01_Len.f kj13 (rd t428 (ji42))).bind fun t450 => (some (decide (t450 > 0)))) else (none)) else (none)) = some r := by first | (rw [hji42] at H; exact H) | (simp only [hji42] at H ⊢; exact H)
                (try rw [hji42] at A40)
                have hji42w : (IntKind.i64.wrap ((t428.length : Int) - 1)) = ji42 := (i64_w _).trans hji42
                by_cases c43 : 0 ≤ (ji42)
                · rw [if_pos c43] at H
                  have c43b0 : decide (0 ≤ (ji42)) = true := decide_eq_true c43
                  clear c43
                  by_cases c44 : (ji42) < (t428.length : Int)
                  · rw [if_pos c44] at H
                    have c44b0 : decide ((ji42) < (t428.length : Int)) = true := decide_eq_true c44
                    clear c44
                    replace H := Option.bind_eq_some_iff.mp H
                    obtain ⟨t450, A450, H⟩ := H
                    replace H : (some (decide (t450 > 0))) = some r := H
                    have A45 := Aside0.mk A450
                    clear A450
                    obtain rfl := Option.some.inj H
                    obtain ⟨Ao46, co46, eo46⟩ := Kd.V_slice HO_9.out
                    subst eo46
                    go_wp2_with (first | (go_at_call 26; (with_reducible refine (tallysticklaw05_bits.calls kj13 _ _ t428 t448 _ ?side1 ?side2 A40.out).mono ?_); (case side1 => repeat (first | exact (Kd.V_reads' HO_9.out).2.2 | (with_reducible refine Kd.C_alloc ?_ _) | (with_reducible refine Kd.C_drewN ?_ _) | (with_reducible refine Kd.C_drew ?_))); (case side2 => exact (Kd.V_reads' HO_9.out).2.1); rintro e w47 ⟨rfl, hb⟩; clear A40; have n0_ := Aside0.mk (Kd.V_below (by (with_reducible repeat (first | apply Kd.V_alloc | apply Kd.V_drewN | apply Kd.V_drew)); exact HO_9.out) hb); have n1_ := Aside0.mk (below_step (by repeat (first | (with_reducible first | exact HB.out | apply below_alloc | apply pw_below_drewN | apply below_drew1) | exact HB.out)) hb); clear HO_9; clear HB; have HO_9 := n0_; have HB := n1_; clear n0_ n1_; (try clear hb); (try clear hb2); (try clear hk); (try clear hi); have p449 : 0 ≤ ((ji42) : Int) := of_decide_eq_true (by first | (with_reducible assumption) | assumption); have q449 : (ji42) < (t428.length : Int) := of_decide_eq_true (by first | (with_reducible assumption) | assumption); obtain ⟨ad449, e449, hx449_0⟩ := Kd.at_int (Kd.V_reads' HO_9.out).2.2 (ji42) p449 q449; cases e449; replace p449 := eq_true p449; replace q449 := eq_true q449) | (go_at_call 27; (with_reducible refine (tallystickref01_Len.calls kj13 (rd t428 (ji42)) t450 _ A45.out).mono ?_); rintro e w' ⟨rfl, ⟨nd, rfl⟩⟩))
                    go_ret
                    exact ⟨by first | rfl | (simp [errW_none, errW_some] <;> rfl) | (simp only [← hji42]; first | rfl | (simp [errW_none, errW_some] <;> rfl)) | (simp [*, errW_none, errW_some] <;> rfl), by repeat (first | (with_reducible first | exact HB.out | apply below_alloc | apply pw_below_drewN | apply below_drew1) | exact HB.out)⟩
                  · rw [if_neg c44] at H
                    exact absurd H (by simp)
                · rw [if_neg c43] at H
                  exact absurd H (by simp)
              · rw [if_neg c41] at H
                have c41b0 : (t448 == (wrap64 (t431 + t432))) = false := beq_eq_false_iff_ne.mpr c41
                have c41b1 : (t448 != (wrap64 (t431 + t432))) = true := bne_iff_ne.mpr c41
                replace H := Option.bind_eq_some_iff.mp H
                obtain ⟨t451, A480, H⟩ := H
                replace H : (if t451 = (wrap64 ((wrap64 (t431 + t432)) - 1)) then (if 0 ≤ (wrap64 ((t428.length : Int) - 1)) then (if (wrap64 ((t428.length : Int) - 1)) < (t428.length : Int) then ((tallystickref01_Len.f kj13 (rd t428 (wrap64 ((t428.length : Int) - 1)))).bind fun t453 => (some (decide (t453 > 0)))) else (none)) else (none)) else (some false)) = some r := H
                have A48 := Aside0.mk A480
                clear A480
                by_cases c49 : t451 = (wrap64 ((wrap64 (t431 + t432)) - 1))
                · rw [if_pos c49] at H
                  have c49b0 : (t451 == (wrap64 ((wrap64 (t431 + t432)) - 1))) = true := beq_iff_eq.mpr c49
                  have c49b1 : (t451 != (wrap64 ((wrap64 (t431 + t432)) - 1))) = false := bne_eq_false_iff_eq.mpr c49
                  clear c49
                  obtain ⟨ji50, hji50⟩ : ∃ j_ : Int, (wrap64 ((t428.length : Int) - 1)) = j_ := ⟨_, rfl⟩
                  replace H : (if 0 ≤ (ji50) then (if (ji50) < (t428.length : Int) then ((tallystickref01_Len.f kj13 (rd t428 (ji50))).bind fun t453 => (some (decide (t453 > 0)))) else (none)) else (none)) = some r := by first | (rw [hji50] at H; exact H) | (simp only [hji50] at H ⊢; exact H)
                  (try rw [hji50] at A40)
                  (try rw [hji50] at A48)
                  have hji50w : (IntKind.i64.wrap ((t428.length : Int) - 1)) = ji50 := (i64_w _).trans hji50
                  by_cases c51 : 0 ≤ (ji50)
                  · rw [if_pos c51] at H
                    have c51b0 : decide (0 ≤ (ji50)) = true := decide_eq_true c51
                    clear c51
                    by_cases c52 : (ji50) < (t428.length : Int)
                    · rw [if_pos c52] at H
                      have c52b0 : decide ((ji50) < (t428.length : Int)) = true := decide_eq_true c52
                      clear c52
                      replace H := Option.bind_eq_some_iff.mp H
                      obtain ⟨t453, A530, H⟩ := H
                      replace H : (some (decide (t453 > 0))) = some r := H
                      have A53 := Aside0.mk A530
                      clear A530
                      obtain rfl := Option.some.inj H
                      obtain ⟨Ao54, co54, eo54⟩ := Kd.V_slice HO_9.out
                      subst eo54
                      go_wp2_with (first | (go_at_call 26; (with_reducible refine (tallysticklaw05_bits.calls kj13 _ _ t428 t448 _ ?side1 ?side2 A40.out).mono ?_); (case side1 => repeat (first | exact (Kd.V_reads' HO_9.out).2.2 | (with_reducible refine Kd.C_alloc ?_ _) | (with_reducible refine Kd.C_drewN ?_ _) | (with_reducible refine Kd.C_drew ?_))); (case side2 => exact (Kd.V_reads' HO_9.out).2.1); rintro e w55 ⟨rfl, hb⟩; clear A40; have n0_ := Aside0.mk (Kd.V_below (by (with_reducible repeat (first | apply Kd.V_alloc | apply Kd.V_drewN | apply Kd.V_drew)); exact HO_9.out) hb); have n1_ := Aside0.mk (below_step (by repeat (first | (with_reducible first | exact HB.out | apply below_alloc | apply pw_below_drewN | apply below_drew1) | exact HB.out)) hb); clear HO_9; clear HB; have HO_9 := n0_; have HB := n1_; clear n0_ n1_; (try clear hb); (try clear hb2); (try clear hk); (try clear hi)) | (go_at_call 26; (with_reducible refine (tallysticklaw05_bits.calls kj13 _ _ t428 t451 _ ?side1 ?side2 A48.out).mono ?_); (case side1 => repeat (first | exact (Kd.V_reads' HO_9.out).2.2 | (with_reducible refine Kd.C_alloc ?_ _) | (with_reducible refine Kd.C_drewN ?_ _) | (with_reducible refine Kd.C_drew ?_))); (case side2 => exact (Kd.V_reads' HO_9.out).2.1); rintro e w56 ⟨rfl, hb⟩; clear A48; have n0_ := Aside0.mk (Kd.V_below (by (with_reducible repeat (first | apply Kd.V_alloc | apply Kd.V_drewN | apply Kd.V_drew)); exact HO_9.out) hb); have n1_ := Aside0.mk (below_step (by repeat (first | (with_reducible first | exact HB.out | apply below_alloc | apply pw_below_drewN | apply below_drew1) | exact HB.out)) hb); clear HO_9; clear HB; have HO_9 := n0_; have HB := n1_; clear n0_ n1_; (try clear hb); (try clear hb2); (try clear hk); (try clear hi); have p452 : 0 ≤ ((ji50) : Int) := of_decide_eq_true (by first | (with_reducible assumption) | assumption); have q452 : (ji50) < (t428.length : Int) := of_decide_eq_true (by first | (with_reducible assumption) | assumption); obtain ⟨ad452, e452, hx452_0⟩ := Kd.at_int (Kd.V_reads' HO_9.out).2.2 (ji50) p452 q452; cases e452; replace p452 := eq_true p452; replace q452 := eq_true q452) | (go_at_call 27; (with_reducible refine (tallystickref01_Len.calls kj13 (rd t428 (ji50)) t453 _ A53.out).mono ?_); rintro e w' ⟨rfl, ⟨nd, rfl⟩⟩))
                      go_ret
                      exact ⟨by first | rfl | (simp [errW_none, errW_some] <;> rfl) | (simp only [← hji50]; first | rfl | (simp [errW_none, errW_some] <;> rfl)) | (simp [*, errW_none, errW_some] <;> rfl), by repeat (first | (with_reducible first | exact HB.out | apply below_alloc | apply pw_below_drewN | apply below_drew1) | exact HB.out)⟩
                    · rw [if_neg c52] at H
                      exact absurd H (by simp)
                  · rw [if_neg c51] at H
                    exact absurd H (by simp)
                · rw [if_neg c49] at H
                  have c49b0 : (t451 == (wrap64 ((wrap64 (t431 + t432)) - 1))) = false := beq_eq_false_iff_ne.mpr c49
                  have c49b1 : (t451 != (wrap64 ((wrap64 (t431 + t432)) - 1))) = true := bne_iff_ne.mpr c49
                  obtain rfl := Option.some.inj H
                  exact absurd hr_.out (by simp)
            · replace c39 := Bool.eq_false_iff.mpr c39
              subst c39
              have H1 : (some false) = some r := by rw [if_neg (show ¬ (false = true) by decide)] at H; exact H
              clear H
              have H := H1
              clear H1
              obtain rfl := Option.some.inj H
              exact absurd hr_.out (by simp)
          · replace c38 := Bool.eq_false_iff.mpr c38
            subst c38
            have H1 : (some false) = some r := by rw [if_neg (show ¬ (false = true) by decide)] at H; exact H
            clear H
            have H := H1
            clear H1
            obtain rfl := Option.some.inj H
            exact absurd hr_.out (by simp)
  · replace c6 := Bool.eq_false_iff.mpr c6
    subst c6
    have H1 : (some t426) = some r := by rw [if_neg (show ¬ (false = true) by decide)] at H; exact H
    clear H
    have H := H1
    clear H1
    obtain rfl := Option.some.inj H
    go_enter Try.func7, Try.ntmps7
    go_wp2_with (first | ((with_reducible refine gate_callee (f := 10) rfl ?_); refine goesL_ (some 12) rfl rfl Try.func10 (by kernel_rfl) rfl #[] rfl (by (try simp only [List.map_toArray, List.map_cons, List.map_nil]); first | done | rfl | (simp only [List.length_drop, List.length_take]; rfl)) ?_; (with_reducible refine (tallysticklaw05_shown.calls  t426 _ A4.out).mono ?_); rintro e w57 ⟨rfl, hb⟩; clear A4; refine ⟨_, rfl, ?_⟩; have n0_ := Aside0.mk (below_step (by repeat (first | (with_reducible first | exact HB.out | apply below_alloc | apply pw_below_drewN | apply below_drew1) | exact HB.out)) hb); clear HB; have HB := n0_; clear n0_; (try clear hb); (try clear hb2); (try clear hk); (try clear hi)) | ((with_reducible refine gate_callee (f := 11) rfl ?_); refine goesL_ (some 15) rfl rfl Try.func11 (by kernel_rfl) rfl #[.slice A0 l0.length c0, .slice A1 l1.length c1] rfl (by (try simp only [List.map_toArray, List.map_cons, List.map_nil]); first | done | rfl | (simp only [List.length_drop, List.length_take]; rfl)) ?_; (with_reducible refine (tallysticklaw05_few.calls _ _ l0 _ _ l1 false _ ?side1 ?side2 ?side3 ?side4 A5.out).mono ?_); (case side1 => repeat (first | exact (Kd.C_below HR0.out HB.out) | (with_reducible refine Kd.C_alloc ?_ _) | (with_reducible refine Kd.C_drewN ?_ _) | (with_reducible refine Kd.C_drew ?_))); (case side2 => exact HC0.out); (case side3 => repeat (first | exact (Kd.C_below HR1.out HB.out) | (with_reducible refine Kd.C_alloc ?_ _) | (with_reducible refine Kd.C_drewN ?_ _) | (with_reducible refine Kd.C_drew ?_))); (case side4 => exact HC1.out); rintro e w' ⟨rfl, ⟨nd, rfl⟩⟩; refine ⟨_, rfl, ?_⟩))
    go_ret
    exact ⟨by first | rfl | (simp [errW_none, errW_some] <;> rfl) | (simp [*, errW_none, errW_some] <;> rfl), by repeat (first | (with_reducible first | exact HB.out | apply below_alloc | apply pw_below_drewN | apply below_drew1) | exact HB.out)⟩

/-- THE ONE PURE STATEMENT of tallysticklaw05_ProdBits: yours. -/
def tallysticklaw05_ProdBits.Pure : Prop := ∀ (l0 : List Int) (l1 : List Int) (a2 : Int), l0.length ≤ maxLen → l0.length * 8 ≤ 140737488351232 → (∀ x ∈ l0, (Lit.int .u64 x).wf = true) → l1.length ≤ maxLen → l1.length * 8 ≤ 140737488351232 → (∀ x ∈ l1, (Lit.int .u64 x).wf = true) → (Lit.int .i64 a2).wf = true → ∃ k, tallysticklaw05_ProdBits.f k l0 l1 a2 = some true
theorem tallysticklaw05_ProdBits.walk (P : tallysticklaw05_ProdBits.Pure) (a0 : Option Addr) (len0 cap0 : Nat) (z0 : List Int) (a1 : Option Addr) (len1 cap1 : Nat) (z1 : List Int) (a2 : Int) (w : World) (w0 : (a0 = none ∧ len0 = 0 ∧ cap0 = 0 ∧ z0 = []) ∨ ∃ x, a0 = some x ∧ len0 ≤ cap0 ∧ cap0 ≤ maxLen ∧ z0.length = cap0 ∧ (∀ i, i < z0.length → w.cell? (x.add i) = some (.int .u64 (z0.getD i 0))) ∧ ∀ n ∈ z0, (Lit.int .u64 n).wf = true) (y0 : len0 * 8 ≤ 140737488351232) (w1 : (a1 = none ∧ len1 = 0 ∧ cap1 = 0 ∧ z1 = []) ∨ ∃ x, a1 = some x ∧ len1 ≤ cap1 ∧ cap1 ≤ maxLen ∧ z1.length = cap1 ∧ (∀ i, i < z1.length → w.cell? (x.add i) = some (.int .u64 (z1.getD i 0))) ∧ ∀ n ∈ z1, (Lit.int .u64 n).wf = true) (y1 : len1 * 8 ≤ 140737488351232) (w2 : (Lit.int .i64 a2).wf = true) :
    Calls Try.prog 7 #[.slice a0 len0 cap0, .slice a1 len1 cap1, .int .i64 a2] w fun e w' => e = .returned (.bool true) ∧ Below w.heap.size w w' := by
  obtain ⟨l0, rfl, hr0, hm0, hw0, hc0⟩ := ReadsInt.ofRowC w0
  obtain ⟨l1, rfl, hr1, hm1, hw1, hc1⟩ := ReadsInt.ofRowC w1
  obtain ⟨k, h⟩ := P l0 l1 a2 hm0 y0 hw0 hm1 y1 hw1 w2
  refine (tallysticklaw05_ProdBits.calls k _ _ l0 _ _ l1 a2 true w (Kd.C_of_reads (d := (0 : Int)) (h1 := fun _ => rfl) hr0) hc0 (Kd.C_of_reads (d := (0 : Int)) (h1 := fun _ => rfl) hr1) hc1 ⟨rfl⟩ h).mono ?_
  rintro e w' ⟨rfl, hd⟩
  exact ⟨rfl, hd⟩

end Go.Proofs.Ytgoglfojjpibnaa.Pa
