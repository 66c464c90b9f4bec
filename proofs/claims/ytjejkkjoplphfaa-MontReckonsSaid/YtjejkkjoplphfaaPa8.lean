/- Contracts of functions and laws, written by this session's program myprint.py by way of the kit's print. -/
import Derived.Test.YtjejkkjoplphfaaPa0
import Derived.Test.YtjejkkjoplphfaaPa2
namespace Go.Proofs.Ytjejkkjoplphfaa.Pa
open Go.RowKit Go.Proofs.Ytjejkkjoplphfaa.Hand Go.Proofs.YtjejkkjoplphfaaW.PrintWords Go.Proofs.YtjejkkjoplphfaaW.PrintLast Go.Proofs.YtjejkkjoplphfaaW.PrintMore
attribute [local go_sem] max2_int min2_int max_two min_two max_three min_three max_four min_four   -- for this text's walks alone
set_option linter.unusedVariables false
set_option linter.unusedSimpArgs false

/-! ### tallysticklaw03_MontReckons: function 8 -/
def tallysticklaw03_MontReckons.j0 : Nat → Int → Int → Int → Int → Int → Bool → Bool → Int → Int → Int → Int → Option (Bool)
  | 0, _, _, _, _, _, _, _, _, _, _, _ => none
  | k + 1, x3, x4, x5, x6, x7, x8, x43, x193000, x193001, x193002, x193003 => if x43 = true then (some x8) else ((tallystickref03_Turn.f x3 x4 4294967296).bind fun t193 => ((tallystickref03_Half.f k x3 (IntKind.u64.wrap (x5))).bind fun t194 => ((tallystickref03_Pow.f k x3 t194 x7).bind fun t195 => ((tallystickref03_Turn.f x3 t195 4294967296).bind fun t196 => (if x8 = true then ((mont_Redc.f x193000 x193001 x193002 x193003 x6).bind fun t197 => ((tallystickref03_Half.f k x3 x6).bind fun t198 => (if (IntKind.u64.wrap (t197)) = t198 then ((mont_In.f x193000 x193001 x193002 x193003 x4).bind fun t199 => (if (IntKind.u64.wrap (t199)) = t193 then ((mont_Out.f x193000 x193001 x193002 x193003 x5).bind fun t200 => ((tallystickref03_Half.f k x3 (IntKind.u64.wrap (x5))).bind fun t201 => (if (IntKind.u64.wrap (t200)) = t201 then ((mont_Mul.f x193000 x193001 x193002 x193003 x5 ((t193) % 4294967296)).bind fun t202 => ((tallystickref03_Half.f k x3 (IntKind.u64.wrap ((IntKind.u64.wrap (x5)) * ((t193) % 4294967296)))).bind fun t203 => (if (IntKind.u64.wrap (t202)) = t203 then ((mont_Pow.f k x193000 x193001 x193002 x193003 x5 x7).bind fun t204 => (some ((IntKind.u64.wrap (t204)) == t196))) else (some false)))) else (some false)))) else (some false))) else (some false)))) else (some false))))))
def tallysticklaw03_MontReckons.f (k : Nat) (a0_0 : Int) (a0_1 : Int) (a0_2 : Int) (a0_3 : Int) (a0_4 : Int) : Option (Bool) := (tallysticklaw03_shown.f).bind fun t186 => ((mont_Make.f a0_0).bind fun bt187 => (if bt187.2.2.2.2 = 0 then (if a0_2 ≥ a0_0 then (tallysticklaw03_MontReckons.j0 k a0_0 a0_1 a0_2 a0_3 a0_4 t186 true bt187.1 bt187.2.1 bt187.2.2.1 bt187.2.2.2.1) else (tallysticklaw03_MontReckons.j0 k a0_0 a0_1 a0_2 a0_3 a0_4 t186 (decide ((a0_3 / 4294967296) ≥ (IntKind.u64.wrap (a0_0)))) bt187.1 bt187.2.1 bt187.2.2.1 bt187.2.2.2.1)) else (tallysticklaw03_MontReckons.j0 k a0_0 a0_1 a0_2 a0_3 a0_4 t186 true bt187.1 bt187.2.1 bt187.2.2.1 bt187.2.2.2.1)))
theorem tallysticklaw03_MontReckons.mono_l : ∀ k, (∀ y0 y1 y2 y3 y4 y5 y6 y7 y8 y9 y10, LeO (tallysticklaw03_MontReckons.j0 k y0 y1 y2 y3 y4 y5 y6 y7 y8 y9 y10) (tallysticklaw03_MontReckons.j0 (k + 1) y0 y1 y2 y3 y4 y5 y6 y7 y8 y9 y10))
  | 0 => fun _ _ _ _ _ _ _ _ _ _ _ r h => by simp [tallysticklaw03_MontReckons.j0] at h
  | k + 1 => by
    have ih0 := tallysticklaw03_MontReckons.mono_l k
    · intro y0 y1 y2 y3 y4 y5 y6 y7 y8 y9 y10
      unfold tallysticklaw03_MontReckons.j0
      repeat' first
      | (with_reducible exact ih0 _ _ _ _ _ _ _ _ _ _ _)
      | (with_reducible exact mont_Pow.mono _ _ _ _ _ _ _)
      | (with_reducible exact tallystickref03_Half.mono _ _ _)
      | (with_reducible exact tallystickref03_Pow.mono _ _ _ _)
      | (with_reducible exact LeO.refl _)
      | (with_reducible exact LeO.none _)
      | (with_reducible refine LeO.ite ?_ ?_)
      | (with_reducible refine LeO.bind ?_ (fun _ => ?_))
      | exact ih0 _ _ _ _ _ _ _ _ _ _ _
      | exact mont_Pow.mono _ _ _ _ _ _ _
      | exact tallystickref03_Half.mono _ _ _
      | exact tallystickref03_Pow.mono _ _ _ _
      | exact LeO.none _
      | refine LeO.ite ?_ ?_
      | refine LeO.bind ?_ (fun _ => ?_)
theorem tallysticklaw03_MontReckons.mono : ∀ a0 a1 a2 a3 a4 k, LeO (tallysticklaw03_MontReckons.f k a0 a1 a2 a3 a4) (tallysticklaw03_MontReckons.f (k + 1) a0 a1 a2 a3 a4) := by
  intro a0 a1 a2 a3 a4 k
  have ih0 := tallysticklaw03_MontReckons.mono_l k
  unfold tallysticklaw03_MontReckons.f
  repeat' first
      | (with_reducible exact ih0 _ _ _ _ _ _ _ _ _ _ _)
      | (with_reducible exact mont_Pow.mono _ _ _ _ _ _ _)
      | (with_reducible exact tallystickref03_Half.mono _ _ _)
      | (with_reducible exact tallystickref03_Pow.mono _ _ _ _)
      | (with_reducible exact LeO.refl _)
      | (with_reducible exact LeO.none _)
      | (with_reducible refine LeO.ite ?_ ?_)
      | (with_reducible refine LeO.bind ?_ (fun _ => ?_))
      | exact ih0 _ _ _ _ _ _ _ _ _ _ _
      | exact mont_Pow.mono _ _ _ _ _ _ _
      | exact tallystickref03_Half.mono _ _ _
      | exact tallystickref03_Pow.mono _ _ _ _
      | exact LeO.none _
      | refine LeO.ite ?_ ?_
      | refine LeO.bind ?_ (fun _ => ?_)
set_option maxHeartbeats 8000000 in
set_option maxRecDepth 100000 in
theorem tallysticklaw03_MontReckons.calls (k : Nat) (a0_0 : Int) (a0_1 : Int) (a0_2 : Int) (a0_3 : Int) (a0_4 : Int) (r : Bool) (w : World) (hr_ : Aside0 (r = true)) (h : tallysticklaw03_MontReckons.f k a0_0 a0_1 a0_2 a0_3 a0_4 = some r) :
    Calls Try.prog 8 #[.agg #[.int .u32 a0_0, .int .u64 a0_1, .int .u32 a0_2, .int .u64 a0_3, .int .u64 a0_4]] w fun e w' => e = .returned (.bool r) ∧ Below w.heap.size w w' := by
  have hu43 := Try.underlying43
  have hu25 := Try.underlying25
  have HB := Aside0.mk (Below.refl w.heap.size w)
  have H : ((tallysticklaw03_shown.f).bind fun t186 => ((mont_Make.f a0_0).bind fun bt187 => (if bt187.2.2.2.2 = 0 then (if a0_2 ≥ a0_0 then (tallysticklaw03_MontReckons.j0 k a0_0 a0_1 a0_2 a0_3 a0_4 t186 true bt187.1 bt187.2.1 bt187.2.2.1 bt187.2.2.2.1) else (tallysticklaw03_MontReckons.j0 k a0_0 a0_1 a0_2 a0_3 a0_4 t186 (decide ((a0_3 / 4294967296) ≥ (IntKind.u64.wrap (a0_0)))) bt187.1 bt187.2.1 bt187.2.2.1 bt187.2.2.2.1)) else (tallysticklaw03_MontReckons.j0 k a0_0 a0_1 a0_2 a0_3 a0_4 t186 true bt187.1 bt187.2.1 bt187.2.2.1 bt187.2.2.2.1)))) = some r := h
  clear h
  replace H := Option.bind_eq_some_iff.mp H
  obtain ⟨t186, A20, H⟩ := H
  replace H : ((mont_Make.f a0_0).bind fun bt187 => (if bt187.2.2.2.2 = 0 then (if a0_2 ≥ a0_0 then (tallysticklaw03_MontReckons.j0 k a0_0 a0_1 a0_2 a0_3 a0_4 t186 true bt187.1 bt187.2.1 bt187.2.2.1 bt187.2.2.2.1) else (tallysticklaw03_MontReckons.j0 k a0_0 a0_1 a0_2 a0_3 a0_4 t186 (decide ((a0_3 / 4294967296) ≥ (IntKind.u64.wrap (a0_0)))) bt187.1 bt187.2.1 bt187.2.2.1 bt187.2.2.2.1)) else (tallysticklaw03_MontReckons.j0 k a0_0 a0_1 a0_2 a0_3 a0_4 t186 true bt187.1 bt187.2.1 bt187.2.2.1 bt187.2.2.2.1))) = some r := H
  have A2 := Aside0.mk A20
  clear A20
  replace H := Option.bind_eq_some_iff.mp H
  obtain ⟨⟨t187, t188, t189, t190, t191⟩, A30, H⟩ := H
  replace H : (if t191 = 0 then (if a0_2 ≥ a0_0 then (tallysticklaw03_MontReckons.j0 k a0_0 a0_1 a0_2 a0_3 a0_4 t186 true t187 t188 t189 t190) else (tallysticklaw03_MontReckons.j0 k a0_0 a0_1 a0_2 a0_3 a0_4 t186 (decide ((a0_3 / 4294967296) ≥ (IntKind.u64.wrap (a0_0)))) t187 t188 t189 t190)) else (tallysticklaw03_MontReckons.j0 k a0_0 a0_1 a0_2 a0_3 a0_4 t186 true t187 t188 t189 t190)) = some r := H
  have A3 := Aside0.mk A30
  clear A30
  have HC4 := Aside0.mk H
  clear H
  go_enter Try.func8, Try.ntmps8
  go_upto_region 8 with (first | ((with_reducible refine gate_dst (N := 1) rfl ?_); refine box_event ?hg (N := 1) ?hd (cs := #[.int .u32 a0_0, .int .u64 a0_1, .int .u32 a0_2, .int .u64 a0_3, .int .u64 a0_4]) (t := 43) ?hr ?_; (case hd => rfl); (case hg => rfl); (case hr => first | (go_simp; done) | (go_simp; rfl)); intro gb185 hg w5 hbox hb; have n0_ := Aside0.mk (below_step (by repeat (first | (with_reducible first | exact HB.out | apply below_alloc | apply pw_below_drewN | apply below_drew1) | exact HB.out)) hb); have n1_ := Aside0.mk (hbox); have n2_ := Aside0.mk ((by rw [hg]; exact (below_size (by repeat (first | (with_reducible first | exact HB.out | apply below_alloc | apply pw_below_drewN | apply below_drew1) | exact HB.out))) : w.heap.size ≤ gb185)); have n3_ := Aside0.mk ((by rw [hg]; exact (below_size (by repeat (first | (with_reducible first | exact HB.out | apply below_alloc | apply pw_below_drewN | apply below_drew1) | exact HB.out))) : w.heap.size ≤ gb185)); clear HB; have HB := n0_; have BK185 := n1_; have GW185 := n2_; have GE185 := n3_; clear n0_ n1_ n2_ n3_; clear hb hbox hg; have hcz6_0 : w5.cell? ⟨gb185, 0, none⟩ = some (.int .u32 a0_0) := (blk_cell BK185.out 0).trans rfl; have hcz6_1 : w5.cell? ⟨gb185, 1, none⟩ = some (.int .u64 a0_1) := (blk_cell BK185.out 1).trans rfl; have hcz6_2 : w5.cell? ⟨gb185, 2, none⟩ = some (.int .u32 a0_2) := (blk_cell BK185.out 2).trans rfl; have hcz6_3 : w5.cell? ⟨gb185, 3, none⟩ = some (.int .u64 a0_3) := (blk_cell BK185.out 3).trans rfl; have hcz6_4 : w5.cell? ⟨gb185, 4, none⟩ = some (.int .u64 a0_4) := (blk_cell BK185.out 4).trans rfl; have hfz6_0 := blk_frozen BK185.out 0; have hfz6_1 := blk_frozen BK185.out 1; have hfz6_2 := blk_frozen BK185.out 2; have hfz6_3 := blk_frozen BK185.out 3; have hfz6_4 := blk_frozen BK185.out 4) | ((with_reducible refine gate_callee (f := 10) rfl ?_); refine goesL_ (some 24) rfl rfl Try.func10 (by kernel_rfl) rfl #[] rfl (by (try simp only [List.map_toArray, List.map_cons, List.map_nil]); first | done | rfl | (simp only [List.length_drop, List.length_take]; rfl)) ?_; (with_reducible refine (tallysticklaw03_shown.calls  t186 _ A2.out).mono ?_); rintro e w7 ⟨rfl, hb⟩; refine ⟨_, rfl, ?_⟩; have n0_ := Aside0.mk (blk_below (g := gb185) (o := .cells #[.int .u32 a0_0, .int .u64 a0_1, .int .u32 a0_2, .int .u64 a0_3, .int .u64 a0_4] 43 (0, 0)) (by (with_reducible repeat (first | refine blk_drewN ?_ _ | refine blk_drew ?_ | refine blk_alloc ?_ _)); exact BK185.out) hb); have n1_ := Aside0.mk (below_step (by repeat (first | (with_reducible first | exact HB.out | apply below_alloc | apply pw_below_drewN | apply below_drew1 | refine below_set ?_ GE185.out) | exact HB.out)) hb); clear BK185; clear HB; have BK185 := n0_; have HB := n1_; clear n0_ n1_; (try clear hb); (try clear hb2); (try clear hk); (try clear hi)) | ((with_reducible refine gate_callee (f := 11) rfl ?_); refine goesL_ (some 27) rfl rfl Try.func11 (by kernel_rfl) rfl #[.int .u32 a0_0] rfl (by (try simp only [List.map_toArray, List.map_cons, List.map_nil]); first | done | rfl | (simp only [List.length_drop, List.length_take]; rfl)) ?_; (with_reducible refine (mont_Make.calls a0_0 t187 t188 t189 t190 t191 _ A3.out).mono ?_); rintro e w8 ⟨rfl, hb⟩; refine ⟨_, rfl, ?_⟩; have n0_ := Aside0.mk (blk_below (g := gb185) (o := .cells #[.int .u32 a0_0, .int .u64 a0_1, .int .u32 a0_2, .int .u64 a0_3, .int .u64 a0_4] 43 (0, 0)) (by (with_reducible repeat (first | refine blk_drewN ?_ _ | refine blk_drew ?_ | refine blk_alloc ?_ _)); exact BK185.out) hb); have n1_ := Aside0.mk (below_step (by repeat (first | (with_reducible first | exact HB.out | apply below_alloc | apply pw_below_drewN | apply below_drew1 | refine below_set ?_ GE185.out) | exact HB.out)) hb); clear BK185; clear HB; have BK185 := n0_; have HB := n1_; clear n0_ n1_; (try clear hb); (try clear hb2); (try clear hk); (try clear hi)) | ((with_reducible refine gate_dst (N := 9) rfl ?_); refine box_event ?hg (N := 9) ?hd (cs := #[.int .u32 0, .int .u32 0, .int .u32 0, .int .u32 0]) (t := 25) ?hr ?_; (case hd => rfl); (case hg => rfl); (case hr => first | (go_simp; done) | (go_simp; rfl)); intro gb192 hg w9 hbox hb; have n0_ := Aside0.mk (blk_below (g := gb185) (o := .cells #[.int .u32 a0_0, .int .u64 a0_1, .int .u32 a0_2, .int .u64 a0_3, .int .u64 a0_4] 43 (0, 0)) (by (with_reducible repeat (first | refine blk_drewN ?_ _ | refine blk_drew ?_ | refine blk_alloc ?_ _)); exact BK185.out) hb); have n1_ := Aside0.mk (below_step (by repeat (first | (with_reducible first | exact HB.out | apply below_alloc | apply pw_below_drewN | apply below_drew1 | refine below_set ?_ GE185.out) | exact HB.out)) hb); have n2_ := Aside0.mk (hbox); have n3_ := Aside0.mk ((by rw [hg]; exact (below_size (by repeat (first | (with_reducible first | exact HB.out | apply below_alloc | apply pw_below_drewN | apply below_drew1 | refine below_set ?_ GE185.out) | exact HB.out))) : w.heap.size ≤ gb192)); have n4_ := Aside0.mk ((by rw [hg]; exact (below_size (by repeat (first | (with_reducible first | exact HB.out | apply below_alloc | apply pw_below_drewN | apply below_drew1 | refine below_set ?_ GE185.out) | exact HB.out))) : w.heap.size ≤ gb192)); have n5_ := Aside0.mk ((by rw [hg]; exact Nat.ne_of_lt (blk_lt (g := gb185) (o := .cells #[.int .u32 a0_0, .int .u64 a0_1, .int .u32 a0_2, .int .u64 a0_3, .int .u64 a0_4] 43 (0, 0)) (by (with_reducible repeat (first | refine blk_drewN ?_ _ | refine blk_drew ?_ | refine blk_alloc ?_ _)); exact BK185.out)) : gb185 ≠ gb192)); have n6_ := Aside0.mk ((by rw [hg]; exact Nat.ne_of_gt (blk_lt (g := gb185) (o := .cells #[.int .u32 a0_0, .int .u64 a0_1, .int .u32 a0_2, .int .u64 a0_3, .int .u64 a0_4] 43 (0, 0)) (by (with_reducible repeat (first | refine blk_drewN ?_ _ | refine blk_drew ?_ | refine blk_alloc ?_ _)); exact BK185.out)) : gb192 ≠ gb185)); clear BK185; clear HB; have BK185 := n0_; have HB := n1_; have BK192 := n2_; have GW192 := n3_; have GE192 := n4_; have NB185_192 := n5_; have NB192_185 := n6_; clear n0_ n1_ n2_ n3_ n4_ n5_ n6_; clear hb hbox hg; have hnb10 := NB192_185.out; have hnc10 := NB185_192.out; have hcz11_0 : w9.cell? ⟨gb192, 0, none⟩ = some (.int .u32 0) := (blk_cell BK192.out 0).trans rfl; have hcz11_1 : w9.cell? ⟨gb192, 1, none⟩ = some (.int .u32 0) := (blk_cell BK192.out 1).trans rfl; have hcz11_2 : w9.cell? ⟨gb192, 2, none⟩ = some (.int .u32 0) := (blk_cell BK192.out 2).trans rfl; have hcz11_3 : w9.cell? ⟨gb192, 3, none⟩ = some (.int .u32 0) := (blk_cell BK192.out 3).trans rfl; have hfz11_0 := blk_frozen BK192.out 0; have hfz11_1 := blk_frozen BK192.out 1; have hfz11_2 := blk_frozen BK192.out 2; have hfz11_3 := blk_frozen BK192.out 3))
  (try simp only [Act.put, List.setIfInBounds_toArray, List.set_cons_zero, List.set_cons_succ])
  go_cut [43] (fun v43 wc => ∃ (kq : Nat) (x43_3 : Bool), v43 = .bool x43_3 ∧ Aside0 (tallysticklaw03_MontReckons.j0 kq a0_0 a0_1 a0_2 a0_3 a0_4 t186 x43_3 t187 t188 t189 t190 = some r) ∧ Aside0 (kq ≤ k) ∧ Aside0 (wc.heap[gb185]? = some (.cells #[.int .u32 a0_0, .int .u64 a0_1, .int .u32 a0_2, .int .u64 a0_3, .int .u64 a0_4] 43 (0, 0))) ∧ Aside0 (wc.heap[gb192]? = some (.cells #[.int .u32 t187, .int .u32 t188, .int .u32 t189, .int .u32 t190] 25 (0, 0))) ∧ Aside0 (Below w.heap.size w wc))
  case first =>
    have H := HC4.out
    clear HC4
    by_cases c12 : t191 = 0
    · rw [if_pos c12] at H
      have c12b0 : (t191 == 0) = true := beq_iff_eq.mpr c12
      have c12b1 : (t191 != 0) = false := bne_eq_false_iff_eq.mpr c12
      clear c12
      (first | rw [c12b0] | (simp only [i64_w, i32_w]; rw [c12b0]) | skip)
      by_cases c13 : a0_2 ≥ a0_0
      · rw [if_pos c13] at H
        have c13b0 : decide (a0_0 ≤ a0_2) = true := decide_eq_true c13
        clear c13
        have H' := Aside0.mk H
        clear H
        go_wp2
        go_meet
        case rel => exact ⟨_, (true), (by first | rfl | (simp; done) | (simp [*]; done)), H', ⟨by first | omega | exact Nat.le_refl _⟩, ⟨by (with_reducible repeat (first | refine blk_drewN ?_ _ | refine blk_drew ?_ | refine blk_alloc ?_ _)); refine blk_far ?_ NB185_192.out _; (with_reducible repeat (first | refine blk_drewN ?_ _ | refine blk_drew ?_ | refine blk_alloc ?_ _)); refine blk_far ?_ NB185_192.out _; (with_reducible repeat (first | refine blk_drewN ?_ _ | refine blk_drew ?_ | refine blk_alloc ?_ _)); refine blk_far ?_ NB185_192.out _; (with_reducible repeat (first | refine blk_drewN ?_ _ | refine blk_drew ?_ | refine blk_alloc ?_ _)); refine blk_far ?_ NB185_192.out _; (with_reducible repeat (first | refine blk_drewN ?_ _ | refine blk_drew ?_ | refine blk_alloc ?_ _)); exact BK185.out⟩, ⟨by (with_reducible repeat (first | refine blk_drewN ?_ _ | refine blk_drew ?_ | refine blk_alloc ?_ _)); refine blk_put (cs := #[.int .u32 t187, .int .u32 t188, .int .u32 t189, .int .u32 0]) ?_ 3 _ rfl; (with_reducible repeat (first | refine blk_drewN ?_ _ | refine blk_drew ?_ | refine blk_alloc ?_ _)); refine blk_put (cs := #[.int .u32 t187, .int .u32 t188, .int .u32 0, .int .u32 0]) ?_ 2 _ rfl; (with_reducible repeat (first | refine blk_drewN ?_ _ | refine blk_drew ?_ | refine blk_alloc ?_ _)); refine blk_put (cs := #[.int .u32 t187, .int .u32 0, .int .u32 0, .int .u32 0]) ?_ 1 _ rfl; (with_reducible repeat (first | refine blk_drewN ?_ _ | refine blk_drew ?_ | refine blk_alloc ?_ _)); refine blk_put (cs := #[.int .u32 0, .int .u32 0, .int .u32 0, .int .u32 0]) ?_ 0 _ rfl; (with_reducible repeat (first | refine blk_drewN ?_ _ | refine blk_drew ?_ | refine blk_alloc ?_ _)); exact BK192.out⟩, ⟨by repeat (first | (with_reducible first | exact HB.out | apply below_alloc | apply pw_below_drewN | apply below_drew1 | refine below_set ?_ GE185.out | refine below_set ?_ GE192.out) | exact HB.out)⟩⟩
      · rw [if_neg c13] at H
        have c13b0 : decide (a0_0 ≤ a0_2) = false := decide_eq_false c13
        clear c13
        have H' := Aside0.mk H
        clear H
        go_wp2
        go_meet
        case rel => exact ⟨_, (decide ((a0_3 / 4294967296) ≥ (IntKind.u64.wrap (a0_0)))), (by first | rfl | (simp; done) | (simp [*]; done)), H', ⟨by first | omega | exact Nat.le_refl _⟩, ⟨by (with_reducible repeat (first | refine blk_drewN ?_ _ | refine blk_drew ?_ | refine blk_alloc ?_ _)); refine blk_far ?_ NB185_192.out _; (with_reducible repeat (first | refine blk_drewN ?_ _ | refine blk_drew ?_ | refine blk_alloc ?_ _)); refine blk_far ?_ NB185_192.out _; (with_reducible repeat (first | refine blk_drewN ?_ _ | refine blk_drew ?_ | refine blk_alloc ?_ _)); refine blk_far ?_ NB185_192.out _; (with_reducible repeat (first | refine blk_drewN ?_ _ | refine blk_drew ?_ | refine blk_alloc ?_ _)); refine blk_far ?_ NB185_192.out _; (with_reducible repeat (first | refine blk_drewN ?_ _ | refine blk_drew ?_ | refine blk_alloc ?_ _)); exact BK185.out⟩, ⟨by (with_reducible repeat (first | refine blk_drewN ?_ _ | refine blk_drew ?_ | refine blk_alloc ?_ _)); refine blk_put (cs := #[.int .u32 t187, .int .u32 t188, .int .u32 t189, .int .u32 0]) ?_ 3 _ rfl; (with_reducible repeat (first | refine blk_drewN ?_ _ | refine blk_drew ?_ | refine blk_alloc ?_ _)); refine blk_put (cs := #[.int .u32 t187, .int .u32 t188, .int .u32 0, .int .u32 0]) ?_ 2 _ rfl; (with_reducible repeat (first | refine blk_drewN ?_ _ | refine blk_drew ?_ | refine blk_alloc ?_ _)); refine blk_put (cs := #[.int .u32 t187, .int .u32 0, .int .u32 0, .int .u32 0]) ?_ 1 _ rfl; (with_reducible repeat (first | refine blk_drewN ?_ _ | refine blk_drew ?_ | refine blk_alloc ?_ _)); refine blk_put (cs := #[.int .u32 0, .int .u32 0, .int .u32 0, .int .u32 0]) ?_ 0 _ rfl; (with_reducible repeat (first | refine blk_drewN ?_ _ | refine blk_drew ?_ | refine blk_alloc ?_ _)); exact BK192.out⟩, ⟨by repeat (first | (with_reducible first | exact HB.out | apply below_alloc | apply pw_below_drewN | apply below_drew1 | refine below_set ?_ GE185.out | refine below_set ?_ GE192.out) | exact HB.out)⟩⟩
    · rw [if_neg c12] at H
      have c12b0 : (t191 == 0) = false := beq_eq_false_iff_ne.mpr c12
      have c12b1 : (t191 != 0) = true := bne_iff_ne.mpr c12
      (first | rw [c12b0] | (simp only [i64_w, i32_w]; rw [c12b0]) | skip)
      have H' := Aside0.mk H
      clear H
      go_wp2
      go_meet
      case rel => exact ⟨_, (true), (by first | rfl | (simp; done) | (simp [*]; done)), H', ⟨by first | omega | exact Nat.le_refl _⟩, ⟨by (with_reducible repeat (first | refine blk_drewN ?_ _ | refine blk_drew ?_ | refine blk_alloc ?_ _)); refine blk_far ?_ NB185_192.out _; (with_reducible repeat (first | refine blk_drewN ?_ _ | refine blk_drew ?_ | refine blk_alloc ?_ _)); refine blk_far ?_ NB185_192.out _; (with_reducible repeat (first | refine blk_drewN ?_ _ | refine blk_drew ?_ | refine blk_alloc ?_ _)); refine blk_far ?_ NB185_192.out _; (with_reducible repeat (first | refine blk_drewN ?_ _ | refine blk_drew ?_ | refine blk_alloc ?_ _)); refine blk_far ?_ NB185_192.out _; (with_reducible repeat (first | refine blk_drewN ?_ _ | refine blk_drew ?_ | refine blk_alloc ?_ _)); exact BK185.out⟩, ⟨by (with_reducible repeat (first | refine blk_drewN ?_ _ | refine blk_drew ?_ | refine blk_alloc ?_ _)); refine blk_put (cs := #[.int .u32 t187, .int .u32 t188, .int .u32 t189, .int .u32 0]) ?_ 3 _ rfl; (with_reducible repeat (first | refine blk_drewN ?_ _ | refine blk_drew ?_ | refine blk_alloc ?_ _)); refine blk_put (cs := #[.int .u32 t187, .int .u32 t188, .int .u32 0, .int .u32 0]) ?_ 2 _ rfl; (with_reducible repeat (first | refine blk_drewN ?_ _ | refine blk_drew ?_ | refine blk_alloc ?_ _)); refine blk_put (cs := #[.int .u32 t187, .int .u32 0, .int .u32 0, .int .u32 0]) ?_ 1 _ rfl; (with_reducible repeat (first | refine blk_drewN ?_ _ | refine blk_drew ?_ | refine blk_alloc ?_ _)); refine blk_put (cs := #[.int .u32 0, .int .u32 0, .int .u32 0, .int .u32 0]) ?_ 0 _ rfl; (with_reducible repeat (first | refine blk_drewN ?_ _ | refine blk_drew ?_ | refine blk_alloc ?_ _)); exact BK192.out⟩, ⟨by repeat (first | (with_reducible first | exact HB.out | apply below_alloc | apply pw_below_drewN | apply below_drew1 | refine below_set ?_ GE185.out | refine below_set ?_ GE192.out) | exact HB.out)⟩⟩
  case rest =>
    clear HC4
    try clear c1
    try clear p2
    try clear c8
    try clear c10
    try clear c11
    try clear c12
    try clear c12b0
    try clear c12b1
    try clear c13
    try clear c13b0
    try clear hcz11_0
    try clear hcz11_1
    try clear hcz11_2
    try clear hcz11_3
    try clear hcz6_0
    try clear hcz6_1
    try clear hcz6_2
    try clear hcz6_3
    try clear hcz6_4
    try clear hfz11_0
    try clear hfz11_1
    try clear hfz11_2
    try clear hfz11_3
    try clear hfz6_0
    try clear hfz6_1
    try clear hfz6_2
    try clear hfz6_3
    try clear hfz6_4
    obtain ⟨kq, x43_3, rfl, HA, HJ3, BK185, BK192, HB⟩ := hcut
    cases kq with
    | zero => exact absurd HA.out (by simp [tallysticklaw03_MontReckons.j0])
    | succ kj3 =>
      have H := HA.out
      clear HA
      simp only [tallysticklaw03_MontReckons.j0] at H
      by_cases c14 : x43_3 = true
      · subst c14
        have H1 : (some t186) = some r := by rw [if_pos rfl] at H; exact H
        clear H
        have H := H1
        clear H1
        obtain rfl := Option.some.inj H
        go_wp2
        go_ret
        exact ⟨by first | rfl | (simp [errW_none, errW_some] <;> rfl) | (simp [*, errW_none, errW_some] <;> rfl), by repeat (first | (with_reducible first | exact HB.out | apply below_alloc | apply pw_below_drewN | apply below_drew1 | refine below_set ?_ GE185.out | refine below_set ?_ GE192.out) | exact HB.out)⟩
      · replace c14 := Bool.eq_false_iff.mpr c14
        subst c14
        have H1 : ((tallystickref03_Turn.f a0_0 a0_1 4294967296).bind fun t193 => ((tallystickref03_Half.f kj3 a0_0 (IntKind.u64.wrap (a0_2))).bind fun t194 => ((tallystickref03_Pow.f kj3 a0_0 t194 a0_4).bind fun t195 => ((tallystickref03_Turn.f a0_0 t195 4294967296).bind fun t196 => (if t186 = true then ((mont_Redc.f t187 t188 t189 t190 a0_3).bind fun t197 => ((tallystickref03_Half.f kj3 a0_0 a0_3).bind fun t198 => (if (IntKind.u64.wrap (t197)) = t198 then ((mont_In.f t187 t188 t189 t190 a0_1).bind fun t199 => (if (IntKind.u64.wrap (t199)) = t193 then ((mont_Out.f t187 t188 t189 t190 a0_2).bind fun t200 => ((tallystickref03_Half.f kj3 a0_0 (IntKind.u64.wrap (a0_2))).bind fun t201 => (if (IntKind.u64.wrap (t200)) = t201 then ((mont_Mul.f t187 t188 t189 t190 a0_2 ((t193) % 4294967296)).bind fun t202 => ((tallystickref03_Half.f kj3 a0_0 (IntKind.u64.wrap ((IntKind.u64.wrap (a0_2)) * ((t193) % 4294967296)))).bind fun t203 => (if (IntKind.u64.wrap (t202)) = t203 then ((mont_Pow.f kj3 t187 t188 t189 t190 a0_2 a0_4).bind fun t204 => (some ((IntKind.u64.wrap (t204)) == t196))) else (some false)))) else (some false)))) else (some false))) else (some false)))) else (some false)))))) = some r := by rw [if_neg (show ¬ (false = true) by decide)] at H; exact H
        clear H
        have H := H1
        clear H1
        replace H := Option.bind_eq_some_iff.mp H
        obtain ⟨t193, A150, H⟩ := H
        replace H : ((tallystickref03_Half.f kj3 a0_0 (IntKind.u64.wrap (a0_2))).bind fun t194 => ((tallystickref03_Pow.f kj3 a0_0 t194 a0_4).bind fun t195 => ((tallystickref03_Turn.f a0_0 t195 4294967296).bind fun t196 => (if t186 = true then ((mont_Redc.f t187 t188 t189 t190 a0_3).bind fun t197 => ((tallystickref03_Half.f kj3 a0_0 a0_3).bind fun t198 => (if (IntKind.u64.wrap (t197)) = t198 then ((mont_In.f t187 t188 t189 t190 a0_1).bind fun t199 => (if (IntKind.u64.wrap (t199)) = t193 then ((mont_Out.f t187 t188 t189 t190 a0_2).bind fun t200 => ((tallystickref03_Half.f kj3 a0_0 (IntKind.u64.wrap (a0_2))).bind fun t201 => (if (IntKind.u64.wrap (t200)) = t201 then ((mont_Mul.f t187 t188 t189 t190 a0_2 ((t193) % 4294967296)).bind fun t202 => ((tallystickref03_Half.f kj3 a0_0 (IntKind.u64.wrap ((IntKind.u64.wrap (a0_2)) * ((t193) % 4294967296)))).bind fun t203 => (if (IntKind.u64.wrap (t202)) = t203 then ((mont_Pow.f kj3 t187 t188 t189 t190 a0_2 a0_4).bind fun t204 => (some ((IntKind.u64.wrap (t204)) == t196))) else (some false)))) else (some false)))) else (some false))) else (some false)))) else (some false))))) = some r := H
        have A15 := Aside0.mk A150
        clear A150
        replace H := Option.bind_eq_some_iff.mp H
        obtain ⟨t194, A160, H⟩ := H
        replace H : ((tallystickref03_Pow.f kj3 a0_0 t194 a0_4).bind fun t195 => ((tallystickref03_Turn.f a0_0 t195 4294967296).bind fun t196 => (if t186 = true then ((mont_Redc.f t187 t188 t189 t190 a0_3).bind fun t197 => ((tallystickref03_Half.f kj3 a0_0 a0_3).bind fun t198 => (if (IntKind.u64.wrap (t197)) = t198 then ((mont_In.f t187 t188 t189 t190 a0_1).bind fun t199 => (if (IntKind.u64.wrap (t199)) = t193 then ((mont_Out.f t187 t188 t189 t190 a0_2).bind fun t200 => ((tallystickref03_Half.f kj3 a0_0 (IntKind.u64.wrap (a0_2))).bind fun t201 => (if (IntKind.u64.wrap (t200)) = t201 then ((mont_Mul.f t187 t188 t189 t190 a0_2 ((t193) % 4294967296)).bind fun t202 => ((tallystickref03_Half.f kj3 a0_0 (IntKind.u64.wrap ((IntKind.u64.wrap (a0_2)) * ((t193) % 4294967296)))).bind fun t203 => (if (IntKind.u64.wrap (t202)) = t203 then ((mont_Pow.f kj3 t187 t188 t189 t190 a0_2 a0_4).bind fun t204 => (some ((IntKind.u64.wrap (t204)) == t196))) else (some false)))) else (some false)))) else (some false))) else (some false)))) else (some false)))) = some r := H
        have A16 := Aside0.mk A160
        clear A160
        replace H := Option.bind_eq_some_iff.mp H
        obtain ⟨t195, A170, H⟩ := H
        replace H : ((tallystickref03_Turn.f a0_0 t195 4294967296).bind fun t196 => (if t186 = true then ((mont_Redc.f t187 t188 t189 t190 a0_3).bind fun t197 => ((tallystickref03_Half.f kj3 a0_0 a0_3).bind fun t198 => (if (IntKind.u64.wrap (t197)) = t198 then ((mont_In.f t187 t188 t189 t190 a0_1).bind fun t199 => (if (IntKind.u64.wrap (t199)) = t193 then ((mont_Out.f t187 t188 t189 t190 a0_2).bind fun t200 => ((tallystickref03_Half.f kj3 a0_0 (IntKind.u64.wrap (a0_2))).bind fun t201 => (if (IntKind.u64.wrap (t200)) = t201 then ((mont_Mul.f t187 t188 t189 t190 a0_2 ((t193) % 4294967296)).bind fun t202 => ((tallystickref03_Half.f kj3 a0_0 (IntKind.u64.wrap ((IntKind.u64.wrap (a0_2)) * ((t193) % 4294967296)))).bind fun t203 => (if (IntKind.u64.wrap (t202)) = t203 then ((mont_Pow.f kj3 t187 t188 t189 t190 a0_2 a0_4).bind fun t204 => (some ((IntKind.u64.wrap (t204)) == t196))) else (some false)))) else (some false)))) else (some false))) else (some false)))) else (some false))) = some r := H
        have A17 := Aside0.mk A170
        clear A170
        replace H := Option.bind_eq_some_iff.mp H
        obtain ⟨t196, A180, H⟩ := H
        replace H : (if t186 = true then ((mont_Redc.f t187 t188 t189 t190 a0_3).bind fun t197 => ((tallystickref03_Half.f kj3 a0_0 a0_3).bind fun t198 => (if (IntKind.u64.wrap (t197)) = t198 then ((mont_In.f t187 t188 t189 t190 a0_1).bind fun t199 => (if (IntKind.u64.wrap (t199)) = t193 then ((mont_Out.f t187 t188 t189 t190 a0_2).bind fun t200 => ((tallystickref03_Half.f kj3 a0_0 (IntKind.u64.wrap (a0_2))).bind fun t201 => (if (IntKind.u64.wrap (t200)) = t201 then ((mont_Mul.f t187 t188 t189 t190 a0_2 ((t193) % 4294967296)).bind fun t202 => ((tallystickref03_Half.f kj3 a0_0 (IntKind.u64.wrap ((IntKind.u64.wrap (a0_2)) * ((t193) % 4294967296)))).bind fun t203 => (if (IntKind.u64.wrap (t202)) = t203 then ((mont_Pow.f kj3 t187 t188 t189 t190 a0_2 a0_4).bind fun t204 => (some ((IntKind.u64.wrap (t204)) == t196))) else (some false)))) else (some false)))) else (some false))) else (some false)))) else (some false)) = some r := H
        have A18 := Aside0.mk A180
        clear A180
        by_cases c19 : t186 = true
        · subst c19
          have H1 : ((mont_Redc.f t187 t188 t189 t190 a0_3).bind fun t197 => ((tallystickref03_Half.f kj3 a0_0 a0_3).bind fun t198 => (if (IntKind.u64.wrap (t197)) = t198 then ((mont_In.f t187 t188 t189 t190 a0_1).bind fun t199 => (if (IntKind.u64.wrap (t199)) = t193 then ((mont_Out.f t187 t188 t189 t190 a0_2).bind fun t200 => ((tallystickref03_Half.f kj3 a0_0 (IntKind.u64.wrap (a0_2))).bind fun t201 => (if (IntKind.u64.wrap (t200)) = t201 then ((mont_Mul.f t187 t188 t189 t190 a0_2 ((t193) % 4294967296)).bind fun t202 => ((tallystickref03_Half.f kj3 a0_0 (IntKind.u64.wrap ((IntKind.u64.wrap (a0_2)) * ((t193) % 4294967296)))).bind fun t203 => (if (IntKind.u64.wrap (t202)) = t203 then ((mont_Pow.f kj3 t187 t188 t189 t190 a0_2 a0_4).bind fun t204 => (some ((IntKind.u64.wrap (t204)) == t196))) else (some false)))) else (some false)))) else (some false))) else (some false)))) = some r := by rw [if_pos rfl] at H; exact H
          clear H
          have H := H1
          clear H1
          replace H := Option.bind_eq_some_iff.mp H
          obtain ⟨t197, A200, H⟩ := H
          replace H : ((tallystickref03_Half.f kj3 a0_0 a0_3).bind fun t198 => (if (IntKind.u64.wrap (t197)) = t198 then ((mont_In.f t187 t188 t189 t190 a0_1).bind fun t199 => (if (IntKind.u64.wrap (t199)) = t193 then ((mont_Out.f t187 t188 t189 t190 a0_2).bind fun t200 => ((tallystickref03_Half.f kj3 a0_0 (IntKind.u64.wrap (a0_2))).bind fun t201 => (if (IntKind.u64.wrap (t200)) = t201 then ((mont_Mul.f t187 t188 t189 t190 a0_2 ((t193) % 4294967296)).bind fun t202 => ((tallystickref03_Half.f kj3 a0_0 (IntKind.u64.wrap ((IntKind.u64.wrap (a0_2)) * ((t193) % 4294967296)))).bind fun t203 => (if (IntKind.u64.wrap (t202)) = t203 then ((mont_Pow.f kj3 t187 t188 t189 t190 a0_2 a0_4).bind fun t204 => (some ((IntKind.u64.wrap (t204)) == t196))) else (some false)))) else (some false)))) else (some false))) else (some false))) = some r := H
          have A20 := Aside0.mk A200
          clear A200
          replace H := Option.bind_eq_some_iff.mp H
          obtain ⟨t198, A210, H⟩ := H
          replace H : (if (IntKind.u64.wrap (t197)) = t198 then ((mont_In.f t187 t188 t189 t190 a0_1).bind fun t199 => (if (IntKind.u64.wrap (t199)) = t193 then ((mont_Out.f t187 t188 t189 t190 a0_2).bind fun t200 => ((tallystickref03_Half.f kj3 a0_0 (IntKind.u64.wrap (a0_2))).bind fun t201 => (if (IntKind.u64.wrap (t200)) = t201 then ((mont_Mul.f t187 t188 t189 t190 a0_2 ((t193) % 4294967296)).bind fun t202 => ((tallystickref03_Half.f kj3 a0_0 (IntKind.u64.wrap ((IntKind.u64.wrap (a0_2)) * ((t193) % 4294967296)))).bind fun t203 => (if (IntKind.u64.wrap (t202)) = t203 then ((mont_Pow.f kj3 t187 t188 t189 t190 a0_2 a0_4).bind fun t204 => (some ((IntKind.u64.wrap (t204)) == t196))) else (some false)))) else (some false)))) else (some false))) else (some false)) = some r := H
          have A21 := Aside0.mk A210
          clear A210
          by_cases c22 : (IntKind.u64.wrap (t197)) = t198
          · rw [if_pos c22] at H
            have c22b0 : ((IntKind.u64.wrap (t197)) == t198) = true := beq_iff_eq.mpr c22
            have c22b1 : ((IntKind.u64.wrap (t197)) != t198) = false := bne_eq_false_iff_eq.mpr c22
            clear c22
            replace H := Option.bind_eq_some_iff.mp H
            obtain ⟨t199, A230, H⟩ := H
            replace H : (if (IntKind.u64.wrap (t199)) = t193 then ((mont_Out.f t187 t188 t189 t190 a0_2).bind fun t200 => ((tallystickref03_Half.f kj3 a0_0 (IntKind.u64.wrap (a0_2))).bind fun t201 => (if (IntKind.u64.wrap (t200)) = t201 then ((mont_Mul.f t187 t188 t189 t190 a0_2 ((t193) % 4294967296)).bind fun t202 => ((tallystickref03_Half.f kj3 a0_0 (IntKind.u64.wrap ((IntKind.u64.wrap (a0_2)) * ((t193) % 4294967296)))).bind fun t203 => (if (IntKind.u64.wrap (t202)) = t203 then ((mont_Pow.f kj3 t187 t188 t189 t190 a0_2 a0_4).bind fun t204 => (some ((IntKind.u64.wrap (t204)) == t196))) else (some false)))) else (some false)))) else (some false)) = some r := H
            have A23 := Aside0.mk A230
            clear A230
            by_cases c24 : (IntKind.u64.wrap (t199)) = t193
            · rw [if_pos c24] at H
              have c24b0 : ((IntKind.u64.wrap (t199)) == t193) = true := beq_iff_eq.mpr c24
              have c24b1 : ((IntKind.u64.wrap (t199)) != t193) = false := bne_eq_false_iff_eq.mpr c24
              clear c24
              replace H := Option.bind_eq_some_iff.mp H
              obtain ⟨t200, A250, H⟩ := H
              replace H : ((tallystickref03_Half.f kj3 a0_0 (IntKind.u64.wrap (a0_2))).bind fun t201 => (if (IntKind.u64.wrap (t200)) = t201 then ((mont_Mul.f t187 t188 t189 t190 a0_2 ((t193) % 4294967296)).bind fun t202 => ((tallystickref03_Half.f kj3 a0_0 (IntKind.u64.wrap ((IntKind.u64.wrap (a0_2)) * ((t193) % 4294967296)))).bind fun t203 => (if (IntKind.u64.wrap (t202)) = t203 then ((mont_Pow.f kj3 t187 t188 t189 t190 a0_2 a0_4).bind fun t204 => (some ((IntKind.u64.wrap (t204)) == t196))) else (some false)))) else (some false))) = some r := H
              have A25 := Aside0.mk A250
              clear A250
              replace H := Option.bind_eq_some_iff.mp H
              obtain ⟨t201, A260, H⟩ := H
              replace H : (if (IntKind.u64.wrap (t200)) = t201 then ((mont_Mul.f t187 t188 t189 t190 a0_2 ((t193) % 4294967296)).bind fun t202 => ((tallystickref03_Half.f kj3 a0_0 (IntKind.u64.wrap ((IntKind.u64.wrap (a0_2)) * ((t193) % 4294967296)))).bind fun t203 => (if (IntKind.u64.wrap (t202)) = t203 then ((mont_Pow.f kj3 t187 t188 t189 t190 a0_2 a0_4).bind fun t204 => (some ((IntKind.u64.wrap (t204)) == t196))) else (some false)))) else (some false)) = some r := H
              have A26 := Aside0.mk A260
              clear A260
              by_cases c27 : (IntKind.u64.wrap (t200)) = t201
              · rw [if_pos c27] at H
                have c27b0 : ((IntKind.u64.wrap (t200)) == t201) = true := beq_iff_eq.mpr c27
                have c27b1 : ((IntKind.u64.wrap (t200)) != t201) = false := bne_eq_false_iff_eq.mpr c27
                clear c27
                replace H := Option.bind_eq_some_iff.mp H
                obtain ⟨t202, A280, H⟩ := H
                replace H : ((tallystickref03_Half.f kj3 a0_0 (IntKind.u64.wrap ((IntKind.u64.wrap (a0_2)) * ((t193) % 4294967296)))).bind fun t203 => (if (IntKind.u64.wrap (t202)) = t203 then ((mont_Pow.f kj3 t187 t188 t189 t190 a0_2 a0_4).bind fun t204 => (some ((IntKind.u64.wrap (t204)) == t196))) else (some false))) = some r := H
                have A28 := Aside0.mk A280
                clear A280
                replace H := Option.bind_eq_some_iff.mp H
                obtain ⟨t203, A290, H⟩ := H
                replace H : (if (IntKind.u64.wrap (t202)) = t203 then ((mont_Pow.f kj3 t187 t188 t189 t190 a0_2 a0_4).bind fun t204 => (some ((IntKind.u64.wrap (t204)) == t196))) else (some false)) = some r := H
                have A29 := Aside0.mk A290
                clear A290
                by_cases c30 : (IntKind.u64.wrap (t202)) = t203
                · rw [if_pos c30] at H
                  have c30b0 : ((IntKind.u64.wrap (t202)) == t203) = true := beq_iff_eq.mpr c30
                  have c30b1 : ((IntKind.u64.wrap (t202)) != t203) = false := bne_eq_false_iff_eq.mpr c30
                  clear c30
                  replace H := Option.bind_eq_some_iff.mp H
                  obtain ⟨t204, A310, H⟩ := H
                  replace H : (some ((IntKind.u64.wrap (t204)) == t196)) = some r := H
                  have A31 := Aside0.mk A310
                  clear A310
                  obtain rfl := Option.some.inj H
                  go_wp2_with (first | ((with_reducible refine gate_callee (f := 17) rfl ?_); refine goesL_ (some 47) rfl rfl Try.func17 (by kernel_rfl) rfl #[.int .u32 a0_0, .int .u64 a0_1, .int .u64 4294967296] rfl (by (try simp only [List.map_toArray, List.map_cons, List.map_nil]); first | done | rfl | (simp only [List.length_drop, List.length_take]; rfl)) ?_; (with_reducible refine (tallystickref03_Turn.calls a0_0 a0_1 4294967296 t193 _ A15.out).mono ?_); rintro e w' ⟨rfl, ⟨nd, rfl⟩⟩; refine ⟨_, rfl, ?_⟩) | ((with_reducible refine gate_callee (f := 19) rfl ?_); refine goesL_ (some 55) rfl rfl Try.func19 (by kernel_rfl) rfl #[.int .u32 a0_0, .int .u64 (IntKind.u64.wrap (a0_2))] rfl (by (try simp only [List.map_toArray, List.map_cons, List.map_nil]); first | done | rfl | (simp only [List.length_drop, List.length_take]; rfl)) ?_; (with_reducible refine (tallystickref03_Half.calls kj3 a0_0 (IntKind.u64.wrap (a0_2)) t194 _ A16.out).mono ?_); rintro e w' ⟨rfl, ⟨nd, rfl⟩⟩; refine ⟨_, rfl, ?_⟩) | ((with_reducible refine gate_callee (f := 18) rfl ?_); refine goesL_ (some 57) rfl rfl Try.func18 (by kernel_rfl) rfl #[.int .u32 a0_0, .int .u64 t194, .int .u64 a0_4] rfl (by (try simp only [List.map_toArray, List.map_cons, List.map_nil]); first | done | rfl | (simp only [List.length_drop, List.length_take]; rfl)) ?_; (with_reducible refine (tallystickref03_Pow.calls kj3 a0_0 t194 a0_4 t195 _ A17.out).mono ?_); rintro e w' ⟨rfl, ⟨nd, rfl⟩⟩; refine ⟨_, rfl, ?_⟩) | ((with_reducible refine gate_callee (f := 17) rfl ?_); refine goesL_ (some 58) rfl rfl Try.func17 (by kernel_rfl) rfl #[.int .u32 a0_0, .int .u64 t195, .int .u64 4294967296] rfl (by (try simp only [List.map_toArray, List.map_cons, List.map_nil]); first | done | rfl | (simp only [List.length_drop, List.length_take]; rfl)) ?_; (with_reducible refine (tallystickref03_Turn.calls a0_0 t195 4294967296 t196 _ A18.out).mono ?_); rintro e w' ⟨rfl, ⟨nd, rfl⟩⟩; refine ⟨_, rfl, ?_⟩; have hnb32 := NB192_185.out; have hnc32 := NB185_192.out; have hcz33_0 : wc.cell? ⟨gb192, 0, none⟩ = some (.int .u32 t187) := (blk_cell BK192.out 0).trans rfl; have hcz33_1 : wc.cell? ⟨gb192, 1, none⟩ = some (.int .u32 t188) := (blk_cell BK192.out 1).trans rfl; have hcz33_2 : wc.cell? ⟨gb192, 2, none⟩ = some (.int .u32 t189) := (blk_cell BK192.out 2).trans rfl; have hcz33_3 : wc.cell? ⟨gb192, 3, none⟩ = some (.int .u32 t190) := (blk_cell BK192.out 3).trans rfl; have hfz33_0 := blk_frozen BK192.out 0; have hfz33_1 := blk_frozen BK192.out 1; have hfz33_2 := blk_frozen BK192.out 2; have hfz33_3 := blk_frozen BK192.out 3) | (go_at_call 20; (with_reducible refine (mont_Redc.calls t187 t188 t189 t190 a0_3 t197 _ A20.out).mono ?_); rintro e w34 ⟨rfl, hb⟩; have n0_ := Aside0.mk (blk_below (g := gb185) (o := .cells #[.int .u32 a0_0, .int .u64 a0_1, .int .u32 a0_2, .int .u64 a0_3, .int .u64 a0_4] 43 (0, 0)) (by (with_reducible repeat (first | refine blk_drewN ?_ _ | refine blk_drew ?_ | refine blk_alloc ?_ _)); exact BK185.out) hb); have n1_ := Aside0.mk (blk_below (g := gb192) (o := .cells #[.int .u32 t187, .int .u32 t188, .int .u32 t189, .int .u32 t190] 25 (0, 0)) (by (with_reducible repeat (first | refine blk_drewN ?_ _ | refine blk_drew ?_ | refine blk_alloc ?_ _)); exact BK192.out) hb); have n2_ := Aside0.mk (below_step (by repeat (first | (with_reducible first | exact HB.out | apply below_alloc | apply pw_below_drewN | apply below_drew1 | refine below_set ?_ GE185.out | refine below_set ?_ GE192.out) | exact HB.out)) hb); clear BK185; clear BK192; clear HB; have BK185 := n0_; have BK192 := n1_; have HB := n2_; clear n0_ n1_ n2_; (try clear hb); (try clear hb2); (try clear hk); (try clear hi)) | (go_at_call 19; (with_reducible refine (tallystickref03_Half.calls kj3 a0_0 a0_3 t198 _ A21.out).mono ?_); rintro e w' ⟨rfl, ⟨nd, rfl⟩⟩; have hcz35_0 : w34.cell? ⟨gb192, 0, none⟩ = some (.int .u32 t187) := (blk_cell BK192.out 0).trans rfl; have hcz35_1 : w34.cell? ⟨gb192, 1, none⟩ = some (.int .u32 t188) := (blk_cell BK192.out 1).trans rfl; have hcz35_2 : w34.cell? ⟨gb192, 2, none⟩ = some (.int .u32 t189) := (blk_cell BK192.out 2).trans rfl; have hcz35_3 : w34.cell? ⟨gb192, 3, none⟩ = some (.int .u32 t190) := (blk_cell BK192.out 3).trans rfl; have hfz35_0 := blk_frozen BK192.out 0; have hfz35_1 := blk_frozen BK192.out 1; have hfz35_2 := blk_frozen BK192.out 2; have hfz35_3 := blk_frozen BK192.out 3) | (go_at_call 13; (with_reducible refine (mont_In.calls t187 t188 t189 t190 a0_1 t199 _ A23.out).mono ?_); rintro e w36 ⟨rfl, hb⟩; have n0_ := Aside0.mk (blk_below (g := gb185) (o := .cells #[.int .u32 a0_0, .int .u64 a0_1, .int .u32 a0_2, .int .u64 a0_3, .int .u64 a0_4] 43 (0, 0)) (by (with_reducible repeat (first | refine blk_drewN ?_ _ | refine blk_drew ?_ | refine blk_alloc ?_ _)); exact BK185.out) hb); have n1_ := Aside0.mk (blk_below (g := gb192) (o := .cells #[.int .u32 t187, .int .u32 t188, .int .u32 t189, .int .u32 t190] 25 (0, 0)) (by (with_reducible repeat (first | refine blk_drewN ?_ _ | refine blk_drew ?_ | refine blk_alloc ?_ _)); exact BK192.out) hb); have n2_ := Aside0.mk (below_step (by repeat (first | (with_reducible first | exact HB.out | apply below_alloc | apply pw_below_drewN | apply below_drew1 | refine below_set ?_ GE185.out | refine below_set ?_ GE192.out) | exact HB.out)) hb); clear BK185; clear BK192; clear HB; have BK185 := n0_; have BK192 := n1_; have HB := n2_; clear n0_ n1_ n2_; (try clear hb); (try clear hb2); (try clear hk); (try clear hi); have hcz37_0 : w36.cell? ⟨gb192, 0, none⟩ = some (.int .u32 t187) := (blk_cell BK192.out 0).trans rfl; have hcz37_1 : w36.cell? ⟨gb192, 1, none⟩ = some (.int .u32 t188) := (blk_cell BK192.out 1).trans rfl; have hcz37_2 : w36.cell? ⟨gb192, 2, none⟩ = some (.int .u32 t189) := (blk_cell BK192.out 2).trans rfl; have hcz37_3 : w36.cell? ⟨gb192, 3, none⟩ = some (.int .u32 t190) := (blk_cell BK192.out 3).trans rfl; have hfz37_0 := blk_frozen BK192.out 0; have hfz37_1 := blk_frozen BK192.out 1; have hfz37_2 := blk_frozen BK192.out 2; have hfz37_3 := blk_frozen BK192.out 3) | (go_at_call 15; (with_reducible refine (mont_Out.calls t187 t188 t189 t190 a0_2 t200 _ A25.out).mono ?_); rintro e w38 ⟨rfl, hb⟩; have n0_ := Aside0.mk (blk_below (g := gb185) (o := .cells #[.int .u32 a0_0, .int .u64 a0_1, .int .u32 a0_2, .int .u64 a0_3, .int .u64 a0_4] 43 (0, 0)) (by (with_reducible repeat (first | refine blk_drewN ?_ _ | refine blk_drew ?_ | refine blk_alloc ?_ _)); exact BK185.out) hb); have n1_ := Aside0.mk (blk_below (g := gb192) (o := .cells #[.int .u32 t187, .int .u32 t188, .int .u32 t189, .int .u32 t190] 25 (0, 0)) (by (with_reducible repeat (first | refine blk_drewN ?_ _ | refine blk_drew ?_ | refine blk_alloc ?_ _)); exact BK192.out) hb); have n2_ := Aside0.mk (below_step (by repeat (first | (with_reducible first | exact HB.out | apply below_alloc | apply pw_below_drewN | apply below_drew1 | refine below_set ?_ GE185.out | refine below_set ?_ GE192.out) | exact HB.out)) hb); clear BK185; clear BK192; clear HB; have BK185 := n0_; have BK192 := n1_; have HB := n2_; clear n0_ n1_ n2_; (try clear hb); (try clear hb2); (try clear hk); (try clear hi)) | (go_at_call 19; (with_reducible refine (tallystickref03_Half.calls kj3 a0_0 (IntKind.u64.wrap (a0_2)) t201 _ A26.out).mono ?_); rintro e w' ⟨rfl, ⟨nd, rfl⟩⟩; have hcz39_0 : w38.cell? ⟨gb192, 0, none⟩ = some (.int .u32 t187) := (blk_cell BK192.out 0).trans rfl; have hcz39_1 : w38.cell? ⟨gb192, 1, none⟩ = some (.int .u32 t188) := (blk_cell BK192.out 1).trans rfl; have hcz39_2 : w38.cell? ⟨gb192, 2, none⟩ = some (.int .u32 t189) := (blk_cell BK192.out 2).trans rfl; have hcz39_3 : w38.cell? ⟨gb192, 3, none⟩ = some (.int .u32 t190) := (blk_cell BK192.out 3).trans rfl; have hfz39_0 := blk_frozen BK192.out 0; have hfz39_1 := blk_frozen BK192.out 1; have hfz39_2 := blk_frozen BK192.out 2; have hfz39_3 := blk_frozen BK192.out 3) | (go_at_call 14; (with_reducible refine (mont_Mul.calls t187 t188 t189 t190 a0_2 ((t193) % 4294967296) t202 _ A28.out).mono ?_); rintro e w40 ⟨rfl, hb⟩; have n0_ := Aside0.mk (blk_below (g := gb185) (o := .cells #[.int .u32 a0_0, .int .u64 a0_1, .int .u32 a0_2, .int .u64 a0_3, .int .u64 a0_4] 43 (0, 0)) (by (with_reducible repeat (first | refine blk_drewN ?_ _ | refine blk_drew ?_ | refine blk_alloc ?_ _)); exact BK185.out) hb); have n1_ := Aside0.mk (blk_below (g := gb192) (o := .cells #[.int .u32 t187, .int .u32 t188, .int .u32 t189, .int .u32 t190] 25 (0, 0)) (by (with_reducible repeat (first | refine blk_drewN ?_ _ | refine blk_drew ?_ | refine blk_alloc ?_ _)); exact BK192.out) hb); have n2_ := Aside0.mk (below_step (by repeat (first | (with_reducible first | exact HB.out | apply below_alloc | apply pw_below_drewN | apply below_drew1 | refine below_set ?_ GE185.out | refine below_set ?_ GE192.out) | exact HB.out)) hb); clear BK185; clear BK192; clear HB; have BK185 := n0_; have BK192 := n1_; have HB := n2_; clear n0_ n1_ n2_; (try clear hb); (try clear hb2); (try clear hk); (try clear hi)) | (go_at_call 19; (with_reducible refine (tallystickref03_Half.calls kj3 a0_0 (IntKind.u64.wrap ((IntKind.u64.wrap (a0_2)) * ((t193) % 4294967296))) t203 _ A29.out).mono ?_); rintro e w' ⟨rfl, ⟨nd, rfl⟩⟩; have hcz41_0 : w40.cell? ⟨gb192, 0, none⟩ = some (.int .u32 t187) := (blk_cell BK192.out 0).trans rfl; have hcz41_1 : w40.cell? ⟨gb192, 1, none⟩ = some (.int .u32 t188) := (blk_cell BK192.out 1).trans rfl; have hcz41_2 : w40.cell? ⟨gb192, 2, none⟩ = some (.int .u32 t189) := (blk_cell BK192.out 2).trans rfl; have hcz41_3 : w40.cell? ⟨gb192, 3, none⟩ = some (.int .u32 t190) := (blk_cell BK192.out 3).trans rfl; have hfz41_0 := blk_frozen BK192.out 0; have hfz41_1 := blk_frozen BK192.out 1; have hfz41_2 := blk_frozen BK192.out 2; have hfz41_3 := blk_frozen BK192.out 3) | (go_at_call 16; (with_reducible refine (mont_Pow.calls kj3 t187 t188 t189 t190 a0_2 a0_4 t204 _ A31.out).mono ?_); rintro e w42 ⟨rfl, hb⟩; have n0_ := Aside0.mk (blk_below (g := gb185) (o := .cells #[.int .u32 a0_0, .int .u64 a0_1, .int .u32 a0_2, .int .u64 a0_3, .int .u64 a0_4] 43 (0, 0)) (by (with_reducible repeat (first | refine blk_drewN ?_ _ | refine blk_drew ?_ | refine blk_alloc ?_ _)); exact BK185.out) hb); have n1_ := Aside0.mk (blk_below (g := gb192) (o := .cells #[.int .u32 t187, .int .u32 t188, .int .u32 t189, .int .u32 t190] 25 (0, 0)) (by (with_reducible repeat (first | refine blk_drewN ?_ _ | refine blk_drew ?_ | refine blk_alloc ?_ _)); exact BK192.out) hb); have n2_ := Aside0.mk (below_step (by repeat (first | (with_reducible first | exact HB.out | apply below_alloc | apply pw_below_drewN | apply below_drew1 | refine below_set ?_ GE185.out | refine below_set ?_ GE192.out) | exact HB.out)) hb); clear BK185; clear BK192; clear HB; have BK185 := n0_; have BK192 := n1_; have HB := n2_; clear n0_ n1_ n2_; (try clear hb); (try clear hb2); (try clear hk); (try clear hi)))
                  go_ret
                  exact ⟨by first | rfl | (simp [errW_none, errW_some] <;> rfl) | (simp [*, errW_none, errW_some] <;> rfl), by repeat (first | (with_reducible first | exact HB.out | apply below_alloc | apply pw_below_drewN | apply below_drew1 | refine below_set ?_ GE185.out | refine below_set ?_ GE192.out) | exact HB.out)⟩
                · rw [if_neg c30] at H
                  have c30b0 : ((IntKind.u64.wrap (t202)) == t203) = false := beq_eq_false_iff_ne.mpr c30
                  have c30b1 : ((IntKind.u64.wrap (t202)) != t203) = true := bne_iff_ne.mpr c30
                  obtain rfl := Option.some.inj H
                  exact absurd hr_.out (by simp)
              · rw [if_neg c27] at H
                have c27b0 : ((IntKind.u64.wrap (t200)) == t201) = false := beq_eq_false_iff_ne.mpr c27
                have c27b1 : ((IntKind.u64.wrap (t200)) != t201) = true := bne_iff_ne.mpr c27
                obtain rfl := Option.some.inj H
                exact absurd hr_.out (by simp)
            · rw [if_neg c24] at H
              have c24b0 : ((IntKind.u64.wrap (t199)) == t193) = false := beq_eq_false_iff_ne.mpr c24
              have c24b1 : ((IntKind.u64.wrap (t199)) != t193) = true := bne_iff_ne.mpr c24
              obtain rfl := Option.some.inj H
              exact absurd hr_.out (by simp)
          · rw [if_neg c22] at H
            have c22b0 : ((IntKind.u64.wrap (t197)) == t198) = false := beq_eq_false_iff_ne.mpr c22
            have c22b1 : ((IntKind.u64.wrap (t197)) != t198) = true := bne_iff_ne.mpr c22
            obtain rfl := Option.some.inj H
            exact absurd hr_.out (by simp)
        · replace c19 := Bool.eq_false_iff.mpr c19
          subst c19
          have H1 : (some false) = some r := by rw [if_neg (show ¬ (false = true) by decide)] at H; exact H
          clear H
          have H := H1
          clear H1
          obtain rfl := Option.some.inj H
          exact absurd hr_.out (by simp)

end Go.Proofs.Ytjejkkjoplphfaa.Pa
