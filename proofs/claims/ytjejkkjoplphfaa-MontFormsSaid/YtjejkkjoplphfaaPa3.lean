/- Contracts of functions and laws, written by this session's program myprint.py by way of the kit's print. -/
import Derived.Test.YtjejkkjoplphfaaPa0
import Derived.Test.YtjejkkjoplphfaaPa1
import Derived.Test.YtjejkkjoplphfaaPa2
namespace Go.Proofs.Ytjejkkjoplphfaa.Pa
open Go.RowKit Go.Proofs.Ytjejkkjoplphfaa.Hand Go.Proofs.YtjejkkjoplphfaaW.PrintWords Go.Proofs.YtjejkkjoplphfaaW.PrintLast Go.Proofs.YtjejkkjoplphfaaW.PrintMore
attribute [local go_sem] max2_int min2_int max_two min_two max_three min_three max_four min_four   -- for this text's walks alone
set_option linter.unusedVariables false
set_option linter.unusedSimpArgs false

attribute [local go_sem high] eqA25
/-! ### tallysticklaw03_MontForms: function 3 -/
def tallysticklaw03_MontForms.f (k : Nat) (a0 : Int) : Option (Bool) := (tallysticklaw03_shown.f).bind fun t123 => ((mont_Make.f a0).bind fun bt124 => ((tallystickref03_Make.f k a0).bind fun bt130 => (if t123 = true then (if (bt124.1 == bt130.1 && (bt124.2.1 == bt130.2.1 && (bt124.2.2.1 == bt130.2.2.1 && (bt124.2.2.2.1 == bt130.2.2.2.1)))) = true then (some (bt124.2.2.2.2 == bt130.2.2.2.2)) else (some false)) else (some false))))
theorem tallysticklaw03_MontForms.mono : ∀ a0 k, LeO (tallysticklaw03_MontForms.f k a0) (tallysticklaw03_MontForms.f (k + 1) a0) := by
  intro a0 k
  unfold tallysticklaw03_MontForms.f
  repeat' first
      | (with_reducible exact tallystickref03_Make.mono _ _)
      | (with_reducible exact LeO.refl _)
      | (with_reducible exact LeO.none _)
      | (with_reducible refine LeO.ite ?_ ?_)
      | (with_reducible refine LeO.bind ?_ (fun _ => ?_))
      | exact tallystickref03_Make.mono _ _
      | exact LeO.none _
      | refine LeO.ite ?_ ?_
      | refine LeO.bind ?_ (fun _ => ?_)
set_option maxHeartbeats 8000000 in
set_option maxRecDepth 100000 in
theorem tallysticklaw03_MontForms.calls (k : Nat) (a0 : Int) (r : Bool) (w : World) (hr_ : Aside0 (r = true)) (h : tallysticklaw03_MontForms.f k a0 = some r) :
    Calls Try.prog 3 #[.int .u32 a0] w fun e w' => e = .returned (.bool r) ∧ Below w.heap.size w w' := by
  have hu25 := Try.underlying25
  have HB := Aside0.mk (Below.refl w.heap.size w)
  have H : ((tallysticklaw03_shown.f).bind fun t123 => ((mont_Make.f a0).bind fun bt124 => ((tallystickref03_Make.f k a0).bind fun bt130 => (if t123 = true then (if (bt124.1 == bt130.1 && (bt124.2.1 == bt130.2.1 && (bt124.2.2.1 == bt130.2.2.1 && (bt124.2.2.2.1 == bt130.2.2.2.1)))) = true then (some (bt124.2.2.2.2 == bt130.2.2.2.2)) else (some false)) else (some false))))) = some r := h
  clear h
  replace H := Option.bind_eq_some_iff.mp H
  obtain ⟨t123, A20, H⟩ := H
  replace H : ((mont_Make.f a0).bind fun bt124 => ((tallystickref03_Make.f k a0).bind fun bt130 => (if t123 = true then (if (bt124.1 == bt130.1 && (bt124.2.1 == bt130.2.1 && (bt124.2.2.1 == bt130.2.2.1 && (bt124.2.2.2.1 == bt130.2.2.2.1)))) = true then (some (bt124.2.2.2.2 == bt130.2.2.2.2)) else (some false)) else (some false)))) = some r := H
  have A2 := Aside0.mk A20
  clear A20
  replace H := Option.bind_eq_some_iff.mp H
  obtain ⟨⟨t124, t125, t126, t127, t128⟩, A30, H⟩ := H
  replace H : ((tallystickref03_Make.f k a0).bind fun bt130 => (if t123 = true then (if (t124 == bt130.1 && (t125 == bt130.2.1 && (t126 == bt130.2.2.1 && (t127 == bt130.2.2.2.1)))) = true then (some (t128 == bt130.2.2.2.2)) else (some false)) else (some false))) = some r := H
  have A3 := Aside0.mk A30
  clear A30
  replace H := Option.bind_eq_some_iff.mp H
  obtain ⟨⟨t130, t131, t132, t133, t134⟩, A40, H⟩ := H
  replace H : (if t123 = true then (if (t124 == t130 && (t125 == t131 && (t126 == t132 && (t127 == t133)))) = true then (some (t128 == t134)) else (some false)) else (some false)) = some r := H
  have A4 := Aside0.mk A40
  clear A40
  by_cases c5 : t123 = true
  · subst c5
    have H1 : (if (t124 == t130 && (t125 == t131 && (t126 == t132 && (t127 == t133)))) = true then (some (t128 == t134)) else (some false)) = some r := by rw [if_pos rfl] at H; exact H
    clear H
    have H := H1
    clear H1
    by_cases c6 : (t124 == t130 && (t125 == t131 && (t126 == t132 && (t127 == t133)))) = true
    · rw [if_pos c6] at H
      have c6b0 : (t124 == t130 && (t125 == t131 && (t126 == t132 && (t127 == t133)))) = true := c6
      (try (have c6b1 : decide (t124 = t130 && (t125 == t131 && (t126 == t132 && (t127 == t133)))) = true := by simpa using c6))
      (try (have c6b2 : (t124 == t130 && (t125 == t131 && (t126 == t132 && (t127 == t133)))) = true := by simpa using c6))
      clear c6
      obtain rfl := Option.some.inj H
      go_enter Try.func3, Try.ntmps3
      go_wp2_with (first | ((with_reducible refine gate_callee (f := 10) rfl ?_); refine goesL_ (some 8) rfl rfl Try.func10 (by kernel_rfl) rfl #[] rfl (by (try simp only [List.map_toArray, List.map_cons, List.map_nil]); first | done | rfl | (simp only [List.length_drop, List.length_take]; rfl)) ?_; (with_reducible refine (tallysticklaw03_shown.calls  true _ A2.out).mono ?_); rintro e w7 ⟨rfl, hb⟩; refine ⟨_, rfl, ?_⟩; have n0_ := Aside0.mk (below_step (by repeat (first | (with_reducible first | exact HB.out | apply below_alloc | apply pw_below_drewN | apply below_drew1) | exact HB.out)) hb); clear HB; have HB := n0_; clear n0_; (try clear hb); (try clear hb2); (try clear hk); (try clear hi)) | ((with_reducible refine gate_callee (f := 11) rfl ?_); refine goesL_ (some 11) rfl rfl Try.func11 (by kernel_rfl) rfl #[.int .u32 a0] rfl (by (try simp only [List.map_toArray, List.map_cons, List.map_nil]); first | done | rfl | (simp only [List.length_drop, List.length_take]; rfl)) ?_; (with_reducible refine (mont_Make.calls a0 t124 t125 t126 t127 t128 _ A3.out).mono ?_); rintro e w8 ⟨rfl, hb⟩; refine ⟨_, rfl, ?_⟩; have n0_ := Aside0.mk (below_step (by repeat (first | (with_reducible first | exact HB.out | apply below_alloc | apply pw_below_drewN | apply below_drew1) | exact HB.out)) hb); clear HB; have HB := n0_; clear n0_; (try clear hb); (try clear hb2); (try clear hk); (try clear hi)) | ((with_reducible refine gate_dst (N := 4) rfl ?_); refine box_event ?hg (N := 4) ?hd (cs := #[.int .u32 0, .int .u32 0, .int .u32 0, .int .u32 0]) (t := 25) ?hr ?_; (case hd => rfl); (case hg => rfl); (case hr => first | (go_simp; done) | (go_simp; rfl)); intro gb129 hg w9 hbox hb; have n0_ := Aside0.mk (below_step (by repeat (first | (with_reducible first | exact HB.out | apply below_alloc | apply pw_below_drewN | apply below_drew1) | exact HB.out)) hb); have n1_ := Aside0.mk (hbox); have n2_ := Aside0.mk ((by rw [hg]; exact (below_size (by repeat (first | (with_reducible first | exact HB.out | apply below_alloc | apply pw_below_drewN | apply below_drew1) | exact HB.out))) : w.heap.size ≤ gb129)); have n3_ := Aside0.mk ((by rw [hg]; exact (below_size (by repeat (first | (with_reducible first | exact HB.out | apply below_alloc | apply pw_below_drewN | apply below_drew1) | exact HB.out))) : w.heap.size ≤ gb129)); clear HB; have HB := n0_; have BK129 := n1_; have GW129 := n2_; have GE129 := n3_; clear n0_ n1_ n2_ n3_; clear hb hbox hg; have hcz10_0 : w9.cell? ⟨gb129, 0, none⟩ = some (.int .u32 0) := (blk_cell BK129.out 0).trans rfl; have hcz10_1 : w9.cell? ⟨gb129, 1, none⟩ = some (.int .u32 0) := (blk_cell BK129.out 1).trans rfl; have hcz10_2 : w9.cell? ⟨gb129, 2, none⟩ = some (.int .u32 0) := (blk_cell BK129.out 2).trans rfl; have hcz10_3 : w9.cell? ⟨gb129, 3, none⟩ = some (.int .u32 0) := (blk_cell BK129.out 3).trans rfl; have hfz10_0 := blk_frozen BK129.out 0; have hfz10_1 := blk_frozen BK129.out 1; have hfz10_2 := blk_frozen BK129.out 2; have hfz10_3 := blk_frozen BK129.out 3) | ((with_reducible refine gate_callee (f := 12) rfl ?_); refine goesL_ (some 16) rfl rfl Try.func12 (by kernel_rfl) rfl #[.int .u32 a0] rfl (by (try simp only [List.map_toArray, List.map_cons, List.map_nil]); first | done | rfl | (simp only [List.length_drop, List.length_take]; rfl)) ?_; (with_reducible refine (tallystickref03_Make.calls k a0 t130 t131 t132 t133 t134 _ A4.out).mono ?_); rintro e w11 ⟨rfl, hb⟩; refine ⟨_, rfl, ?_⟩; have n0_ := Aside0.mk (blk_below (g := gb129) (o := .cells #[.int .u32 t124, .int .u32 t125, .int .u32 t126, .int .u32 t127] 25 (0, 0)) (by (with_reducible repeat (first | refine blk_drewN ?_ _ | refine blk_drew ?_ | refine blk_alloc ?_ _)); refine blk_put (cs := #[.int .u32 t124, .int .u32 t125, .int .u32 t126, .int .u32 0]) ?_ 3 _ rfl; (with_reducible repeat (first | refine blk_drewN ?_ _ | refine blk_drew ?_ | refine blk_alloc ?_ _)); refine blk_put (cs := #[.int .u32 t124, .int .u32 t125, .int .u32 0, .int .u32 0]) ?_ 2 _ rfl; (with_reducible repeat (first | refine blk_drewN ?_ _ | refine blk_drew ?_ | refine blk_alloc ?_ _)); refine blk_put (cs := #[.int .u32 t124, .int .u32 0, .int .u32 0, .int .u32 0]) ?_ 1 _ rfl; (with_reducible repeat (first | refine blk_drewN ?_ _ | refine blk_drew ?_ | refine blk_alloc ?_ _)); refine blk_put (cs := #[.int .u32 0, .int .u32 0, .int .u32 0, .int .u32 0]) ?_ 0 _ rfl; (with_reducible repeat (first | refine blk_drewN ?_ _ | refine blk_drew ?_ | refine blk_alloc ?_ _)); exact BK129.out) hb); have n1_ := Aside0.mk (below_step (by repeat (first | (with_reducible first | exact HB.out | apply below_alloc | apply pw_below_drewN | apply below_drew1 | refine below_set ?_ GE129.out) | exact HB.out)) hb); clear BK129; clear HB; have BK129 := n0_; have HB := n1_; clear n0_ n1_; (try clear hb); (try clear hb2); (try clear hk); (try clear hi)) | ((with_reducible refine gate_dst (N := 6) rfl ?_); refine box_event ?hg (N := 6) ?hd (cs := #[.int .u32 0, .int .u32 0, .int .u32 0, .int .u32 0]) (t := 25) ?hr ?_; (case hd => rfl); (case hg => rfl); (case hr => first | (go_simp; done) | (go_simp; rfl)); intro gb135 hg w12 hbox hb; have n0_ := Aside0.mk (blk_below (g := gb129) (o := .cells #[.int .u32 t124, .int .u32 t125, .int .u32 t126, .int .u32 t127] 25 (0, 0)) (by (with_reducible repeat (first | refine blk_drewN ?_ _ | refine blk_drew ?_ | refine blk_alloc ?_ _)); exact BK129.out) hb); have n1_ := Aside0.mk (below_step (by repeat (first | (with_reducible first | exact HB.out | apply below_alloc | apply pw_below_drewN | apply below_drew1 | refine below_set ?_ GE129.out) | exact HB.out)) hb); have n2_ := Aside0.mk (hbox); have n3_ := Aside0.mk ((by rw [hg]; exact (below_size (by repeat (first | (with_reducible first | exact HB.out | apply below_alloc | apply pw_below_drewN | apply below_drew1 | refine below_set ?_ GE129.out) | exact HB.out))) : w.heap.size ≤ gb135)); have n4_ := Aside0.mk ((by rw [hg]; exact (below_size (by repeat (first | (with_reducible first | exact HB.out | apply below_alloc | apply pw_below_drewN | apply below_drew1 | refine below_set ?_ GE129.out) | exact HB.out))) : w.heap.size ≤ gb135)); have n5_ := Aside0.mk ((by rw [hg]; exact Nat.ne_of_lt (blk_lt (g := gb129) (o := .cells #[.int .u32 t124, .int .u32 t125, .int .u32 t126, .int .u32 t127] 25 (0, 0)) (by (with_reducible repeat (first | refine blk_drewN ?_ _ | refine blk_drew ?_ | refine blk_alloc ?_ _)); exact BK129.out)) : gb129 ≠ gb135)); have n6_ := Aside0.mk ((by rw [hg]; exact Nat.ne_of_gt (blk_lt (g := gb129) (o := .cells #[.int .u32 t124, .int .u32 t125, .int .u32 t126, .int .u32 t127] 25 (0, 0)) (by (with_reducible repeat (first | refine blk_drewN ?_ _ | refine blk_drew ?_ | refine blk_alloc ?_ _)); exact BK129.out)) : gb135 ≠ gb129)); clear BK129; clear HB; have BK129 := n0_; have HB := n1_; have BK135 := n2_; have GW135 := n3_; have GE135 := n4_; have NB129_135 := n5_; have NB135_129 := n6_; clear n0_ n1_ n2_ n3_ n4_ n5_ n6_; clear hb hbox hg; have hnb13 := NB135_129.out; have hnc13 := NB129_135.out; have hcz14_0 : w12.cell? ⟨gb135, 0, none⟩ = some (.int .u32 0) := (blk_cell BK135.out 0).trans rfl; have hcz14_1 : w12.cell? ⟨gb135, 1, none⟩ = some (.int .u32 0) := (blk_cell BK135.out 1).trans rfl; have hcz14_2 : w12.cell? ⟨gb135, 2, none⟩ = some (.int .u32 0) := (blk_cell BK135.out 2).trans rfl; have hcz14_3 : w12.cell? ⟨gb135, 3, none⟩ = some (.int .u32 0) := (blk_cell BK135.out 3).trans rfl; have hfz14_0 := blk_frozen BK135.out 0; have hfz14_1 := blk_frozen BK135.out 1; have hfz14_2 := blk_frozen BK135.out 2; have hfz14_3 := blk_frozen BK135.out 3; have hcz15_0 : w12.cell? ⟨gb129, 0, none⟩ = some (.int .u32 t124) := (blk_cell BK129.out 0).trans rfl; have hcz15_1 : w12.cell? ⟨gb129, 1, none⟩ = some (.int .u32 t125) := (blk_cell BK129.out 1).trans rfl; have hcz15_2 : w12.cell? ⟨gb129, 2, none⟩ = some (.int .u32 t126) := (blk_cell BK129.out 2).trans rfl; have hcz15_3 : w12.cell? ⟨gb129, 3, none⟩ = some (.int .u32 t127) := (blk_cell BK129.out 3).trans rfl; have hfz15_0 := blk_frozen BK129.out 0; have hfz15_1 := blk_frozen BK129.out 1; have hfz15_2 := blk_frozen BK129.out 2; have hfz15_3 := blk_frozen BK129.out 3))
      go_ret
      exact ⟨by first | rfl | (simp [errW_none, errW_some] <;> rfl) | (simp [*, errW_none, errW_some] <;> rfl), by repeat (first | (with_reducible first | exact HB.out | apply below_alloc | apply pw_below_drewN | apply below_drew1 | refine below_set ?_ GE129.out | refine below_set ?_ GE135.out) | exact HB.out)⟩
    · rw [if_neg c6] at H
      have c6b0 : (t124 == t130 && (t125 == t131 && (t126 == t132 && (t127 == t133)))) = false := by simpa using c6
      (try (have c6b1 : decide (t124 = t130 && (t125 == t131 && (t126 == t132 && (t127 == t133)))) = false := by simpa using c6))
      (try (have c6b2 : (t124 == t130 && (t125 == t131 && (t126 == t132 && (t127 == t133)))) = false := by simpa using c6))
      (try (have c6b3 : ¬ (t124 = t130 && (t125 == t131 && (t126 == t132 && (t127 == t133)))) := by simpa using c6))
      clear c6
      obtain rfl := Option.some.inj H
      exact absurd hr_.out (by simp)
  · replace c5 := Bool.eq_false_iff.mpr c5
    subst c5
    have H1 : (some false) = some r := by rw [if_neg (show ¬ (false = true) by decide)] at H; exact H
    clear H
    have H := H1
    clear H1
    obtain rfl := Option.some.inj H
    exact absurd hr_.out (by simp)

/-- THE ONE PURE STATEMENT of tallysticklaw03_MontForms: yours. -/
def tallysticklaw03_MontForms.Pure : Prop := ∀ (a0 : Int), (Lit.int .u32 a0).wf = true → ∃ k, tallysticklaw03_MontForms.f k a0 = some true
theorem tallysticklaw03_MontForms.walk (P : tallysticklaw03_MontForms.Pure) (a0 : Int) (w : World) (w0 : (Lit.int .u32 a0).wf = true) :
    Calls Try.prog 3 #[.int .u32 a0] w fun e w' => e = .returned (.bool true) ∧ Below w.heap.size w w' := by
  obtain ⟨k, h⟩ := P a0 w0
  refine (tallysticklaw03_MontForms.calls k a0 true w ⟨rfl⟩ h).mono ?_
  rintro e w' ⟨rfl, hd⟩
  exact ⟨rfl, hd⟩

end Go.Proofs.Ytjejkkjoplphfaa.Pa
