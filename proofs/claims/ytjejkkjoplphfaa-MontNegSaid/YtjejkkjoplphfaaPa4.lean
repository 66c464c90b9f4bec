/- Contracts of functions and laws, written by this session's program myprint.py by way of the kit's print. -/
import Derived.Test.YtjejkkjoplphfaaPa0
import Derived.Test.YtjejkkjoplphfaaPa2
namespace Go.Proofs.Ytjejkkjoplphfaa.Pa
open Go.RowKit Go.Proofs.Ytjejkkjoplphfaa.Hand Go.Proofs.YtjejkkjoplphfaaW.PrintWords Go.Proofs.YtjejkkjoplphfaaW.PrintLast Go.Proofs.YtjejkkjoplphfaaW.PrintMore
attribute [local go_sem] max2_int min2_int max_two min_two max_three min_three max_four min_four   -- for this text's walks alone
set_option linter.unusedVariables false
set_option linter.unusedSimpArgs false

/-! ### tallysticklaw03_MontNeg: function 4 -/
def tallysticklaw03_MontNeg.f (a0 : Int) : Option (Bool) := (tallysticklaw03_shown.f).bind fun t136 => ((mont_Make.f a0).bind fun bt137 => (if t136 = true then (if bt137.2.2.2.2 = 0 then (if bt137.1 = a0 then (if (((bt137.2.1 * a0) + 1) % 4294967296) = 0 then (if bt137.2.2.1 < a0 then (some (decide (bt137.2.2.2.1 < a0))) else (some false)) else (some false)) else (some false)) else (some true)) else (some false)))
set_option maxHeartbeats 8000000 in
set_option maxRecDepth 100000 in
theorem tallysticklaw03_MontNeg.calls (a0 : Int) (r : Bool) (w : World) (hr_ : Aside0 (r = true)) (h : tallysticklaw03_MontNeg.f a0 = some r) :
    Calls Try.prog 4 #[.int .u32 a0] w fun e w' => e = .returned (.bool r) ∧ Below w.heap.size w w' := by
  have hu25 := Try.underlying25
  have HB := Aside0.mk (Below.refl w.heap.size w)
  have H : ((tallysticklaw03_shown.f).bind fun t136 => ((mont_Make.f a0).bind fun bt137 => (if t136 = true then (if bt137.2.2.2.2 = 0 then (if bt137.1 = a0 then (if (((bt137.2.1 * a0) + 1) % 4294967296) = 0 then (if bt137.2.2.1 < a0 then (some (decide (bt137.2.2.2.1 < a0))) else (some false)) else (some false)) else (some false)) else (some true)) else (some false)))) = some r := h
  clear h
  replace H := Option.bind_eq_some_iff.mp H
  obtain ⟨t136, A20, H⟩ := H
  replace H : ((mont_Make.f a0).bind fun bt137 => (if t136 = true then (if bt137.2.2.2.2 = 0 then (if bt137.1 = a0 then (if (((bt137.2.1 * a0) + 1) % 4294967296) = 0 then (if bt137.2.2.1 < a0 then (some (decide (bt137.2.2.2.1 < a0))) else (some false)) else (some false)) else (some false)) else (some true)) else (some false))) = some r := H
  have A2 := Aside0.mk A20
  clear A20
  replace H := Option.bind_eq_some_iff.mp H
  obtain ⟨⟨t137, t138, t139, t140, t141⟩, A30, H⟩ := H
  replace H : (if t136 = true then (if t141 = 0 then (if t137 = a0 then (if (((t138 * a0) + 1) % 4294967296) = 0 then (if t139 < a0 then (some (decide (t140 < a0))) else (some false)) else (some false)) else (some false)) else (some true)) else (some false)) = some r := H
  have A3 := Aside0.mk A30
  clear A30
  by_cases c4 : t136 = true
  · subst c4
    have H1 : (if t141 = 0 then (if t137 = a0 then (if (((t138 * a0) + 1) % 4294967296) = 0 then (if t139 < a0 then (some (decide (t140 < a0))) else (some false)) else (some false)) else (some false)) else (some true)) = some r := by rw [if_pos rfl] at H; exact H
    clear H
    have H := H1
    clear H1
    by_cases c5 : t141 = 0
    · rw [if_pos c5] at H
      have c5b0 : (t141 == 0) = true := beq_iff_eq.mpr c5
      have c5b1 : (t141 != 0) = false := bne_eq_false_iff_eq.mpr c5
      clear c5
      by_cases c6 : t137 = a0
      · rw [if_pos c6] at H
        have c6b0 : (t137 == a0) = true := beq_iff_eq.mpr c6
        have c6b1 : (t137 != a0) = false := bne_eq_false_iff_eq.mpr c6
        clear c6
        by_cases c7 : (((t138 * a0) + 1) % 4294967296) = 0
        · rw [if_pos c7] at H
          have c7b0 : ((((t138 * a0) + 1) % 4294967296) == 0) = true := beq_iff_eq.mpr c7
          have c7b1 : ((((t138 * a0) + 1) % 4294967296) != 0) = false := bne_eq_false_iff_eq.mpr c7
          clear c7
          by_cases c8 : t139 < a0
          · rw [if_pos c8] at H
            have c8b0 : decide (t139 < a0) = true := decide_eq_true c8
            clear c8
            obtain rfl := Option.some.inj H
            go_enter Try.func4, Try.ntmps4
            go_wp2_with (first | ((with_reducible refine gate_callee (f := 10) rfl ?_); refine goesL_ (some 6) rfl rfl Try.func10 (by kernel_rfl) rfl #[] rfl (by (try simp only [List.map_toArray, List.map_cons, List.map_nil]); first | done | rfl | (simp only [List.length_drop, List.length_take]; rfl)) ?_; (with_reducible refine (tallysticklaw03_shown.calls  true _ A2.out).mono ?_); rintro e w9 ⟨rfl, hb⟩; refine ⟨_, rfl, ?_⟩; have n0_ := Aside0.mk (below_step (by repeat (first | (with_reducible first | exact HB.out | apply below_alloc | apply pw_below_drewN | apply below_drew1) | exact HB.out)) hb); clear HB; have HB := n0_; clear n0_; (try clear hb); (try clear hb2); (try clear hk); (try clear hi)) | ((with_reducible refine gate_callee (f := 11) rfl ?_); refine goesL_ (some 9) rfl rfl Try.func11 (by kernel_rfl) rfl #[.int .u32 a0] rfl (by (try simp only [List.map_toArray, List.map_cons, List.map_nil]); first | done | rfl | (simp only [List.length_drop, List.length_take]; rfl)) ?_; (with_reducible refine (mont_Make.calls a0 t137 t138 t139 t140 t141 _ A3.out).mono ?_); rintro e w10 ⟨rfl, hb⟩; refine ⟨_, rfl, ?_⟩; have n0_ := Aside0.mk (below_step (by repeat (first | (with_reducible first | exact HB.out | apply below_alloc | apply pw_below_drewN | apply below_drew1) | exact HB.out)) hb); clear HB; have HB := n0_; clear n0_; (try clear hb); (try clear hb2); (try clear hk); (try clear hi)) | ((with_reducible refine gate_dst (N := 4) rfl ?_); refine box_event ?hg (N := 4) ?hd (cs := #[.int .u32 0, .int .u32 0, .int .u32 0, .int .u32 0]) (t := 25) ?hr ?_; (case hd => rfl); (case hg => rfl); (case hr => first | (go_simp; done) | (go_simp; rfl)); intro gb142 hg w11 hbox hb; have n0_ := Aside0.mk (below_step (by repeat (first | (with_reducible first | exact HB.out | apply below_alloc | apply pw_below_drewN | apply below_drew1) | exact HB.out)) hb); have n1_ := Aside0.mk (hbox); have n2_ := Aside0.mk ((by rw [hg]; exact (below_size (by repeat (first | (with_reducible first | exact HB.out | apply below_alloc | apply pw_below_drewN | apply below_drew1) | exact HB.out))) : w.heap.size ≤ gb142)); have n3_ := Aside0.mk ((by rw [hg]; exact (below_size (by repeat (first | (with_reducible first | exact HB.out | apply below_alloc | apply pw_below_drewN | apply below_drew1) | exact HB.out))) : w.heap.size ≤ gb142)); clear HB; have HB := n0_; have BK142 := n1_; have GW142 := n2_; have GE142 := n3_; clear n0_ n1_ n2_ n3_; clear hb hbox hg; have hcz12_0 : w11.cell? ⟨gb142, 0, none⟩ = some (.int .u32 0) := (blk_cell BK142.out 0).trans rfl; have hcz12_1 : w11.cell? ⟨gb142, 1, none⟩ = some (.int .u32 0) := (blk_cell BK142.out 1).trans rfl; have hcz12_2 : w11.cell? ⟨gb142, 2, none⟩ = some (.int .u32 0) := (blk_cell BK142.out 2).trans rfl; have hcz12_3 : w11.cell? ⟨gb142, 3, none⟩ = some (.int .u32 0) := (blk_cell BK142.out 3).trans rfl; have hfz12_0 := blk_frozen BK142.out 0; have hfz12_1 := blk_frozen BK142.out 1; have hfz12_2 := blk_frozen BK142.out 2; have hfz12_3 := blk_frozen BK142.out 3))
            go_ret
            exact ⟨by first | rfl | (simp [errW_none, errW_some] <;> rfl) | (simp [*, errW_none, errW_some] <;> rfl), by repeat (first | (with_reducible first | exact HB.out | apply below_alloc | apply pw_below_drewN | apply below_drew1 | refine below_set ?_ GE142.out) | exact HB.out)⟩
          · rw [if_neg c8] at H
            have c8b0 : decide (t139 < a0) = false := decide_eq_false c8
            clear c8
            obtain rfl := Option.some.inj H
            exact absurd hr_.out (by simp)
        · rw [if_neg c7] at H
          have c7b0 : ((((t138 * a0) + 1) % 4294967296) == 0) = false := beq_eq_false_iff_ne.mpr c7
          have c7b1 : ((((t138 * a0) + 1) % 4294967296) != 0) = true := bne_iff_ne.mpr c7
          obtain rfl := Option.some.inj H
          exact absurd hr_.out (by simp)
      · rw [if_neg c6] at H
        have c6b0 : (t137 == a0) = false := beq_eq_false_iff_ne.mpr c6
        have c6b1 : (t137 != a0) = true := bne_iff_ne.mpr c6
        obtain rfl := Option.some.inj H
        exact absurd hr_.out (by simp)
    · rw [if_neg c5] at H
      have c5b0 : (t141 == 0) = false := beq_eq_false_iff_ne.mpr c5
      have c5b1 : (t141 != 0) = true := bne_iff_ne.mpr c5
      obtain rfl := Option.some.inj H
      go_enter Try.func4, Try.ntmps4
      go_wp2_with (first | ((with_reducible refine gate_callee (f := 10) rfl ?_); refine goesL_ (some 6) rfl rfl Try.func10 (by kernel_rfl) rfl #[] rfl (by (try simp only [List.map_toArray, List.map_cons, List.map_nil]); first | done | rfl | (simp only [List.length_drop, List.length_take]; rfl)) ?_; (with_reducible refine (tallysticklaw03_shown.calls  true _ A2.out).mono ?_); rintro e w13 ⟨rfl, hb⟩; refine ⟨_, rfl, ?_⟩; have n0_ := Aside0.mk (below_step (by repeat (first | (with_reducible first | exact HB.out | apply below_alloc | apply pw_below_drewN | apply below_drew1) | exact HB.out)) hb); clear HB; have HB := n0_; clear n0_; (try clear hb); (try clear hb2); (try clear hk); (try clear hi)) | ((with_reducible refine gate_callee (f := 11) rfl ?_); refine goesL_ (some 9) rfl rfl Try.func11 (by kernel_rfl) rfl #[.int .u32 a0] rfl (by (try simp only [List.map_toArray, List.map_cons, List.map_nil]); first | done | rfl | (simp only [List.length_drop, List.length_take]; rfl)) ?_; (with_reducible refine (mont_Make.calls a0 t137 t138 t139 t140 t141 _ A3.out).mono ?_); rintro e w14 ⟨rfl, hb⟩; refine ⟨_, rfl, ?_⟩; have n0_ := Aside0.mk (below_step (by repeat (first | (with_reducible first | exact HB.out | apply below_alloc | apply pw_below_drewN | apply below_drew1) | exact HB.out)) hb); clear HB; have HB := n0_; clear n0_; (try clear hb); (try clear hb2); (try clear hk); (try clear hi)) | ((with_reducible refine gate_dst (N := 4) rfl ?_); refine box_event ?hg (N := 4) ?hd (cs := #[.int .u32 0, .int .u32 0, .int .u32 0, .int .u32 0]) (t := 25) ?hr ?_; (case hd => rfl); (case hg => rfl); (case hr => first | (go_simp; done) | (go_simp; rfl)); intro gb142 hg w15 hbox hb; have n0_ := Aside0.mk (below_step (by repeat (first | (with_reducible first | exact HB.out | apply below_alloc | apply pw_below_drewN | apply below_drew1) | exact HB.out)) hb); have n1_ := Aside0.mk (hbox); have n2_ := Aside0.mk ((by rw [hg]; exact (below_size (by repeat (first | (with_reducible first | exact HB.out | apply below_alloc | apply pw_below_drewN | apply below_drew1) | exact HB.out))) : w.heap.size ≤ gb142)); have n3_ := Aside0.mk ((by rw [hg]; exact (below_size (by repeat (first | (with_reducible first | exact HB.out | apply below_alloc | apply pw_below_drewN | apply below_drew1) | exact HB.out))) : w.heap.size ≤ gb142)); clear HB; have HB := n0_; have BK142 := n1_; have GW142 := n2_; have GE142 := n3_; clear n0_ n1_ n2_ n3_; clear hb hbox hg; have hcz16_0 : w15.cell? ⟨gb142, 0, none⟩ = some (.int .u32 0) := (blk_cell BK142.out 0).trans rfl; have hcz16_1 : w15.cell? ⟨gb142, 1, none⟩ = some (.int .u32 0) := (blk_cell BK142.out 1).trans rfl; have hcz16_2 : w15.cell? ⟨gb142, 2, none⟩ = some (.int .u32 0) := (blk_cell BK142.out 2).trans rfl; have hcz16_3 : w15.cell? ⟨gb142, 3, none⟩ = some (.int .u32 0) := (blk_cell BK142.out 3).trans rfl; have hfz16_0 := blk_frozen BK142.out 0; have hfz16_1 := blk_frozen BK142.out 1; have hfz16_2 := blk_frozen BK142.out 2; have hfz16_3 := blk_frozen BK142.out 3))
      go_ret
      exact ⟨by first | rfl | (simp [errW_none, errW_some] <;> rfl) | (simp [*, errW_none, errW_some] <;> rfl), by repeat (first | (with_reducible first | exact HB.out | apply below_alloc | apply pw_below_drewN | apply below_drew1 | refine below_set ?_ GE142.out) | exact HB.out)⟩
  · replace c4 := Bool.eq_false_iff.mpr c4
    subst c4
    have H1 : (some false) = some r := by rw [if_neg (show ¬ (false = true) by decide)] at H; exact H
    clear H
    have H := H1
    clear H1
    obtain rfl := Option.some.inj H
    exact absurd hr_.out (by simp)

/-- THE ONE PURE STATEMENT of tallysticklaw03_MontNeg: yours. -/
def tallysticklaw03_MontNeg.Pure : Prop := ∀ (a0 : Int), (Lit.int .u32 a0).wf = true → tallysticklaw03_MontNeg.f a0 = some true
theorem tallysticklaw03_MontNeg.walk (P : tallysticklaw03_MontNeg.Pure) (a0 : Int) (w : World) (w0 : (Lit.int .u32 a0).wf = true) :
    Calls Try.prog 4 #[.int .u32 a0] w fun e w' => e = .returned (.bool true) ∧ Below w.heap.size w w' := by
  have h := P a0 w0
  refine (tallysticklaw03_MontNeg.calls a0 true w ⟨rfl⟩ h).mono ?_
  rintro e w' ⟨rfl, hd⟩
  exact ⟨rfl, hd⟩

end Go.Proofs.Ytjejkkjoplphfaa.Pa
