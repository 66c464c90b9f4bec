/- Contracts of functions and laws, written by this session's program myprint.py by way of the kit's print. -/
import Derived.Test.YtaakniobgljniaaDoorHSpread
import Derived.Test.YtaakniobgljniaaDoorPa0
import Derived.Test.YtaakniobgljniaaDoorPa8
import Derived.Test.YtaakniobgljniaaDoorPa9
namespace Go.Proofs.YtaakniobgljniaaDoor.Pa
open Go.RowKit Go.Proofs.YtaakniobgljniaaDoor.Hand Go.Proofs.YtaakniobgljniaaDoorW.PrintWords Go.Proofs.YtaakniobgljniaaDoorW.PrintLast Go.Proofs.YtaakniobgljniaaDoorW.PrintMore
attribute [local go_sem] max2_int min2_int max_two min_two max_three min_three max_four min_four   -- for this text's walks alone
set_option linter.unusedVariables false
set_option linter.unusedSimpArgs false

/-! ### tallystickref04_Div: function 47 -/
mutual
def tallystickref04_Div.l0 : Nat → List Int → List Int → List Int → List Int → Int → Option (List Int × List Int)
  | 0, _, _, _, _, _ => none
  | k + 1, x0, x1, x6, x7, x8 => if x8 ≥ 0 then (if 0 ≤ x8 then (if x8 < (x0.length : Int) then ((some (([rd x0 x8] : List Int) : List Int)).bind fun y312 => (if y312.length + x7.length < 17592186044416 then ((tallystickref04_Trim.f k (y312 ++ x7)).bind fun t318 => (tallystickref04_Div.l1 k x0 x1 x6 t318 x8 0 65535)) else (none))) else (none)) else (none)) else ((tallystickref04_Trim.f k x6).bind fun t308 => (some (t308, x7)))
def tallystickref04_Div.l1 : Nat → List Int → List Int → List Int → List Int → Int → Int → Int → Option (List Int × List Int)
  | 0, _, _, _, _, _, _, _ => none
  | k + 1, x0, x1, x6, x7, x8, x9, x10 => if x9 < x10 then ((tallystickref04_Trim.f k (([wrap64 (Int.tdiv (wrap64 ((wrap64 (x9 + x10)) + 1)) 2)] : List Int))).bind fun t337 => ((tallystickref04_Mul.f k x1 t337).bind fun t340 => ((tallystickref04_Cmp.f k t340 x7).bind fun t343 => (if t343 ≤ 0 then (tallystickref04_Div.l1 k x0 x1 x6 x7 x8 (wrap64 (Int.tdiv (wrap64 ((wrap64 (x9 + x10)) + 1)) 2)) x10) else (tallystickref04_Div.l1 k x0 x1 x6 x7 x8 x9 (wrap64 ((wrap64 (Int.tdiv (wrap64 ((wrap64 (x9 + x10)) + 1)) 2)) - 1))))))) else (if 0 ≤ x8 then (if x8 < (x6.length : Int) then ((tallystickref04_Trim.f k (([x9] : List Int))).bind fun t325 => ((tallystickref04_Mul.f k x1 t325).bind fun t328 => ((tallystickref04_Sub.f k x7 t328).bind fun t331 => (tallystickref04_Div.l0 k x0 x1 (x6.set (x8 : Int).toNat x9) t331 (wrap64 (x8 - 1)))))) else (none)) else (none))
end
def tallystickref04_Div.f (k : Nat) (l0 : List Int) (l1 : List Int) : Option (List Int × List Int) := if 0 ≤ (l0.length : Int) then (if ((l0.length : Int) : Int).toNat ≤ 35184372088832 then (tallystickref04_Div.l0 k l0 l1 (List.replicate ((l0.length : Int) : Int).toNat 0) ([] : List Int) (wrap64 ((l0.length : Int) - 1))) else (none)) else (none)
theorem tallystickref04_Div.mono_l : ∀ k, (∀ y0 y1 y2 y3 y4, LeO (tallystickref04_Div.l0 k y0 y1 y2 y3 y4) (tallystickref04_Div.l0 (k + 1) y0 y1 y2 y3 y4)) ∧ (∀ y0 y1 y2 y3 y4 y5 y6, LeO (tallystickref04_Div.l1 k y0 y1 y2 y3 y4 y5 y6) (tallystickref04_Div.l1 (k + 1) y0 y1 y2 y3 y4 y5 y6))
  | 0 => ⟨fun _ _ _ _ _ r h => by simp [tallystickref04_Div.l0] at h, fun _ _ _ _ _ _ _ r h => by simp [tallystickref04_Div.l1] at h⟩
  | k + 1 => by
    obtain ⟨ih0, ih1⟩ := tallystickref04_Div.mono_l k
    refine ⟨?_, ?_⟩
    · intro y0 y1 y2 y3 y4
      unfold tallystickref04_Div.l0
      repeat' first
      | (with_reducible exact ih0 _ _ _ _ _)
      | (with_reducible exact ih1 _ _ _ _ _ _ _)
      | (with_reducible exact tallystickref04_Cmp.mono _ _ _)
      | (with_reducible exact tallystickref04_Mul.mono _ _ _)
      | (with_reducible exact tallystickref04_Sub.mono _ _ _)
      | (with_reducible exact tallystickref04_Trim.mono _ _)
      | (with_reducible exact LeO.refl _)
      | (with_reducible exact LeO.none _)
      | (with_reducible refine LeO.ite ?_ ?_)
      | (with_reducible refine LeO.bind ?_ (fun _ => ?_))
      | exact ih0 _ _ _ _ _
      | exact ih1 _ _ _ _ _ _ _
      | exact tallystickref04_Cmp.mono _ _ _
      | exact tallystickref04_Mul.mono _ _ _
      | exact tallystickref04_Sub.mono _ _ _
      | exact tallystickref04_Trim.mono _ _
      | exact LeO.none _
      | refine LeO.ite ?_ ?_
      | refine LeO.bind ?_ (fun _ => ?_)
    · intro y0 y1 y2 y3 y4 y5 y6
      unfold tallystickref04_Div.l1
      repeat' first
      | (with_reducible exact ih0 _ _ _ _ _)
      | (with_reducible exact ih1 _ _ _ _ _ _ _)
      | (with_reducible exact tallystickref04_Cmp.mono _ _ _)
      | (with_reducible exact tallystickref04_Mul.mono _ _ _)
      | (with_reducible exact tallystickref04_Sub.mono _ _ _)
      | (with_reducible exact tallystickref04_Trim.mono _ _)
      | (with_reducible exact LeO.refl _)
      | (with_reducible exact LeO.none _)
      | (with_reducible refine LeO.ite ?_ ?_)
      | (with_reducible refine LeO.bind ?_ (fun _ => ?_))
      | exact ih0 _ _ _ _ _
      | exact ih1 _ _ _ _ _ _ _
      | exact tallystickref04_Cmp.mono _ _ _
      | exact tallystickref04_Mul.mono _ _ _
      | exact tallystickref04_Sub.mono _ _ _
      | exact tallystickref04_Trim.mono _ _
      | exact LeO.none _
      | refine LeO.ite ?_ ?_
      | refine LeO.bind ?_ (fun _ => ?_)
theorem tallystickref04_Div.mono : ∀ a0 a1 k, LeO (tallystickref04_Div.f k a0 a1) (tallystickref04_Div.f (k + 1) a0 a1) := by
  intro a0 a1 k
  obtain ⟨ih0, ih1⟩ := tallystickref04_Div.mono_l k
  unfold tallystickref04_Div.f
  repeat' first
      | (with_reducible exact ih0 _ _ _ _ _)
      | (with_reducible exact ih1 _ _ _ _ _ _ _)
      | (with_reducible exact tallystickref04_Cmp.mono _ _ _)
      | (with_reducible exact tallystickref04_Mul.mono _ _ _)
      | (with_reducible exact tallystickref04_Sub.mono _ _ _)
      | (with_reducible exact tallystickref04_Trim.mono _ _)
      | (with_reducible exact LeO.refl _)
      | (with_reducible exact LeO.none _)
      | (with_reducible refine LeO.ite ?_ ?_)
      | (with_reducible refine LeO.bind ?_ (fun _ => ?_))
      | exact ih0 _ _ _ _ _
      | exact ih1 _ _ _ _ _ _ _
      | exact tallystickref04_Cmp.mono _ _ _
      | exact tallystickref04_Mul.mono _ _ _
      | exact tallystickref04_Sub.mono _ _ _
      | exact tallystickref04_Trim.mono _ _
      | exact LeO.none _
      | refine LeO.ite ?_ ?_
      | refine LeO.bind ?_ (fun _ => ?_)
set_option maxHeartbeats 8000000 in
set_option maxRecDepth 100000 in
theorem tallystickref04_Div.calls (k : Nat) (A0 : Option Addr) (c0 : Nat) (l0 : List Int) (A1 : Option Addr) (c1 : Nat) (l1 : List Int) (r1 : List Int) (r2 : List Int) (w : World) (hr0 : Kd.C (Kd.int .i64) w A0 l0.length l0) (hc0 : l0.length ≤ c0) (hr1 : Kd.C (Kd.int .i64) w A1 l1.length l1) (hc1 : l1.length ≤ c1) (h : tallystickref04_Div.f k l0 l1 = some (r1, r2)) :
    Calls Tryd.prog 47 #[.slice A0 l0.length c0, .slice A1 l1.length c1] w fun e w' => ∃ v0_ v1_ : Value, e = .returned (.tuple #[v0_, v1_]) ∧ Kd.R (Kd.int .i64) 3 w' w.heap.size (fun k_ => some k_ ≠ (v1_ : Value).ownBlock) v0_ r1 ∧ Kd.R (Kd.int .i64) 3 w' w.heap.size (fun k_ => some k_ ≠ (v0_ : Value).ownBlock) v1_ r2 ∧ Below w.heap.size w w' := by
  have HR0 := Aside0.mk hr0
  have HC0 := Aside0.mk hc0
  clear hr0 hc0
  have HR1 := Aside0.mk hr1
  have HC1 := Aside0.mk hc1
  clear hr1 hc1
  have HB := Aside0.mk (Below.refl w.heap.size w)
  have H : (if 0 ≤ (l0.length : Int) then (if ((l0.length : Int) : Int).toNat ≤ 35184372088832 then (tallystickref04_Div.l0 k l0 l1 (List.replicate ((l0.length : Int) : Int).toNat 0) ([] : List Int) (wrap64 ((l0.length : Int) - 1))) else (none)) else (none)) = some (r1, r2) := h
  clear h
  by_cases c3 : 0 ≤ (l0.length : Int)
  · rw [if_pos c3] at H
    have c3b0 := eq_true c3
    have c3b1 : decide (0 ≤ (l0.length : Int)) = true := decide_eq_true c3
    clear c3
    by_cases c4 : ((l0.length : Int) : Int).toNat ≤ 35184372088832
    · rw [if_pos c4] at H
      have c4b0 := eq_true c4
      have c4b1 : decide (((l0.length : Int) : Int).toNat ≤ 35184372088832) = true := decide_eq_true c4
      clear c4
      obtain ⟨y305, hy305⟩ : ∃ y_ : List Int, y_ = (List.replicate ((l0.length : Int) : Int).toNat 0) := ⟨_, rfl⟩
      replace H : (tallystickref04_Div.l0 k l0 l1 y305 ([] : List Int) (wrap64 ((l0.length : Int) - 1))) = some (r1, r2) := by first | (rw [hy305]; with_reducible exact H) | (have H2_ := (Option.bind_some _ _).symm.trans H; rw [hy305]; with_reducible exact H2_) | (have H2_ := (Option.bind_some _ _).symm.trans H; with_reducible exact H2_) | with_reducible exact H | (rw [hy305]; exact H) | exact H
      have Ny305 := Aside0.mk hy305
      clear hy305
      have H' := Aside0.mk H
      clear H
      go_enter Tryd.func47, Tryd.ntmps47
      go_wp2_with (first | ((with_reducible refine gate_dst (N := 14) rfl ?_); refine Kd.R_make (Kd.int .i64) _ 3 rfl (N := 14) rfl 79 _ _ rfl (l0.length : Int) rfl rfl Tryd.underlying79 (.int .i64 0) 8 info3 rfl (by decide) (by omega) 0 (ok := fun _ => True) (okp := fun _ => True) rfl (fun _ hk => hk) trivial (of_decide_eq_true (by first | (with_reducible assumption) | assumption)) (Nat.le_trans (Nat.mul_le_mul_right _ (of_decide_eq_true (by first | (with_reducible assumption) | assumption) : (l0.length : Int).toNat ≤ 35184372088832)) (by omega)) (Below.refl _ _) (Nat.le_refl _) ?_; intro v306 w5 ho6 hb hg_ hnew_; clear hg_ hnew_; (first | rw [← Ny305.out] at ho6 | (simp only [Int.reduceToNat] at ho6; rw [← Ny305.out] at ho6)); have n0_ := Aside0.mk (Kd.R_lower ho6 (below_size (by repeat (first | (with_reducible first | exact HB.out | apply below_alloc | apply pw_below_drewN | apply below_drew1) | exact HB.out)))); have n1_ := Aside0.mk (below_step (by repeat (first | (with_reducible first | exact HB.out | apply below_alloc | apply pw_below_drewN | apply below_drew1) | exact HB.out)) hb); clear HB; have HO307 := n0_; have HB := n1_; clear n0_ n1_; clear hb ho6))
      go_loopg [7, 8] k (fun kq v7 v8 w' => ∃ (x6_1 : List Int) (x7_1 : List Int) (x8_1 : Int), v8 = .int .i64 x8_1 ∧ Aside0 (tallystickref04_Div.l0 kq l0 l1 x6_1 x7_1 x8_1 = some (r1, r2)) ∧ Aside0 (kq ≤ k) ∧ Aside0 (Kd.R (Kd.int .i64) 3 w' w.heap.size (fun k_ => some k_ ≠ (v7 : Value).ownBlock) v306 x6_1) ∧ Aside0 (Kd.R (Kd.int .i64) 3 w' w.heap.size (fun k_ => some k_ ≠ (v306 : Value).ownBlock) v7 x7_1) ∧ Aside0 (Below w.heap.size w w'))
      case atStart => exact ⟨(y305), (([] : List Int)), (wrap64 ((l0.length : Int) - 1)), (by first | rfl | (simp; done) | (simp [*]; done)), H', ⟨Nat.le_refl _⟩, ⟨by (with_reducible repeat (first | apply Kd.R_alloc | apply Kd.R_drewN | apply Kd.R_drew)); exact Kd.R_mono HO307.out (fun _ hk => (by simp [Value.ownBlock]))⟩, ⟨by first | exact Kd.R_nil _ _ _ _ _ | exact Kd.N_nil _ _ _ _ _ | exact Kd.V_nil _ _ _ _ _ | exact Kd.Q_nil _ _ _ _ _ | exact Kd.S_nil _ _ _ _ _⟩, ⟨by repeat (first | (with_reducible first | exact HB.out | apply below_alloc | apply pw_below_drewN | apply below_drew1) | exact HB.out)⟩⟩
      case round =>
        clear H'
        try clear c1
        try clear p2
        try clear c3
        try clear c3b0
        try clear c3b1
        try clear c4
        try clear c4b0
        try clear c4b1
        try clear p6
        obtain ⟨x6_1, x7_1, x8_1, rfl, HA, HK1, HO_6, HO_7, HB⟩ := hrel
        cases gk with
        | zero => exact absurd HA.out (by simp [tallystickref04_Div.l0])
        | succ k1 =>
          have H := HA.out
          clear HA
          simp only [tallystickref04_Div.l0] at H
          by_cases c7 : x8_1 ≥ 0
          · rw [if_pos c7] at H
            have c7b0 : decide (0 ≤ x8_1) = true := decide_eq_true c7
            clear c7
            by_cases c8 : 0 ≤ x8_1
            · rw [if_pos c8] at H
              have c8b0 : decide (0 ≤ x8_1) = true := decide_eq_true c8
              clear c8
              by_cases c9 : x8_1 < (l0.length : Int)
              · rw [if_pos c9] at H
                have c9b0 : decide (x8_1 < (l0.length : Int)) = true := decide_eq_true c9
                clear c9
                obtain ⟨y312, hy312⟩ : ∃ y_ : List Int, y_ = (([rd l0 x8_1] : List Int)) := ⟨_, rfl⟩
                replace H : (if y312.length + x7_1.length < 17592186044416 then ((tallystickref04_Trim.f k1 (y312 ++ x7_1)).bind fun t318 => (tallystickref04_Div.l1 k1 l0 l1 x6_1 t318 x8_1 0 65535)) else (none)) = some (r1, r2) := by first | (rw [hy312]; with_reducible exact H) | (have H2_ := (Option.bind_some _ _).symm.trans H; rw [hy312]; with_reducible exact H2_) | (have H2_ := (Option.bind_some _ _).symm.trans H; with_reducible exact H2_) | with_reducible exact H | (rw [hy312]; exact H) | exact H
                have Ny312 := Aside0.mk hy312
                clear hy312
                by_cases c10 : y312.length + x7_1.length < 17592186044416
                · rw [if_pos c10] at H
                  have LMc10 := Aside0.mk c10
                  clear c10
                  obtain ⟨y315, hy315⟩ : ∃ y_ : List Int, y_ = (y312 ++ x7_1) := ⟨_, rfl⟩
                  replace H : ((tallystickref04_Trim.f k1 y315).bind fun t318 => (tallystickref04_Div.l1 k1 l0 l1 x6_1 t318 x8_1 0 65535)) = some (r1, r2) := by first | (rw [hy315]; with_reducible exact H) | (have H2_ := (Option.bind_some _ _).symm.trans H; rw [hy315]; with_reducible exact H2_) | (have H2_ := (Option.bind_some _ _).symm.trans H; with_reducible exact H2_) | with_reducible exact H | (rw [hy315]; exact H) | exact H
                  have Ny315 := Aside0.mk hy315
                  clear hy315
                  replace H := Option.bind_eq_some_iff.mp H
                  obtain ⟨t318, A110, H⟩ := H
                  replace H : (tallystickref04_Div.l1 k1 l0 l1 x6_1 t318 x8_1 0 65535) = some (r1, r2) := H
                  have A11 := Aside0.mk A110
                  clear A110
                  have H' := Aside0.mk H
                  clear H
                  have p311 : 0 ≤ (x8_1 : Int) := of_decide_eq_true (by first | (with_reducible assumption) | assumption)
                  have q311 : x8_1 < (l0.length : Int) := of_decide_eq_true (by first | (with_reducible assumption) | assumption)
                  obtain ⟨ad311, e311, hx311_0⟩ := Kd.at_int HR0.out x8_1 p311 q311
                  cases e311
                  replace hx311_0 := (HB.out.cell (World.block_lt_of_cell? w _ hx311_0)).trans hx311_0
                  replace p311 := eq_true p311
                  replace q311 := eq_true q311
                  go_wp2_with (first | ((with_reducible refine gate_dst (N := 26) rfl ?_); refine Kd.R_lit (Kd.int .i64) _ 3 ?hg (N := 26) ?hd (xs := ([rd l0 x8_1] : List Int)) (inner := [.int .i64 (rd l0 x8_1)]) (ok := fun _ => True) (okp := fun _ => True) ?hr ?hp (fun _ hk => hk) trivial (Below.refl _ _) (Nat.le_refl _) (by simp) ?_; (case hd => rfl); (case hg => rfl); (case hr => first | (go_simp; done) | (go_simp; rfl)); (case hp => exact (Reps.one (show Kd.M (Kd.int .i64) _ _ _ (rd l0 x8_1) [.int .i64 (rd l0 x8_1)] from rfl) (Reps.none _ _))); intro v313 w12 ho13 hb hg_ hnew_; clear hg_ hnew_; (first | rw [← Ny312.out] at ho13 | (simp only [Int.reduceToNat] at ho13; rw [← Ny312.out] at ho13)); have n0_ := Aside0.mk (Kd.R_elder' (by (with_reducible repeat (first | apply Kd.R_alloc | apply Kd.R_drewN | apply Kd.R_drew)); exact HO_6.out) (Kd.R_base ho13) hb); have n1_ := Aside0.mk (Kd.R_elder' (by (with_reducible repeat (first | apply Kd.R_alloc | apply Kd.R_drewN | apply Kd.R_drew)); exact HO_7.out) (Kd.R_base ho13) hb); have n2_ := Aside0.mk (Kd.R_lower (Kd.R_new' (Kd.R_new' ho13 (Kd.R_lt (by (with_reducible repeat (first | apply Kd.R_alloc | apply Kd.R_drewN | apply Kd.R_drew)); exact HO_6.out))) (Kd.R_lt (by (with_reducible repeat (first | apply Kd.R_alloc | apply Kd.R_drewN | apply Kd.R_drew)); exact HO_7.out))) (below_size (by repeat (first | (with_reducible first | exact HB.out | apply below_alloc | apply pw_below_drewN | apply below_drew1) | exact HB.out)))); have n3_ := Aside0.mk (below_step (by repeat (first | (with_reducible first | exact HB.out | apply below_alloc | apply pw_below_drewN | apply below_drew1) | exact HB.out)) hb); clear HO_6; clear HO_7; clear HB; have HO_6 := n0_; have HO_7 := n1_; have HO314 := n2_; have HB := n3_; clear n0_ n1_ n2_ n3_; clear hb ho13; obtain ⟨Ao15, co15, eo15⟩ := Kd.R_slice HO_7.out; subst eo15) | ((with_reducible refine gate_builtin (b := .append) (xs := #[.tmp 26, .tmp 27]) rfl ?_); at_builtin; refine Kd.R_append_rows (Kd.int .i64) (w0 := w) w.heap.size rfl (.tmp 26) (.tmp 27) 79 3 (.int .i64 0) 8 rfl Tryd.underlying79 info3 rfl (by decide) (by omega) v313 y312 x7_1 _ _ _ (fun k_ => some k_ ≠ (v306 : Value).ownBlock ∧ some k_ ≠ (.slice Ao15 x7_1.length co15 : Value).ownBlock) (fun _ => False) rfl rfl ?aO ?aR (fun _ _ h => h) (fun _ h => h.elim) ?aF ?aB ?aS ?aL ?_; (case aR => repeat (first | exact (Kd.R_reads' HO_7.out).2.2 | (with_reducible refine Kd.C_alloc ?_ _) | (with_reducible refine Kd.C_drewN ?_ _) | (with_reducible refine Kd.C_drew ?_))); (case aB => exact (by repeat (first | (with_reducible first | exact HB.out | apply below_alloc | apply pw_below_drewN | apply below_drew1) | exact HB.out))); (case aF => exact (fun k_ hk => ⟨Kd.fresh' (Kd.R_lt (by (with_reducible repeat (first | apply Kd.R_alloc | apply Kd.R_drewN | apply Kd.R_drew)); exact HO_6.out)) k_ hk, Kd.fresh' (Kd.R_lt (by (with_reducible repeat (first | apply Kd.R_alloc | apply Kd.R_drewN | apply Kd.R_drew)); exact HO_7.out)) k_ hk⟩)); (case aO => exact (by (with_reducible repeat (first | apply Kd.R_alloc | apply Kd.R_drewN | apply Kd.R_drew)); exact Kd.R_mono HO314.out (fun _ hk => ⟨hk.1.2, hk.2⟩))); (case aS => exact (below_size (by repeat (first | (with_reducible first | exact HB.out | apply below_alloc | apply pw_below_drewN | apply below_drew1) | exact HB.out)))); (case aL => have := LMc10.out; omega); intro v316 w14 ho hb hg hat; rw [← Ny315.out] at ho; have n0_ := Aside0.mk (Kd.R_after (ok := (fun k_ => some k_ ≠ (.slice Ao15 x7_1.length co15 : Value).ownBlock)) (by (with_reducible repeat (first | apply Kd.R_alloc | apply Kd.R_drewN | apply Kd.R_drew)); exact HO_6.out) hg hat); have n1_ := Aside0.mk (Kd.R_after (ok := (fun k_ => some k_ ≠ (v306 : Value).ownBlock)) (by (with_reducible repeat (first | apply Kd.R_alloc | apply Kd.R_drewN | apply Kd.R_drew)); exact HO_7.out) hg hat); have n2_ := Aside0.mk (hb); have n3_ := Aside0.mk (ho); clear HO_6; clear HO_7; clear HB; clear HO314; have HO_6 := n0_; have HO_7 := n1_; have HB := n2_; have HO317 := n3_; clear n0_ n1_ n2_ n3_; clear ho hb hg hat; obtain ⟨Ao16, co16, eo16⟩ := Kd.R_slice HO317.out; subst eo16) | ((with_reducible refine gate_callee (f := 58) rfl ?_); refine goesL_ (some 29) rfl rfl Tryd.func58 (by kernel_rfl) rfl #[.slice Ao16 y315.length co16] rfl (by (try simp only [List.map_toArray, List.map_cons, List.map_nil]); first | done | rfl | (simp only [List.length_drop, List.length_take]; rfl)) ?_; (with_reducible refine (tallystickref04_Trim.calls k1 _ _ y315 t318 _ ?side1 ?side2 A11.out).mono ?_); (case side1 => repeat (first | exact (Kd.R_reads' HO317.out).2.2 | (with_reducible refine Kd.C_alloc ?_ _) | (with_reducible refine Kd.C_drewN ?_ _) | (with_reducible refine Kd.C_drew ?_))); (case side2 => exact (Kd.R_reads' HO317.out).2.1); rintro e w17 ⟨v319, rfl, ho0, hb⟩; refine ⟨_, rfl, ?_⟩; have n0_ := Aside0.mk (Kd.R_elder' (by (with_reducible repeat (first | apply Kd.R_alloc | apply Kd.R_drewN | apply Kd.R_drew)); exact HO_6.out) (Kd.R_base ho0) hb); have n1_ := Aside0.mk (Kd.R_elder' (by (with_reducible repeat (first | apply Kd.R_alloc | apply Kd.R_drewN | apply Kd.R_drew)); exact HO_7.out) (Kd.R_base ho0) hb); have n2_ := Aside0.mk (Kd.R_elder' (by (with_reducible repeat (first | apply Kd.R_alloc | apply Kd.R_drewN | apply Kd.R_drew)); exact HO317.out) (Kd.R_base ho0) hb); have n3_ := Aside0.mk (Kd.R_lower (Kd.R_new' (Kd.R_new' (Kd.R_new' ho0 (Kd.R_lt (by (with_reducible repeat (first | apply Kd.R_alloc | apply Kd.R_drewN | apply Kd.R_drew)); exact HO_6.out))) (Kd.R_lt (by (with_reducible repeat (first | apply Kd.R_alloc | apply Kd.R_drewN | apply Kd.R_drew)); exact HO_7.out))) (Kd.R_lt (by (with_reducible repeat (first | apply Kd.R_alloc | apply Kd.R_drewN | apply Kd.R_drew)); exact HO317.out))) (below_size (by repeat (first | (with_reducible first | exact HB.out | apply below_alloc | apply pw_below_drewN | apply below_drew1) | exact HB.out)))); have n4_ := Aside0.mk (below_step (by repeat (first | (with_reducible first | exact HB.out | apply below_alloc | apply pw_below_drewN | apply below_drew1) | exact HB.out)) hb); clear HO_6; clear HO_7; clear HO317; clear HB; have HO_6 := n0_; have HO_7 := n1_; have HO317 := n2_; have HO320 := n3_; have HB := n4_; clear n0_ n1_ n2_ n3_ n4_; (try clear hb); (try clear hb2); (try clear hk); (try clear hi); (try clear ho0)))
                  go_loopg [9, 10] k1 (fun kq v9 v10 w' => ∃ (x9_2 : Int) (x10_2 : Int), v9 = .int .i64 x9_2 ∧ v10 = .int .i64 x10_2 ∧ Aside0 (tallystickref04_Div.l1 kq l0 l1 x6_1 t318 x8_1 x9_2 x10_2 = some (r1, r2)) ∧ Aside0 (kq ≤ k1) ∧ Aside0 (Kd.R (Kd.int .i64) 3 w' w.heap.size (fun k_ => some k_ ≠ (v319 : Value).ownBlock) v306 x6_1) ∧ Aside0 (Kd.R (Kd.int .i64) 3 w' w.heap.size (fun k_ => some k_ ≠ (v306 : Value).ownBlock) v319 t318) ∧ Aside0 (Below w.heap.size w w'))
                  case atStart => exact ⟨(0), (65535), (by first | rfl | (simp; done) | (simp [*]; done)), (by first | rfl | (simp; done) | (simp [*]; done)), H', ⟨Nat.le_refl _⟩, ⟨by (with_reducible repeat (first | apply Kd.R_alloc | apply Kd.R_drewN | apply Kd.R_drew)); exact Kd.R_mono HO_6.out (fun _ hk => hk.2)⟩, ⟨by (with_reducible repeat (first | apply Kd.R_alloc | apply Kd.R_drewN | apply Kd.R_drew)); exact Kd.R_mono HO320.out (fun _ hk => hk.1.1.2)⟩, ⟨by repeat (first | (with_reducible first | exact HB.out | apply below_alloc | apply pw_below_drewN | apply below_drew1) | exact HB.out)⟩⟩
                  case round =>
                    clear H'
                    try clear c1
                    try clear p2
                    try clear c3
                    try clear c3b0
                    try clear c3b1
                    try clear p3
                    try clear q3
                    try clear hx3
                    try clear c4
                    try clear c4b0
                    try clear c4b1
                    try clear c5
                    try clear p6
                    try clear c7
                    try clear c7b0
                    try clear c8
                    try clear c8b0
                    try clear c9
                    try clear c9b0
                    try clear c10
                    try clear hx311_0
                    try clear p2
                    try clear p311
                    try clear p6
                    try clear q311
                    obtain ⟨x9_2, x10_2, rfl, rfl, HA, HK2, HO_6, HO_7, HB⟩ := hrel
                    cases gk with
                    | zero => exact absurd HA.out (by simp [tallystickref04_Div.l1])
                    | succ k2 =>
                      have H := HA.out
                      clear HA
                      simp only [tallystickref04_Div.l1] at H
                      by_cases c18 : x9_2 < x10_2
                      · rw [if_pos c18] at H
                        have c18b0 : decide (x9_2 < x10_2) = true := decide_eq_true c18
                        clear c18
                        obtain ⟨y334, hy334⟩ : ∃ y_ : List Int, y_ = (([wrap64 (Int.tdiv (wrap64 ((wrap64 (x9_2 + x10_2)) + 1)) 2)] : List Int)) := ⟨_, rfl⟩
                        replace H : ((tallystickref04_Trim.f k2 y334).bind fun t337 => ((tallystickref04_Mul.f k2 l1 t337).bind fun t340 => ((tallystickref04_Cmp.f k2 t340 t318).bind fun t343 => (if t343 ≤ 0 then (tallystickref04_Div.l1 k2 l0 l1 x6_1 t318 x8_1 (wrap64 (Int.tdiv (wrap64 ((wrap64 (x9_2 + x10_2)) + 1)) 2)) x10_2) else (tallystickref04_Div.l1 k2 l0 l1 x6_1 t318 x8_1 x9_2 (wrap64 ((wrap64 (Int.tdiv (wrap64 ((wrap64 (x9_2 + x10_2)) + 1)) 2)) - 1))))))) = some (r1, r2) := by first | (rw [hy334]; with_reducible exact H) | (have H2_ := (Option.bind_some _ _).symm.trans H; rw [hy334]; with_reducible exact H2_) | (have H2_ := (Option.bind_some _ _).symm.trans H; with_reducible exact H2_) | with_reducible exact H | (rw [hy334]; exact H) | exact H
                        have Ny334 := Aside0.mk hy334
                        clear hy334
                        replace H := Option.bind_eq_some_iff.mp H
                        obtain ⟨t337, A190, H⟩ := H
                        replace H : ((tallystickref04_Mul.f k2 l1 t337).bind fun t340 => ((tallystickref04_Cmp.f k2 t340 t318).bind fun t343 => (if t343 ≤ 0 then (tallystickref04_Div.l1 k2 l0 l1 x6_1 t318 x8_1 (wrap64 (Int.tdiv (wrap64 ((wrap64 (x9_2 + x10_2)) + 1)) 2)) x10_2) else (tallystickref04_Div.l1 k2 l0 l1 x6_1 t318 x8_1 x9_2 (wrap64 ((wrap64 (Int.tdiv (wrap64 ((wrap64 (x9_2 + x10_2)) + 1)) 2)) - 1)))))) = some (r1, r2) := H
                        have A19 := Aside0.mk A190
                        clear A190
                        replace H := Option.bind_eq_some_iff.mp H
                        obtain ⟨t340, A200, H⟩ := H
                        replace H : ((tallystickref04_Cmp.f k2 t340 t318).bind fun t343 => (if t343 ≤ 0 then (tallystickref04_Div.l1 k2 l0 l1 x6_1 t318 x8_1 (wrap64 (Int.tdiv (wrap64 ((wrap64 (x9_2 + x10_2)) + 1)) 2)) x10_2) else (tallystickref04_Div.l1 k2 l0 l1 x6_1 t318 x8_1 x9_2 (wrap64 ((wrap64 (Int.tdiv (wrap64 ((wrap64 (x9_2 + x10_2)) + 1)) 2)) - 1))))) = some (r1, r2) := H
                        have A20 := Aside0.mk A200
                        clear A200
                        replace H := Option.bind_eq_some_iff.mp H
                        obtain ⟨t343, A210, H⟩ := H
                        replace H : (if t343 ≤ 0 then (tallystickref04_Div.l1 k2 l0 l1 x6_1 t318 x8_1 (wrap64 (Int.tdiv (wrap64 ((wrap64 (x9_2 + x10_2)) + 1)) 2)) x10_2) else (tallystickref04_Div.l1 k2 l0 l1 x6_1 t318 x8_1 x9_2 (wrap64 ((wrap64 (Int.tdiv (wrap64 ((wrap64 (x9_2 + x10_2)) + 1)) 2)) - 1)))) = some (r1, r2) := H
                        have A21 := Aside0.mk A210
                        clear A210
                        by_cases c22 : t343 ≤ 0
                        · rw [if_pos c22] at H
                          have c22b0 : decide (t343 ≤ 0) = true := decide_eq_true c22
                          clear c22
                          have H' := Aside0.mk H
                          clear H
                          go_wp2_with (first | ((with_reducible refine gate_dst (N := 40) rfl ?_); refine Kd.R_lit (Kd.int .i64) _ 3 ?hg (N := 40) ?hd (xs := ([wrap64 (Int.tdiv (wrap64 ((wrap64 (x9_2 + x10_2)) + 1)) 2)] : List Int)) (inner := [.int .i64 (wrap64 (Int.tdiv (wrap64 ((wrap64 (x9_2 + x10_2)) + 1)) 2))]) (ok := fun _ => True) (okp := fun _ => True) ?hr ?hp (fun _ hk => hk) trivial (Below.refl _ _) (Nat.le_refl _) (by simp) ?_; (case hd => rfl); (case hg => rfl); (case hr => first | (go_simp; done) | (go_simp; rfl)); (case hp => exact (Reps.one (show Kd.M (Kd.int .i64) _ _ _ (wrap64 (Int.tdiv (wrap64 ((wrap64 (x9_2 + x10_2)) + 1)) 2)) [.int .i64 (wrap64 (Int.tdiv (wrap64 ((wrap64 (x9_2 + x10_2)) + 1)) 2))] from rfl) (Reps.none _ _))); intro v335 w23 ho24 hb hg_ hnew_; clear hg_ hnew_; (first | rw [← Ny334.out] at ho24 | (simp only [Int.reduceToNat] at ho24; rw [← Ny334.out] at ho24)); have n0_ := Aside0.mk (Kd.R_elder' (by (with_reducible repeat (first | apply Kd.R_alloc | apply Kd.R_drewN | apply Kd.R_drew)); exact HO_6.out) (Kd.R_base ho24) hb); have n1_ := Aside0.mk (Kd.R_elder' (by (with_reducible repeat (first | apply Kd.R_alloc | apply Kd.R_drewN | apply Kd.R_drew)); exact HO_7.out) (Kd.R_base ho24) hb); have n2_ := Aside0.mk (Kd.R_lower (Kd.R_new' (Kd.R_new' ho24 (Kd.R_lt (by (with_reducible repeat (first | apply Kd.R_alloc | apply Kd.R_drewN | apply Kd.R_drew)); exact HO_6.out))) (Kd.R_lt (by (with_reducible repeat (first | apply Kd.R_alloc | apply Kd.R_drewN | apply Kd.R_drew)); exact HO_7.out))) (below_size (by repeat (first | (with_reducible first | exact HB.out | apply below_alloc | apply pw_below_drewN | apply below_drew1) | exact HB.out)))); have n3_ := Aside0.mk (below_step (by repeat (first | (with_reducible first | exact HB.out | apply below_alloc | apply pw_below_drewN | apply below_drew1) | exact HB.out)) hb); clear HO_6; clear HO_7; clear HB; have HO_6 := n0_; have HO_7 := n1_; have HO336 := n2_; have HB := n3_; clear n0_ n1_ n2_ n3_; clear hb ho24; obtain ⟨Ao25, co25, eo25⟩ := Kd.R_slice HO336.out; subst eo25) | ((with_reducible refine gate_callee (f := 58) rfl ?_); refine goesL_ (some 41) rfl rfl Tryd.func58 (by kernel_rfl) rfl #[.slice Ao25 y334.length co25] rfl (by (try simp only [List.map_toArray, List.map_cons, List.map_nil]); first | done | rfl | (simp only [List.length_drop, List.length_take]; rfl)) ?_; (with_reducible refine (tallystickref04_Trim.calls k2 _ _ y334 t337 _ ?side1 ?side2 A19.out).mono ?_); (case side1 => repeat (first | exact (Kd.R_reads' HO336.out).2.2 | (with_reducible refine Kd.C_alloc ?_ _) | (with_reducible refine Kd.C_drewN ?_ _) | (with_reducible refine Kd.C_drew ?_))); (case side2 => exact (Kd.R_reads' HO336.out).2.1); rintro e w26 ⟨v338, rfl, ho0, hb⟩; refine ⟨_, rfl, ?_⟩; have n0_ := Aside0.mk (Kd.R_elder' (by (with_reducible repeat (first | apply Kd.R_alloc | apply Kd.R_drewN | apply Kd.R_drew)); exact HO_6.out) (Kd.R_base ho0) hb); have n1_ := Aside0.mk (Kd.R_elder' (by (with_reducible repeat (first | apply Kd.R_alloc | apply Kd.R_drewN | apply Kd.R_drew)); exact HO_7.out) (Kd.R_base ho0) hb); have n2_ := Aside0.mk (Kd.R_elder' (by (with_reducible repeat (first | apply Kd.R_alloc | apply Kd.R_drewN | apply Kd.R_drew)); exact HO336.out) (Kd.R_base ho0) hb); have n3_ := Aside0.mk (Kd.R_lower (Kd.R_new' (Kd.R_new' (Kd.R_new' ho0 (Kd.R_lt (by (with_reducible repeat (first | apply Kd.R_alloc | apply Kd.R_drewN | apply Kd.R_drew)); exact HO_6.out))) (Kd.R_lt (by (with_reducible repeat (first | apply Kd.R_alloc | apply Kd.R_drewN | apply Kd.R_drew)); exact HO_7.out))) (Kd.R_lt (by (with_reducible repeat (first | apply Kd.R_alloc | apply Kd.R_drewN | apply Kd.R_drew)); exact HO336.out))) (below_size (by repeat (first | (with_reducible first | exact HB.out | apply below_alloc | apply pw_below_drewN | apply below_drew1) | exact HB.out)))); have n4_ := Aside0.mk (below_step (by repeat (first | (with_reducible first | exact HB.out | apply below_alloc | apply pw_below_drewN | apply below_drew1) | exact HB.out)) hb); clear HO_6; clear HO_7; clear HO336; clear HB; have HO_6 := n0_; have HO_7 := n1_; have HO336 := n2_; have HO339 := n3_; have HB := n4_; clear n0_ n1_ n2_ n3_ n4_; (try clear hb); (try clear hb2); (try clear hk); (try clear hi); (try clear ho0); obtain ⟨Ao27, co27, eo27⟩ := Kd.R_slice HO339.out; subst eo27) | ((with_reducible refine gate_callee (f := 60) rfl ?_); refine goesL_ (some 42) rfl rfl Tryd.func60 (by kernel_rfl) rfl #[.slice A1 l1.length c1, .slice Ao27 t337.length co27] rfl (by (try simp only [List.map_toArray, List.map_cons, List.map_nil]); first | done | rfl | (simp only [List.length_drop, List.length_take]; rfl)) ?_; (with_reducible refine (tallystickref04_Mul.calls k2 _ _ l1 _ _ t337 t340 _ ?side1 ?side2 ?side3 ?side4 A20.out).mono ?_); (case side1 => repeat (first | exact (Kd.C_below HR1.out HB.out) | (with_reducible refine Kd.C_alloc ?_ _) | (with_reducible refine Kd.C_drewN ?_ _) | (with_reducible refine Kd.C_drew ?_))); (case side2 => exact HC1.out); (case side3 => repeat (first | exact (Kd.R_reads' HO339.out).2.2 | (with_reducible refine Kd.C_alloc ?_ _) | (with_reducible refine Kd.C_drewN ?_ _) | (with_reducible refine Kd.C_drew ?_))); (case side4 => exact (Kd.R_reads' HO339.out).2.1); rintro e w28 ⟨v341, rfl, ho0, hb⟩; refine ⟨_, rfl, ?_⟩; have n0_ := Aside0.mk (Kd.R_elder' (by (with_reducible repeat (first | apply Kd.R_alloc | apply Kd.R_drewN | apply Kd.R_drew)); exact HO_6.out) (Kd.R_base ho0) hb); have n1_ := Aside0.mk (Kd.R_elder' (by (with_reducible repeat (first | apply Kd.R_alloc | apply Kd.R_drewN | apply Kd.R_drew)); exact HO_7.out) (Kd.R_base ho0) hb); have n2_ := Aside0.mk (Kd.R_elder' (by (with_reducible repeat (first | apply Kd.R_alloc | apply Kd.R_drewN | apply Kd.R_drew)); exact HO336.out) (Kd.R_base ho0) hb); have n3_ := Aside0.mk (Kd.R_elder' (by (with_reducible repeat (first | apply Kd.R_alloc | apply Kd.R_drewN | apply Kd.R_drew)); exact HO339.out) (Kd.R_base ho0) hb); have n4_ := Aside0.mk (Kd.R_lower (Kd.R_new' (Kd.R_new' (Kd.R_new' (Kd.R_new' ho0 (Kd.R_lt (by (with_reducible repeat (first | apply Kd.R_alloc | apply Kd.R_drewN | apply Kd.R_drew)); exact HO_6.out))) (Kd.R_lt (by (with_reducible repeat (first | apply Kd.R_alloc | apply Kd.R_drewN | apply Kd.R_drew)); exact HO_7.out))) (Kd.R_lt (by (with_reducible repeat (first | apply Kd.R_alloc | apply Kd.R_drewN | apply Kd.R_drew)); exact HO336.out))) (Kd.R_lt (by (with_reducible repeat (first | apply Kd.R_alloc | apply Kd.R_drewN | apply Kd.R_drew)); exact HO339.out))) (below_size (by repeat (first | (with_reducible first | exact HB.out | apply below_alloc | apply pw_below_drewN | apply below_drew1) | exact HB.out)))); have n5_ := Aside0.mk (below_step (by repeat (first | (with_reducible first | exact HB.out | apply below_alloc | apply pw_below_drewN | apply below_drew1) | exact HB.out)) hb); clear HO_6; clear HO_7; clear HO336; clear HO339; clear HB; have HO_6 := n0_; have HO_7 := n1_; have HO336 := n2_; have HO339 := n3_; have HO342 := n4_; have HB := n5_; clear n0_ n1_ n2_ n3_ n4_ n5_; (try clear hb); (try clear hb2); (try clear hk); (try clear hi); (try clear ho0); obtain ⟨Ao29, co29, eo29⟩ := Kd.R_slice HO342.out; subst eo29; obtain ⟨Ao30, co30, eo30⟩ := Kd.R_slice HO_7.out; subst eo30) | ((with_reducible refine gate_callee (f := 61) rfl ?_); refine goesL_ (some 44) rfl rfl Tryd.func61 (by kernel_rfl) rfl #[.slice Ao29 t340.length co29, .slice Ao30 t318.length co30] rfl (by (try simp only [List.map_toArray, List.map_cons, List.map_nil]); first | done | rfl | (simp only [List.length_drop, List.length_take]; rfl)) ?_; (with_reducible refine (tallystickref04_Cmp.calls k2 _ _ t340 _ _ t318 t343 _ ?side1 ?side2 ?side3 ?side4 A21.out).mono ?_); (case side1 => repeat (first | exact (Kd.R_reads' HO342.out).2.2 | (with_reducible refine Kd.C_alloc ?_ _) | (with_reducible refine Kd.C_drewN ?_ _) | (with_reducible refine Kd.C_drew ?_))); (case side2 => exact (Kd.R_reads' HO342.out).2.1); (case side3 => repeat (first | exact (Kd.R_reads' HO_7.out).2.2 | (with_reducible refine Kd.C_alloc ?_ _) | (with_reducible refine Kd.C_drewN ?_ _) | (with_reducible refine Kd.C_drew ?_))); (case side4 => exact (Kd.R_reads' HO_7.out).2.1); rintro e w' ⟨rfl, ⟨nd, rfl⟩⟩; refine ⟨_, rfl, ?_⟩))
                          go_roundg k2
                          case measure => have := HK1.out; have := HK2.out; omega
                          case rel => exact ⟨(wrap64 (Int.tdiv (wrap64 ((wrap64 (x9_2 + x10_2)) + 1)) 2)), (x10_2), (by first | rfl | (simp; done) | (simp [*]; done)), (by first | rfl | (simp; done) | (simp [*]; done)), H', ⟨by have := HK1.out; have := HK2.out; omega⟩, ⟨by (with_reducible repeat (first | apply Kd.R_alloc | apply Kd.R_drewN | apply Kd.R_drew)); exact Kd.R_mono HO_6.out (fun _ hk => hk.1.1.1)⟩, ⟨by (with_reducible repeat (first | apply Kd.R_alloc | apply Kd.R_drewN | apply Kd.R_drew)); exact Kd.R_mono HO_7.out (fun _ hk => hk.1.1.1)⟩, ⟨by repeat (first | (with_reducible first | exact HB.out | apply below_alloc | apply pw_below_drewN | apply below_drew1) | exact HB.out)⟩⟩
                        · rw [if_neg c22] at H
                          have c22b0 : decide (t343 ≤ 0) = false := decide_eq_false c22
                          clear c22
                          have H' := Aside0.mk H
                          clear H
                          go_wp2_with (first | ((with_reducible refine gate_dst (N := 40) rfl ?_); refine Kd.R_lit (Kd.int .i64) _ 3 ?hg (N := 40) ?hd (xs := ([wrap64 (Int.tdiv (wrap64 ((wrap64 (x9_2 + x10_2)) + 1)) 2)] : List Int)) (inner := [.int .i64 (wrap64 (Int.tdiv (wrap64 ((wrap64 (x9_2 + x10_2)) + 1)) 2))]) (ok := fun _ => True) (okp := fun _ => True) ?hr ?hp (fun _ hk => hk) trivial (Below.refl _ _) (Nat.le_refl _) (by simp) ?_; (case hd => rfl); (case hg => rfl); (case hr => first | (go_simp; done) | (go_simp; rfl)); (case hp => exact (Reps.one (show Kd.M (Kd.int .i64) _ _ _ (wrap64 (Int.tdiv (wrap64 ((wrap64 (x9_2 + x10_2)) + 1)) 2)) [.int .i64 (wrap64 (Int.tdiv (wrap64 ((wrap64 (x9_2 + x10_2)) + 1)) 2))] from rfl) (Reps.none _ _))); intro v335 w31 ho32 hb hg_ hnew_; clear hg_ hnew_; (first | rw [← Ny334.out] at ho32 | (simp only [Int.reduceToNat] at ho32; rw [← Ny334.out] at ho32)); have n0_ := Aside0.mk (Kd.R_elder' (by (with_reducible repeat (first | apply Kd.R_alloc | apply Kd.R_drewN | apply Kd.R_drew)); exact HO_6.out) (Kd.R_base ho32) hb); have n1_ := Aside0.mk (Kd.R_elder' (by (with_reducible repeat (first | apply Kd.R_alloc | apply Kd.R_drewN | apply Kd.R_drew)); exact HO_7.out) (Kd.R_base ho32) hb); have n2_ := Aside0.mk (Kd.R_lower (Kd.R_new' (Kd.R_new' ho32 (Kd.R_lt (by (with_reducible repeat (first | apply Kd.R_alloc | apply Kd.R_drewN | apply Kd.R_drew)); exact HO_6.out))) (Kd.R_lt (by (with_reducible repeat (first | apply Kd.R_alloc | apply Kd.R_drewN | apply Kd.R_drew)); exact HO_7.out))) (below_size (by repeat (first | (with_reducible first | exact HB.out | apply below_alloc | apply pw_below_drewN | apply below_drew1) | exact HB.out)))); have n3_ := Aside0.mk (below_step (by repeat (first | (with_reducible first | exact HB.out | apply below_alloc | apply pw_below_drewN | apply below_drew1) | exact HB.out)) hb); clear HO_6; clear HO_7; clear HB; have HO_6 := n0_; have HO_7 := n1_; have HO336 := n2_; have HB := n3_; clear n0_ n1_ n2_ n3_; clear hb ho32; obtain ⟨Ao33, co33, eo33⟩ := Kd.R_slice HO336.out; subst eo33) | ((with_reducible refine gate_callee (f := 58) rfl ?_); refine goesL_ (some 41) rfl rfl Tryd.func58 (by kernel_rfl) rfl #[.slice Ao33 y334.length co33] rfl (by (try simp only [List.map_toArray, List.map_cons, List.map_nil]); first | done | rfl | (simp only [List.length_drop, List.length_take]; rfl)) ?_; (with_reducible refine (tallystickref04_Trim.calls k2 _ _ y334 t337 _ ?side1 ?side2 A19.out).mono ?_); (case side1 => repeat (first | exact (Kd.R_reads' HO336.out).2.2 | (with_reducible refine Kd.C_alloc ?_ _) | (with_reducible refine Kd.C_drewN ?_ _) | (with_reducible refine Kd.C_drew ?_))); (case side2 => exact (Kd.R_reads' HO336.out).2.1); rintro e w34 ⟨v338, rfl, ho0, hb⟩; refine ⟨_, rfl, ?_⟩; have n0_ := Aside0.mk (Kd.R_elder' (by (with_reducible repeat (first | apply Kd.R_alloc | apply Kd.R_drewN | apply Kd.R_drew)); exact HO_6.out) (Kd.R_base ho0) hb); have n1_ := Aside0.mk (Kd.R_elder' (by (with_reducible repeat (first | apply Kd.R_alloc | apply Kd.R_drewN | apply Kd.R_drew)); exact HO_7.out) (Kd.R_base ho0) hb); have n2_ := Aside0.mk (Kd.R_elder' (by (with_reducible repeat (first | apply Kd.R_alloc | apply Kd.R_drewN | apply Kd.R_drew)); exact HO336.out) (Kd.R_base ho0) hb); have n3_ := Aside0.mk (Kd.R_lower (Kd.R_new' (Kd.R_new' (Kd.R_new' ho0 (Kd.R_lt (by (with_reducible repeat (first | apply Kd.R_alloc | apply Kd.R_drewN | apply Kd.R_drew)); exact HO_6.out))) (Kd.R_lt (by (with_reducible repeat (first | apply Kd.R_alloc | apply Kd.R_drewN | apply Kd.R_drew)); exact HO_7.out))) (Kd.R_lt (by (with_reducible repeat (first | apply Kd.R_alloc | apply Kd.R_drewN | apply Kd.R_drew)); exact HO336.out))) (below_size (by repeat (first | (with_reducible first | exact HB.out | apply below_alloc | apply pw_below_drewN | apply below_drew1) | exact HB.out)))); have n4_ := Aside0.mk (below_step (by repeat (first | (with_reducible first | exact HB.out | apply below_alloc | apply pw_below_drewN | apply below_drew1) | exact HB.out)) hb); clear HO_6; clear HO_7; clear HO336; clear HB; have HO_6 := n0_; have HO_7 := n1_; have HO336 := n2_; have HO339 := n3_; have HB := n4_; clear n0_ n1_ n2_ n3_ n4_; (try clear hb); (try clear hb2); (try clear hk); (try clear hi); (try clear ho0); obtain ⟨Ao35, co35, eo35⟩ := Kd.R_slice HO339.out; subst eo35) | ((with_reducible refine gate_callee (f := 60) rfl ?_); refine goesL_ (some 42) rfl rfl Tryd.func60 (by kernel_rfl) rfl #[.slice A1 l1.length c1, .slice Ao35 t337.length co35] rfl (by (try simp only [List.map_toArray, List.map_cons, List.map_nil]); first | done | rfl | (simp only [List.length_drop, List.length_take]; rfl)) ?_; (with_reducible refine (tallystickref04_Mul.calls k2 _ _ l1 _ _ t337 t340 _ ?side1 ?side2 ?side3 ?side4 A20.out).mono ?_); (case side1 => repeat (first | exact (Kd.C_below HR1.out HB.out) | (with_reducible refine Kd.C_alloc ?_ _) | (with_reducible refine Kd.C_drewN ?_ _) | (with_reducible refine Kd.C_drew ?_))); (case side2 => exact HC1.out); (case side3 => repeat (first | exact (Kd.R_reads' HO339.out).2.2 | (with_reducible refine Kd.C_alloc ?_ _) | (with_reducible refine Kd.C_drewN ?_ _) | (with_reducible refine Kd.C_drew ?_))); (case side4 => exact (Kd.R_reads' HO339.out).2.1); rintro e w36 ⟨v341, rfl, ho0, hb⟩; refine ⟨_, rfl, ?_⟩; have n0_ := Aside0.mk (Kd.R_elder' (by (with_reducible repeat (first | apply Kd.R_alloc | apply Kd.R_drewN | apply Kd.R_drew)); exact HO_6.out) (Kd.R_base ho0) hb); have n1_ := Aside0.mk (Kd.R_elder' (by (with_reducible repeat (first | apply Kd.R_alloc | apply Kd.R_drewN | apply Kd.R_drew)); exact HO_7.out) (Kd.R_base ho0) hb); have n2_ := Aside0.mk (Kd.R_elder' (by (with_reducible repeat (first | apply Kd.R_alloc | apply Kd.R_drewN | apply Kd.R_drew)); exact HO336.out) (Kd.R_base ho0) hb); have n3_ := Aside0.mk (Kd.R_elder' (by (with_reducible repeat (first | apply Kd.R_alloc | apply Kd.R_drewN | apply Kd.R_drew)); exact HO339.out) (Kd.R_base ho0) hb); have n4_ := Aside0.mk (Kd.R_lower (Kd.R_new' (Kd.R_new' (Kd.R_new' (Kd.R_new' ho0 (Kd.R_lt (by (with_reducible repeat (first | apply Kd.R_alloc | apply Kd.R_drewN | apply Kd.R_drew)); exact HO_6.out))) (Kd.R_lt (by (with_reducible repeat (first | apply Kd.R_alloc | apply Kd.R_drewN | apply Kd.R_drew)); exact HO_7.out))) (Kd.R_lt (by (with_reducible repeat (first | apply Kd.R_alloc | apply Kd.R_drewN | apply Kd.R_drew)); exact HO336.out))) (Kd.R_lt (by (with_reducible repeat (first | apply Kd.R_alloc | apply Kd.R_drewN | apply Kd.R_drew)); exact HO339.out))) (below_size (by repeat (first | (with_reducible first | exact HB.out | apply below_alloc | apply pw_below_drewN | apply below_drew1) | exact HB.out)))); have n5_ := Aside0.mk (below_step (by repeat (first | (with_reducible first | exact HB.out | apply below_alloc | apply pw_below_drewN | apply below_drew1) | exact HB.out)) hb); clear HO_6; clear HO_7; clear HO336; clear HO339; clear HB; have HO_6 := n0_; have HO_7 := n1_; have HO336 := n2_; have HO339 := n3_; have HO342 := n4_; have HB := n5_; clear n0_ n1_ n2_ n3_ n4_ n5_; (try clear hb); (try clear hb2); (try clear hk); (try clear hi); (try clear ho0); obtain ⟨Ao37, co37, eo37⟩ := Kd.R_slice HO342.out; subst eo37; obtain ⟨Ao38, co38, eo38⟩ := Kd.R_slice HO_7.out; subst eo38) | ((with_reducible refine gate_callee (f := 61) rfl ?_); refine goesL_ (some 44) rfl rfl Tryd.func61 (by kernel_rfl) rfl #[.slice Ao37 t340.length co37, .slice Ao38 t318.length co38] rfl (by (try simp only [List.map_toArray, List.map_cons, List.map_nil]); first | done | rfl | (simp only [List.length_drop, List.length_take]; rfl)) ?_; (with_reducible refine (tallystickref04_Cmp.calls k2 _ _ t340 _ _ t318 t343 _ ?side1 ?side2 ?side3 ?side4 A21.out).mono ?_); (case side1 => repeat (first | exact (Kd.R_reads' HO342.out).2.2 | (with_reducible refine Kd.C_alloc ?_ _) | (with_reducible refine Kd.C_drewN ?_ _) | (with_reducible refine Kd.C_drew ?_))); (case side2 => exact (Kd.R_reads' HO342.out).2.1); (case side3 => repeat (first | exact (Kd.R_reads' HO_7.out).2.2 | (with_reducible refine Kd.C_alloc ?_ _) | (with_reducible refine Kd.C_drewN ?_ _) | (with_reducible refine Kd.C_drew ?_))); (case side4 => exact (Kd.R_reads' HO_7.out).2.1); rintro e w' ⟨rfl, ⟨nd, rfl⟩⟩; refine ⟨_, rfl, ?_⟩))
                          go_roundg k2
                          case measure => have := HK1.out; have := HK2.out; omega
                          case rel => exact ⟨(x9_2), (wrap64 ((wrap64 (Int.tdiv (wrap64 ((wrap64 (x9_2 + x10_2)) + 1)) 2)) - 1)), (by first | rfl | (simp; done) | (simp [*]; done)), (by first | rfl | (simp; done) | (simp [*]; done)), H', ⟨by have := HK1.out; have := HK2.out; omega⟩, ⟨by (with_reducible repeat (first | apply Kd.R_alloc | apply Kd.R_drewN | apply Kd.R_drew)); exact Kd.R_mono HO_6.out (fun _ hk => hk.1.1.1)⟩, ⟨by (with_reducible repeat (first | apply Kd.R_alloc | apply Kd.R_drewN | apply Kd.R_drew)); exact Kd.R_mono HO_7.out (fun _ hk => hk.1.1.1)⟩, ⟨by repeat (first | (with_reducible first | exact HB.out | apply below_alloc | apply pw_below_drewN | apply below_drew1) | exact HB.out)⟩⟩
                      · rw [if_neg c18] at H
                        have c18b0 : decide (x9_2 < x10_2) = false := decide_eq_false c18
                        clear c18
                        by_cases c39 : 0 ≤ x8_1
                        · rw [if_pos c39] at H
                          have c39b0 : decide (0 ≤ x8_1) = true := decide_eq_true c39
                          clear c39
                          by_cases c40 : x8_1 < (x6_1.length : Int)
                          · rw [if_pos c40] at H
                            have c40b0 : decide (x8_1 < (x6_1.length : Int)) = true := decide_eq_true c40
                            clear c40
                            obtain ⟨y321, hy321⟩ : ∃ y_ : List Int, y_ = (x6_1.set (x8_1 : Int).toNat x9_2) := ⟨_, rfl⟩
                            replace H : ((tallystickref04_Trim.f k2 (([x9_2] : List Int))).bind fun t325 => ((tallystickref04_Mul.f k2 l1 t325).bind fun t328 => ((tallystickref04_Sub.f k2 t318 t328).bind fun t331 => (tallystickref04_Div.l0 k2 l0 l1 y321 t331 (wrap64 (x8_1 - 1)))))) = some (r1, r2) := by first | (rw [hy321]; with_reducible exact H) | (have H2_ := (Option.bind_some _ _).symm.trans H; rw [hy321]; with_reducible exact H2_) | (have H2_ := (Option.bind_some _ _).symm.trans H; with_reducible exact H2_) | with_reducible exact H | (rw [hy321]; exact H) | exact H
                            have Ny321 := Aside0.mk hy321
                            clear hy321
                            obtain ⟨y322, hy322⟩ : ∃ y_ : List Int, y_ = (([x9_2] : List Int)) := ⟨_, rfl⟩
                            replace H : ((tallystickref04_Trim.f k2 y322).bind fun t325 => ((tallystickref04_Mul.f k2 l1 t325).bind fun t328 => ((tallystickref04_Sub.f k2 t318 t328).bind fun t331 => (tallystickref04_Div.l0 k2 l0 l1 y321 t331 (wrap64 (x8_1 - 1)))))) = some (r1, r2) := by first | (rw [hy322]; with_reducible exact H) | (have H2_ := (Option.bind_some _ _).symm.trans H; rw [hy322]; with_reducible exact H2_) | (have H2_ := (Option.bind_some _ _).symm.trans H; with_reducible exact H2_) | with_reducible exact H | (rw [hy322]; exact H) | exact H
                            have Ny322 := Aside0.mk hy322
                            clear hy322
                            replace H := Option.bind_eq_some_iff.mp H
                            obtain ⟨t325, A420, H⟩ := H
                            replace H : ((tallystickref04_Mul.f k2 l1 t325).bind fun t328 => ((tallystickref04_Sub.f k2 t318 t328).bind fun t331 => (tallystickref04_Div.l0 k2 l0 l1 y321 t331 (wrap64 (x8_1 - 1))))) = some (r1, r2) := H
                            have A42 := Aside0.mk A420
                            clear A420
                            replace H := Option.bind_eq_some_iff.mp H
                            obtain ⟨t328, A430, H⟩ := H
                            replace H : ((tallystickref04_Sub.f k2 t318 t328).bind fun t331 => (tallystickref04_Div.l0 k2 l0 l1 y321 t331 (wrap64 (x8_1 - 1)))) = some (r1, r2) := H
                            have A43 := Aside0.mk A430
                            clear A430
                            replace H := Option.bind_eq_some_iff.mp H
                            obtain ⟨t331, A440, H⟩ := H
                            replace H : (tallystickref04_Div.l0 k2 l0 l1 y321 t331 (wrap64 (x8_1 - 1))) = some (r1, r2) := H
                            have A44 := Aside0.mk A440
                            clear A440
                            have H' := Aside0.mk H
                            clear H
                            have p41 : 0 ≤ (x8_1 : Int) := of_decide_eq_true (by first | (with_reducible assumption) | assumption)
                            have q41 : (x8_1 : Int) < ((x6_1.length : Int) : Int) := of_decide_eq_true (by first | (with_reducible assumption) | assumption)
                            obtain ⟨go41, co41, eo41, gb41, gl41, cl41, HG41⟩ := Kd.R_form HO_6.out (by omega)
                            (first | cases eo41 | (injection eo41 with ea_ en_ ec_; (first | subst ea_ | (injection ea_ with ea_; subst ea_)); subst ec_; clear en_))
                            have GB41 := Aside0.mk gb41
                            have GG41 := Aside0.mk HG41
                            clear gb41 gl41 HG41
                            obtain ⟨hx41_0, hf41_0⟩ := Kd.R_celln 0 HO_6.out (x8_1 : Int) p41 q41
                            replace p41 := eq_true p41
                            replace q41 := eq_true q41
                            have HP45 := Kd.R_putg HO_6.out (x8_1 : Int) x9_2
                            go_wp2_with (first | ((with_reducible refine gate_store (t := 3) (p := 52) rfl ?_); refine store_event (t := 3) (p := 52) (v := ?vo_w46) (w1 := (wr.setCell ⟨go41, (x8_1 : Int).toNat, none⟩ (.int .i64 x9_2))) ?hg ?ho ?hn ?hr ?_; (case ho => rfl); (case hg => rfl); (case hn => rfl); (case hr => first | (go_simp; done) | (go_simp; rfl)); intro w46 hw; have hg : wr.grownBy w46 (some go41) := (by rw [hw]; exact HP45.2); have hp_ : Kd.R (Kd.int .i64) 3 w46 w.heap.size (fun k_ => some k_ ≠ (v319 : Value).ownBlock) (.slice (some ⟨go41, 0, none⟩) x6_1.length co41) y321 := (by rw [hw, Ny321.out]; exact HP45.1); clear HP45; have n0_ := Aside0.mk (hp_); have n1_ := Aside0.mk (Kd.R_after (v := (.slice (some ⟨go41, 0, none⟩) x6_1.length co41)) (v1 := (.slice (some ⟨go41, 0, none⟩) x6_1.length co41)) (ok := (fun _ => True)) (by (with_reducible repeat (first | apply Kd.R_alloc | apply Kd.R_drewN | apply Kd.R_drew)); exact Kd.R_mono HO_7.out (fun _ hk => ⟨trivial, hk⟩)) hg (.inl rfl)); have n2_ := Aside0.mk ((by rw [hw]; exact below_set (HB.out) GB41.out : Below w.heap.size w w46)); clear HO_6; clear HO_7; clear HB; have HO_6 := n0_; have HO_7 := n1_; have HB := n2_; clear n0_ n1_ n2_; clear hg hw hp_) | ((with_reducible refine gate_dst (N := 56) rfl ?_); refine Kd.R_lit (Kd.int .i64) _ 3 ?hg (N := 56) ?hd (xs := ([x9_2] : List Int)) (inner := [.int .i64 x9_2]) (ok := fun _ => True) (okp := fun _ => True) ?hr ?hp (fun _ hk => hk) trivial (Below.refl _ _) (Nat.le_refl _) (by simp) ?_; (case hd => rfl); (case hg => rfl); (case hr => first | (go_simp; done) | (go_simp; rfl)); (case hp => exact (Reps.one (show Kd.M (Kd.int .i64) _ _ _ x9_2 [.int .i64 x9_2] from rfl) (Reps.none _ _))); intro v323 w47 ho48 hb hg_ hnew_; clear hg_ hnew_; (first | rw [← Ny322.out] at ho48 | (simp only [Int.reduceToNat] at ho48; rw [← Ny322.out] at ho48)); have n0_ := Aside0.mk (Kd.R_elder' (by (with_reducible repeat (first | apply Kd.R_alloc | apply Kd.R_drewN | apply Kd.R_drew)); exact HO_6.out) (Kd.R_base ho48) hb); have n1_ := Aside0.mk (Kd.R_elder' (by (with_reducible repeat (first | apply Kd.R_alloc | apply Kd.R_drewN | apply Kd.R_drew)); exact HO_7.out) (Kd.R_base ho48) hb); have n2_ := Aside0.mk (Kd.R_lower (Kd.R_new' (Kd.R_new' ho48 (Kd.R_lt (by (with_reducible repeat (first | apply Kd.R_alloc | apply Kd.R_drewN | apply Kd.R_drew)); exact HO_6.out))) (Kd.R_lt (by (with_reducible repeat (first | apply Kd.R_alloc | apply Kd.R_drewN | apply Kd.R_drew)); exact HO_7.out))) (below_size (by repeat (first | (with_reducible first | exact HB.out | apply below_alloc | apply pw_below_drewN | apply below_drew1) | exact HB.out)))); have n3_ := Aside0.mk (below_step (by repeat (first | (with_reducible first | exact HB.out | apply below_alloc | apply pw_below_drewN | apply below_drew1) | exact HB.out)) hb); clear HO_6; clear HO_7; clear HB; have HO_6 := n0_; have HO_7 := n1_; have HO324 := n2_; have HB := n3_; clear n0_ n1_ n2_ n3_; clear hb ho48; obtain ⟨Ao49, co49, eo49⟩ := Kd.R_slice HO324.out; subst eo49) | ((with_reducible refine gate_callee (f := 58) rfl ?_); refine goesL_ (some 57) rfl rfl Tryd.func58 (by kernel_rfl) rfl #[.slice Ao49 y322.length co49] rfl (by (try simp only [List.map_toArray, List.map_cons, List.map_nil]); first | done | rfl | (simp only [List.length_drop, List.length_take]; rfl)) ?_; (with_reducible refine (tallystickref04_Trim.calls k2 _ _ y322 t325 _ ?side1 ?side2 A42.out).mono ?_); (case side1 => repeat (first | exact (Kd.R_reads' HO324.out).2.2 | (with_reducible refine Kd.C_alloc ?_ _) | (with_reducible refine Kd.C_drewN ?_ _) | (with_reducible refine Kd.C_drew ?_))); (case side2 => exact (Kd.R_reads' HO324.out).2.1); rintro e w50 ⟨v326, rfl, ho0, hb⟩; refine ⟨_, rfl, ?_⟩; have n0_ := Aside0.mk (Kd.R_elder' (by (with_reducible repeat (first | apply Kd.R_alloc | apply Kd.R_drewN | apply Kd.R_drew)); exact HO_6.out) (Kd.R_base ho0) hb); have n1_ := Aside0.mk (Kd.R_elder' (by (with_reducible repeat (first | apply Kd.R_alloc | apply Kd.R_drewN | apply Kd.R_drew)); exact HO_7.out) (Kd.R_base ho0) hb); have n2_ := Aside0.mk (Kd.R_elder' (by (with_reducible repeat (first | apply Kd.R_alloc | apply Kd.R_drewN | apply Kd.R_drew)); exact HO324.out) (Kd.R_base ho0) hb); have n3_ := Aside0.mk (Kd.R_lower (Kd.R_new' (Kd.R_new' (Kd.R_new' ho0 (Kd.R_lt (by (with_reducible repeat (first | apply Kd.R_alloc | apply Kd.R_drewN | apply Kd.R_drew)); exact HO_6.out))) (Kd.R_lt (by (with_reducible repeat (first | apply Kd.R_alloc | apply Kd.R_drewN | apply Kd.R_drew)); exact HO_7.out))) (Kd.R_lt (by (with_reducible repeat (first | apply Kd.R_alloc | apply Kd.R_drewN | apply Kd.R_drew)); exact HO324.out))) (below_size (by repeat (first | (with_reducible first | exact HB.out | apply below_alloc | apply pw_below_drewN | apply below_drew1) | exact HB.out)))); have n4_ := Aside0.mk (below_step (by repeat (first | (with_reducible first | exact HB.out | apply below_alloc | apply pw_below_drewN | apply below_drew1) | exact HB.out)) hb); clear HO_6; clear HO_7; clear HO324; clear HB; have HO_6 := n0_; have HO_7 := n1_; have HO324 := n2_; have HO327 := n3_; have HB := n4_; clear n0_ n1_ n2_ n3_ n4_; (try clear hb); (try clear hb2); (try clear hk); (try clear hi); (try clear ho0); obtain ⟨Ao51, co51, eo51⟩ := Kd.R_slice HO327.out; subst eo51) | ((with_reducible refine gate_callee (f := 60) rfl ?_); refine goesL_ (some 58) rfl rfl Tryd.func60 (by kernel_rfl) rfl #[.slice A1 l1.length c1, .slice Ao51 t325.length co51] rfl (by (try simp only [List.map_toArray, List.map_cons, List.map_nil]); first | done | rfl | (simp only [List.length_drop, List.length_take]; rfl)) ?_; (with_reducible refine (tallystickref04_Mul.calls k2 _ _ l1 _ _ t325 t328 _ ?side1 ?side2 ?side3 ?side4 A43.out).mono ?_); (case side1 => repeat (first | exact (Kd.C_below HR1.out HB.out) | (with_reducible refine Kd.C_alloc ?_ _) | (with_reducible refine Kd.C_drewN ?_ _) | (with_reducible refine Kd.C_drew ?_))); (case side2 => exact HC1.out); (case side3 => repeat (first | exact (Kd.R_reads' HO327.out).2.2 | (with_reducible refine Kd.C_alloc ?_ _) | (with_reducible refine Kd.C_drewN ?_ _) | (with_reducible refine Kd.C_drew ?_))); (case side4 => exact (Kd.R_reads' HO327.out).2.1); rintro e w52 ⟨v329, rfl, ho0, hb⟩; refine ⟨_, rfl, ?_⟩; have n0_ := Aside0.mk (Kd.R_elder' (by (with_reducible repeat (first | apply Kd.R_alloc | apply Kd.R_drewN | apply Kd.R_drew)); exact HO_6.out) (Kd.R_base ho0) hb); have n1_ := Aside0.mk (Kd.R_elder' (by (with_reducible repeat (first | apply Kd.R_alloc | apply Kd.R_drewN | apply Kd.R_drew)); exact HO_7.out) (Kd.R_base ho0) hb); have n2_ := Aside0.mk (Kd.R_elder' (by (with_reducible repeat (first | apply Kd.R_alloc | apply Kd.R_drewN | apply Kd.R_drew)); exact HO324.out) (Kd.R_base ho0) hb); have n3_ := Aside0.mk (Kd.R_elder' (by (with_reducible repeat (first | apply Kd.R_alloc | apply Kd.R_drewN | apply Kd.R_drew)); exact HO327.out) (Kd.R_base ho0) hb); have n4_ := Aside0.mk (Kd.R_lower (Kd.R_new' (Kd.R_new' (Kd.R_new' (Kd.R_new' ho0 (Kd.R_lt (by (with_reducible repeat (first | apply Kd.R_alloc | apply Kd.R_drewN | apply Kd.R_drew)); exact HO_6.out))) (Kd.R_lt (by (with_reducible repeat (first | apply Kd.R_alloc | apply Kd.R_drewN | apply Kd.R_drew)); exact HO_7.out))) (Kd.R_lt (by (with_reducible repeat (first | apply Kd.R_alloc | apply Kd.R_drewN | apply Kd.R_drew)); exact HO324.out))) (Kd.R_lt (by (with_reducible repeat (first | apply Kd.R_alloc | apply Kd.R_drewN | apply Kd.R_drew)); exact HO327.out))) (below_size (by repeat (first | (with_reducible first | exact HB.out | apply below_alloc | apply pw_below_drewN | apply below_drew1) | exact HB.out)))); have n5_ := Aside0.mk (below_step (by repeat (first | (with_reducible first | exact HB.out | apply below_alloc | apply pw_below_drewN | apply below_drew1) | exact HB.out)) hb); clear HO_6; clear HO_7; clear HO324; clear HO327; clear HB; have HO_6 := n0_; have HO_7 := n1_; have HO324 := n2_; have HO327 := n3_; have HO330 := n4_; have HB := n5_; clear n0_ n1_ n2_ n3_ n4_ n5_; (try clear hb); (try clear hb2); (try clear hk); (try clear hi); (try clear ho0); obtain ⟨Ao53, co53, eo53⟩ := Kd.R_slice HO_7.out; subst eo53; obtain ⟨Ao54, co54, eo54⟩ := Kd.R_slice HO330.out; subst eo54) | ((with_reducible refine gate_callee (f := 62) rfl ?_); refine goesL_ (some 59) rfl rfl Tryd.func62 (by kernel_rfl) rfl #[.slice Ao53 t318.length co53, .slice Ao54 t328.length co54] rfl (by (try simp only [List.map_toArray, List.map_cons, List.map_nil]); first | done | rfl | (simp only [List.length_drop, List.length_take]; rfl)) ?_; (with_reducible refine (tallystickref04_Sub.calls k2 _ _ t318 _ _ t328 t331 _ ?side1 ?side2 ?side3 ?side4 A44.out).mono ?_); (case side1 => repeat (first | exact (Kd.R_reads' HO_7.out).2.2 | (with_reducible refine Kd.C_alloc ?_ _) | (with_reducible refine Kd.C_drewN ?_ _) | (with_reducible refine Kd.C_drew ?_))); (case side2 => exact (Kd.R_reads' HO_7.out).2.1); (case side3 => repeat (first | exact (Kd.R_reads' HO330.out).2.2 | (with_reducible refine Kd.C_alloc ?_ _) | (with_reducible refine Kd.C_drewN ?_ _) | (with_reducible refine Kd.C_drew ?_))); (case side4 => exact (Kd.R_reads' HO330.out).2.1); rintro e w55 ⟨v332, rfl, ho0, hb⟩; refine ⟨_, rfl, ?_⟩; have n0_ := Aside0.mk (Kd.R_elder' (by (with_reducible repeat (first | apply Kd.R_alloc | apply Kd.R_drewN | apply Kd.R_drew)); exact HO_6.out) (Kd.R_base ho0) hb); have n1_ := Aside0.mk (Kd.R_elder' (by (with_reducible repeat (first | apply Kd.R_alloc | apply Kd.R_drewN | apply Kd.R_drew)); exact HO_7.out) (Kd.R_base ho0) hb); have n2_ := Aside0.mk (Kd.R_elder' (by (with_reducible repeat (first | apply Kd.R_alloc | apply Kd.R_drewN | apply Kd.R_drew)); exact HO324.out) (Kd.R_base ho0) hb); have n3_ := Aside0.mk (Kd.R_elder' (by (with_reducible repeat (first | apply Kd.R_alloc | apply Kd.R_drewN | apply Kd.R_drew)); exact HO327.out) (Kd.R_base ho0) hb); have n4_ := Aside0.mk (Kd.R_elder' (by (with_reducible repeat (first | apply Kd.R_alloc | apply Kd.R_drewN | apply Kd.R_drew)); exact HO330.out) (Kd.R_base ho0) hb); have n5_ := Aside0.mk (Kd.R_lower (Kd.R_new' (Kd.R_new' (Kd.R_new' (Kd.R_new' (Kd.R_new' ho0 (Kd.R_lt (by (with_reducible repeat (first | apply Kd.R_alloc | apply Kd.R_drewN | apply Kd.R_drew)); exact HO_6.out))) (Kd.R_lt (by (with_reducible repeat (first | apply Kd.R_alloc | apply Kd.R_drewN | apply Kd.R_drew)); exact HO_7.out))) (Kd.R_lt (by (with_reducible repeat (first | apply Kd.R_alloc | apply Kd.R_drewN | apply Kd.R_drew)); exact HO324.out))) (Kd.R_lt (by (with_reducible repeat (first | apply Kd.R_alloc | apply Kd.R_drewN | apply Kd.R_drew)); exact HO327.out))) (Kd.R_lt (by (with_reducible repeat (first | apply Kd.R_alloc | apply Kd.R_drewN | apply Kd.R_drew)); exact HO330.out))) (below_size (by repeat (first | (with_reducible first | exact HB.out | apply below_alloc | apply pw_below_drewN | apply below_drew1) | exact HB.out)))); have n6_ := Aside0.mk (below_step (by repeat (first | (with_reducible first | exact HB.out | apply below_alloc | apply pw_below_drewN | apply below_drew1) | exact HB.out)) hb); clear HO_6; clear HO_7; clear HO324; clear HO327; clear HO330; clear HB; have HO_6 := n0_; have HO_7 := n1_; have HO324 := n2_; have HO327 := n3_; have HO330 := n4_; have HO333 := n5_; have HB := n6_; clear n0_ n1_ n2_ n3_ n4_ n5_ n6_; (try clear hb); (try clear hb2); (try clear hk); (try clear hi); (try clear ho0)))
                            go_roundg k2
                            case measure => have := HK1.out; have := HK2.out; omega
                            case rel => exact ⟨(y321), (t331), (wrap64 (x8_1 - 1)), (by first | rfl | (simp; done) | (simp [*]; done)), H', ⟨by have := HK1.out; have := HK2.out; omega⟩, ⟨by (with_reducible repeat (first | apply Kd.R_alloc | apply Kd.R_drewN | apply Kd.R_drew)); exact Kd.R_mono HO_6.out (fun _ hk => hk.2)⟩, ⟨by (with_reducible repeat (first | apply Kd.R_alloc | apply Kd.R_drewN | apply Kd.R_drew)); exact Kd.R_mono HO333.out (fun _ hk => hk.1.1.1.1.2)⟩, ⟨by repeat (first | (with_reducible first | exact HB.out | apply below_alloc | apply pw_below_drewN | apply below_drew1) | exact HB.out)⟩⟩
                          · rw [if_neg c40] at H
                            exact absurd H (by simp)
                        · rw [if_neg c39] at H
                          exact absurd H (by simp)
                · rw [if_neg c10] at H
                  exact absurd H (by simp)
              · rw [if_neg c9] at H
                exact absurd H (by simp)
            · rw [if_neg c8] at H
              exact absurd H (by simp)
          · rw [if_neg c7] at H
            have c7b0 : decide (0 ≤ x8_1) = false := decide_eq_false c7
            clear c7
            replace H := Option.bind_eq_some_iff.mp H
            obtain ⟨t308, A560, H⟩ := H
            replace H : (some (t308, x7_1)) = some (r1, r2) := H
            have A56 := Aside0.mk A560
            clear A560
            simp only [Option.some.injEq, Prod.mk.injEq] at H
            obtain ⟨rfl, rfl⟩ := H
            obtain ⟨Ao57, co57, eo57⟩ := Kd.R_slice HO_6.out
            subst eo57
            go_wp2_with (first | ((with_reducible refine gate_callee (f := 58) rfl ?_); refine goesL_ (some 61) rfl rfl Tryd.func58 (by kernel_rfl) rfl #[.slice Ao57 x6_1.length co57] rfl (by (try simp only [List.map_toArray, List.map_cons, List.map_nil]); first | done | rfl | (simp only [List.length_drop, List.length_take]; rfl)) ?_; (with_reducible refine (tallystickref04_Trim.calls k1 _ _ x6_1 t308 _ ?side1 ?side2 A56.out).mono ?_); (case side1 => repeat (first | exact (Kd.R_reads' HO_6.out).2.2 | (with_reducible refine Kd.C_alloc ?_ _) | (with_reducible refine Kd.C_drewN ?_ _) | (with_reducible refine Kd.C_drew ?_))); (case side2 => exact (Kd.R_reads' HO_6.out).2.1); rintro e w58 ⟨v309, rfl, ho0, hb⟩; refine ⟨_, rfl, ?_⟩; have n0_ := Aside0.mk (Kd.R_elder' (by (with_reducible repeat (first | apply Kd.R_alloc | apply Kd.R_drewN | apply Kd.R_drew)); exact HO_6.out) (Kd.R_base ho0) hb); have n1_ := Aside0.mk (Kd.R_elder' (by (with_reducible repeat (first | apply Kd.R_alloc | apply Kd.R_drewN | apply Kd.R_drew)); exact HO_7.out) (Kd.R_base ho0) hb); have n2_ := Aside0.mk (Kd.R_lower (Kd.R_new' (Kd.R_new' ho0 (Kd.R_lt (by (with_reducible repeat (first | apply Kd.R_alloc | apply Kd.R_drewN | apply Kd.R_drew)); exact HO_6.out))) (Kd.R_lt (by (with_reducible repeat (first | apply Kd.R_alloc | apply Kd.R_drewN | apply Kd.R_drew)); exact HO_7.out))) (below_size (by repeat (first | (with_reducible first | exact HB.out | apply below_alloc | apply pw_below_drewN | apply below_drew1) | exact HB.out)))); have n3_ := Aside0.mk (below_step (by repeat (first | (with_reducible first | exact HB.out | apply below_alloc | apply pw_below_drewN | apply below_drew1) | exact HB.out)) hb); clear HO_6; clear HO_7; clear HB; have HO_6 := n0_; have HO_7 := n1_; have HO310 := n2_; have HB := n3_; clear n0_ n1_ n2_ n3_; (try clear hb); (try clear hb2); (try clear hk); (try clear hi); (try clear ho0)))
            go_ret2
            exact ⟨_, _, by first | rfl | (simp [errW_none, errW_some] <;> rfl) | (simp [*, errW_none, errW_some] <;> rfl), by (with_reducible repeat (first | apply Kd.R_alloc | apply Kd.R_drewN | apply Kd.R_drew)); exact Kd.R_mono HO310.out (fun _ hk => hk.2), by (with_reducible repeat (first | apply Kd.R_alloc | apply Kd.R_drewN | apply Kd.R_drew)); exact Kd.R_mono HO_7.out (fun _ hk => hk.2), by repeat (first | (with_reducible first | exact HB.out | apply below_alloc | apply pw_below_drewN | apply below_drew1) | exact HB.out)⟩
    · rw [if_neg c4] at H
      exact absurd H (by simp)
  · rw [if_neg c3] at H
    exact absurd H (by simp)

/-! ### tallystickref04_Words: function 63 -/
def tallystickref04_Words.l0 : Nat → List Int → List Int → Int → Option (List Int)
  | 0, _, _, _ => none
  | k + 1, x0, x3, x4 => if x4 ≥ 0 then (if 0 ≤ (wrap64 (Int.tdiv x4 4)) then (if (wrap64 (Int.tdiv x4 4)) < (x3.length : Int) then (if 0 ≤ x4 then (if x4 < (x0.length : Int) then (tallystickref04_Words.l0 k x0 (x3.set ((wrap64 (Int.tdiv x4 4)) : Int).toNat (IntKind.u64.wrap ((IntKind.u64.wrap (65536 * (rd x3 (wrap64 (Int.tdiv x4 4))))) + (IntKind.u64.wrap (rd x0 x4))))) (wrap64 (x4 - 1))) else (none)) else (none)) else (none)) else (none)) else (some x3)
def tallystickref04_Words.f (k : Nat) (l0 : List Int) : Option (List Int) := (tallystickref04_Trim.f k l0).bind fun t344 => (if 0 ≤ (wrap64 (Int.tdiv (wrap64 ((t344.length : Int) + 3)) 4)) then (if (wrap64 (Int.tdiv (wrap64 ((t344.length : Int) + 3)) 4) : Int).toNat ≤ 35184372088832 then (tallystickref04_Words.l0 k t344 (List.replicate (wrap64 (Int.tdiv (wrap64 ((t344.length : Int) + 3)) 4) : Int).toNat 0) (wrap64 ((t344.length : Int) - 1))) else (none)) else (none))
theorem tallystickref04_Words.mono_l : ∀ k, (∀ y0 y1 y2, LeO (tallystickref04_Words.l0 k y0 y1 y2) (tallystickref04_Words.l0 (k + 1) y0 y1 y2))
  | 0 => fun _ _ _ r h => by simp [tallystickref04_Words.l0] at h
  | k + 1 => by
    have ih0 := tallystickref04_Words.mono_l k
    · intro y0 y1 y2
      unfold tallystickref04_Words.l0
      repeat' first
      | (with_reducible exact ih0 _ _ _)
      | (with_reducible exact tallystickref04_Trim.mono _ _)
      | (with_reducible exact LeO.refl _)
      | (with_reducible exact LeO.none _)
      | (with_reducible refine LeO.ite ?_ ?_)
      | (with_reducible refine LeO.bind ?_ (fun _ => ?_))
      | exact ih0 _ _ _
      | exact tallystickref04_Trim.mono _ _
      | exact LeO.none _
      | refine LeO.ite ?_ ?_
      | refine LeO.bind ?_ (fun _ => ?_)
theorem tallystickref04_Words.mono : ∀ a0 k, LeO (tallystickref04_Words.f k a0) (tallystickref04_Words.f (k + 1) a0) := by
  intro a0 k
  have ih0 := tallystickref04_Words.mono_l k
  unfold tallystickref04_Words.f
  repeat' first
      | (with_reducible exact ih0 _ _ _)
      | (with_reducible exact tallystickref04_Trim.mono _ _)
      | (with_reducible exact LeO.refl _)
      | (with_reducible exact LeO.none _)
      | (with_reducible refine LeO.ite ?_ ?_)
      | (with_reducible refine LeO.bind ?_ (fun _ => ?_))
      | exact ih0 _ _ _
      | exact tallystickref04_Trim.mono _ _
      | exact LeO.none _
      | refine LeO.ite ?_ ?_
      | refine LeO.bind ?_ (fun _ => ?_)
def tallystickref04_Words.T6 : Bool × List (List Nat × List Nat) := (true, [([], []), ([], []), ([1], [1]), ([], []), ([], []), ([4], [4]), ([3, 5], [3, 5]), ([6], [6]), ([7], [7]), ([], []), ([], []), ([9, 10], [9, 10]), ([11], [11]), ([12], [12]), ([8, 13], [8, 13]), ([0, 2, 0, 1, 2, 3, 4, 5, 6, 7, 8, 9, 10, 11, 12, 13, 14], [0, 2]), ([15, 14, 0, 1, 2, 3, 4, 5, 6, 7, 8, 9, 10, 11, 12, 13, 14], [14, 15])])
def tallystickref04_Words.B6 : List Nat := [0, 0, 2, 0, 0, 16, 56, 120, 248, 0, 0, 1536, 3584, 7680, 16376, 32767, 65535]
theorem tallystickref04_Words.tab6 : rtab .any (opsOf Tryd.f63 6) = tallystickref04_Words.T6 := by kernel_rfl
theorem tallystickref04_Words.bits6 : waitsOk tallystickref04_Words.T6.2 tallystickref04_Words.B6 = true := by kernel_rfl
set_option maxHeartbeats 8000000 in
set_option maxRecDepth 100000 in
theorem tallystickref04_Words.calls (k : Nat) (A0 : Option Addr) (c0 : Nat) (l0 : List Int) (r : List Int) (w : World) (hr0 : Kd.C (Kd.int .i64) w A0 l0.length l0) (hc0 : l0.length ≤ c0) (h : tallystickref04_Words.f k l0 = some r) :
    Calls Tryd.prog 63 #[.slice A0 l0.length c0] w fun e w' => ∃ v0_ : Value, e = .returned (v0_) ∧ Kd.R (Kd.int .u64) 39 w' w.heap.size (fun _ => True) v0_ r ∧ Below w.heap.size w w' := by
  have HR0 := Aside0.mk hr0
  have HC0 := Aside0.mk hc0
  clear hr0 hc0
  have HB := Aside0.mk (Below.refl w.heap.size w)
  have H : ((tallystickref04_Trim.f k l0).bind fun t344 => (if 0 ≤ (wrap64 (Int.tdiv (wrap64 ((t344.length : Int) + 3)) 4)) then (if (wrap64 (Int.tdiv (wrap64 ((t344.length : Int) + 3)) 4) : Int).toNat ≤ 35184372088832 then (tallystickref04_Words.l0 k t344 (List.replicate (wrap64 (Int.tdiv (wrap64 ((t344.length : Int) + 3)) 4) : Int).toNat 0) (wrap64 ((t344.length : Int) - 1))) else (none)) else (none))) = some r := h
  clear h
  replace H := Option.bind_eq_some_iff.mp H
  obtain ⟨t344, A20, H⟩ := H
  replace H : (if 0 ≤ (wrap64 (Int.tdiv (wrap64 ((t344.length : Int) + 3)) 4)) then (if (wrap64 (Int.tdiv (wrap64 ((t344.length : Int) + 3)) 4) : Int).toNat ≤ 35184372088832 then (tallystickref04_Words.l0 k t344 (List.replicate (wrap64 (Int.tdiv (wrap64 ((t344.length : Int) + 3)) 4) : Int).toNat 0) (wrap64 ((t344.length : Int) - 1))) else (none)) else (none)) = some r := H
  have A2 := Aside0.mk A20
  clear A20
  obtain ⟨ji3, hji3⟩ : ∃ j_ : Int, (wrap64 (Int.tdiv (wrap64 ((t344.length : Int) + 3)) 4)) = j_ := ⟨_, rfl⟩
  replace H : (if 0 ≤ (ji3) then (if (ji3 : Int).toNat ≤ 35184372088832 then (tallystickref04_Words.l0 k t344 (List.replicate (ji3 : Int).toNat 0) (wrap64 ((t344.length : Int) - 1))) else (none)) else (none)) = some r := by first | (rw [hji3] at H; exact H) | (simp only [hji3] at H ⊢; exact H)
  (try rw [hji3] at A2)
  have hji3w : (IntKind.i64.wrap (Int.tdiv (wrap64 ((t344.length : Int) + 3)) 4)) = ji3 := (i64_w _).trans hji3
  by_cases c4 : 0 ≤ (ji3)
  · rw [if_pos c4] at H
    have c4b0 := eq_true c4
    have c4b1 : decide (0 ≤ (ji3)) = true := decide_eq_true c4
    clear c4
    by_cases c5 : (ji3 : Int).toNat ≤ 35184372088832
    · rw [if_pos c5] at H
      have c5b0 := eq_true c5
      have c5b1 : decide ((ji3 : Int).toNat ≤ 35184372088832) = true := decide_eq_true c5
      clear c5
      obtain ⟨y347, hy347⟩ : ∃ y_ : List Int, y_ = (List.replicate (ji3 : Int).toNat 0) := ⟨_, rfl⟩
      replace H : (tallystickref04_Words.l0 k t344 y347 (wrap64 ((t344.length : Int) - 1))) = some r := by first | (rw [hy347]; with_reducible exact H) | (have H2_ := (Option.bind_some _ _).symm.trans H; rw [hy347]; with_reducible exact H2_) | (have H2_ := (Option.bind_some _ _).symm.trans H; with_reducible exact H2_) | with_reducible exact H | (rw [hy347]; exact H) | exact H
      have Ny347 := Aside0.mk hy347
      clear hy347
      have H' := Aside0.mk H
      clear H
      go_enter Tryd.func63, Tryd.ntmps63
      go_wp2_with (first | ((with_reducible refine gate_callee (f := 58) rfl ?_); refine goesL_ (some 6) rfl rfl Tryd.func58 (by kernel_rfl) rfl #[.slice A0 l0.length c0] rfl (by (try simp only [List.map_toArray, List.map_cons, List.map_nil]); first | done | rfl | (simp only [List.length_drop, List.length_take]; rfl)) ?_; (with_reducible refine (tallystickref04_Trim.calls k _ _ l0 t344 _ ?side1 ?side2 A2.out).mono ?_); (case side1 => repeat (first | exact HR0.out | (with_reducible refine Kd.C_alloc ?_ _) | (with_reducible refine Kd.C_drewN ?_ _) | (with_reducible refine Kd.C_drew ?_))); (case side2 => exact HC0.out); rintro e w6 ⟨v345, rfl, ho0, hb⟩; refine ⟨_, rfl, ?_⟩; have n0_ := Aside0.mk (Kd.R_lower ho0 (below_size (by repeat (first | (with_reducible first | exact HB.out | apply below_alloc | apply pw_below_drewN | apply below_drew1) | exact HB.out)))); have n1_ := Aside0.mk (below_step (by repeat (first | (with_reducible first | exact HB.out | apply below_alloc | apply pw_below_drewN | apply below_drew1) | exact HB.out)) hb); clear HB; have HO346 := n0_; have HB := n1_; clear n0_ n1_; (try clear hb); (try clear hb2); (try clear hk); (try clear hi); (try clear ho0); obtain ⟨Ao7, co7, eo7⟩ := Kd.R_slice HO346.out; subst eo7) | ((with_reducible refine gate_dst (N := 11) rfl ?_); refine Kd.R_make (Kd.int .u64) _ 39 rfl (N := 11) rfl 22 _ _ rfl ji3 rfl rfl Tryd.underlying22 (.int .u64 0) 8 info39 rfl (by decide) (by omega) 0 (ok := fun _ => True) (okp := fun _ => True) rfl (fun _ hk => hk) trivial (of_decide_eq_true (by first | (with_reducible assumption) | assumption)) (Nat.le_trans (Nat.mul_le_mul_right _ (of_decide_eq_true (by first | (with_reducible assumption) | assumption) : ji3.toNat ≤ 35184372088832)) (by omega)) (Below.refl _ _) (Nat.le_refl _) ?_; intro v348 w8 ho9 hb hg_ hnew_; clear hg_ hnew_; (first | rw [← Ny347.out] at ho9 | (simp only [Int.reduceToNat] at ho9; rw [← Ny347.out] at ho9)); have n0_ := Aside0.mk (Kd.R_below (by (with_reducible repeat (first | apply Kd.R_alloc | apply Kd.R_drewN | apply Kd.R_drew)); exact HO346.out) hb); have n1_ := Aside0.mk (Kd.R_lower ho9 (below_size (by repeat (first | (with_reducible first | exact HB.out | apply below_alloc | apply pw_below_drewN | apply below_drew1) | exact HB.out)))); have n2_ := Aside0.mk (below_step (by repeat (first | (with_reducible first | exact HB.out | apply below_alloc | apply pw_below_drewN | apply below_drew1) | exact HB.out)) hb); clear HO346; clear HB; have HO346 := n0_; have HO349 := n1_; have HB := n2_; clear n0_ n1_ n2_; clear hb ho9))
      go_loopg [4] k (fun kq v4 w' => ∃ (x3_1 : List Int) (x4_1 : Int), v4 = .int .i64 x4_1 ∧ Aside0 (tallystickref04_Words.l0 kq t344 x3_1 x4_1 = some r) ∧ Aside0 (kq ≤ k) ∧ Aside0 (Kd.R (Kd.int .i64) 3 w' w.heap.size (fun _ => True) (.slice Ao7 t344.length co7) t344) ∧ Aside0 (Kd.R (Kd.int .u64) 39 w' w.heap.size (fun _ => True) v348 x3_1) ∧ Aside0 (Below w.heap.size w w'))
      case atStart => exact ⟨(y347), (wrap64 ((t344.length : Int) - 1)), (by first | rfl | (simp; done) | (simp [*]; done)), H', ⟨Nat.le_refl _⟩, ⟨by (with_reducible repeat (first | apply Kd.R_alloc | apply Kd.R_drewN | apply Kd.R_drew)); exact HO346.out⟩, ⟨by (with_reducible repeat (first | apply Kd.R_alloc | apply Kd.R_drewN | apply Kd.R_drew)); exact HO349.out⟩, ⟨by repeat (first | (with_reducible first | exact HB.out | apply below_alloc | apply pw_below_drewN | apply below_drew1) | exact HB.out)⟩⟩
      case round =>
        clear H'
        try clear p2
        try clear c4
        try clear c4b0
        try clear c4b1
        try clear c5
        try clear c5b0
        try clear c5b1
        try clear c6
        try clear p6
        obtain ⟨x3_1, x4_1, rfl, HA, HK1, HO_0, HO_3, HB⟩ := hrel
        cases gk with
        | zero => exact absurd HA.out (by simp [tallystickref04_Words.l0])
        | succ k1 =>
          have H := HA.out
          clear HA
          simp only [tallystickref04_Words.l0] at H
          by_cases c10 : x4_1 ≥ 0
          · rw [if_pos c10] at H
            have c10b0 : decide (0 ≤ x4_1) = true := decide_eq_true c10
            clear c10
            obtain ⟨ji11, hji11⟩ : ∃ j_ : Int, (wrap64 (Int.tdiv x4_1 4)) = j_ := ⟨_, rfl⟩
            replace H : (if 0 ≤ (ji11) then (if (ji11) < (x3_1.length : Int) then (if 0 ≤ x4_1 then (if x4_1 < (t344.length : Int) then (tallystickref04_Words.l0 k1 t344 (x3_1.set ((ji11) : Int).toNat (IntKind.u64.wrap ((IntKind.u64.wrap (65536 * (rd x3_1 (ji11)))) + (IntKind.u64.wrap (rd t344 x4_1))))) (wrap64 (x4_1 - 1))) else (none)) else (none)) else (none)) else (none)) = some r := by first | (rw [hji11] at H; exact H) | (simp only [hji11] at H ⊢; exact H)
            have hji11w : (IntKind.i64.wrap (Int.tdiv x4_1 4)) = ji11 := (i64_w _).trans hji11
            by_cases c12 : 0 ≤ (ji11)
            · rw [if_pos c12] at H
              have c12b0 : decide (0 ≤ (ji11)) = true := decide_eq_true c12
              clear c12
              by_cases c13 : (ji11) < (x3_1.length : Int)
              · rw [if_pos c13] at H
                have c13b0 : decide ((ji11) < (x3_1.length : Int)) = true := decide_eq_true c13
                clear c13
                by_cases c14 : 0 ≤ x4_1
                · rw [if_pos c14] at H
                  have c14b0 : decide (0 ≤ x4_1) = true := decide_eq_true c14
                  clear c14
                  by_cases c15 : x4_1 < (t344.length : Int)
                  · rw [if_pos c15] at H
                    have c15b0 : decide (x4_1 < (t344.length : Int)) = true := decide_eq_true c15
                    clear c15
                    obtain ⟨y352, hy352⟩ : ∃ y_ : List Int, y_ = (x3_1.set ((ji11) : Int).toNat (IntKind.u64.wrap ((IntKind.u64.wrap (65536 * (rd x3_1 (ji11)))) + (IntKind.u64.wrap (rd t344 x4_1))))) := ⟨_, rfl⟩
                    replace H : (tallystickref04_Words.l0 k1 t344 y352 (wrap64 (x4_1 - 1))) = some r := by first | (rw [hy352]; with_reducible exact H) | (have H2_ := (Option.bind_some _ _).symm.trans H; rw [hy352]; with_reducible exact H2_) | (have H2_ := (Option.bind_some _ _).symm.trans H; with_reducible exact H2_) | with_reducible exact H | (rw [hy352]; exact H) | exact H
                    have Ny352 := Aside0.mk hy352
                    clear hy352
                    have H' := Aside0.mk H
                    clear H
                    try go_wp2
                    have n0_ := Aside0.mk (Kd.R_drew HO_0.out)
                    have n1_ := Aside0.mk (Kd.R_drew HO_3.out)
                    have n2_ := Aside0.mk (below_drew1 HB.out)
                    clear HO_0
                    clear HO_3
                    clear HB
                    have HO_0 := n0_
                    have HO_3 := n1_
                    have HB := n2_
                    clear n0_ n1_ n2_
                    obtain ⟨Ao18, co18, eo18⟩ := Kd.R_slice HO_3.out
                    (first | subst eo18 | (injection eo18 with f1_ f2_ f3_; have f4_ := f1_.symm; have f5_ := f3_.symm; clear f1_ f2_ f3_; subst f4_; subst f5_))
                    have p350 : 0 ≤ ((ji11) : Int) := of_decide_eq_true (by first | (with_reducible assumption) | assumption)
                    have q350 : (ji11) < (x3_1.length : Int) := of_decide_eq_true (by first | (with_reducible assumption) | assumption)
                    obtain ⟨ad350, e350, hx350_0⟩ := Kd.at_int (Kd.R_reads' HO_3.out).2.2 (ji11) p350 q350
                    cases e350
                    replace p350 := eq_true p350
                    replace q350 := eq_true q350
                    have p351 : 0 ≤ (x4_1 : Int) := of_decide_eq_true (by first | (with_reducible assumption) | assumption)
                    have q351 : x4_1 < (t344.length : Int) := of_decide_eq_true (by first | (with_reducible assumption) | assumption)
                    obtain ⟨ad351, e351, hx351_0⟩ := Kd.at_int (Kd.R_reads' HO_0.out).2.2 x4_1 p351 q351
                    cases e351
                    replace p351 := eq_true p351
                    replace q351 := eq_true q351
                    have p16 : 0 ≤ ((ji11) : Int) := of_decide_eq_true (by first | (with_reducible assumption) | assumption)
                    have q16 : ((ji11) : Int) < ((x3_1.length : Int) : Int) := of_decide_eq_true (by first | (with_reducible assumption) | assumption)
                    obtain ⟨go16, co16, eo16, gb16, gl16, cl16, HG16⟩ := Kd.R_form HO_3.out (by omega)
                    (first | cases eo16 | (injection eo16 with ea_ en_ ec_; (first | subst ea_ | (injection ea_ with ea_; subst ea_)); subst ec_; clear en_))
                    have GB16 := Aside0.mk gb16
                    have GG16 := Aside0.mk HG16
                    clear gb16 gl16 HG16
                    (first | simp only [add_plain] at hx350_0 | skip)
                    obtain ⟨hx16_0, hf16_0⟩ := Kd.R_celln 0 HO_3.out ((ji11) : Int) p16 q16
                    replace p16 := eq_true p16
                    replace q16 := eq_true q16
                    have HP19 := Kd.R_putn HO_3.out ((ji11) : Int) (IntKind.u64.wrap ((IntKind.u64.wrap (65536 * (rd x3_1 (ji11)))) + (IntKind.u64.wrap (rd t344 x4_1))))
                    rw [← Ny352.out] at HP19
                    have HQ19 := Aside0.mk HP19
                    clear HP19
                    refine start_ (n := 17) (S := fun w' => w'.cell? ⟨go16, ((ji11)).toNat, none⟩ = some (.int .u64 (rd x3_1 (ji11))) ∧ w'.cell? (ad351.add (x4_1).toNat) = some (.int .i64 (rd t344 x4_1))) (ds := [16]) #[false, false, false, false, false, false, false, false, false, false, false, false, false, false, false, false, false] (by kernel_rfl) rfl rfl ⟨hx350_0, hx351_0⟩ (fun hHeld => ?_); refine with_tabW tallystickref04_Words.tab6 tallystickref04_Words.bits6 (fun HT_ HW_ => ?_)
                    generalize wr.drew = w17 at HO_0 HO_3 HB GG16 HQ19 hf16_0 hx16_0 hx350_0 hx351_0 hHeld ⊢
                    refine pure_ (i := 0) (N := some 19) (v := ?_) (a' := ?_) #[true, false, false, false, false, false, false, false, false, false, false, false, false, false, false, false, false] rfl rfl (any_of HT_.out (by kernel_rfl)) (fun _ _ _ h => h) (Or.inl ⟨by rfl, ?_⟩) ?_ ?_
                    rotate_left
                    · intro w'
                      go_simp
                      with_reducible rfl
                    rotate_left
                    · simp only [Act.put, List.setIfInBounds_toArray, List.set_cons_zero, List.set_cons_succ, i64_w, i32_w]
                      rfl
                    refine pure_ (i := 1) (N := some 20) (v := ?_) (a' := ?_) #[true, true, false, false, false, false, false, false, false, false, false, false, false, false, false, false, false] rfl rfl (any_of HT_.out (by kernel_rfl)) (fun _ _ _ h => h) (Or.inl ⟨by rfl, ?_⟩) ?_ ?_
                    rotate_left
                    · intro w'
                      go_simp
                      with_reducible rfl
                    rotate_left
                    · simp only [Act.put, List.setIfInBounds_toArray, List.set_cons_zero, List.set_cons_succ, i64_w, i32_w]
                      rfl
                    refine pure_ (i := 2) (N := some 21) (v := ?_) (a' := ?_) #[true, true, true, false, false, false, false, false, false, false, false, false, false, false, false, false, false] rfl rfl (any_of HT_.out (by kernel_rfl)) (fun _ _ _ h => h) (Or.inl ⟨by rfl, ?_⟩) ?_ ?_
                    rotate_left
                    · intro w'
                      go_simp
                      with_reducible rfl
                    rotate_left
                    · simp only [Act.put, List.setIfInBounds_toArray, List.set_cons_zero, List.set_cons_succ, i64_w, i32_w]
                      rfl
                    refine pure_ (i := 3) (N := some 22) (v := ?_) (a' := ?_) #[true, true, true, true, false, false, false, false, false, false, false, false, false, false, false, false, false] rfl rfl (any_of HT_.out (by kernel_rfl)) (fun _ _ _ h => h) (Or.inl ⟨by rfl, ?_⟩) ?_ ?_
                    rotate_left
                    · intro w'
                      go_simp
                      with_reducible rfl
                    rotate_left
                    · simp only [Act.put, List.setIfInBounds_toArray, List.set_cons_zero, List.set_cons_succ, i64_w, i32_w]
                      rfl
                    refine pure_ (i := 4) (N := some 23) (v := ?_) (a' := ?_) #[true, true, true, true, true, false, false, false, false, false, false, false, false, false, false, false, false] rfl rfl (any_of HT_.out (by kernel_rfl)) (fun _ _ _ h => h) (Or.inl ⟨by rfl, ?_⟩) ?_ ?_
                    rotate_left
                    · intro w'
                      go_simp
                      with_reducible rfl
                    rotate_left
                    · simp only [Act.put, List.setIfInBounds_toArray, List.set_cons_zero, List.set_cons_succ, i64_w, i32_w]
                      rfl
                    refine pure_ (i := 5) (N := some 24) (v := ?_) (a' := ?_) #[true, true, true, true, true, true, false, false, false, false, false, false, false, false, false, false, false] rfl rfl (any_of HT_.out (by kernel_rfl)) (fun _ _ _ h => h) (Or.inl ⟨by rfl, ?_⟩) ?_ ?_
                    rotate_left
                    · intro w'
                      go_simp
                      with_reducible rfl
                    rotate_left
                    · simp only [Act.put, List.setIfInBounds_toArray, List.set_cons_zero, List.set_cons_succ, i64_w, i32_w]
                      rfl
                    refine pure_ (i := 6) (N := some 25) (v := ?_) (a' := ?_) #[true, true, true, true, true, true, true, false, false, false, false, false, false, false, false, false, false] rfl rfl (any_of HT_.out (by kernel_rfl)) (fun _ _ _ h => h) (Or.inl ⟨by rfl, ?_⟩) ?_ ?_
                    rotate_left
                    · intro w'
                      go_simp
                      with_reducible rfl
                    rotate_left
                    · simp only [Act.put, List.setIfInBounds_toArray, List.set_cons_zero, List.set_cons_succ, i64_w, i32_w]
                      rfl
                    refine pure_ (i := 9) (N := some 28) (v := ?_) (a' := ?_) #[true, true, true, true, true, true, true, false, false, true, false, false, false, false, false, false, false] rfl rfl (any_of HT_.out (by kernel_rfl)) (fun _ _ _ h => h) (Or.inl ⟨by rfl, ?_⟩) ?_ ?_
                    rotate_left
                    · intro w'
                      go_simp
                      with_reducible rfl
                    rotate_left
                    · simp only [Act.put, List.setIfInBounds_toArray, List.set_cons_zero, List.set_cons_succ, i64_w, i32_w]
                      rfl
                    refine pure_ (i := 10) (N := some 29) (v := ?_) (a' := ?_) #[true, true, true, true, true, true, true, false, false, true, true, false, false, false, false, false, false] rfl rfl (any_of HT_.out (by kernel_rfl)) (fun _ _ _ h => h) (Or.inl ⟨by rfl, ?_⟩) ?_ ?_
                    rotate_left
                    · intro w'
                      go_simp
                      with_reducible rfl
                    rotate_left
                    · simp only [Act.put, List.setIfInBounds_toArray, List.set_cons_zero, List.set_cons_succ, i64_w, i32_w]
                      rfl
                    refine pure_ (i := 11) (N := some 30) (v := ?_) (a' := ?_) #[true, true, true, true, true, true, true, false, false, true, true, true, false, false, false, false, false] rfl rfl (any_of HT_.out (by kernel_rfl)) (fun _ _ _ h => h) (Or.inl ⟨by rfl, ?_⟩) ?_ ?_
                    rotate_left
                    · intro w'
                      go_simp
                      with_reducible rfl
                    rotate_left
                    · simp only [Act.put, List.setIfInBounds_toArray, List.set_cons_zero, List.set_cons_succ, i64_w, i32_w]
                      rfl
                    refine take_ (i := 7) (N := some 26) (v := ?_) (a' := ?_) #[true, true, true, true, true, true, true, true, false, true, true, true, false, false, false, false, false] rfl rfl (take_ofW HT_.out HW_.out (by kernel_rfl)) (fun _ _ _ h => h) (Or.inl ⟨by rfl, ?_⟩) hHeld ?_ ?_
                    rotate_left
                    · rintro w' ⟨s0, s1⟩
                      go_simp
                      with_reducible rfl
                    rotate_left
                    · simp only [Act.put, List.setIfInBounds_toArray, List.set_cons_zero, List.set_cons_succ, i64_w, i32_w]
                      rfl
                    refine pure_ (i := 8) (N := some 27) (v := ?_) (a' := ?_) #[true, true, true, true, true, true, true, true, true, true, true, true, false, false, false, false, false] rfl rfl (any_of HT_.out (by kernel_rfl)) (fun _ _ _ h => h) (Or.inl ⟨by rfl, ?_⟩) ?_ ?_
                    rotate_left
                    · intro w'
                      go_simp
                      with_reducible rfl
                    rotate_left
                    · simp only [Act.put, List.setIfInBounds_toArray, List.set_cons_zero, List.set_cons_succ, i64_w, i32_w]
                      rfl
                    refine take_ (i := 12) (N := some 31) (v := ?_) (a' := ?_) #[true, true, true, true, true, true, true, true, true, true, true, true, true, false, false, false, false] rfl rfl (take_ofW HT_.out HW_.out (by kernel_rfl)) (fun _ _ _ h => h) (Or.inl ⟨by rfl, ?_⟩) hHeld ?_ ?_
                    rotate_left
                    · rintro w' ⟨s0, s1⟩
                      go_simp
                      with_reducible rfl
                    rotate_left
                    · simp only [Act.put, List.setIfInBounds_toArray, List.set_cons_zero, List.set_cons_succ, i64_w, i32_w]
                      rfl
                    refine pure_ (i := 13) (N := some 32) (v := ?_) (a' := ?_) #[true, true, true, true, true, true, true, true, true, true, true, true, true, true, false, false, false] rfl rfl (any_of HT_.out (by kernel_rfl)) (fun _ _ _ h => h) (Or.inl ⟨by rfl, ?_⟩) ?_ ?_
                    rotate_left
                    · intro w'
                      go_simp
                      with_reducible rfl
                    rotate_left
                    · simp only [Act.put, List.setIfInBounds_toArray, List.set_cons_zero, List.set_cons_succ, i64_w, i32_w]
                      rfl
                    refine pure_ (i := 14) (N := some 33) (v := ?_) (a' := ?_) #[true, true, true, true, true, true, true, true, true, true, true, true, true, true, true, false, false] rfl rfl (any_of HT_.out (by kernel_rfl)) (fun _ _ _ h => h) (Or.inl ⟨by rfl, ?_⟩) ?_ ?_
                    rotate_left
                    · intro w'
                      go_simp
                      with_reducible rfl
                    rotate_left
                    · simp only [Act.put, List.setIfInBounds_toArray, List.set_cons_zero, List.set_cons_succ, i64_w, i32_w]
                      rfl
                    refine pure_ (i := 15) (N := some 34) (v := ?_) (a' := ?_) #[true, true, true, true, true, true, true, true, true, true, true, true, true, true, true, true, false] rfl rfl (any_of HT_.out (by kernel_rfl)) (fun _ _ _ h => h) (Or.inl ⟨by rfl, ?_⟩) ?_ ?_
                    rotate_left
                    · intro w'
                      go_simp
                      with_reducible rfl
                    rotate_left
                    · simp only [Act.put, List.setIfInBounds_toArray, List.set_cons_zero, List.set_cons_succ, i64_w, i32_w]
                      rfl
                    refine last_ (i := 16) (N := none) #[true, true, true, true, true, true, true, true, true, true, true, true, true, true, true, true, true] rfl rfl (one_of HT_.out (by kernel_rfl)) (by decide) (fun K hK => ?_)
                    refine skip_ (w1 := ?_) (by rfl) rfl ?_ ?_
                    rotate_left
                    · go_simp
                      rfl
                    refine hK.out _ _ ?_
                    clear hK K
                    refine done_ (done_of HT_.out (by kernel_rfl)) ?_
                    try go_wp2
                    go_roundg k1
                    case measure => have := HK1.out; omega
                    case rel => exact ⟨(y352), (wrap64 (x4_1 - 1)), (by first | rfl | (simp; done) | (simp [*]; done)), H', ⟨by have := HK1.out; omega⟩, ⟨by (with_reducible repeat (first | apply Kd.R_alloc | apply Kd.R_drewN | apply Kd.R_drew)); exact Kd.R_mono (Kd.R_far (p := ⟨go16, ((ji11) : Int).toNat, none⟩) (Kd.R_types HO_0.out GG16.out (by decide)) (fun _ hk => hk.2) (.int .u64 (IntKind.u64.wrap ((IntKind.u64.wrap (65536 * (rd x3_1 (ji11)))) + (IntKind.u64.wrap (rd t344 x4_1)))))) (fun _ hk => trivial)⟩, ⟨by (with_reducible repeat (first | apply Kd.R_alloc | apply Kd.R_drewN | apply Kd.R_drew)); exact HQ19.out⟩, ⟨by repeat (first | (with_reducible first | exact HB.out | apply below_alloc | apply pw_below_drewN | apply below_drew1 | refine below_set ?_ GB16.out) | exact HB.out)⟩⟩
                  · rw [if_neg c15] at H
                    exact absurd H (by simp)
                · rw [if_neg c14] at H
                  exact absurd H (by simp)
              · rw [if_neg c13] at H
                exact absurd H (by simp)
            · rw [if_neg c12] at H
              exact absurd H (by simp)
          · rw [if_neg c10] at H
            have c10b0 : decide (0 ≤ x4_1) = false := decide_eq_false c10
            clear c10
            obtain rfl := Option.some.inj H
            go_wp2
            go_ret
            exact ⟨_, by first | rfl | (simp [errW_none, errW_some] <;> rfl) | (simp only [← hji3]; first | rfl | (simp [errW_none, errW_some] <;> rfl)) | (simp [*, errW_none, errW_some] <;> rfl), by (with_reducible repeat (first | apply Kd.R_alloc | apply Kd.R_drewN | apply Kd.R_drew)); exact HO_3.out, by repeat (first | (with_reducible first | exact HB.out | apply below_alloc | apply pw_below_drewN | apply below_drew1) | exact HB.out)⟩
    · rw [if_neg c5] at H
      exact absurd H (by simp)
  · rw [if_neg c4] at H
    exact absurd H (by simp)

/-! ### tallystickref09_pair: function 49 -/
def tallystickref09_pair.f (k : Nat) (l0 : List Int) : Option (Int × Int) := (tallystickref04_Words.f k l0).bind fun t354 => ((some (([0, 0] : List Int) : List Int)).bind fun y357 => (if t354.length + y357.length < 17592186044416 then ((some (t354 ++ y357 : List Int)).bind fun y360 => (if 1 < (y360.length : Int) then (if 0 < (y360.length : Int) then (some (rd y360 1, rd y360 0)) else (none)) else (none))) else (none)))
theorem tallystickref09_pair.mono : ∀ a0 k, LeO (tallystickref09_pair.f k a0) (tallystickref09_pair.f (k + 1) a0) := by
  intro a0 k
  unfold tallystickref09_pair.f
  repeat' first
      | (with_reducible exact tallystickref04_Words.mono _ _)
      | (with_reducible exact LeO.refl _)
      | (with_reducible exact LeO.none _)
      | (with_reducible refine LeO.ite ?_ ?_)
      | (with_reducible refine LeO.bind ?_ (fun _ => ?_))
      | exact tallystickref04_Words.mono _ _
      | exact LeO.none _
      | refine LeO.ite ?_ ?_
      | refine LeO.bind ?_ (fun _ => ?_)
def tallystickref09_pair.T2 : Bool × List (List Nat × List Nat) := (true, [([], []), ([0], [0]), ([1], [1]), ([], []), ([3], [3]), ([4], [4]), ([2, 5], [2, 5]), ([6, 0, 1, 2, 3, 4, 5, 6], [6])])
def tallystickref09_pair.B2 : List Nat := [0, 1, 3, 0, 8, 24, 63, 127]
theorem tallystickref09_pair.tab2 : rtab .any (opsOf Tryd.f49 2) = tallystickref09_pair.T2 := by kernel_rfl
theorem tallystickref09_pair.bits2 : waitsOk tallystickref09_pair.T2.2 tallystickref09_pair.B2 = true := by kernel_rfl
set_option maxHeartbeats 8000000 in
set_option maxRecDepth 100000 in
theorem tallystickref09_pair.calls (k : Nat) (A0 : Option Addr) (c0 : Nat) (l0 : List Int) (r1 : Int) (r2 : Int) (w : World) (hr0 : Kd.C (Kd.int .i64) w A0 l0.length l0) (hc0 : l0.length ≤ c0) (h : tallystickref09_pair.f k l0 = some (r1, r2)) :
    Calls Tryd.prog 49 #[.slice A0 l0.length c0] w fun e w' => e = .returned (.agg #[.int .u64 r1, .int .u64 r2]) ∧ Below w.heap.size w w' := by
  have hu41 := Tryd.underlying41
  have HR0 := Aside0.mk hr0
  have HC0 := Aside0.mk hc0
  clear hr0 hc0
  have HB := Aside0.mk (Below.refl w.heap.size w)
  have H : ((tallystickref04_Words.f k l0).bind fun t354 => ((some (([0, 0] : List Int) : List Int)).bind fun y357 => (if t354.length + y357.length < 17592186044416 then ((some (t354 ++ y357 : List Int)).bind fun y360 => (if 1 < (y360.length : Int) then (if 0 < (y360.length : Int) then (some (rd y360 1, rd y360 0)) else (none)) else (none))) else (none)))) = some (r1, r2) := h
  clear h
  replace H := Option.bind_eq_some_iff.mp H
  obtain ⟨t354, A20, H⟩ := H
  replace H : ((some (([0, 0] : List Int) : List Int)).bind fun y357 => (if t354.length + y357.length < 17592186044416 then ((some (t354 ++ y357 : List Int)).bind fun y360 => (if 1 < (y360.length : Int) then (if 0 < (y360.length : Int) then (some (rd y360 1, rd y360 0)) else (none)) else (none))) else (none))) = some (r1, r2) := H
  have A2 := Aside0.mk A20
  clear A20
  obtain ⟨y357, hy357⟩ : ∃ y_ : List Int, y_ = (([0, 0] : List Int)) := ⟨_, rfl⟩
  replace H : (if t354.length + y357.length < 17592186044416 then ((some (t354 ++ y357 : List Int)).bind fun y360 => (if 1 < (y360.length : Int) then (if 0 < (y360.length : Int) then (some (rd y360 1, rd y360 0)) else (none)) else (none))) else (none)) = some (r1, r2) := by first | (rw [hy357]; with_reducible exact H) | (have H2_ := (Option.bind_some _ _).symm.trans H; rw [hy357]; with_reducible exact H2_) | (have H2_ := (Option.bind_some _ _).symm.trans H; with_reducible exact H2_) | with_reducible exact H | (rw [hy357]; exact H) | exact H
  have Ny357 := Aside0.mk hy357
  clear hy357
  by_cases c3 : t354.length + y357.length < 17592186044416
  · rw [if_pos c3] at H
    have LMc3 := Aside0.mk c3
    clear c3
    obtain ⟨y360, hy360⟩ : ∃ y_ : List Int, y_ = (t354 ++ y357) := ⟨_, rfl⟩
    replace H : (if 1 < (y360.length : Int) then (if 0 < (y360.length : Int) then (some (rd y360 1, rd y360 0)) else (none)) else (none)) = some (r1, r2) := by first | (rw [hy360]; with_reducible exact H) | (have H2_ := (Option.bind_some _ _).symm.trans H; rw [hy360]; with_reducible exact H2_) | (have H2_ := (Option.bind_some _ _).symm.trans H; with_reducible exact H2_) | with_reducible exact H | (rw [hy360]; exact H) | exact H
    have Ny360 := Aside0.mk hy360
    clear hy360
    by_cases c4 : 1 < (y360.length : Int)
    · rw [if_pos c4] at H
      have c4b0 : decide (1 < (y360.length : Int)) = true := decide_eq_true c4
      have c4b1 : decide (1 < y360.length) = true := decide_eq_true (by omega)
      clear c4
      by_cases c5 : 0 < (y360.length : Int)
      · rw [if_pos c5] at H
        have c5b0 : decide (0 < (y360.length : Int)) = true := decide_eq_true c5
        have c5b1 : decide (0 < y360.length) = true := decide_eq_true (by omega)
        clear c5
        simp only [Option.some.injEq, Prod.mk.injEq] at H
        obtain ⟨rfl, rfl⟩ := H
        go_enter Tryd.func49, Tryd.ntmps49
        try go_wp2_with (first | ((with_reducible refine gate_dst (N := 2) rfl ?_); refine box_event ?hg (N := 2) ?hd (cs := #[.int .u64 0, .int .u64 0]) (t := 41) ?hr ?_; (case hd => rfl); (case hg => rfl); (case hr => first | (go_simp; done) | (go_simp; rfl)); intro gb353 hg w6 hbox hb; have n0_ := Aside0.mk (below_step (by repeat (first | (with_reducible first | exact HB.out | apply below_alloc | apply pw_below_drewN | apply below_drew1) | exact HB.out)) hb); have n1_ := Aside0.mk (hbox); have n2_ := Aside0.mk ((by rw [hg]; exact (below_size (by repeat (first | (with_reducible first | exact HB.out | apply below_alloc | apply pw_below_drewN | apply below_drew1) | exact HB.out))) : w.heap.size ≤ gb353)); have n3_ := Aside0.mk ((by rw [hg]; exact (below_size (by repeat (first | (with_reducible first | exact HB.out | apply below_alloc | apply pw_below_drewN | apply below_drew1) | exact HB.out))) : w.heap.size ≤ gb353)); clear HB; have HB := n0_; have BK353 := n1_; have GW353 := n2_; have GE353 := n3_; clear n0_ n1_ n2_ n3_; clear hb hbox hg) | ((with_reducible refine gate_callee (f := 63) rfl ?_); refine goesL_ (some 5) rfl rfl Tryd.func63 (by kernel_rfl) rfl #[.slice A0 l0.length c0] rfl (by (try simp only [List.map_toArray, List.map_cons, List.map_nil]); first | done | rfl | (simp only [List.length_drop, List.length_take]; rfl)) ?_; (with_reducible refine (tallystickref04_Words.calls k _ _ l0 t354 _ ?side1 ?side2 A2.out).mono ?_); (case side1 => repeat (first | exact (Kd.C_below HR0.out HB.out) | (with_reducible refine Kd.C_alloc ?_ _) | (with_reducible refine Kd.C_drewN ?_ _) | (with_reducible refine Kd.C_drew ?_))); (case side2 => exact HC0.out); rintro e w7 ⟨v355, rfl, ho0, hb⟩; refine ⟨_, rfl, ?_⟩; have n0_ := Aside0.mk (Kd.R_lower ho0 (below_size (by repeat (first | (with_reducible first | exact HB.out | apply below_alloc | apply pw_below_drewN | apply below_drew1 | refine below_set ?_ GE353.out) | exact HB.out)))); have n1_ := Aside0.mk (blk_below (g := gb353) (o := .cells #[.int .u64 0, .int .u64 0] 41 (0, 0)) (by (with_reducible repeat (first | refine blk_drewN ?_ _ | refine blk_drew ?_ | refine blk_alloc ?_ _)); exact BK353.out) hb); have n2_ := Aside0.mk (below_step (by repeat (first | (with_reducible first | exact HB.out | apply below_alloc | apply pw_below_drewN | apply below_drew1 | refine below_set ?_ GE353.out) | exact HB.out)) hb); clear BK353; clear HB; have HO356 := n0_; have BK353 := n1_; have HB := n2_; clear n0_ n1_ n2_; (try clear hb); (try clear hb2); (try clear hk); (try clear hi); (try clear ho0)) | ((with_reducible refine gate_dst (N := 6) rfl ?_); refine Kd.R_lit (Kd.int .u64) _ 39 ?hg (N := 6) ?hd (xs := ([0, 0] : List Int)) (inner := [.int .u64 0, .int .u64 0]) (ok := fun _ => True) (okp := fun _ => True) ?hr ?hp (fun _ hk => hk) trivial (Below.refl _ _) (Nat.le_refl _) (by simp) ?_; (case hd => rfl); (case hg => rfl); (case hr => first | (go_simp; done) | (go_simp; rfl)); (case hp => exact (Reps.one (show Kd.M (Kd.int .u64) _ _ _ 0 [.int .u64 0] from rfl) (Reps.one (show Kd.M (Kd.int .u64) _ _ _ 0 [.int .u64 0] from rfl) (Reps.none _ _)))); intro v358 w8 ho9 hb hg_ hnew_; clear hg_ hnew_; (first | rw [← Ny357.out] at ho9 | (simp only [Int.reduceToNat] at ho9; rw [← Ny357.out] at ho9)); have n0_ := Aside0.mk (Kd.R_elder' (by (with_reducible repeat (first | apply Kd.R_alloc | apply Kd.R_drewN | apply Kd.R_drew)); exact HO356.out) (Kd.R_base ho9) hb); have n1_ := Aside0.mk (Kd.R_lower (Kd.R_new' ho9 (Kd.R_lt (by (with_reducible repeat (first | apply Kd.R_alloc | apply Kd.R_drewN | apply Kd.R_drew)); exact HO356.out))) (below_size (by repeat (first | (with_reducible first | exact HB.out | apply below_alloc | apply pw_below_drewN | apply below_drew1 | refine below_set ?_ GE353.out) | exact HB.out)))); have n2_ := Aside0.mk (blk_below (g := gb353) (o := .cells #[.int .u64 0, .int .u64 0] 41 (0, 0)) (by (with_reducible repeat (first | refine blk_drewN ?_ _ | refine blk_drew ?_ | refine blk_alloc ?_ _)); exact BK353.out) hb); have n3_ := Aside0.mk (below_step (by repeat (first | (with_reducible first | exact HB.out | apply below_alloc | apply pw_below_drewN | apply below_drew1 | refine below_set ?_ GE353.out) | exact HB.out)) hb); clear HO356; clear BK353; clear HB; have HO356 := n0_; have HO359 := n1_; have BK353 := n2_; have HB := n3_; clear n0_ n1_ n2_ n3_; clear hb ho9; obtain ⟨Ao11, co11, eo11⟩ := Kd.R_slice HO359.out; subst eo11) | ((with_reducible refine gate_builtin (b := .append) (xs := #[.tmp 5, .tmp 6]) rfl ?_); at_builtin; refine Kd.R_append_rows (Kd.int .u64) (w0 := w) w.heap.size rfl (.tmp 5) (.tmp 6) 22 39 (.int .u64 0) 8 rfl Tryd.underlying22 info39 rfl (by decide) (by omega) v355 t354 y357 _ _ _ (fun k_ => some k_ ≠ (.slice Ao11 y357.length co11 : Value).ownBlock) (fun _ => False) rfl rfl ?aO ?aR (fun _ _ h => h) (fun _ h => h.elim) ?aF ?aB ?aS ?aL ?_; (case aR => repeat (first | exact (Kd.R_reads' HO359.out).2.2 | (with_reducible refine Kd.C_alloc ?_ _) | (with_reducible refine Kd.C_drewN ?_ _) | (with_reducible refine Kd.C_drew ?_))); (case aB => exact (by repeat (first | (with_reducible first | exact HB.out | apply below_alloc | apply pw_below_drewN | apply below_drew1 | refine below_set ?_ GE353.out) | exact HB.out))); (case aF => exact (fun k_ hk => Kd.fresh' (Kd.R_lt (by (with_reducible repeat (first | apply Kd.R_alloc | apply Kd.R_drewN | apply Kd.R_drew)); exact HO359.out)) k_ hk)); (case aO => exact (by (with_reducible repeat (first | apply Kd.R_alloc | apply Kd.R_drewN | apply Kd.R_drew)); exact Kd.R_mono HO356.out (fun _ hk => hk.2))); (case aS => exact (below_size (by repeat (first | (with_reducible first | exact HB.out | apply below_alloc | apply pw_below_drewN | apply below_drew1 | refine below_set ?_ GE353.out) | exact HB.out)))); (case aL => have := LMc3.out; omega); intro v361 w10 ho hb hg hat; rw [← Ny360.out] at ho; have n0_ := Aside0.mk (blk_grown (g := gb353) (o := .cells #[.int .u64 0, .int .u64 0] 41 (0, 0)) (by (with_reducible repeat (first | refine blk_drewN ?_ _ | refine blk_drew ?_ | refine blk_alloc ?_ _)); exact BK353.out) hg (Kd.R_ne HO356.out BK353.out (by decide))); have n1_ := Aside0.mk (Kd.R_after (ok := (fun _ => True)) (by (with_reducible repeat (first | apply Kd.R_alloc | apply Kd.R_drewN | apply Kd.R_drew)); exact HO359.out) hg hat); have n2_ := Aside0.mk (hb); have n3_ := Aside0.mk (ho); clear BK353; clear HO359; clear HB; clear HO356; have BK353 := n0_; have HO359 := n1_; have HB := n2_; have HO362 := n3_; clear n0_ n1_ n2_ n3_; clear ho hb hg hat))
        have n0_ := Aside0.mk (Kd.R_drew HO359.out)
        have n1_ := Aside0.mk (Kd.R_drew HO362.out)
        have n2_ := Aside0.mk (blk_drew BK353.out)
        have n3_ := Aside0.mk (below_drew1 HB.out)
        clear HO359
        clear HO362
        clear BK353
        clear HB
        have HO359 := n0_
        have HO362 := n1_
        have BK353 := n2_
        have HB := n3_
        clear n0_ n1_ n2_ n3_
        obtain ⟨Ao13, co13, eo13⟩ := Kd.R_slice HO362.out
        (first | subst eo13 | (injection eo13 with f1_ f2_ f3_; have f4_ := f1_.symm; have f5_ := f3_.symm; clear f1_ f2_ f3_; subst f4_; subst f5_))
        have p363 : 0 ≤ (1 : Int) := (by omega)
        have q363 : 1 < (y360.length : Int) := of_decide_eq_true (by first | (with_reducible assumption) | assumption)
        obtain ⟨ad363, e363, hx363_0⟩ := Kd.at_int (Kd.R_reads' HO362.out).2.2 1 p363 q363
        cases e363
        (try simp only [show (1 : Int).toNat = 1 from rfl, Nat.reduceMul, Nat.reduceEqDiff, Go.Addr.add, ↓reduceIte] at hx363_0)
        have qi363 : (1 < y360.length) = True := eq_true (by omega)
        (try rw [show ((1 : Int)).toNat = 1 from rfl] at hx363_0)
        replace p363 := eq_true p363
        replace q363 := eq_true q363
        have p364 : 0 ≤ (0 : Int) := (by omega)
        have q364 : 0 < (y360.length : Int) := of_decide_eq_true (by first | (with_reducible assumption) | assumption)
        obtain ⟨ad364, e364, hx364_0⟩ := Kd.at_int (Kd.R_reads' HO362.out).2.2 0 p364 q364
        obtain rfl : ad363 = ad364 := (by injection e364)
        have qi364 : (0 < y360.length) = True := eq_true (by omega)
        (try rw [show ((0 : Int)).toNat = 0 from rfl] at hx364_0)
        (try rw [Addr.add_zero'] at hx364_0)
        replace p364 := eq_true p364
        replace q364 := eq_true q364
        refine start_ (n := 8) (S := fun w' => w'.cell? ⟨ad363.block, ad363.off + 1, none⟩ = some (.int .u64 (rd y360 1)) ∧ w'.cell? ad363 = some (.int .u64 (rd y360 0))) (ds := []) #[false, false, false, false, false, false, false, false] (by kernel_rfl) rfl rfl ⟨hx363_0, hx364_0⟩ (fun hHeld => ?_); refine with_tabW tallystickref09_pair.tab2 tallystickref09_pair.bits2 (fun HT_ HW_ => ?_)
        generalize w10.drew = w12 at HO359 HO362 BK353 HB hx363_0 hx364_0 hHeld ⊢
        refine pure_ (i := 0) (N := some 8) (v := ?_) (a' := ?_) #[true, false, false, false, false, false, false, false] rfl rfl (any_of HT_.out (by kernel_rfl)) (fun _ _ _ h => h) (Or.inl ⟨by rfl, ?_⟩) ?_ ?_
        rotate_left
        · intro w'
          go_simp
          with_reducible rfl
        rotate_left
        · simp only [Act.put, List.setIfInBounds_toArray, List.set_cons_zero, List.set_cons_succ, i64_w, i32_w]
          rfl
        refine pure_ (i := 1) (N := some 9) (v := ?_) (a' := ?_) #[true, true, false, false, false, false, false, false] rfl rfl (any_of HT_.out (by kernel_rfl)) (fun _ _ _ h => h) (Or.inl ⟨by rfl, ?_⟩) ?_ ?_
        rotate_left
        · intro w'
          go_simp
          with_reducible rfl
        rotate_left
        · simp only [Act.put, List.setIfInBounds_toArray, List.set_cons_zero, List.set_cons_succ, i64_w, i32_w]
          rfl
        refine pure_ (i := 3) (N := some 11) (v := ?_) (a' := ?_) #[true, true, false, true, false, false, false, false] rfl rfl (any_of HT_.out (by kernel_rfl)) (fun _ _ _ h => h) (Or.inl ⟨by rfl, ?_⟩) ?_ ?_
        rotate_left
        · intro w'
          go_simp
          with_reducible rfl
        rotate_left
        · simp only [Act.put, List.setIfInBounds_toArray, List.set_cons_zero, List.set_cons_succ, i64_w, i32_w]
          rfl
        refine pure_ (i := 4) (N := some 12) (v := ?_) (a' := ?_) #[true, true, false, true, true, false, false, false] rfl rfl (any_of HT_.out (by kernel_rfl)) (fun _ _ _ h => h) (Or.inl ⟨by rfl, ?_⟩) ?_ ?_
        rotate_left
        · intro w'
          go_simp
          with_reducible rfl
        rotate_left
        · simp only [Act.put, List.setIfInBounds_toArray, List.set_cons_zero, List.set_cons_succ, i64_w, i32_w]
          rfl
        refine take_ (i := 2) (N := some 10) (v := ?_) (a' := ?_) #[true, true, true, true, true, false, false, false] rfl rfl (take_ofW HT_.out HW_.out (by kernel_rfl)) (fun _ _ _ h => h) (Or.inl ⟨by rfl, ?_⟩) hHeld ?_ ?_
        rotate_left
        · rintro w' ⟨s0, s1⟩
          go_simp
          with_reducible rfl
        rotate_left
        · simp only [Act.put, List.setIfInBounds_toArray, List.set_cons_zero, List.set_cons_succ, i64_w, i32_w]
          rfl
        refine take_ (i := 5) (N := some 13) (v := ?_) (a' := ?_) #[true, true, true, true, true, true, false, false] rfl rfl (take_ofW HT_.out HW_.out (by kernel_rfl)) (fun _ _ _ h => h) (Or.inl ⟨by rfl, ?_⟩) hHeld ?_ ?_
        rotate_left
        · rintro w' ⟨s0, s1⟩
          go_simp
          with_reducible rfl
        rotate_left
        · simp only [Act.put, List.setIfInBounds_toArray, List.set_cons_zero, List.set_cons_succ, i64_w, i32_w]
          rfl
        refine pure_ (i := 6) (N := some 14) (v := ?_) (a' := ?_) #[true, true, true, true, true, true, true, false] rfl rfl (any_of HT_.out (by kernel_rfl)) (fun _ _ _ h => h) (Or.inl ⟨by rfl, ?_⟩) ?_ ?_
        rotate_left
        · intro w'
          go_simp
          with_reducible rfl
        rotate_left
        · simp only [Act.put, List.setIfInBounds_toArray, List.set_cons_zero, List.set_cons_succ, i64_w, i32_w]
          rfl
        refine one_ (i := 7) (N := none) #[true, true, true, true, true, true, true, true] rfl rfl (one_of HT_.out (by kernel_rfl)) (by decide) (fun K hK => ?_)
        have hs14 : w12.cell? ⟨gb353, 0, none⟩ = some (.int .u64 0) := (blk_cell BK353.out 0).trans rfl
        have hfs14 := blk_frozen BK353.out 0
        have hs15 : w12.cell? ⟨gb353, 1, none⟩ = some (.int .u64 0) := (blk_cell BK353.out 1).trans rfl
        have hfs15 := blk_frozen BK353.out 1
        refine skip_ (w1 := ?_) (by rfl) rfl ?_ ?_
        rotate_left
        · go_simp
          rfl
        refine hK.out _ _ ⟨((cell_far (p := ⟨gb353, _, none⟩) (by first | exact Kd.own_blk (Kd.R_ne HO362.out BK353.out (by decide)) | (rw [add_block]; exact Kd.own_blk (Kd.R_ne HO362.out BK353.out (by decide))) | (show (Addr.add _ _).block ≠ _; rw [add_block]; exact Kd.own_blk (Kd.R_ne HO362.out BK353.out (by decide))) | (dsimp only; exact Kd.own_blk (Kd.R_ne HO362.out BK353.out (by decide)))) _).trans (((cell_far (p := ⟨gb353, _, none⟩) (by first | exact Kd.own_blk (Kd.R_ne HO362.out BK353.out (by decide)) | (rw [add_block]; exact Kd.own_blk (Kd.R_ne HO362.out BK353.out (by decide))) | (show (Addr.add _ _).block ≠ _; rw [add_block]; exact Kd.own_blk (Kd.R_ne HO362.out BK353.out (by decide))) | (dsimp only; exact Kd.own_blk (Kd.R_ne HO362.out BK353.out (by decide)))) _).trans (hHeld.1)))), ((cell_far (p := ⟨gb353, _, none⟩) (by first | exact Kd.own_blk (Kd.R_ne HO362.out BK353.out (by decide)) | (rw [add_block]; exact Kd.own_blk (Kd.R_ne HO362.out BK353.out (by decide))) | (show (Addr.add _ _).block ≠ _; rw [add_block]; exact Kd.own_blk (Kd.R_ne HO362.out BK353.out (by decide))) | (dsimp only; exact Kd.own_blk (Kd.R_ne HO362.out BK353.out (by decide)))) _).trans (((cell_far (p := ⟨gb353, _, none⟩) (by first | exact Kd.own_blk (Kd.R_ne HO362.out BK353.out (by decide)) | (rw [add_block]; exact Kd.own_blk (Kd.R_ne HO362.out BK353.out (by decide))) | (show (Addr.add _ _).block ≠ _; rw [add_block]; exact Kd.own_blk (Kd.R_ne HO362.out BK353.out (by decide))) | (dsimp only; exact Kd.own_blk (Kd.R_ne HO362.out BK353.out (by decide)))) _).trans (hHeld.2))))⟩ (fun hHeld => ?_)
        clear hK K
        refine done_ (done_of HT_.out (by kernel_rfl)) ?_
        try go_wp2
        refine bodyPost_ret (results_cell_row rfl _ _ gb353 41 #[.int .u64 (rd y360 1), .int .u64 (rd y360 0)] (0, 0) _ rfl (by (with_reducible repeat (first | refine blk_drewN ?_ _ | refine blk_drew ?_ | refine blk_alloc ?_ _)); refine blk_put (cs := #[.int .u64 (rd y360 1), .int .u64 0]) ?_ 1 _ rfl; (with_reducible repeat (first | refine blk_drewN ?_ _ | refine blk_drew ?_ | refine blk_alloc ?_ _)); refine blk_put (cs := #[.int .u64 0, .int .u64 0]) ?_ 0 _ rfl; (with_reducible repeat (first | refine blk_drewN ?_ _ | refine blk_drew ?_ | refine blk_alloc ?_ _)); exact BK353.out) Tryd.underlying41 rfl (by kernel_rfl)) rfl ?_
        exact ⟨by first | rfl | (simp [errW_none, errW_some] <;> rfl) | (simp [*, errW_none, errW_some] <;> rfl), by repeat (first | (with_reducible first | exact HB.out | apply below_alloc | apply pw_below_drewN | apply below_drew1 | refine below_set ?_ GE353.out) | exact HB.out)⟩
      · rw [if_neg c5] at H
        exact absurd H (by simp)
    · rw [if_neg c4] at H
      exact absurd H (by simp)
  · rw [if_neg c3] at H
    exact absurd H (by simp)

end Go.Proofs.YtaakniobgljniaaDoor.Pa
