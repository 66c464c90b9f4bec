/- Contracts of functions and laws, written by this session's program myprint.py by way of the kit's print. -/
import Derived.Test.YtanjahakoadecaaDoorPc0
import Derived.Test.YtanjahakoadecaaDoorHCrcZ
import Derived.Test.YtanjahakoadecaaDoorHCrcC
import Derived.Test.YtanjahakoadecaaDoorPc3
namespace Go.Proofs.YtanjahakoadecaaDoor.Pc
open Go.RowKit Go.Proofs.YtanjahakoadecaaDoor.Hand Go.Proofs.YtanjahakoadecaaDoorW.PrintWords Go.Proofs.YtanjahakoadecaaDoorW.PrintLast Go.Proofs.YtanjahakoadecaaDoorW.PrintMore
attribute [local go_sem] max2_int min2_int max_two min_two max_three min_three max_four min_four   -- for this text's walks alone
set_option linter.unusedVariables false
set_option linter.unusedSimpArgs false

/-! ### crc_Bytes: function 11 -/
mutual
def crc_Bytes.l0 : Nat → List Int → List Int → Int → Int → Int → Int → Int → Int → Int → List Int → List Int → List Int → Bool → Option (ByteArray × Int)
  | 0, _, _, _, _, _, _, _, _, _, _, _, _, _ => none
  | k + 1, x4, x37, x38, x39, x106000, x106001, x106002, x106003, x106004, x106005, x106006, x106007, x106008 => if x39 < x38 then (if 0 ≤ x39 then (if x39 < (x37.length : Int) then ((crc_num.f k x4 (IntKind.u64.wrap (rd x37 x39)) 4).bind fun t117 => (crc_Bytes.l0 k t117 x37 x38 (wrap64 (x39 + 1)) x106000 x106001 x106002 x106003 x106004 x106005 x106006 x106007 x106008)) else (none)) else (none)) else (if x106008 = true then (crc_Bytes.j1 k x4 1 x106000 x106001 x106002 x106003 x106004 x106005 x106006 x106007 x106008) else (crc_Bytes.j1 k x4 0 x106000 x106001 x106002 x106003 x106004 x106005 x106006 x106007 x106008))
def crc_Bytes.j1 : Nat → List Int → Int → Int → Int → Int → Int → Int → List Int → List Int → List Int → Bool → Option (ByteArray × Int)
  | 0, _, _, _, _, _, _, _, _, _, _, _ => none
  | k + 1, x4, x7, x106000, x106001, x106002, x106003, x106004, x106005, x106006, x106007, x106008 => if x4.length < 140737488355328 then ((some (([x106005, x106006, x106007] : List (List Int)) : List (List Int))).bind fun y123 => (crc_Bytes.l1 k (x4 ++ [x7]) y123 (y123.length : Int) 0)) else (none)
def crc_Bytes.l1 : Nat → List Int → List (List Int) → Int → Int → Option (ByteArray × Int)
  | 0, _, _, _, _ => none
  | k + 1, x4, x64, x65, x66 => if x66 < x65 then (if 0 ≤ x66 then (if x66 < (x64.length : Int) then ((crc_num.f k x4 (IntKind.u64.wrap (((rd_L2 x64 x66).length : Int))) 4).bind fun t131 => (crc_Bytes.l2 k t131 x64 x65 x66 (rd_L2 x64 x66) ((rd_L2 x64 x66).length : Int) 0)) else (none)) else (none)) else ((crc_Sum.f (strOfNums x4)).bind fun t126 => ((crc_num.f k x4 (IntKind.u64.wrap (t126)) 4).bind fun t127 => (some (strOfNums t127, 0))))
def crc_Bytes.l2 : Nat → List Int → List (List Int) → Int → Int → List Int → Int → Int → Option (ByteArray × Int)
  | 0, _, _, _, _, _, _, _ => none
  | k + 1, x4, x64, x65, x66, x75, x76, x77 => if x77 < x76 then (if 0 ≤ x77 then (if x77 < (x75.length : Int) then ((crc_num.f k x4 (rd x75 x77) 8).bind fun t135 => (crc_Bytes.l2 k t135 x64 x65 x66 x75 x76 (wrap64 (x77 + 1)))) else (none)) else (none)) else (crc_Bytes.l1 k x4 x64 x65 (wrap64 (x66 + 1)))
end
def crc_Bytes.f (k : Nat) (a0_0 : Int) (a0_1 : Int) (a0_2 : Int) (a0_3 : Int) (a0_4 : Int) (l0_5 : List Int) (l0_6 : List Int) (l0_7 : List Int) (a0_8 : Bool) : Option (ByteArray × Int) := (crc_may.f a0_0 a0_1 a0_2 a0_3 a0_4 l0_5 l0_6 l0_7 a0_8).bind fun t106 => (if t106 = true then ((some (([84, 65, 76, 89] : List Int) : List Int)).bind fun y107 => (if y107.length < 140737488355328 then ((some (([a0_1, a0_2, a0_3, a0_4] : List Int) : List Int)).bind fun y113 => (crc_Bytes.l0 k (y107 ++ [(a0_0) % 256]) y113 (y113.length : Int) 0 a0_0 a0_1 a0_2 a0_3 a0_4 l0_5 l0_6 l0_7 a0_8)) else (none))) else (some ((⟨#[]⟩ : ByteArray), 1)))
theorem crc_Bytes.mono_l : ∀ k, (∀ y0 y1 y2 y3 y4 y5 y6 y7 y8 y9 y10 y11 y12, LeO (crc_Bytes.l0 k y0 y1 y2 y3 y4 y5 y6 y7 y8 y9 y10 y11 y12) (crc_Bytes.l0 (k + 1) y0 y1 y2 y3 y4 y5 y6 y7 y8 y9 y10 y11 y12)) ∧ (∀ y0 y1 y2 y3 y4 y5 y6 y7 y8 y9 y10, LeO (crc_Bytes.j1 k y0 y1 y2 y3 y4 y5 y6 y7 y8 y9 y10) (crc_Bytes.j1 (k + 1) y0 y1 y2 y3 y4 y5 y6 y7 y8 y9 y10)) ∧ (∀ y0 y1 y2 y3, LeO (crc_Bytes.l1 k y0 y1 y2 y3) (crc_Bytes.l1 (k + 1) y0 y1 y2 y3)) ∧ (∀ y0 y1 y2 y3 y4 y5 y6, LeO (crc_Bytes.l2 k y0 y1 y2 y3 y4 y5 y6) (crc_Bytes.l2 (k + 1) y0 y1 y2 y3 y4 y5 y6))
  | 0 => ⟨fun _ _ _ _ _ _ _ _ _ _ _ _ _ r h => by simp [crc_Bytes.l0] at h, fun _ _ _ _ _ _ _ _ _ _ _ r h => by simp [crc_Bytes.j1] at h, fun _ _ _ _ r h => by simp [crc_Bytes.l1] at h, fun _ _ _ _ _ _ _ r h => by simp [crc_Bytes.l2] at h⟩
  | k + 1 => by
    obtain ⟨ih0, ih1, ih2, ih3⟩ := crc_Bytes.mono_l k
    refine ⟨?_, ?_, ?_, ?_⟩
    · intro y0 y1 y2 y3 y4 y5 y6 y7 y8 y9 y10 y11 y12
      unfold crc_Bytes.l0
      repeat' first
      | (with_reducible exact ih0 _ _ _ _ _ _ _ _ _ _ _ _ _)
      | (with_reducible exact ih1 _ _ _ _ _ _ _ _ _ _ _)
      | (with_reducible exact ih2 _ _ _ _)
      | (with_reducible exact ih3 _ _ _ _ _ _ _)
      | (with_reducible exact crc_num.mono _ _ _ _)
      | (with_reducible exact LeO.refl _)
      | (with_reducible exact LeO.none _)
      | (with_reducible refine LeO.ite ?_ ?_)
      | (with_reducible refine LeO.bind ?_ (fun _ => ?_))
      | exact ih0 _ _ _ _ _ _ _ _ _ _ _ _ _
      | exact ih1 _ _ _ _ _ _ _ _ _ _ _
      | exact ih2 _ _ _ _
      | exact ih3 _ _ _ _ _ _ _
      | exact crc_num.mono _ _ _ _
      | exact LeO.none _
      | refine LeO.ite ?_ ?_
      | refine LeO.bind ?_ (fun _ => ?_)
    · intro y0 y1 y2 y3 y4 y5 y6 y7 y8 y9 y10
      unfold crc_Bytes.j1
      repeat' first
      | (with_reducible exact ih0 _ _ _ _ _ _ _ _ _ _ _ _ _)
      | (with_reducible exact ih1 _ _ _ _ _ _ _ _ _ _ _)
      | (with_reducible exact ih2 _ _ _ _)
      | (with_reducible exact ih3 _ _ _ _ _ _ _)
      | (with_reducible exact crc_num.mono _ _ _ _)
      | (with_reducible exact LeO.refl _)
      | (with_reducible exact LeO.none _)
      | (with_reducible refine LeO.ite ?_ ?_)
      | (with_reducible refine LeO.bind ?_ (fun _ => ?_))
      | exact ih0 _ _ _ _ _ _ _ _ _ _ _ _ _
      | exact ih1 _ _ _ _ _ _ _ _ _ _ _
      | exact ih2 _ _ _ _
      | exact ih3 _ _ _ _ _ _ _
      | exact crc_num.mono _ _ _ _
      | exact LeO.none _
      | refine LeO.ite ?_ ?_
      | refine LeO.bind ?_ (fun _ => ?_)
    · intro y0 y1 y2 y3
      unfold crc_Bytes.l1
      repeat' first
      | (with_reducible exact ih0 _ _ _ _ _ _ _ _ _ _ _ _ _)
      | (with_reducible exact ih1 _ _ _ _ _ _ _ _ _ _ _)
      | (with_reducible exact ih2 _ _ _ _)
      | (with_reducible exact ih3 _ _ _ _ _ _ _)
      | (with_reducible exact crc_num.mono _ _ _ _)
      | (with_reducible exact LeO.refl _)
      | (with_reducible exact LeO.none _)
      | (with_reducible refine LeO.ite ?_ ?_)
      | (with_reducible refine LeO.bind ?_ (fun _ => ?_))
      | exact ih0 _ _ _ _ _ _ _ _ _ _ _ _ _
      | exact ih1 _ _ _ _ _ _ _ _ _ _ _
      | exact ih2 _ _ _ _
      | exact ih3 _ _ _ _ _ _ _
      | exact crc_num.mono _ _ _ _
      | exact LeO.none _
      | refine LeO.ite ?_ ?_
      | refine LeO.bind ?_ (fun _ => ?_)
    · intro y0 y1 y2 y3 y4 y5 y6
      unfold crc_Bytes.l2
      repeat' first
      | (with_reducible exact ih0 _ _ _ _ _ _ _ _ _ _ _ _ _)
      | (with_reducible exact ih1 _ _ _ _ _ _ _ _ _ _ _)
      | (with_reducible exact ih2 _ _ _ _)
      | (with_reducible exact ih3 _ _ _ _ _ _ _)
      | (with_reducible exact crc_num.mono _ _ _ _)
      | (with_reducible exact LeO.refl _)
      | (with_reducible exact LeO.none _)
      | (with_reducible refine LeO.ite ?_ ?_)
      | (with_reducible refine LeO.bind ?_ (fun _ => ?_))
      | exact ih0 _ _ _ _ _ _ _ _ _ _ _ _ _
      | exact ih1 _ _ _ _ _ _ _ _ _ _ _
      | exact ih2 _ _ _ _
      | exact ih3 _ _ _ _ _ _ _
      | exact crc_num.mono _ _ _ _
      | exact LeO.none _
      | refine LeO.ite ?_ ?_
      | refine LeO.bind ?_ (fun _ => ?_)
theorem crc_Bytes.mono : ∀ a0 a1 a2 a3 a4 a5 a6 a7 a8 k, LeO (crc_Bytes.f k a0 a1 a2 a3 a4 a5 a6 a7 a8) (crc_Bytes.f (k + 1) a0 a1 a2 a3 a4 a5 a6 a7 a8) := by
  intro a0 a1 a2 a3 a4 a5 a6 a7 a8 k
  obtain ⟨ih0, ih1, ih2, ih3⟩ := crc_Bytes.mono_l k
  unfold crc_Bytes.f
  repeat' first
      | (with_reducible exact ih0 _ _ _ _ _ _ _ _ _ _ _ _ _)
      | (with_reducible exact ih1 _ _ _ _ _ _ _ _ _ _ _)
      | (with_reducible exact ih2 _ _ _ _)
      | (with_reducible exact ih3 _ _ _ _ _ _ _)
      | (with_reducible exact crc_num.mono _ _ _ _)
      | (with_reducible exact LeO.refl _)
      | (with_reducible exact LeO.none _)
      | (with_reducible refine LeO.ite ?_ ?_)
      | (with_reducible refine LeO.bind ?_ (fun _ => ?_))
      | exact ih0 _ _ _ _ _ _ _ _ _ _ _ _ _
      | exact ih1 _ _ _ _ _ _ _ _ _ _ _
      | exact ih2 _ _ _ _
      | exact ih3 _ _ _ _ _ _ _
      | exact crc_num.mono _ _ _ _
      | exact LeO.none _
      | refine LeO.ite ?_ ?_
      | refine LeO.bind ?_ (fun _ => ?_)
set_option maxHeartbeats 8000000 in
set_option maxRecDepth 100000 in
theorem crc_Bytes.calls (k : Nat) (a0_0 : Int) (a0_1 : Int) (a0_2 : Int) (a0_3 : Int) (a0_4 : Int) (P0_5_ : Nat → Prop) (A0_5 : Option Addr) (c0_5 : Nat) (l0_5 : List Int) (P0_6_ : Nat → Prop) (A0_6 : Option Addr) (c0_6 : Nat) (l0_6 : List Int) (P0_7_ : Nat → Prop) (A0_7 : Option Addr) (c0_7 : Nat) (l0_7 : List Int) (a0_8 : Bool) (r1 : ByteArray) (r2 : Int) (w : World) (hs0_5 : Kd.V (Kd.int .u64) 58 w w.heap.size (fun k_ => P0_5_ k_) (.slice A0_5 l0_5.length c0_5) l0_5) (hs0_6 : Kd.V (Kd.int .u64) 58 w w.heap.size (fun k_ => P0_6_ k_) (.slice A0_6 l0_6.length c0_6) l0_6) (hs0_7 : Kd.V (Kd.int .u64) 58 w w.heap.size (fun k_ => P0_7_ k_) (.slice A0_7 l0_7.length c0_7) l0_7) (h : crc_Bytes.f k a0_0 a0_1 a0_2 a0_3 a0_4 l0_5 l0_6 l0_7 a0_8 = some (r1, r2)) :
    Calls Tryd.prog 11 #[.agg #[.int .i64 a0_0, .int .i64 a0_1, .int .i64 a0_2, .int .i64 a0_3, .int .i64 a0_4, .slice A0_5 l0_5.length c0_5, .slice A0_6 l0_6.length c0_6, .slice A0_7 l0_7.length c0_7, .bool a0_8]] w fun e w' => e = .returned (.tuple #[.string r1, .int .i64 r2]) ∧ Below w.heap.size w w' := by
  have hu34 := Tryd.underlying34
  have HO0_5 := zm (show Kd.V (Kd.int .u64) 58 w w.heap.size (fun k_ => ((P0_5_ k_ ∨ P0_6_ k_ ∨ P0_7_ k_) ∨ w.heap.size ≤ k_)) (.slice A0_5 l0_5.length c0_5) l0_5 from Kd.V_mono hs0_5 (fun k_ hk => .inl (.inl hk)))
  have HO0_6 := zm (show Kd.V (Kd.int .u64) 58 w w.heap.size (fun k_ => ((P0_5_ k_ ∨ P0_6_ k_ ∨ P0_7_ k_) ∨ w.heap.size ≤ k_)) (.slice A0_6 l0_6.length c0_6) l0_6 from Kd.V_mono hs0_6 (fun k_ hk => .inl (.inr (.inl hk))))
  have HO0_7 := zm (show Kd.V (Kd.int .u64) 58 w w.heap.size (fun k_ => ((P0_5_ k_ ∨ P0_6_ k_ ∨ P0_7_ k_) ∨ w.heap.size ≤ k_)) (.slice A0_7 l0_7.length c0_7) l0_7 from Kd.V_mono hs0_7 (fun k_ hk => .inl (.inr (.inr hk))))
  have HB := zm (Below.refl w.heap.size w)
  have H : ((crc_may.f a0_0 a0_1 a0_2 a0_3 a0_4 l0_5 l0_6 l0_7 a0_8).bind fun t106 => (if t106 = true then ((some (([84, 65, 76, 89] : List Int) : List Int)).bind fun y107 => (if y107.length < 140737488355328 then ((some (([a0_1, a0_2, a0_3, a0_4] : List Int) : List Int)).bind fun y113 => (crc_Bytes.l0 k (y107 ++ [(a0_0) % 256]) y113 (y113.length : Int) 0 a0_0 a0_1 a0_2 a0_3 a0_4 l0_5 l0_6 l0_7 a0_8)) else (none))) else (some ((⟨#[]⟩ : ByteArray), 1)))) = some (r1, r2) := h
  clear h
  replace H := Option.bind_eq_some_iff.mp H
  obtain ⟨t106, A20, H⟩ := H
  replace H : (if t106 = true then ((some (([84, 65, 76, 89] : List Int) : List Int)).bind fun y107 => (if y107.length < 140737488355328 then ((some (([a0_1, a0_2, a0_3, a0_4] : List Int) : List Int)).bind fun y113 => (crc_Bytes.l0 k (y107 ++ [(a0_0) % 256]) y113 (y113.length : Int) 0 a0_0 a0_1 a0_2 a0_3 a0_4 l0_5 l0_6 l0_7 a0_8)) else (none))) else (some ((⟨#[]⟩ : ByteArray), 1))) = some (r1, r2) := H
  have A2 := zm A20
  clear A20
  by_cases c3 : t106 = true
  · subst c3
    have H1 : ((some (([84, 65, 76, 89] : List Int) : List Int)).bind fun y107 => (if y107.length < 140737488355328 then ((some (([a0_1, a0_2, a0_3, a0_4] : List Int) : List Int)).bind fun y113 => (crc_Bytes.l0 k (y107 ++ [(a0_0) % 256]) y113 (y113.length : Int) 0 a0_0 a0_1 a0_2 a0_3 a0_4 l0_5 l0_6 l0_7 a0_8)) else (none))) = some (r1, r2) := by rw [if_pos rfl] at H; exact H
    clear H
    have H := H1
    clear H1
    obtain ⟨y107, hy107⟩ : ∃ y_ : List Int, y_ = (([84, 65, 76, 89] : List Int)) := ⟨_, rfl⟩
    replace H : (if y107.length < 140737488355328 then ((some (([a0_1, a0_2, a0_3, a0_4] : List Int) : List Int)).bind fun y113 => (crc_Bytes.l0 k (y107 ++ [(a0_0) % 256]) y113 (y113.length : Int) 0 a0_0 a0_1 a0_2 a0_3 a0_4 l0_5 l0_6 l0_7 a0_8)) else (none)) = some (r1, r2) := by first | (rw [hy107]; with_reducible exact H) | (have H2_ := (Option.bind_some _ _).symm.trans H; rw [hy107]; with_reducible exact H2_) | (have H2_ := (Option.bind_some _ _).symm.trans H; with_reducible exact H2_) | with_reducible exact H | (rw [hy107]; exact H) | exact H
    have Ny107 := zm hy107
    clear hy107
    by_cases c4 : y107.length < 140737488355328
    · rw [if_pos c4] at H
      have LMc4 := zm c4
      clear c4
      obtain ⟨y110, hy110⟩ : ∃ y_ : List Int, y_ = (y107 ++ [(a0_0) % 256]) := ⟨_, rfl⟩
      replace H : ((some (([a0_1, a0_2, a0_3, a0_4] : List Int) : List Int)).bind fun y113 => (crc_Bytes.l0 k y110 y113 (y113.length : Int) 0 a0_0 a0_1 a0_2 a0_3 a0_4 l0_5 l0_6 l0_7 a0_8)) = some (r1, r2) := by first | (rw [hy110]; with_reducible exact H) | (have H2_ := (Option.bind_some _ _).symm.trans H; rw [hy110]; with_reducible exact H2_) | (have H2_ := (Option.bind_some _ _).symm.trans H; with_reducible exact H2_) | with_reducible exact H | (rw [hy110]; exact H) | exact H
      have Ny110 := zm hy110
      clear hy110
      obtain ⟨y113, hy113⟩ : ∃ y_ : List Int, y_ = (([a0_1, a0_2, a0_3, a0_4] : List Int)) := ⟨_, rfl⟩
      replace H : (crc_Bytes.l0 k y110 y113 (y113.length : Int) 0 a0_0 a0_1 a0_2 a0_3 a0_4 l0_5 l0_6 l0_7 a0_8) = some (r1, r2) := by first | (rw [hy113]; with_reducible exact H) | (have H2_ := (Option.bind_some _ _).symm.trans H; rw [hy113]; with_reducible exact H2_) | (have H2_ := (Option.bind_some _ _).symm.trans H; with_reducible exact H2_) | with_reducible exact H | (rw [hy113]; exact H) | exact H
      have Ny113 := zm hy113
      clear hy113
      have H' := zm H
      clear H
      go_enter Tryd.func11, Tryd.ntmps11
      go_wp2_with (first | ((with_reducible refine gate_dst (N := 1) rfl ?_); refine box_event ?hg (N := 1) ?hd (cs := #[.int .i64 a0_0, .int .i64 a0_1, .int .i64 a0_2, .int .i64 a0_3, .int .i64 a0_4, .slice A0_5 l0_5.length c0_5, .slice A0_6 l0_6.length c0_6, .slice A0_7 l0_7.length c0_7, .bool a0_8]) (t := 34) ?hr ?_; (case hd => rfl); (case hg => rfl); (case hr => first | (go_simp; done) | (go_simp; rfl)); intro gb105 hg w5 hbox hb; have n0_ := zm (Kd.V_below (Kd.V_elderB (by (with_reducible repeat first | apply ze1 | apply ze2 | apply ze3); exact HO0_5.out) gb105 (Nat.le_of_eq hg.symm)) hb); have n1_ := zm (Kd.V_below (Kd.V_elderB (by (with_reducible repeat first | apply ze1 | apply ze2 | apply ze3); exact HO0_6.out) gb105 (Nat.le_of_eq hg.symm)) hb); have n2_ := zm (Kd.V_below (Kd.V_elderB (by (with_reducible repeat first | apply ze1 | apply ze2 | apply ze3); exact HO0_7.out) gb105 (Nat.le_of_eq hg.symm)) hb); have n3_ := zm (below_step (by repeat (first | (with_reducible first | exact HB.out | apply zb1 | apply zb2 | apply zb3) | exact HB.out)) hb); have n4_ := zm (hbox); have n5_ := zm ((by rw [hg]; exact (below_size (by repeat (first | (with_reducible first | exact HB.out | apply zb1 | apply zb2 | apply zb3) | exact HB.out))) : w.heap.size ≤ gb105)); have n6_ := zm ((by rw [hg]; exact (below_size (by repeat (first | (with_reducible first | exact HB.out | apply zb1 | apply zb2 | apply zb3) | exact HB.out))) : w.heap.size ≤ gb105)); clear HO0_5 HO0_6 HO0_7 HB; have HO0_5 := n0_; have HO0_6 := n1_; have HO0_7 := n2_; have HB := n3_; have BK105 := n4_; have GW105 := n5_; have GE105 := n6_; clear n0_ n1_ n2_ n3_ n4_ n5_ n6_; clear hb hbox hg; have hcz6_0 : w5.cell? ⟨gb105, 0, none⟩ = some (.int .i64 a0_0) := (blk_cell BK105.out 0).trans rfl; have hcz6_1 : w5.cell? ⟨gb105, 1, none⟩ = some (.int .i64 a0_1) := (blk_cell BK105.out 1).trans rfl; have hcz6_2 : w5.cell? ⟨gb105, 2, none⟩ = some (.int .i64 a0_2) := (blk_cell BK105.out 2).trans rfl; have hcz6_3 : w5.cell? ⟨gb105, 3, none⟩ = some (.int .i64 a0_3) := (blk_cell BK105.out 3).trans rfl; have hcz6_4 : w5.cell? ⟨gb105, 4, none⟩ = some (.int .i64 a0_4) := (blk_cell BK105.out 4).trans rfl; have hcz6_5 : w5.cell? ⟨gb105, 5, none⟩ = some (.slice A0_5 l0_5.length c0_5) := (blk_cell BK105.out 5).trans rfl; have hcz6_6 : w5.cell? ⟨gb105, 6, none⟩ = some (.slice A0_6 l0_6.length c0_6) := (blk_cell BK105.out 6).trans rfl; have hcz6_7 : w5.cell? ⟨gb105, 7, none⟩ = some (.slice A0_7 l0_7.length c0_7) := (blk_cell BK105.out 7).trans rfl; have hcz6_8 : w5.cell? ⟨gb105, 8, none⟩ = some (.bool a0_8) := (blk_cell BK105.out 8).trans rfl; have hfz6_0 := blk_frozen BK105.out 0; have hfz6_1 := blk_frozen BK105.out 1; have hfz6_2 := blk_frozen BK105.out 2; have hfz6_3 := blk_frozen BK105.out 3; have hfz6_4 := blk_frozen BK105.out 4; have hfz6_5 := blk_frozen BK105.out 5; have hfz6_6 := blk_frozen BK105.out 6; have hfz6_7 := blk_frozen BK105.out 7; have hfz6_8 := blk_frozen BK105.out 8) | ((with_reducible refine gate_callee (f := 23) rfl ?_); refine goesL_ (some 13) rfl rfl Tryd.func23 (by kernel_rfl) rfl #[.agg #[.int .i64 a0_0, .int .i64 a0_1, .int .i64 a0_2, .int .i64 a0_3, .int .i64 a0_4, .slice A0_5 l0_5.length c0_5, .slice A0_6 l0_6.length c0_6, .slice A0_7 l0_7.length c0_7, .bool a0_8]] rfl (by (try simp only [List.map_toArray, List.map_cons, List.map_nil]); first | done | rfl | (simp only [List.length_drop, List.length_take]; rfl)) ?_; (with_reducible refine (crc_may.calls a0_0 a0_1 a0_2 a0_3 a0_4 _ _ l0_5 _ _ l0_6 _ _ l0_7 a0_8 true _ ?side1 ?side2 ?side3 ?side4 ?side5 ?side6 A2.out).mono ?_); (case side1 => repeat (first | exact (Kd.V_reads' HO0_5.out).2.2 | (with_reducible refine Kd.C_alloc ?_ _) | (with_reducible refine Kd.C_drewN ?_ _) | (with_reducible refine Kd.C_drew ?_))); (case side2 => exact (Kd.V_reads' HO0_5.out).2.1); (case side3 => repeat (first | exact (Kd.V_reads' HO0_6.out).2.2 | (with_reducible refine Kd.C_alloc ?_ _) | (with_reducible refine Kd.C_drewN ?_ _) | (with_reducible refine Kd.C_drew ?_))); (case side4 => exact (Kd.V_reads' HO0_6.out).2.1); (case side5 => repeat (first | exact (Kd.V_reads' HO0_7.out).2.2 | (with_reducible refine Kd.C_alloc ?_ _) | (with_reducible refine Kd.C_drewN ?_ _) | (with_reducible refine Kd.C_drew ?_))); (case side6 => exact (Kd.V_reads' HO0_7.out).2.1); rintro e w7 ⟨rfl, hb⟩; refine ⟨_, rfl, ?_⟩; have n0_ := zm (Kd.V_below (by (with_reducible repeat first | apply ze1 | apply ze2 | apply ze3); exact HO0_5.out) hb); have n1_ := zm (Kd.V_below (by (with_reducible repeat first | apply ze1 | apply ze2 | apply ze3); exact HO0_6.out) hb); have n2_ := zm (Kd.V_below (by (with_reducible repeat first | apply ze1 | apply ze2 | apply ze3); exact HO0_7.out) hb); have n3_ := zm (blk_below (g := gb105) (o := .cells #[.int .i64 a0_0, .int .i64 a0_1, .int .i64 a0_2, .int .i64 a0_3, .int .i64 a0_4, .slice A0_5 l0_5.length c0_5, .slice A0_6 l0_6.length c0_6, .slice A0_7 l0_7.length c0_7, .bool a0_8] 34 (0, 0)) (by (with_reducible repeat first | refine zk1 ?_ _ | refine zk2 ?_ | refine zk3 ?_ _); exact BK105.out) hb); have n4_ := zm (below_step (by repeat (first | (with_reducible first | exact HB.out | apply zb1 | apply zb2 | apply zb3 | refine zb4 ?_ GE105.out) | exact HB.out)) hb); clear HO0_5 HO0_6 HO0_7 BK105 HB; have HO0_5 := n0_; have HO0_6 := n1_; have HO0_7 := n2_; have BK105 := n3_; have HB := n4_; clear n0_ n1_ n2_ n3_ n4_; (try clear hb); (try clear hb2); (try clear hk); (try clear hi); obtain ⟨vm_, v111, wm_, w11, hcv_, hbm_, hap_, ho, hb⟩ := crc_begin w7 ((a0_0) % 256); have HCV_ := zm hcv_; have HAP_ := zm hap_; have HOB_ := zm ho; have HBB_ := zm hb; have hcm_ : wm_.cell? ⟨gb105, 0, none⟩ = some (.int .i64 a0_0) := (blk_cell (blk_below BK105.out hbm_) 0).trans rfl; clear hcv_ hbm_ hap_ ho hb) | ((with_reducible refine gate_dst (N := 16) rfl ?_); refine wpList_convert_known rfl (.tmp 15) 40 40 rfl _ rfl _ _ HCV_.out ?_) | ((with_reducible refine gate_builtin (b := .append) (xs := #[.tmp 16, .tmp 21]) rfl ?_); at_builtin; refine Lib.wpList_append_run _ rfl _ _ _ _ rfl _ _ rfl rfl _ _ (HAP_.out _) ?_; have ho := HOB_.out; have hy_ : y110 = [84, 65, 76, 89] ++ [((a0_0) % 256)] := (by rw [Ny110.out, Ny107.out]); (have ho : Kd.R (Kd.int .u8) 5 w11 w7.heap.size (fun k_ => w7.heap.size ≤ k_) v111 y110 := (by rw [hy_]; exact ho)); clear hy_; have n0_ := zm (Kd.V_elder' HO0_5.out (Kd.R_base ho) HBB_.out); have n1_ := zm (Kd.V_elder' HO0_6.out (Kd.R_base ho) HBB_.out); have n2_ := zm (Kd.V_elder' HO0_7.out (Kd.R_base ho) HBB_.out); have n3_ := zm (blk_below BK105.out HBB_.out); have n4_ := zm (below_step HB.out HBB_.out); have n5_ := zm (Kd.R_lower (Kd.R_mono (ok' := fun k_ => w.heap.size ≤ k_) ho (fun k_ hk => Nat.le_trans HB.out.size hk)) HB.out.size); clear HO0_5 HO0_6 HO0_7 BK105 HB; have HO0_5 := n0_; have HO0_6 := n1_; have HO0_7 := n2_; have BK105 := n3_; have HB := n4_; have HO112 := n5_; clear n0_ n1_ n2_ n3_ n4_ n5_; clear ho HOB_ HBB_ HAP_; have hcz12_0 : w11.cell? ⟨gb105, 0, none⟩ = some (.int .i64 a0_0) := (blk_cell BK105.out 0).trans rfl; have hcz12_1 : w11.cell? ⟨gb105, 1, none⟩ = some (.int .i64 a0_1) := (blk_cell BK105.out 1).trans rfl; have hcz12_2 : w11.cell? ⟨gb105, 2, none⟩ = some (.int .i64 a0_2) := (blk_cell BK105.out 2).trans rfl; have hcz12_3 : w11.cell? ⟨gb105, 3, none⟩ = some (.int .i64 a0_3) := (blk_cell BK105.out 3).trans rfl; have hcz12_4 : w11.cell? ⟨gb105, 4, none⟩ = some (.int .i64 a0_4) := (blk_cell BK105.out 4).trans rfl; have hcz12_5 : w11.cell? ⟨gb105, 5, none⟩ = some (.slice A0_5 l0_5.length c0_5) := (blk_cell BK105.out 5).trans rfl; have hcz12_6 : w11.cell? ⟨gb105, 6, none⟩ = some (.slice A0_6 l0_6.length c0_6) := (blk_cell BK105.out 6).trans rfl; have hcz12_7 : w11.cell? ⟨gb105, 7, none⟩ = some (.slice A0_7 l0_7.length c0_7) := (blk_cell BK105.out 7).trans rfl; have hcz12_8 : w11.cell? ⟨gb105, 8, none⟩ = some (.bool a0_8) := (blk_cell BK105.out 8).trans rfl; have hfz12_0 := blk_frozen BK105.out 0; have hfz12_1 := blk_frozen BK105.out 1; have hfz12_2 := blk_frozen BK105.out 2; have hfz12_3 := blk_frozen BK105.out 3; have hfz12_4 := blk_frozen BK105.out 4; have hfz12_5 := blk_frozen BK105.out 5; have hfz12_6 := blk_frozen BK105.out 6; have hfz12_7 := blk_frozen BK105.out 7; have hfz12_8 := blk_frozen BK105.out 8) | ((with_reducible refine gate_dst (N := 37) rfl ?_); refine Kd.R_lit (Kd.int .i64) _ 3 ?hg (N := 37) ?hd (xs := ([a0_1, a0_2, a0_3, a0_4] : List Int)) (inner := [.int .i64 a0_1, .int .i64 a0_2, .int .i64 a0_3, .int .i64 a0_4]) (ok := fun _ => True) (okp := fun _ => True) ?hr ?hp (fun _ hk => hk) trivial (Below.refl _ _) (Nat.le_refl _) (by simp) ?_; (case hd => rfl); (case hg => rfl); (case hr => first | (go_simp; done) | (go_simp; rfl)); (case hp => exact (Reps.one (show Kd.M (Kd.int .i64) _ _ _ a0_1 [.int .i64 a0_1] from rfl) (Reps.one (show Kd.M (Kd.int .i64) _ _ _ a0_2 [.int .i64 a0_2] from rfl) (Reps.one (show Kd.M (Kd.int .i64) _ _ _ a0_3 [.int .i64 a0_3] from rfl) (Reps.one (show Kd.M (Kd.int .i64) _ _ _ a0_4 [.int .i64 a0_4] from rfl) (Reps.none _ _)))))); intro v114 w13 ho14 hb hg_ hnew_; clear hg_ hnew_; (first | rw [← Ny113.out] at ho14 | (simp only [Int.reduceToNat] at ho14; rw [← Ny113.out] at ho14)); have n0_ := zm (Kd.V_elder' (by (with_reducible repeat first | apply ze1 | apply ze2 | apply ze3); exact HO0_5.out) (Kd.R_base ho14) hb); have n1_ := zm (Kd.V_elder' (by (with_reducible repeat first | apply ze1 | apply ze2 | apply ze3); exact HO0_6.out) (Kd.R_base ho14) hb); have n2_ := zm (Kd.V_elder' (by (with_reducible repeat first | apply ze1 | apply ze2 | apply ze3); exact HO0_7.out) (Kd.R_base ho14) hb); have n3_ := zm (Kd.R_below (by (with_reducible repeat (first | apply Kd.R_alloc | apply Kd.R_drewN | apply Kd.R_drew)); exact HO112.out) hb); have n4_ := zm (Kd.R_lower (Kd.R_newM (M := fun k_ => (w.heap.size ≤ k_)) ho14 (below_size (by repeat (first | (with_reducible first | exact HB.out | apply zb1 | apply zb2 | apply zb3 | refine zb4 ?_ GE105.out) | exact HB.out))) (fun k_ h_ => h_)) (below_size (by repeat (first | (with_reducible first | exact HB.out | apply zb1 | apply zb2 | apply zb3 | refine zb4 ?_ GE105.out) | exact HB.out)))); have n5_ := zm (blk_below (g := gb105) (o := .cells #[.int .i64 a0_0, .int .i64 a0_1, .int .i64 a0_2, .int .i64 a0_3, .int .i64 a0_4, .slice A0_5 l0_5.length c0_5, .slice A0_6 l0_6.length c0_6, .slice A0_7 l0_7.length c0_7, .bool a0_8] 34 (0, 0)) (by (with_reducible repeat first | refine zk1 ?_ _ | refine zk2 ?_ | refine zk3 ?_ _); exact BK105.out) hb); have n6_ := zm (below_step (by repeat (first | (with_reducible first | exact HB.out | apply zb1 | apply zb2 | apply zb3 | refine zb4 ?_ GE105.out) | exact HB.out)) hb); clear HO0_5 HO0_6 HO0_7 HO112 BK105 HB; have HO0_5 := n0_; have HO0_6 := n1_; have HO0_7 := n2_; have HO112 := n3_; have HO115 := n4_; have BK105 := n5_; have HB := n6_; clear n0_ n1_ n2_ n3_ n4_ n5_ n6_; clear hb ho14; obtain ⟨Ao15, co15, eo15⟩ := Kd.R_slice HO115.out; subst eo15))
      go_loopg [4, 39] k (fun kq v4 v39 w' => ∃ (x4_1 : List Int) (x39_1 : Int), v39 = .int .i64 x39_1 ∧ Aside0 (crc_Bytes.l0 kq x4_1 y113 (y113.length : Int) x39_1 a0_0 a0_1 a0_2 a0_3 a0_4 l0_5 l0_6 l0_7 a0_8 = some (r1, r2)) ∧ Aside0 (kq ≤ k) ∧ Aside0 (Kd.R (Kd.int .u8) 5 w' w.heap.size (fun k_ => (w.heap.size ≤ k_)) v4 x4_1) ∧ Aside0 (Kd.R (Kd.int .i64) 3 w' w.heap.size (fun k_ => (w.heap.size ≤ k_)) (.slice Ao15 y113.length co15) y113) ∧ Aside0 (Kd.V (Kd.int .u64) 58 w' w.heap.size (fun k_ => ((P0_5_ k_ ∨ P0_6_ k_ ∨ P0_7_ k_) ∨ w.heap.size ≤ k_) ∧ some k_ ≠ (v4 : Value).ownBlock ∧ some k_ ≠ ((.slice Ao15 y113.length co15) : Value).ownBlock ∧ k_ ≠ gb105) (.slice A0_5 l0_5.length c0_5) l0_5) ∧ Aside0 (Kd.V (Kd.int .u64) 58 w' w.heap.size (fun k_ => ((P0_5_ k_ ∨ P0_6_ k_ ∨ P0_7_ k_) ∨ w.heap.size ≤ k_) ∧ some k_ ≠ (v4 : Value).ownBlock ∧ some k_ ≠ ((.slice Ao15 y113.length co15) : Value).ownBlock ∧ k_ ≠ gb105) (.slice A0_6 l0_6.length c0_6) l0_6) ∧ Aside0 (Kd.V (Kd.int .u64) 58 w' w.heap.size (fun k_ => ((P0_5_ k_ ∨ P0_6_ k_ ∨ P0_7_ k_) ∨ w.heap.size ≤ k_) ∧ some k_ ≠ (v4 : Value).ownBlock ∧ some k_ ≠ ((.slice Ao15 y113.length co15) : Value).ownBlock ∧ k_ ≠ gb105) (.slice A0_7 l0_7.length c0_7) l0_7) ∧ Aside0 (w'.heap[gb105]? = some (.cells #[.int .i64 a0_0, .int .i64 a0_1, .int .i64 a0_2, .int .i64 a0_3, .int .i64 a0_4, (.slice A0_5 l0_5.length c0_5), (.slice A0_6 l0_6.length c0_6), (.slice A0_7 l0_7.length c0_7), .bool a0_8] 34 (0, 0))) ∧ Aside0 (Below w.heap.size w w'))
      case atStart => exact ⟨(y110), (0), (by first | rfl | (simp; done) | (simp [*]; done)), H', ⟨Nat.le_refl _⟩, ⟨by (with_reducible repeat (first | apply Kd.R_alloc | apply Kd.R_drewN | apply Kd.R_drew)); exact HO112.out⟩, ⟨by (with_reducible repeat (first | apply Kd.R_alloc | apply Kd.R_drewN | apply Kd.R_drew)); exact Kd.R_mono HO115.out (fun _ hk => hk.1)⟩, ⟨by (with_reducible repeat first | apply ze1 | apply ze2 | apply ze3); exact Kd.V_mono HO0_5.out (fun _ hk => ⟨hk.1.1.1, ⟨hk.1.2, ⟨hk.2, hk.1.1.2⟩⟩⟩)⟩, ⟨by (with_reducible repeat first | apply ze1 | apply ze2 | apply ze3); exact Kd.V_mono HO0_6.out (fun _ hk => ⟨hk.1.1.1, ⟨hk.1.2, ⟨hk.2, hk.1.1.2⟩⟩⟩)⟩, ⟨by (with_reducible repeat first | apply ze1 | apply ze2 | apply ze3); exact Kd.V_mono HO0_7.out (fun _ hk => ⟨hk.1.1.1, ⟨hk.1.2, ⟨hk.2, hk.1.1.2⟩⟩⟩)⟩, ⟨by (with_reducible repeat first | refine zk1 ?_ _ | refine zk2 ?_ | refine zk3 ?_ _); exact BK105.out⟩, ⟨by repeat (first | (with_reducible first | exact HB.out | apply zb1 | apply zb2 | apply zb3 | refine zb4 ?_ GE105.out) | exact HB.out)⟩⟩
      case round =>
        clear H'
        try clear c1
        try clear c2
        try clear p2
        try clear c3
        try clear c4
        try clear c11
        try clear hcz10_0
        try clear hcz10_1
        try clear hcz10_2
        try clear hcz10_3
        try clear hcz10_4
        try clear hcz10_5
        try clear hcz10_6
        try clear hcz10_7
        try clear hcz10_8
        try clear hcz12_0
        try clear hcz12_1
        try clear hcz12_2
        try clear hcz12_3
        try clear hcz12_4
        try clear hcz12_5
        try clear hcz12_6
        try clear hcz12_7
        try clear hcz12_8
        try clear hcz6_0
        try clear hcz6_1
        try clear hcz6_2
        try clear hcz6_3
        try clear hcz6_4
        try clear hcz6_5
        try clear hcz6_6
        try clear hcz6_7
        try clear hcz6_8
        try clear hfz10_0
        try clear hfz10_1
        try clear hfz10_2
        try clear hfz10_3
        try clear hfz10_4
        try clear hfz10_5
        try clear hfz10_6
        try clear hfz10_7
        try clear hfz10_8
        try clear hfz12_0
        try clear hfz12_1
        try clear hfz12_2
        try clear hfz12_3
        try clear hfz12_4
        try clear hfz12_5
        try clear hfz12_6
        try clear hfz12_7
        try clear hfz12_8
        try clear hfz6_0
        try clear hfz6_1
        try clear hfz6_2
        try clear hfz6_3
        try clear hfz6_4
        try clear hfz6_5
        try clear hfz6_6
        try clear hfz6_7
        try clear hfz6_8
        obtain ⟨x4_1, x39_1, rfl, HA, HK1, HO_4, HO_37, HO_106005, HO_106006, HO_106007, BK105, HB⟩ := hrel
        cases gk with
        | zero => exact absurd HA.out (by simp [crc_Bytes.l0])
        | succ k1 =>
          have H := HA.out
          clear HA
          simp only [crc_Bytes.l0] at H
          by_cases c16 : x39_1 < (y113.length : Int)
          · rw [if_pos c16] at H
            have c16b0 : decide (x39_1 < (y113.length : Int)) = true := decide_eq_true c16
            clear c16
            by_cases c17 : 0 ≤ x39_1
            · rw [if_pos c17] at H
              have c17b0 : decide (0 ≤ x39_1) = true := decide_eq_true c17
              clear c17
              by_cases c18 : x39_1 < (y113.length : Int)
              · rw [if_pos c18] at H
                have c18b0 : decide (x39_1 < (y113.length : Int)) = true := decide_eq_true c18
                clear c18
                replace H := Option.bind_eq_some_iff.mp H
                obtain ⟨t117, A190, H⟩ := H
                replace H : (crc_Bytes.l0 k1 t117 y113 (y113.length : Int) (wrap64 (x39_1 + 1)) a0_0 a0_1 a0_2 a0_3 a0_4 l0_5 l0_6 l0_7 a0_8) = some (r1, r2) := H
                have A19 := zm A190
                clear A190
                have H' := zm H
                clear H
                have p116 : 0 ≤ (x39_1 : Int) := of_decide_eq_true (by first | (with_reducible assumption) | assumption)
                have q116 : x39_1 < (y113.length : Int) := of_decide_eq_true (by first | (with_reducible assumption) | assumption)
                obtain ⟨ad116, e116, hx116_0⟩ := Kd.at_int (Kd.R_reads' HO_37.out).2.2 x39_1 p116 q116
                cases e116
                replace p116 := eq_true p116
                replace q116 := eq_true q116
                obtain ⟨Ao20, co20, eo20⟩ := Kd.R_slice HO_4.out
                subst eo20
                go_wp2_with (first | ((with_reducible refine gate_callee (f := 24) rfl ?_); refine goesL_ (some 46) rfl rfl Tryd.func24 (by kernel_rfl) rfl #[.slice Ao20 x4_1.length co20, .int .u64 (IntKind.u64.wrap (rd y113 x39_1)), .int .i64 4] rfl (by (try simp only [List.map_toArray, List.map_cons, List.map_nil]); first | done | rfl | (simp only [List.length_drop, List.length_take]; rfl)) ?_; (with_reducible refine (crc_num.calls k1 (fun k_ => some k_ = (.slice Ao20 x4_1.length co20 : Value).ownBlock) (.slice Ao20 x4_1.length co20) x4_1 (IntKind.u64.wrap (rd y113 x39_1)) 4 t117 w _ ?side1 ?side2 A19.out).mono ?_); (case side1 => repeat (first | (with_reducible first | exact HB.out | apply zb1 | apply zb2 | apply zb3 | refine zb4 ?_ GE105.out) | exact HB.out)); (case side2 => exact Kd.R_tight rfl HO_4.out); rintro e w21 ⟨v118, rfl, ho0, hb, hkp⟩; refine ⟨_, rfl, ?_⟩; have n0_ := zm (Kd.R_mono (ok' := fun k_ => (w.heap.size ≤ k_)) (Kd.R_keptB ((Kd.R_apart' HO_37.out (Kd.R_typed HO_4.out) (by decide))) hkp (fun k_ hk_ hs_ => (hk_.2) hs_)) (fun k_ hk_ => hk_.1.1)); have n1_ := zm (Kd.V_mono (ok' := fun k_ => ((P0_5_ k_ ∨ P0_6_ k_ ∨ P0_7_ k_) ∨ w.heap.size ≤ k_) ∧ some k_ ≠ (.slice (some ad116) y113.length co15 : Value).ownBlock ∧ k_ ≠ gb105 ∧ some k_ ≠ (v118 : Value).ownBlock) (Kd.V_keptB (HO_106005.out) hkp (fun k_ hk_ hs_ => (hk_.2.1) hs_)) (fun k_ hk_ => ⟨hk_.1.1, hk_.1.2.2.1, hk_.1.2.2.2, fun e_ => Or.elim (ho0.1 k_ e_.symm) (fun hs_ => hk_.2.1 hs_) (fun hn_ => Nat.not_le.2 hk_.2.2 hn_)⟩)); have n2_ := zm (Kd.V_mono (ok' := fun k_ => ((P0_5_ k_ ∨ P0_6_ k_ ∨ P0_7_ k_) ∨ w.heap.size ≤ k_) ∧ some k_ ≠ (.slice (some ad116) y113.length co15 : Value).ownBlock ∧ k_ ≠ gb105 ∧ some k_ ≠ (v118 : Value).ownBlock) (Kd.V_keptB (HO_106006.out) hkp (fun k_ hk_ hs_ => (hk_.2.1) hs_)) (fun k_ hk_ => ⟨hk_.1.1, hk_.1.2.2.1, hk_.1.2.2.2, fun e_ => Or.elim (ho0.1 k_ e_.symm) (fun hs_ => hk_.2.1 hs_) (fun hn_ => Nat.not_le.2 hk_.2.2 hn_)⟩)); have n3_ := zm (Kd.V_mono (ok' := fun k_ => ((P0_5_ k_ ∨ P0_6_ k_ ∨ P0_7_ k_) ∨ w.heap.size ≤ k_) ∧ some k_ ≠ (.slice (some ad116) y113.length co15 : Value).ownBlock ∧ k_ ≠ gb105 ∧ some k_ ≠ (v118 : Value).ownBlock) (Kd.V_keptB (HO_106007.out) hkp (fun k_ hk_ hs_ => (hk_.2.1) hs_)) (fun k_ hk_ => ⟨hk_.1.1, hk_.1.2.2.1, hk_.1.2.2.2, fun e_ => Or.elim (ho0.1 k_ e_.symm) (fun hs_ => hk_.2.1 hs_) (fun hn_ => Nat.not_le.2 hk_.2.2 hn_)⟩)); have n4_ := zm (blk_kept (by (with_reducible repeat first | refine zk1 ?_ _ | refine zk2 ?_ | refine zk3 ?_ _); exact BK105.out) hkp (fun hs_ => (fun e_ => (Kd.R_ne HO_4.out BK105.out (by decide)) e_) hs_)); have n5_ := zm (Kd.R_mono (ok' := fun k_ => (w.heap.size ≤ k_)) ho0 (fun k_ hk_ => Or.elim hk_ (fun hs_ => (HO_4.out.1 k_ (hs_).symm)) (fun hn_ => (Nat.le_trans (below_size (by repeat (first | (with_reducible first | exact HB.out | apply zb1 | apply zb2 | apply zb3 | refine zb4 ?_ GE105.out) | exact HB.out))) hn_)))); have n6_ := zm (hb); clear HO_37 HO_106005 HO_106006 HO_106007 BK105 HB HO_4; have HO_37 := n0_; have HO_106005 := n1_; have HO_106006 := n2_; have HO_106007 := n3_; have BK105 := n4_; have HO119 := n5_; have HB := n6_; clear n0_ n1_ n2_ n3_ n4_ n5_ n6_; (try clear hb); (try clear hkp); (try clear ho0)))
                go_roundg k1
                case measure => have := HK1.out; omega
                case rel => exact ⟨(t117), (wrap64 (x39_1 + 1)), (by first | rfl | (simp; done) | (simp [*]; done)), H', ⟨by have := HK1.out; omega⟩, ⟨by (with_reducible repeat (first | apply Kd.R_alloc | apply Kd.R_drewN | apply Kd.R_drew)); exact HO119.out⟩, ⟨by (with_reducible repeat (first | apply Kd.R_alloc | apply Kd.R_drewN | apply Kd.R_drew)); exact HO_37.out⟩, ⟨by (with_reducible repeat first | apply ze1 | apply ze2 | apply ze3); exact Kd.V_mono HO_106005.out (fun _ hk => ⟨hk.1, ⟨hk.2.2.2, ⟨hk.2.1, hk.2.2.1⟩⟩⟩)⟩, ⟨by (with_reducible repeat first | apply ze1 | apply ze2 | apply ze3); exact Kd.V_mono HO_106006.out (fun _ hk => ⟨hk.1, ⟨hk.2.2.2, ⟨hk.2.1, hk.2.2.1⟩⟩⟩)⟩, ⟨by (with_reducible repeat first | apply ze1 | apply ze2 | apply ze3); exact Kd.V_mono HO_106007.out (fun _ hk => ⟨hk.1, ⟨hk.2.2.2, ⟨hk.2.1, hk.2.2.1⟩⟩⟩)⟩, ⟨by (with_reducible repeat first | refine zk1 ?_ _ | refine zk2 ?_ | refine zk3 ?_ _); exact BK105.out⟩, ⟨by repeat (first | (with_reducible first | exact HB.out | apply zb1 | apply zb2 | apply zb3 | refine zb4 ?_ GE105.out) | exact HB.out)⟩⟩
              · rw [if_neg c18] at H
                exact absurd H (by simp)
            · rw [if_neg c17] at H
              exact absurd H (by simp)
          · rw [if_neg c16] at H
            have c16b0 : decide (x39_1 < (y113.length : Int)) = false := decide_eq_false c16
            clear c16
            have HC22 := zm H
            clear H
            have hcz23_0 : wr.cell? ⟨gb105, 0, none⟩ = some (.int .i64 a0_0) := (blk_cell BK105.out 0).trans rfl
            have hcz23_1 : wr.cell? ⟨gb105, 1, none⟩ = some (.int .i64 a0_1) := (blk_cell BK105.out 1).trans rfl
            have hcz23_2 : wr.cell? ⟨gb105, 2, none⟩ = some (.int .i64 a0_2) := (blk_cell BK105.out 2).trans rfl
            have hcz23_3 : wr.cell? ⟨gb105, 3, none⟩ = some (.int .i64 a0_3) := (blk_cell BK105.out 3).trans rfl
            have hcz23_4 : wr.cell? ⟨gb105, 4, none⟩ = some (.int .i64 a0_4) := (blk_cell BK105.out 4).trans rfl
            have hcz23_5 : wr.cell? ⟨gb105, 5, none⟩ = some (.slice A0_5 l0_5.length c0_5) := (blk_cell BK105.out 5).trans rfl
            have hcz23_6 : wr.cell? ⟨gb105, 6, none⟩ = some (.slice A0_6 l0_6.length c0_6) := (blk_cell BK105.out 6).trans rfl
            have hcz23_7 : wr.cell? ⟨gb105, 7, none⟩ = some (.slice A0_7 l0_7.length c0_7) := (blk_cell BK105.out 7).trans rfl
            have hcz23_8 : wr.cell? ⟨gb105, 8, none⟩ = some (.bool a0_8) := (blk_cell BK105.out 8).trans rfl
            have hfz23_0 := blk_frozen BK105.out 0
            have hfz23_1 := blk_frozen BK105.out 1
            have hfz23_2 := blk_frozen BK105.out 2
            have hfz23_3 := blk_frozen BK105.out 3
            have hfz23_4 := blk_frozen BK105.out 4
            have hfz23_5 := blk_frozen BK105.out 5
            have hfz23_6 := blk_frozen BK105.out 6
            have hfz23_7 := blk_frozen BK105.out 7
            have hfz23_8 := blk_frozen BK105.out 8
            go_upto_if 50 with (fail)
            go_cut [7] (fun v7 wc => ∃ (kq : Nat) (x7_21 : Int), v7 = .int .u8 x7_21 ∧ Aside0 (crc_Bytes.j1 kq x4_1 x7_21 a0_0 a0_1 a0_2 a0_3 a0_4 l0_5 l0_6 l0_7 a0_8 = some (r1, r2)) ∧ Aside0 (kq ≤ k1) ∧ Aside0 (Kd.R (Kd.int .u8) 5 wc w.heap.size (fun k_ => (w.heap.size ≤ k_)) u4 x4_1) ∧ Aside0 (Kd.V (Kd.int .u64) 58 wc w.heap.size (fun k_ => ((P0_5_ k_ ∨ P0_6_ k_ ∨ P0_7_ k_) ∨ w.heap.size ≤ k_) ∧ some k_ ≠ (u4 : Value).ownBlock ∧ k_ ≠ gb105) (.slice A0_5 l0_5.length c0_5) l0_5) ∧ Aside0 (Kd.V (Kd.int .u64) 58 wc w.heap.size (fun k_ => ((P0_5_ k_ ∨ P0_6_ k_ ∨ P0_7_ k_) ∨ w.heap.size ≤ k_) ∧ some k_ ≠ (u4 : Value).ownBlock ∧ k_ ≠ gb105) (.slice A0_6 l0_6.length c0_6) l0_6) ∧ Aside0 (Kd.V (Kd.int .u64) 58 wc w.heap.size (fun k_ => ((P0_5_ k_ ∨ P0_6_ k_ ∨ P0_7_ k_) ∨ w.heap.size ≤ k_) ∧ some k_ ≠ (u4 : Value).ownBlock ∧ k_ ≠ gb105) (.slice A0_7 l0_7.length c0_7) l0_7) ∧ Aside0 (wc.heap[gb105]? = some (.cells #[.int .i64 a0_0, .int .i64 a0_1, .int .i64 a0_2, .int .i64 a0_3, .int .i64 a0_4, (.slice A0_5 l0_5.length c0_5), (.slice A0_6 l0_6.length c0_6), (.slice A0_7 l0_7.length c0_7), .bool a0_8] 34 (0, 0))) ∧ Aside0 (Below w.heap.size w wc))
            case first =>
              have H := HC22.out
              clear HC22
              by_cases c24 : a0_8 = true
              · subst c24
                have H1 : (crc_Bytes.j1 k1 x4_1 1 a0_0 a0_1 a0_2 a0_3 a0_4 l0_5 l0_6 l0_7 true) = some (r1, r2) := by rw [if_pos rfl] at H; exact H
                clear H
                have H := H1
                clear H1
                have H' := zm H
                clear H
                go_wp2
                go_meet
                case rel => exact ⟨_, (1), (by first | rfl | (simp; done) | (simp [*]; done)), H', ⟨by have := HK1.out; first | omega | exact Nat.le_refl _⟩, ⟨by (with_reducible repeat (first | apply Kd.R_alloc | apply Kd.R_drewN | apply Kd.R_drew)); exact HO_4.out⟩, ⟨by (with_reducible repeat first | apply ze1 | apply ze2 | apply ze3); exact Kd.V_mono HO_106005.out (fun _ hk => ⟨hk.1, ⟨hk.2.1, hk.2.2.2⟩⟩)⟩, ⟨by (with_reducible repeat first | apply ze1 | apply ze2 | apply ze3); exact Kd.V_mono HO_106006.out (fun _ hk => ⟨hk.1, ⟨hk.2.1, hk.2.2.2⟩⟩)⟩, ⟨by (with_reducible repeat first | apply ze1 | apply ze2 | apply ze3); exact Kd.V_mono HO_106007.out (fun _ hk => ⟨hk.1, ⟨hk.2.1, hk.2.2.2⟩⟩)⟩, ⟨by (with_reducible repeat first | refine zk1 ?_ _ | refine zk2 ?_ | refine zk3 ?_ _); exact BK105.out⟩, ⟨by repeat (first | (with_reducible first | exact HB.out | apply zb1 | apply zb2 | apply zb3 | refine zb4 ?_ GE105.out) | exact HB.out)⟩⟩
              · replace c24 := Bool.eq_false_iff.mpr c24
                subst c24
                have H1 : (crc_Bytes.j1 k1 x4_1 0 a0_0 a0_1 a0_2 a0_3 a0_4 l0_5 l0_6 l0_7 false) = some (r1, r2) := by rw [if_neg (show ¬ (false = true) by decide)] at H; exact H
                clear H
                have H := H1
                clear H1
                have H' := zm H
                clear H
                go_wp2
                go_meet
                case rel => exact ⟨_, (0), (by first | rfl | (simp; done) | (simp [*]; done)), H', ⟨by have := HK1.out; first | omega | exact Nat.le_refl _⟩, ⟨by (with_reducible repeat (first | apply Kd.R_alloc | apply Kd.R_drewN | apply Kd.R_drew)); exact HO_4.out⟩, ⟨by (with_reducible repeat first | apply ze1 | apply ze2 | apply ze3); exact Kd.V_mono HO_106005.out (fun _ hk => ⟨hk.1, ⟨hk.2.1, hk.2.2.2⟩⟩)⟩, ⟨by (with_reducible repeat first | apply ze1 | apply ze2 | apply ze3); exact Kd.V_mono HO_106006.out (fun _ hk => ⟨hk.1, ⟨hk.2.1, hk.2.2.2⟩⟩)⟩, ⟨by (with_reducible repeat first | apply ze1 | apply ze2 | apply ze3); exact Kd.V_mono HO_106007.out (fun _ hk => ⟨hk.1, ⟨hk.2.1, hk.2.2.2⟩⟩)⟩, ⟨by (with_reducible repeat first | refine zk1 ?_ _ | refine zk2 ?_ | refine zk3 ?_ _); exact BK105.out⟩, ⟨by repeat (first | (with_reducible first | exact HB.out | apply zb1 | apply zb2 | apply zb3 | refine zb4 ?_ GE105.out) | exact HB.out)⟩⟩
            case rest =>
              clear HC22
              try clear c1
              try clear p1
              try clear q1
              try clear hx1
              try clear c2
              try clear p2
              try clear c3
              try clear c4
              try clear p6
              try clear c11
              try clear p11
              try clear q11
              try clear hx11
              try clear c16
              try clear c16b0
              try clear c17
              try clear c17b0
              try clear c18
              try clear c18b0
              try clear c23
              try clear c24
              try clear hcz10_0
              try clear hcz10_1
              try clear hcz10_2
              try clear hcz10_3
              try clear hcz10_4
              try clear hcz10_5
              try clear hcz10_6
              try clear hcz10_7
              try clear hcz10_8
              try clear hcz12_0
              try clear hcz12_1
              try clear hcz12_2
              try clear hcz12_3
              try clear hcz12_4
              try clear hcz12_5
              try clear hcz12_6
              try clear hcz12_7
              try clear hcz12_8
              try clear hcz23_0
              try clear hcz23_1
              try clear hcz23_2
              try clear hcz23_3
              try clear hcz23_4
              try clear hcz23_5
              try clear hcz23_6
              try clear hcz23_7
              try clear hcz23_8
              try clear hcz6_0
              try clear hcz6_1
              try clear hcz6_2
              try clear hcz6_3
              try clear hcz6_4
              try clear hcz6_5
              try clear hcz6_6
              try clear hcz6_7
              try clear hcz6_8
              try clear hfz10_0
              try clear hfz10_1
              try clear hfz10_2
              try clear hfz10_3
              try clear hfz10_4
              try clear hfz10_5
              try clear hfz10_6
              try clear hfz10_7
              try clear hfz10_8
              try clear hfz12_0
              try clear hfz12_1
              try clear hfz12_2
              try clear hfz12_3
              try clear hfz12_4
              try clear hfz12_5
              try clear hfz12_6
              try clear hfz12_7
              try clear hfz12_8
              try clear hfz23_0
              try clear hfz23_1
              try clear hfz23_2
              try clear hfz23_3
              try clear hfz23_4
              try clear hfz23_5
              try clear hfz23_6
              try clear hfz23_7
              try clear hfz23_8
              try clear hfz6_0
              try clear hfz6_1
              try clear hfz6_2
              try clear hfz6_3
              try clear hfz6_4
              try clear hfz6_5
              try clear hfz6_6
              try clear hfz6_7
              try clear hfz6_8
              try clear hx116_0
              try clear p116
              try clear p2
              try clear q116
              obtain ⟨kq, x7_21, rfl, HA, HJ21, HO_4, HO_106005, HO_106006, HO_106007, BK105, HB⟩ := hcut
              cases kq with
              | zero => exact absurd HA.out (by simp [crc_Bytes.j1])
              | succ kj21 =>
                have H := HA.out
                clear HA
                simp only [crc_Bytes.j1] at H
                by_cases c25 : x4_1.length < 140737488355328
                · rw [if_pos c25] at H
                  have LMc25 := zm c25
                  clear c25
                  obtain ⟨y120, hy120⟩ : ∃ y_ : List Int, y_ = (x4_1 ++ [x7_21]) := ⟨_, rfl⟩
                  replace H : ((some (([l0_5, l0_6, l0_7] : List (List Int)) : List (List Int))).bind fun y123 => (crc_Bytes.l1 kj21 y120 y123 (y123.length : Int) 0)) = some (r1, r2) := by first | (rw [hy120]; with_reducible exact H) | (have H2_ := (Option.bind_some _ _).symm.trans H; rw [hy120]; with_reducible exact H2_) | (have H2_ := (Option.bind_some _ _).symm.trans H; with_reducible exact H2_) | with_reducible exact H | (rw [hy120]; exact H) | exact H
                  have Ny120 := zm hy120
                  clear hy120
                  obtain ⟨y123, hy123⟩ : ∃ y_ : List (List Int), y_ = (([l0_5, l0_6, l0_7] : List (List Int))) := ⟨_, rfl⟩
                  replace H : (crc_Bytes.l1 kj21 y120 y123 (y123.length : Int) 0) = some (r1, r2) := by first | (rw [hy123]; with_reducible exact H) | (have H2_ := (Option.bind_some _ _).symm.trans H; rw [hy123]; with_reducible exact H2_) | (have H2_ := (Option.bind_some _ _).symm.trans H; with_reducible exact H2_) | with_reducible exact H | (rw [hy123]; exact H) | exact H
                  have Ny123 := zm hy123
                  clear hy123
                  have H' := zm H
                  clear H
                  go_wp2_with (first | ((with_reducible refine gate_builtin (b := .append) (xs := #[.tmp 51, .tmp 53]) rfl ?_); at_builtin; refine Kd.R_append (Kd.int .u8) (w0 := w) w.heap.size rfl (.tmp 51) (.tmp 53) 40 5 (.int .u8 0) 1 rfl Tryd.underlying40 info5 rfl (by decide) (by omega) u4 x4_1 x7_21 [.int .u8 x7_21] (fun k_ => (w.heap.size ≤ k_)) (fun _ => False) rfl rfl ?aP (fun _ hk => hk.elim) ?aF ?aO ?aB ?aS ?aL ?_; (case aP => exact rfl); (case aB => exact (by repeat (first | (with_reducible first | exact HB.out | apply zb1 | apply zb2 | apply zb3 | refine zb4 ?_ GE105.out) | exact HB.out))); (case aF => exact (fun k_ hk => (Nat.le_trans (below_size (by repeat (first | (with_reducible first | exact HB.out | apply zb1 | apply zb2 | apply zb3 | refine zb4 ?_ GE105.out) | exact HB.out))) hk))); (case aO => exact (by (with_reducible repeat (first | apply Kd.R_alloc | apply Kd.R_drewN | apply Kd.R_drew)); exact HO_4.out)); (case aS => exact (below_size (by repeat (first | (with_reducible first | exact HB.out | apply zb1 | apply zb2 | apply zb3 | refine zb4 ?_ GE105.out) | exact HB.out)))); (case aL => have := LMc25.out; omega); intro v121 w26 ho hb hg hat; rw [← Ny120.out] at ho; have n0_ := zm (Kd.V_afterv (ok := (fun k_ => ((P0_5_ k_ ∨ P0_6_ k_ ∨ P0_7_ k_) ∨ w.heap.size ≤ k_) ∧ k_ ≠ gb105)) (by (with_reducible repeat first | apply ze1 | apply ze2 | apply ze3); exact Kd.V_mono HO_106005.out (fun _ hk => ⟨⟨hk.1, hk.2.2⟩, hk.2.1⟩)) hg hat); have n1_ := zm (Kd.V_afterv (ok := (fun k_ => ((P0_5_ k_ ∨ P0_6_ k_ ∨ P0_7_ k_) ∨ w.heap.size ≤ k_) ∧ k_ ≠ gb105)) (by (with_reducible repeat first | apply ze1 | apply ze2 | apply ze3); exact Kd.V_mono HO_106006.out (fun _ hk => ⟨⟨hk.1, hk.2.2⟩, hk.2.1⟩)) hg hat); have n2_ := zm (Kd.V_afterv (ok := (fun k_ => ((P0_5_ k_ ∨ P0_6_ k_ ∨ P0_7_ k_) ∨ w.heap.size ≤ k_) ∧ k_ ≠ gb105)) (by (with_reducible repeat first | apply ze1 | apply ze2 | apply ze3); exact Kd.V_mono HO_106007.out (fun _ hk => ⟨⟨hk.1, hk.2.2⟩, hk.2.1⟩)) hg hat); have n3_ := zm (blk_grown (g := gb105) (o := .cells #[.int .i64 a0_0, .int .i64 a0_1, .int .i64 a0_2, .int .i64 a0_3, .int .i64 a0_4, .slice A0_5 l0_5.length c0_5, .slice A0_6 l0_6.length c0_6, .slice A0_7 l0_7.length c0_7, .bool a0_8] 34 (0, 0)) (by (with_reducible repeat first | refine zk1 ?_ _ | refine zk2 ?_ | refine zk3 ?_ _); exact BK105.out) hg (Kd.R_ne HO_4.out BK105.out (by decide))); have n4_ := zm (hb); have n5_ := zm (ho); clear HO_106005 HO_106006 HO_106007 BK105 HB HO_4; have HO_106005 := n0_; have HO_106006 := n1_; have HO_106007 := n2_; have BK105 := n3_; have HB := n4_; have HO122 := n5_; clear n0_ n1_ n2_ n3_ n4_ n5_; clear ho hb hg hat; have hcz27_0 : w26.cell? ⟨gb105, 0, none⟩ = some (.int .i64 a0_0) := (blk_cell BK105.out 0).trans rfl; have hcz27_1 : w26.cell? ⟨gb105, 1, none⟩ = some (.int .i64 a0_1) := (blk_cell BK105.out 1).trans rfl; have hcz27_2 : w26.cell? ⟨gb105, 2, none⟩ = some (.int .i64 a0_2) := (blk_cell BK105.out 2).trans rfl; have hcz27_3 : w26.cell? ⟨gb105, 3, none⟩ = some (.int .i64 a0_3) := (blk_cell BK105.out 3).trans rfl; have hcz27_4 : w26.cell? ⟨gb105, 4, none⟩ = some (.int .i64 a0_4) := (blk_cell BK105.out 4).trans rfl; have hcz27_5 : w26.cell? ⟨gb105, 5, none⟩ = some (.slice A0_5 l0_5.length c0_5) := (blk_cell BK105.out 5).trans rfl; have hcz27_6 : w26.cell? ⟨gb105, 6, none⟩ = some (.slice A0_6 l0_6.length c0_6) := (blk_cell BK105.out 6).trans rfl; have hcz27_7 : w26.cell? ⟨gb105, 7, none⟩ = some (.slice A0_7 l0_7.length c0_7) := (blk_cell BK105.out 7).trans rfl; have hcz27_8 : w26.cell? ⟨gb105, 8, none⟩ = some (.bool a0_8) := (blk_cell BK105.out 8).trans rfl; have hfz27_0 := blk_frozen BK105.out 0; have hfz27_1 := blk_frozen BK105.out 1; have hfz27_2 := blk_frozen BK105.out 2; have hfz27_3 := blk_frozen BK105.out 3; have hfz27_4 := blk_frozen BK105.out 4; have hfz27_5 := blk_frozen BK105.out 5; have hfz27_6 := blk_frozen BK105.out 6; have hfz27_7 := blk_frozen BK105.out 7; have hfz27_8 := blk_frozen BK105.out 8) | ((with_reducible refine gate_dst (N := 64) rfl ?_); refine Kd.N_lit (Kd.slice 58 (Kd.int .u64)) _ 27 ?hg (N' := 64) ?hd (xs := ([l0_5, l0_6, l0_7] : List (List Int))) (inner := [.slice A0_5 l0_5.length c0_5, .slice A0_6 l0_6.length c0_6, .slice A0_7 l0_7.length c0_7]) (ok := (fun k_ => ((P0_5_ k_ ∨ P0_6_ k_ ∨ P0_7_ k_) ∨ w.heap.size ≤ k_) ∧ some k_ ≠ (v121 : Value).ownBlock ∧ k_ ≠ gb105)) (okp := (fun k_ => ((P0_5_ k_ ∨ P0_6_ k_ ∨ P0_7_ k_) ∨ w.heap.size ≤ k_) ∧ some k_ ≠ (v121 : Value).ownBlock ∧ k_ ≠ gb105)) ?hr ?hp (fun _ hk => hk) ((show ∀ k_, w26.heap.size ≤ k_ → (fun k_ => ((P0_5_ k_ ∨ P0_6_ k_ ∨ P0_7_ k_) ∨ w.heap.size ≤ k_) ∧ some k_ ≠ (v121 : Value).ownBlock ∧ k_ ≠ gb105) k_ from fun k_ hk => ⟨(.inr (Nat.le_trans (below_size (by repeat (first | (with_reducible first | exact HB.out | apply zb1 | apply zb2 | apply zb3 | refine zb4 ?_ GE105.out) | exact HB.out))) hk)), Kd.fresh' (Kd.R_lt (by (with_reducible repeat (first | apply Kd.R_alloc | apply Kd.R_drewN | apply Kd.R_drew)); exact HO122.out)) k_ hk, Kd.freshB (g := gb105) (o := .cells #[.int .i64 a0_0, .int .i64 a0_1, .int .i64 a0_2, .int .i64 a0_3, .int .i64 a0_4, .slice A0_5 l0_5.length c0_5, .slice A0_6 l0_6.length c0_6, .slice A0_7 l0_7.length c0_7, .bool a0_8] 34 (0, 0)) (by (with_reducible repeat first | refine zk1 ?_ _ | refine zk2 ?_ | refine zk3 ?_ _); exact BK105.out) k_ hk⟩) _ (Nat.le_refl _)) (Below.refl _ _) (Nat.le_refl _) (by simp) ?_; (case hd => rfl); (case hg => rfl); (case hr => first | (go_simp; done) | (go_simp; rfl)); (case hp => exact (Reps.one (show Kd.FK (Kd.slice 58 (Kd.int .u64)) _ _ l0_5 [.slice A0_5 l0_5.length c0_5] from (Kd.FK_slice_mk (Kd.V_reads' (Kd.V_mono (ok' := (fun k_ => ((P0_5_ k_ ∨ P0_6_ k_ ∨ P0_7_ k_) ∨ w.heap.size ≤ k_) ∧ some k_ ≠ (v121 : Value).ownBlock ∧ k_ ≠ gb105)) (HO_106005.out) (fun k_ hk => ⟨hk.1.1, ⟨hk.2, hk.1.2⟩⟩))).2.1 (Kd.V_F (Kd.V_mono (ok' := (fun k_ => ((P0_5_ k_ ∨ P0_6_ k_ ∨ P0_7_ k_) ∨ w.heap.size ≤ k_) ∧ some k_ ≠ (v121 : Value).ownBlock ∧ k_ ≠ gb105)) (HO_106005.out) (fun k_ hk => ⟨hk.1.1, ⟨hk.2, hk.1.2⟩⟩))))) (Reps.one (show Kd.FK (Kd.slice 58 (Kd.int .u64)) _ _ l0_6 [.slice A0_6 l0_6.length c0_6] from (Kd.FK_slice_mk (Kd.V_reads' (Kd.V_mono (ok' := (fun k_ => ((P0_5_ k_ ∨ P0_6_ k_ ∨ P0_7_ k_) ∨ w.heap.size ≤ k_) ∧ some k_ ≠ (v121 : Value).ownBlock ∧ k_ ≠ gb105)) (HO_106006.out) (fun k_ hk => ⟨hk.1.1, ⟨hk.2, hk.1.2⟩⟩))).2.1 (Kd.V_F (Kd.V_mono (ok' := (fun k_ => ((P0_5_ k_ ∨ P0_6_ k_ ∨ P0_7_ k_) ∨ w.heap.size ≤ k_) ∧ some k_ ≠ (v121 : Value).ownBlock ∧ k_ ≠ gb105)) (HO_106006.out) (fun k_ hk => ⟨hk.1.1, ⟨hk.2, hk.1.2⟩⟩))))) (Reps.one (show Kd.FK (Kd.slice 58 (Kd.int .u64)) _ _ l0_7 [.slice A0_7 l0_7.length c0_7] from (Kd.FK_slice_mk (Kd.V_reads' (Kd.V_mono (ok' := (fun k_ => ((P0_5_ k_ ∨ P0_6_ k_ ∨ P0_7_ k_) ∨ w.heap.size ≤ k_) ∧ some k_ ≠ (v121 : Value).ownBlock ∧ k_ ≠ gb105)) (HO_106007.out) (fun k_ hk => ⟨hk.1.1, ⟨hk.2, hk.1.2⟩⟩))).2.1 (Kd.V_F (Kd.V_mono (ok' := (fun k_ => ((P0_5_ k_ ∨ P0_6_ k_ ∨ P0_7_ k_) ∨ w.heap.size ≤ k_) ∧ some k_ ≠ (v121 : Value).ownBlock ∧ k_ ≠ gb105)) (HO_106007.out) (fun k_ hk => ⟨hk.1.1, ⟨hk.2, hk.1.2⟩⟩))))) (Reps.none _ _))))); intro v124 w28 ho29 hb hg_ hnew_; clear hg_ hnew_; (first | rw [← Ny123.out] at ho29 | (simp only [Int.reduceToNat] at ho29; rw [← Ny123.out] at ho29)); have n0_ := zm (Kd.V_elder' (by (with_reducible repeat first | apply ze1 | apply ze2 | apply ze3); exact HO_106005.out) (Kd.N_base ho29) hb); have n1_ := zm (Kd.V_elder' (by (with_reducible repeat first | apply ze1 | apply ze2 | apply ze3); exact HO_106006.out) (Kd.N_base ho29) hb); have n2_ := zm (Kd.V_elder' (by (with_reducible repeat first | apply ze1 | apply ze2 | apply ze3); exact HO_106007.out) (Kd.N_base ho29) hb); have n3_ := zm (Kd.R_below (by (with_reducible repeat (first | apply Kd.R_alloc | apply Kd.R_drewN | apply Kd.R_drew)); exact HO122.out) hb); have n4_ := zm (Kd.N_lower ho29 (below_size (by repeat (first | (with_reducible first | exact HB.out | apply zb1 | apply zb2 | apply zb3 | refine zb4 ?_ GE105.out) | exact HB.out)))); have n5_ := zm (blk_below (g := gb105) (o := .cells #[.int .i64 a0_0, .int .i64 a0_1, .int .i64 a0_2, .int .i64 a0_3, .int .i64 a0_4, .slice A0_5 l0_5.length c0_5, .slice A0_6 l0_6.length c0_6, .slice A0_7 l0_7.length c0_7, .bool a0_8] 34 (0, 0)) (by (with_reducible repeat first | refine zk1 ?_ _ | refine zk2 ?_ | refine zk3 ?_ _); exact BK105.out) hb); have n6_ := zm (below_step (by repeat (first | (with_reducible first | exact HB.out | apply zb1 | apply zb2 | apply zb3 | refine zb4 ?_ GE105.out) | exact HB.out)) hb); clear HO_106005 HO_106006 HO_106007 HO122 BK105 HB; have HO_106005 := n0_; have HO_106006 := n1_; have HO_106007 := n2_; have HO122 := n3_; have HO125 := n4_; have BK105 := n5_; have HB := n6_; clear n0_ n1_ n2_ n3_ n4_ n5_ n6_; clear hb ho29; obtain ⟨Ao30, co30, eo30⟩ := Kd.N_slice HO125.out; subst eo30))
                  go_loopg [4, 66] kj21 (fun kq v4 v66 w' => ∃ (x4_3 : List Int) (x66_3 : Int), v66 = .int .i64 x66_3 ∧ Aside0 (crc_Bytes.l1 kq x4_3 y123 (y123.length : Int) x66_3 = some (r1, r2)) ∧ Aside0 (kq ≤ kj21) ∧ Aside0 (Kd.R (Kd.int .u8) 5 w' w.heap.size (fun k_ => (w.heap.size ≤ k_)) v4 x4_3) ∧ Aside0 (Kd.N (Kd.slice 58 (Kd.int .u64)) 27 w' w.heap.size (fun k_ => ((P0_5_ k_ ∨ P0_6_ k_ ∨ P0_7_ k_) ∨ w.heap.size ≤ k_) ∧ some k_ ≠ (v4 : Value).ownBlock ∧ k_ ≠ gb105) (.slice Ao30 y123.length co30) y123) ∧ Aside0 (Kd.V (Kd.int .u64) 58 w' w.heap.size (fun k_ => ((P0_5_ k_ ∨ P0_6_ k_ ∨ P0_7_ k_) ∨ w.heap.size ≤ k_) ∧ some k_ ≠ (v4 : Value).ownBlock ∧ some k_ ≠ ((.slice Ao30 y123.length co30) : Value).ownBlock ∧ k_ ≠ gb105) (.slice A0_5 l0_5.length c0_5) l0_5) ∧ Aside0 (Kd.V (Kd.int .u64) 58 w' w.heap.size (fun k_ => ((P0_5_ k_ ∨ P0_6_ k_ ∨ P0_7_ k_) ∨ w.heap.size ≤ k_) ∧ some k_ ≠ (v4 : Value).ownBlock ∧ some k_ ≠ ((.slice Ao30 y123.length co30) : Value).ownBlock ∧ k_ ≠ gb105) (.slice A0_6 l0_6.length c0_6) l0_6) ∧ Aside0 (Kd.V (Kd.int .u64) 58 w' w.heap.size (fun k_ => ((P0_5_ k_ ∨ P0_6_ k_ ∨ P0_7_ k_) ∨ w.heap.size ≤ k_) ∧ some k_ ≠ (v4 : Value).ownBlock ∧ some k_ ≠ ((.slice Ao30 y123.length co30) : Value).ownBlock ∧ k_ ≠ gb105) (.slice A0_7 l0_7.length c0_7) l0_7) ∧ Aside0 (w'.heap[gb105]? = some (.cells #[.int .i64 a0_0, .int .i64 a0_1, .int .i64 a0_2, .int .i64 a0_3, .int .i64 a0_4, (.slice A0_5 l0_5.length c0_5), (.slice A0_6 l0_6.length c0_6), (.slice A0_7 l0_7.length c0_7), .bool a0_8] 34 (0, 0))) ∧ Aside0 (Below w.heap.size w w'))
                  case atStart => exact ⟨(y120), (0), (by first | rfl | (simp; done) | (simp [*]; done)), H', ⟨Nat.le_refl _⟩, ⟨by (with_reducible repeat (first | apply Kd.R_alloc | apply Kd.R_drewN | apply Kd.R_drew)); exact HO122.out⟩, ⟨by (with_reducible repeat (first | apply Kd.N_alloc | apply Kd.N_drewN | apply Kd.N_drew)); exact HO125.out⟩, ⟨by (with_reducible repeat first | apply ze1 | apply ze2 | apply ze3); exact Kd.V_mono HO_106005.out (fun _ hk => ⟨hk.1.1.1, ⟨hk.1.2, ⟨hk.2, hk.1.1.2⟩⟩⟩)⟩, ⟨by (with_reducible repeat first | apply ze1 | apply ze2 | apply ze3); exact Kd.V_mono HO_106006.out (fun _ hk => ⟨hk.1.1.1, ⟨hk.1.2, ⟨hk.2, hk.1.1.2⟩⟩⟩)⟩, ⟨by (with_reducible repeat first | apply ze1 | apply ze2 | apply ze3); exact Kd.V_mono HO_106007.out (fun _ hk => ⟨hk.1.1.1, ⟨hk.1.2, ⟨hk.2, hk.1.1.2⟩⟩⟩)⟩, ⟨by (with_reducible repeat first | refine zk1 ?_ _ | refine zk2 ?_ | refine zk3 ?_ _); exact BK105.out⟩, ⟨by repeat (first | (with_reducible first | exact HB.out | apply zb1 | apply zb2 | apply zb3 | refine zb4 ?_ GE105.out) | exact HB.out)⟩⟩
                  case round =>
                    clear H'
                    try clear c1
                    try clear p1
                    try clear q1
                    try clear hx1
                    try clear c2
                    try clear p2
                    try clear c3
                    try clear c4
                    try clear p6
                    try clear c11
                    try clear p11
                    try clear q11
                    try clear hx11
                    try clear c16
                    try clear c16b0
                    try clear c17
                    try clear c17b0
                    try clear c18
                    try clear c18b0
                    try clear c23
                    try clear c24
                    try clear c25
                    try clear hcz10_0
                    try clear hcz10_1
                    try clear hcz10_2
                    try clear hcz10_3
                    try clear hcz10_4
                    try clear hcz10_5
                    try clear hcz10_6
                    try clear hcz10_7
                    try clear hcz10_8
                    try clear hcz12_0
                    try clear hcz12_1
                    try clear hcz12_2
                    try clear hcz12_3
                    try clear hcz12_4
                    try clear hcz12_5
                    try clear hcz12_6
                    try clear hcz12_7
                    try clear hcz12_8
                    try clear hcz23_0
                    try clear hcz23_1
                    try clear hcz23_2
                    try clear hcz23_3
                    try clear hcz23_4
                    try clear hcz23_5
                    try clear hcz23_6
                    try clear hcz23_7
                    try clear hcz23_8
                    try clear hcz27_0
                    try clear hcz27_1
                    try clear hcz27_2
                    try clear hcz27_3
                    try clear hcz27_4
                    try clear hcz27_5
                    try clear hcz27_6
                    try clear hcz27_7
                    try clear hcz27_8
                    try clear hcz6_0
                    try clear hcz6_1
                    try clear hcz6_2
                    try clear hcz6_3
                    try clear hcz6_4
                    try clear hcz6_5
                    try clear hcz6_6
                    try clear hcz6_7
                    try clear hcz6_8
                    try clear hfz10_0
                    try clear hfz10_1
                    try clear hfz10_2
                    try clear hfz10_3
                    try clear hfz10_4
                    try clear hfz10_5
                    try clear hfz10_6
                    try clear hfz10_7
                    try clear hfz10_8
                    try clear hfz12_0
                    try clear hfz12_1
                    try clear hfz12_2
                    try clear hfz12_3
                    try clear hfz12_4
                    try clear hfz12_5
                    try clear hfz12_6
                    try clear hfz12_7
                    try clear hfz12_8
                    try clear hfz23_0
                    try clear hfz23_1
                    try clear hfz23_2
                    try clear hfz23_3
                    try clear hfz23_4
                    try clear hfz23_5
                    try clear hfz23_6
                    try clear hfz23_7
                    try clear hfz23_8
                    try clear hfz27_0
                    try clear hfz27_1
                    try clear hfz27_2
                    try clear hfz27_3
                    try clear hfz27_4
                    try clear hfz27_5
                    try clear hfz27_6
                    try clear hfz27_7
                    try clear hfz27_8
                    try clear hfz6_0
                    try clear hfz6_1
                    try clear hfz6_2
                    try clear hfz6_3
                    try clear hfz6_4
                    try clear hfz6_5
                    try clear hfz6_6
                    try clear hfz6_7
                    try clear hfz6_8
                    try clear hx116_0
                    try clear p1
                    try clear p11
                    try clear p116
                    try clear p2
                    try clear p6
                    try clear q1
                    try clear q11
                    try clear q116
                    obtain ⟨x4_3, x66_3, rfl, HA, HK3, HO_4, HO_64, HO_106005, HO_106006, HO_106007, BK105, HB⟩ := hrel
                    cases gk with
                    | zero => exact absurd HA.out (by simp [crc_Bytes.l1])
                    | succ k3 =>
                      have H := HA.out
                      clear HA
                      simp only [crc_Bytes.l1] at H
                      by_cases c31 : x66_3 < (y123.length : Int)
                      · rw [if_pos c31] at H
                        have c31b0 : decide (x66_3 < (y123.length : Int)) = true := decide_eq_true c31
                        clear c31
                        by_cases c32 : 0 ≤ x66_3
                        · rw [if_pos c32] at H
                          have c32b0 : decide (0 ≤ x66_3) = true := decide_eq_true c32
                          clear c32
                          by_cases c33 : x66_3 < (y123.length : Int)
                          · rw [if_pos c33] at H
                            have c33b0 : decide (x66_3 < (y123.length : Int)) = true := decide_eq_true c33
                            clear c33
                            replace H := Option.bind_eq_some_iff.mp H
                            obtain ⟨t131, A340, H⟩ := H
                            replace H : (crc_Bytes.l2 k3 t131 y123 (y123.length : Int) x66_3 (rd_L2 y123 x66_3) ((rd_L2 y123 x66_3).length : Int) 0) = some (r1, r2) := H
                            have A34 := zm A340
                            clear A340
                            have H' := zm H
                            clear H
                            have p130 : 0 ≤ (x66_3 : Int) := of_decide_eq_true (by first | (with_reducible assumption) | assumption)
                            have q130 : x66_3 < (y123.length : Int) := of_decide_eq_true (by first | (with_reducible assumption) | assumption)
                            obtain ⟨ad130, A130_0, c130_0, e130, hx130_0, hl130_0, hi130_0⟩ := at_L2 (Kd.N_reads' HO_64.out).2.2 x66_3 p130 q130
                            cases e130
                            obtain ⟨ce130, hce130, hMe130, hcc130⟩ := Kd.N_get HO_64.out [] x66_3 p130 (by first | exact q130 | exact of_decide_eq_true (by first | (with_reducible assumption) | assumption) | (have e_ := (Kd.N_reads' HO_64.out).1; omega))
                            obtain ⟨ua130_0, uc130_0, rfl, ul130_0, ge130_0⟩ := Kd.FK_slice_open hMe130
                            have hv130_0 := hcc130 0 _ rfl
                            rw [Nat.add_zero, show ((Kd.slice 58 (Kd.int .u64))).sz = 1 from rfl, Nat.mul_one] at hv130_0
                            replace hv130_0 := Option.some.inj (hv130_0.symm.trans hx130_0)
                            injection hv130_0 with hva_ hvn_ hvc_
                            rw [hva_] at ge130_0
                            rw [hvc_] at ul130_0
                            have HL130_0 := zm (Kd.V_mono (show Kd.V (Kd.int .u64) 58 _ w.heap.size _ _ (rd_L2 y123 x66_3) from Kd.V_mk ul130_0 ge130_0) (fun _ hk => hk.1))
                            clear hva_ hvn_ hvc_ ge130_0 ul130_0
                            clear hcc130 hce130
                            have HR130_0 := zm hi130_0
                            have HC130_0 := zm hl130_0
                            clear hi130_0 hl130_0
                            replace p130 := eq_true p130
                            replace q130 := eq_true q130
                            obtain ⟨Ao35, co35, eo35⟩ := Kd.R_slice HO_4.out
                            subst eo35
                            go_wp2_with (first | ((with_reducible refine gate_callee (f := 24) rfl ?_); refine goesL_ (some 74) rfl rfl Tryd.func24 (by kernel_rfl) rfl #[.slice Ao35 x4_3.length co35, .int .u64 (IntKind.u64.wrap (((rd_L2 y123 x66_3).length : Int))), .int .i64 4] rfl (by (try simp only [List.map_toArray, List.map_cons, List.map_nil]); first | done | rfl | (simp only [List.length_drop, List.length_take]; rfl)) ?_; (with_reducible refine (crc_num.calls k3 (fun k_ => some k_ = (.slice Ao35 x4_3.length co35 : Value).ownBlock) (.slice Ao35 x4_3.length co35) x4_3 (IntKind.u64.wrap (((rd_L2 y123 x66_3).length : Int))) 4 t131 w _ ?side1 ?side2 A34.out).mono ?_); (case side1 => repeat (first | (with_reducible first | exact HB.out | apply zb1 | apply zb2 | apply zb3 | refine zb4 ?_ GE105.out) | exact HB.out)); (case side2 => exact Kd.R_tight rfl HO_4.out); rintro e w36 ⟨v132, rfl, ho0, hb, hkp⟩; refine ⟨_, rfl, ?_⟩; have n0_ := zm (Kd.N_mono (ok' := fun k_ => ((P0_5_ k_ ∨ P0_6_ k_ ∨ P0_7_ k_) ∨ w.heap.size ≤ k_) ∧ k_ ≠ gb105 ∧ some k_ ≠ (v132 : Value).ownBlock) (Kd.N_keptB (HO_64.out) hkp (fun k_ hk_ hs_ => (hk_.2.1) hs_)) (fun k_ hk_ => ⟨hk_.1.1, hk_.1.2.2, fun e_ => Or.elim (ho0.1 k_ e_.symm) (fun hs_ => hk_.2.1 hs_) (fun hn_ => Nat.not_le.2 hk_.2.2 hn_)⟩)); have n1_ := zm (Kd.V_mono (ok' := fun k_ => ((P0_5_ k_ ∨ P0_6_ k_ ∨ P0_7_ k_) ∨ w.heap.size ≤ k_) ∧ some k_ ≠ (.slice (some ad130) y123.length co30 : Value).ownBlock ∧ k_ ≠ gb105 ∧ some k_ ≠ (v132 : Value).ownBlock) (Kd.V_keptB (HO_106005.out) hkp (fun k_ hk_ hs_ => (hk_.2.1) hs_)) (fun k_ hk_ => ⟨hk_.1.1, hk_.1.2.2.1, hk_.1.2.2.2, fun e_ => Or.elim (ho0.1 k_ e_.symm) (fun hs_ => hk_.2.1 hs_) (fun hn_ => Nat.not_le.2 hk_.2.2 hn_)⟩)); have n2_ := zm (Kd.V_mono (ok' := fun k_ => ((P0_5_ k_ ∨ P0_6_ k_ ∨ P0_7_ k_) ∨ w.heap.size ≤ k_) ∧ some k_ ≠ (.slice (some ad130) y123.length co30 : Value).ownBlock ∧ k_ ≠ gb105 ∧ some k_ ≠ (v132 : Value).ownBlock) (Kd.V_keptB (HO_106006.out) hkp (fun k_ hk_ hs_ => (hk_.2.1) hs_)) (fun k_ hk_ => ⟨hk_.1.1, hk_.1.2.2.1, hk_.1.2.2.2, fun e_ => Or.elim (ho0.1 k_ e_.symm) (fun hs_ => hk_.2.1 hs_) (fun hn_ => Nat.not_le.2 hk_.2.2 hn_)⟩)); have n3_ := zm (Kd.V_mono (ok' := fun k_ => ((P0_5_ k_ ∨ P0_6_ k_ ∨ P0_7_ k_) ∨ w.heap.size ≤ k_) ∧ some k_ ≠ (.slice (some ad130) y123.length co30 : Value).ownBlock ∧ k_ ≠ gb105 ∧ some k_ ≠ (v132 : Value).ownBlock) (Kd.V_keptB (HO_106007.out) hkp (fun k_ hk_ hs_ => (hk_.2.1) hs_)) (fun k_ hk_ => ⟨hk_.1.1, hk_.1.2.2.1, hk_.1.2.2.2, fun e_ => Or.elim (ho0.1 k_ e_.symm) (fun hs_ => hk_.2.1 hs_) (fun hn_ => Nat.not_le.2 hk_.2.2 hn_)⟩)); have n4_ := zm (blk_kept (by (with_reducible repeat first | refine zk1 ?_ _ | refine zk2 ?_ | refine zk3 ?_ _); exact BK105.out) hkp (fun hs_ => (fun e_ => (Kd.R_ne HO_4.out BK105.out (by decide)) e_) hs_)); have n5_ := zm (Kd.R_mono (ok' := fun k_ => (w.heap.size ≤ k_)) ho0 (fun k_ hk_ => Or.elim hk_ (fun hs_ => (HO_4.out.1 k_ (hs_).symm)) (fun hn_ => (Nat.le_trans (below_size (by repeat (first | (with_reducible first | exact HB.out | apply zb1 | apply zb2 | apply zb3 | refine zb4 ?_ GE105.out) | exact HB.out))) hn_)))); have n6_ := zm (hb); have nh_ := zm (Kd.V_mono (ok' := fun k_ => ((P0_5_ k_ ∨ P0_6_ k_ ∨ P0_7_ k_) ∨ w.heap.size ≤ k_) ∧ k_ ≠ gb105 ∧ some k_ ≠ (v132 : Value).ownBlock) (Kd.V_keptB (HL130_0.out) hkp (fun k_ hk_ hs_ => (hk_.2.1) hs_)) (fun k_ hk_ => ⟨hk_.1.1, hk_.1.2.2, fun e_ => Or.elim (ho0.1 k_ e_.symm) (fun hs_ => hk_.2.1 hs_) (fun hn_ => Nat.not_le.2 hk_.2.2 hn_)⟩)); clear HO_64 HO_106005 HO_106006 HO_106007 BK105 HB HO_4 HL130_0; have HO_64 := n0_; have HO_106005 := n1_; have HO_106006 := n2_; have HO_106007 := n3_; have BK105 := n4_; have HO133 := n5_; have HB := n6_; have HL130_0 := nh_; clear nh_ n0_ n1_ n2_ n3_ n4_ n5_ n6_; (try clear hb); (try clear hkp); (try clear ho0)))
                            go_loopg [4, 77] k3 (fun kq v4 v77 w' => ∃ (x4_4 : List Int) (x77_4 : Int), v77 = .int .i64 x77_4 ∧ Aside0 (crc_Bytes.l2 kq x4_4 y123 (y123.length : Int) x66_3 (rd_L2 y123 x66_3) ((rd_L2 y123 x66_3).length : Int) x77_4 = some (r1, r2)) ∧ Aside0 (kq ≤ k3) ∧ Aside0 (Kd.R (Kd.int .u8) 5 w' w.heap.size (fun k_ => (w.heap.size ≤ k_)) v4 x4_4) ∧ Aside0 (Kd.N (Kd.slice 58 (Kd.int .u64)) 27 w' w.heap.size (fun k_ => ((P0_5_ k_ ∨ P0_6_ k_ ∨ P0_7_ k_) ∨ w.heap.size ≤ k_) ∧ some k_ ≠ (v4 : Value).ownBlock ∧ k_ ≠ gb105) (.slice (some ad130) y123.length co30) y123) ∧ Aside0 (Kd.V (Kd.int .u64) 58 w' w.heap.size (fun k_ => ((P0_5_ k_ ∨ P0_6_ k_ ∨ P0_7_ k_) ∨ w.heap.size ≤ k_) ∧ some k_ ≠ (v4 : Value).ownBlock ∧ some k_ ≠ ((.slice (some ad130) y123.length co30) : Value).ownBlock ∧ k_ ≠ gb105) (.slice A0_5 l0_5.length c0_5) l0_5) ∧ Aside0 (Kd.V (Kd.int .u64) 58 w' w.heap.size (fun k_ => ((P0_5_ k_ ∨ P0_6_ k_ ∨ P0_7_ k_) ∨ w.heap.size ≤ k_) ∧ some k_ ≠ (v4 : Value).ownBlock ∧ some k_ ≠ ((.slice (some ad130) y123.length co30) : Value).ownBlock ∧ k_ ≠ gb105) (.slice A0_6 l0_6.length c0_6) l0_6) ∧ Aside0 (Kd.V (Kd.int .u64) 58 w' w.heap.size (fun k_ => ((P0_5_ k_ ∨ P0_6_ k_ ∨ P0_7_ k_) ∨ w.heap.size ≤ k_) ∧ some k_ ≠ (v4 : Value).ownBlock ∧ some k_ ≠ ((.slice (some ad130) y123.length co30) : Value).ownBlock ∧ k_ ≠ gb105) (.slice A0_7 l0_7.length c0_7) l0_7) ∧ Aside0 (w'.heap[gb105]? = some (.cells #[.int .i64 a0_0, .int .i64 a0_1, .int .i64 a0_2, .int .i64 a0_3, .int .i64 a0_4, (.slice A0_5 l0_5.length c0_5), (.slice A0_6 l0_6.length c0_6), (.slice A0_7 l0_7.length c0_7), .bool a0_8] 34 (0, 0))) ∧ Aside0 (Below w.heap.size w w') ∧ Aside0 (Kd.V (Kd.int .u64) 58 w' w.heap.size (fun k_ => ((P0_5_ k_ ∨ P0_6_ k_ ∨ P0_7_ k_) ∨ w.heap.size ≤ k_) ∧ some k_ ≠ (v4 : Value).ownBlock ∧ k_ ≠ gb105) (.slice A130_0 (rd_L2 y123 x66_3).length c130_0) (rd_L2 y123 x66_3)))
                            case atStart => exact ⟨(t131), (0), (by first | rfl | (simp; done) | (simp [*]; done)), H', ⟨Nat.le_refl _⟩, ⟨by (with_reducible repeat (first | apply Kd.R_alloc | apply Kd.R_drewN | apply Kd.R_drew)); exact HO133.out⟩, ⟨by (with_reducible repeat (first | apply Kd.N_alloc | apply Kd.N_drewN | apply Kd.N_drew)); exact Kd.N_mono HO_64.out (fun _ hk => ⟨hk.1, ⟨hk.2.2, hk.2.1⟩⟩)⟩, ⟨by (with_reducible repeat first | apply ze1 | apply ze2 | apply ze3); exact Kd.V_mono HO_106005.out (fun _ hk => ⟨hk.1, ⟨hk.2.2.2, ⟨hk.2.1, hk.2.2.1⟩⟩⟩)⟩, ⟨by (with_reducible repeat first | apply ze1 | apply ze2 | apply ze3); exact Kd.V_mono HO_106006.out (fun _ hk => ⟨hk.1, ⟨hk.2.2.2, ⟨hk.2.1, hk.2.2.1⟩⟩⟩)⟩, ⟨by (with_reducible repeat first | apply ze1 | apply ze2 | apply ze3); exact Kd.V_mono HO_106007.out (fun _ hk => ⟨hk.1, ⟨hk.2.2.2, ⟨hk.2.1, hk.2.2.1⟩⟩⟩)⟩, ⟨by (with_reducible repeat first | refine zk1 ?_ _ | refine zk2 ?_ | refine zk3 ?_ _); exact BK105.out⟩, ⟨by repeat (first | (with_reducible first | exact HB.out | apply zb1 | apply zb2 | apply zb3 | refine zb4 ?_ GE105.out) | exact HB.out)⟩, ⟨by (with_reducible repeat first | apply ze1 | apply ze2 | apply ze3); exact Kd.V_mono HL130_0.out (fun _ hk => ⟨hk.1, ⟨hk.2.2, hk.2.1⟩⟩)⟩⟩
                            case round =>
                              clear H'
                              try clear c1
                              try clear p1
                              try clear q1
                              try clear hx1
                              try clear c2
                              try clear p2
                              try clear c3
                              try clear c4
                              try clear p6
                              try clear c11
                              try clear p11
                              try clear q11
                              try clear hx11
                              try clear c13
                              try clear p13
                              try clear q13
                              try clear hx13
                              try clear c16
                              try clear c16b0
                              try clear c17
                              try clear c17b0
                              try clear c18
                              try clear c18b0
                              try clear c23
                              try clear c24
                              try clear c25
                              try clear c31
                              try clear c31b0
                              try clear c32
                              try clear c32b0
                              try clear c33
                              try clear c33b0
                              try clear hcz10_0
                              try clear hcz10_1
                              try clear hcz10_2
                              try clear hcz10_3
                              try clear hcz10_4
                              try clear hcz10_5
                              try clear hcz10_6
                              try clear hcz10_7
                              try clear hcz10_8
                              try clear hcz12_0
                              try clear hcz12_1
                              try clear hcz12_2
                              try clear hcz12_3
                              try clear hcz12_4
                              try clear hcz12_5
                              try clear hcz12_6
                              try clear hcz12_7
                              try clear hcz12_8
                              try clear hcz23_0
                              try clear hcz23_1
                              try clear hcz23_2
                              try clear hcz23_3
                              try clear hcz23_4
                              try clear hcz23_5
                              try clear hcz23_6
                              try clear hcz23_7
                              try clear hcz23_8
                              try clear hcz27_0
                              try clear hcz27_1
                              try clear hcz27_2
                              try clear hcz27_3
                              try clear hcz27_4
                              try clear hcz27_5
                              try clear hcz27_6
                              try clear hcz27_7
                              try clear hcz27_8
                              try clear hcz6_0
                              try clear hcz6_1
                              try clear hcz6_2
                              try clear hcz6_3
                              try clear hcz6_4
                              try clear hcz6_5
                              try clear hcz6_6
                              try clear hcz6_7
                              try clear hcz6_8
                              try clear hfz10_0
                              try clear hfz10_1
                              try clear hfz10_2
                              try clear hfz10_3
                              try clear hfz10_4
                              try clear hfz10_5
                              try clear hfz10_6
                              try clear hfz10_7
                              try clear hfz10_8
                              try clear hfz12_0
                              try clear hfz12_1
                              try clear hfz12_2
                              try clear hfz12_3
                              try clear hfz12_4
                              try clear hfz12_5
                              try clear hfz12_6
                              try clear hfz12_7
                              try clear hfz12_8
                              try clear hfz23_0
                              try clear hfz23_1
                              try clear hfz23_2
                              try clear hfz23_3
                              try clear hfz23_4
                              try clear hfz23_5
                              try clear hfz23_6
                              try clear hfz23_7
                              try clear hfz23_8
                              try clear hfz27_0
                              try clear hfz27_1
                              try clear hfz27_2
                              try clear hfz27_3
                              try clear hfz27_4
                              try clear hfz27_5
                              try clear hfz27_6
                              try clear hfz27_7
                              try clear hfz27_8
                              try clear hfz6_0
                              try clear hfz6_1
                              try clear hfz6_2
                              try clear hfz6_3
                              try clear hfz6_4
                              try clear hfz6_5
                              try clear hfz6_6
                              try clear hfz6_7
                              try clear hfz6_8
                              try clear hx116_0
                              try clear hx130_0
                              try clear p1
                              try clear p11
                              try clear p116
                              try clear p130
                              try clear p2
                              try clear p6
                              try clear q1
                              try clear q11
                              try clear q116
                              try clear q130
                              obtain ⟨x4_4, x77_4, rfl, HA, HK4, HO_4, HO_64, HO_106005, HO_106006, HO_106007, BK105, HB, HL130_0⟩ := hrel
                              cases gk with
                              | zero => exact absurd HA.out (by simp [crc_Bytes.l2])
                              | succ k4 =>
                                have H := HA.out
                                clear HA
                                simp only [crc_Bytes.l2] at H
                                by_cases c37 : x77_4 < ((rd_L2 y123 x66_3).length : Int)
                                · rw [if_pos c37] at H
                                  have c37b0 : decide (x77_4 < ((rd_L2 y123 x66_3).length : Int)) = true := decide_eq_true c37
                                  clear c37
                                  by_cases c38 : 0 ≤ x77_4
                                  · rw [if_pos c38] at H
                                    have c38b0 : decide (0 ≤ x77_4) = true := decide_eq_true c38
                                    clear c38
                                    by_cases c39 : x77_4 < ((rd_L2 y123 x66_3).length : Int)
                                    · rw [if_pos c39] at H
                                      have c39b0 : decide (x77_4 < ((rd_L2 y123 x66_3).length : Int)) = true := decide_eq_true c39
                                      clear c39
                                      replace H := Option.bind_eq_some_iff.mp H
                                      obtain ⟨t135, A400, H⟩ := H
                                      replace H : (crc_Bytes.l2 k4 t135 y123 (y123.length : Int) x66_3 (rd_L2 y123 x66_3) ((rd_L2 y123 x66_3).length : Int) (wrap64 (x77_4 + 1))) = some (r1, r2) := H
                                      have A40 := zm A400
                                      clear A400
                                      have H' := zm H
                                      clear H
                                      have p134 : 0 ≤ (x77_4 : Int) := of_decide_eq_true (by first | (with_reducible assumption) | assumption)
                                      have q134 : x77_4 < ((rd_L2 y123 x66_3).length : Int) := of_decide_eq_true (by first | (with_reducible assumption) | assumption)
                                      obtain ⟨ad134, e134, hx134_0⟩ := Kd.at_int (Kd.V_reads' HL130_0.out).2.2 x77_4 p134 q134
                                      cases e134
                                      skip
                                      replace p134 := eq_true p134
                                      replace q134 := eq_true q134
                                      obtain ⟨Ao41, co41, eo41⟩ := Kd.R_slice HO_4.out
                                      subst eo41
                                      go_wp2_with (first | ((with_reducible refine gate_callee (f := 24) rfl ?_); refine goesL_ (some 83) rfl rfl Tryd.func24 (by kernel_rfl) rfl #[.slice Ao41 x4_4.length co41, .int .u64 (rd (rd_L2 y123 x66_3) x77_4), .int .i64 8] rfl (by (try simp only [List.map_toArray, List.map_cons, List.map_nil]); first | done | rfl | (simp only [List.length_drop, List.length_take]; rfl)) ?_; (with_reducible refine (crc_num.calls k4 (fun k_ => some k_ = (.slice Ao41 x4_4.length co41 : Value).ownBlock) (.slice Ao41 x4_4.length co41) x4_4 (rd (rd_L2 y123 x66_3) x77_4) 8 t135 w _ ?side1 ?side2 A40.out).mono ?_); (case side1 => repeat (first | (with_reducible first | exact HB.out | apply zb1 | apply zb2 | apply zb3 | refine zb4 ?_ GE105.out) | exact HB.out)); (case side2 => exact Kd.R_tight rfl HO_4.out); rintro e w42 ⟨v136, rfl, ho0, hb, hkp⟩; refine ⟨_, rfl, ?_⟩; have n0_ := zm (Kd.N_mono (ok' := fun k_ => ((P0_5_ k_ ∨ P0_6_ k_ ∨ P0_7_ k_) ∨ w.heap.size ≤ k_) ∧ k_ ≠ gb105 ∧ some k_ ≠ (v136 : Value).ownBlock) (Kd.N_keptB (HO_64.out) hkp (fun k_ hk_ hs_ => (hk_.2.1) hs_)) (fun k_ hk_ => ⟨hk_.1.1, hk_.1.2.2, fun e_ => Or.elim (ho0.1 k_ e_.symm) (fun hs_ => hk_.2.1 hs_) (fun hn_ => Nat.not_le.2 hk_.2.2 hn_)⟩)); have n1_ := zm (Kd.V_mono (ok' := fun k_ => ((P0_5_ k_ ∨ P0_6_ k_ ∨ P0_7_ k_) ∨ w.heap.size ≤ k_) ∧ some k_ ≠ (.slice (some ad130) y123.length co30 : Value).ownBlock ∧ k_ ≠ gb105 ∧ some k_ ≠ (v136 : Value).ownBlock) (Kd.V_keptB (HO_106005.out) hkp (fun k_ hk_ hs_ => (hk_.2.1) hs_)) (fun k_ hk_ => ⟨hk_.1.1, hk_.1.2.2.1, hk_.1.2.2.2, fun e_ => Or.elim (ho0.1 k_ e_.symm) (fun hs_ => hk_.2.1 hs_) (fun hn_ => Nat.not_le.2 hk_.2.2 hn_)⟩)); have n2_ := zm (Kd.V_mono (ok' := fun k_ => ((P0_5_ k_ ∨ P0_6_ k_ ∨ P0_7_ k_) ∨ w.heap.size ≤ k_) ∧ some k_ ≠ (.slice (some ad130) y123.length co30 : Value).ownBlock ∧ k_ ≠ gb105 ∧ some k_ ≠ (v136 : Value).ownBlock) (Kd.V_keptB (HO_106006.out) hkp (fun k_ hk_ hs_ => (hk_.2.1) hs_)) (fun k_ hk_ => ⟨hk_.1.1, hk_.1.2.2.1, hk_.1.2.2.2, fun e_ => Or.elim (ho0.1 k_ e_.symm) (fun hs_ => hk_.2.1 hs_) (fun hn_ => Nat.not_le.2 hk_.2.2 hn_)⟩)); have n3_ := zm (Kd.V_mono (ok' := fun k_ => ((P0_5_ k_ ∨ P0_6_ k_ ∨ P0_7_ k_) ∨ w.heap.size ≤ k_) ∧ some k_ ≠ (.slice (some ad130) y123.length co30 : Value).ownBlock ∧ k_ ≠ gb105 ∧ some k_ ≠ (v136 : Value).ownBlock) (Kd.V_keptB (HO_106007.out) hkp (fun k_ hk_ hs_ => (hk_.2.1) hs_)) (fun k_ hk_ => ⟨hk_.1.1, hk_.1.2.2.1, hk_.1.2.2.2, fun e_ => Or.elim (ho0.1 k_ e_.symm) (fun hs_ => hk_.2.1 hs_) (fun hn_ => Nat.not_le.2 hk_.2.2 hn_)⟩)); have n4_ := zm (blk_kept (by (with_reducible repeat first | refine zk1 ?_ _ | refine zk2 ?_ | refine zk3 ?_ _); exact BK105.out) hkp (fun hs_ => (fun e_ => (Kd.R_ne HO_4.out BK105.out (by decide)) e_) hs_)); have n5_ := zm (Kd.R_mono (ok' := fun k_ => (w.heap.size ≤ k_)) ho0 (fun k_ hk_ => Or.elim hk_ (fun hs_ => (HO_4.out.1 k_ (hs_).symm)) (fun hn_ => (Nat.le_trans (below_size (by repeat (first | (with_reducible first | exact HB.out | apply zb1 | apply zb2 | apply zb3 | refine zb4 ?_ GE105.out) | exact HB.out))) hn_)))); have n6_ := zm (hb); have nh_ := zm (Kd.V_mono (ok' := fun k_ => ((P0_5_ k_ ∨ P0_6_ k_ ∨ P0_7_ k_) ∨ w.heap.size ≤ k_) ∧ k_ ≠ gb105 ∧ some k_ ≠ (v136 : Value).ownBlock) (Kd.V_keptB (HL130_0.out) hkp (fun k_ hk_ hs_ => (hk_.2.1) hs_)) (fun k_ hk_ => ⟨hk_.1.1, hk_.1.2.2, fun e_ => Or.elim (ho0.1 k_ e_.symm) (fun hs_ => hk_.2.1 hs_) (fun hn_ => Nat.not_le.2 hk_.2.2 hn_)⟩)); clear HO_64 HO_106005 HO_106006 HO_106007 BK105 HB HO_4 HL130_0; have HO_64 := n0_; have HO_106005 := n1_; have HO_106006 := n2_; have HO_106007 := n3_; have BK105 := n4_; have HO137 := n5_; have HB := n6_; have HL130_0 := nh_; clear nh_ n0_ n1_ n2_ n3_ n4_ n5_ n6_; (try clear hb); (try clear hkp); (try clear ho0)))
                                      go_roundg k4
                                      case measure => have := HK1.out; have := HJ21.out; have := HK3.out; have := HK4.out; omega
                                      case rel => exact ⟨(t135), (wrap64 (x77_4 + 1)), (by first | rfl | (simp; done) | (simp [*]; done)), H', ⟨by have := HK1.out; have := HJ21.out; have := HK3.out; have := HK4.out; omega⟩, ⟨by (with_reducible repeat (first | apply Kd.R_alloc | apply Kd.R_drewN | apply Kd.R_drew)); exact HO137.out⟩, ⟨by (with_reducible repeat (first | apply Kd.N_alloc | apply Kd.N_drewN | apply Kd.N_drew)); exact Kd.N_mono HO_64.out (fun _ hk => ⟨hk.1, ⟨hk.2.2, hk.2.1⟩⟩)⟩, ⟨by (with_reducible repeat first | apply ze1 | apply ze2 | apply ze3); exact Kd.V_mono HO_106005.out (fun _ hk => ⟨hk.1, ⟨hk.2.2.2, ⟨hk.2.1, hk.2.2.1⟩⟩⟩)⟩, ⟨by (with_reducible repeat first | apply ze1 | apply ze2 | apply ze3); exact Kd.V_mono HO_106006.out (fun _ hk => ⟨hk.1, ⟨hk.2.2.2, ⟨hk.2.1, hk.2.2.1⟩⟩⟩)⟩, ⟨by (with_reducible repeat first | apply ze1 | apply ze2 | apply ze3); exact Kd.V_mono HO_106007.out (fun _ hk => ⟨hk.1, ⟨hk.2.2.2, ⟨hk.2.1, hk.2.2.1⟩⟩⟩)⟩, ⟨by (with_reducible repeat first | refine zk1 ?_ _ | refine zk2 ?_ | refine zk3 ?_ _); exact BK105.out⟩, ⟨by repeat (first | (with_reducible first | exact HB.out | apply zb1 | apply zb2 | apply zb3 | refine zb4 ?_ GE105.out) | exact HB.out)⟩, ⟨by (with_reducible repeat first | apply ze1 | apply ze2 | apply ze3); exact Kd.V_mono HL130_0.out (fun _ hk => ⟨hk.1, ⟨hk.2.2, hk.2.1⟩⟩)⟩⟩
                                    · rw [if_neg c39] at H
                                      exact absurd H (by simp)
                                  · rw [if_neg c38] at H
                                    exact absurd H (by simp)
                                · rw [if_neg c37] at H
                                  have c37b0 : decide (x77_4 < ((rd_L2 y123 x66_3).length : Int)) = false := decide_eq_false c37
                                  clear c37
                                  have H' := zm H
                                  clear H
                                  go_wp2
                                  go_roundg k4
                                  case measure => have := HK1.out; have := HJ21.out; have := HK3.out; have := HK4.out; omega
                                  case rel => exact ⟨(x4_4), (wrap64 (x66_3 + 1)), (by first | rfl | (simp; done) | (simp [*]; done)), H', ⟨by have := HK1.out; have := HJ21.out; have := HK3.out; have := HK4.out; omega⟩, ⟨by (with_reducible repeat (first | apply Kd.R_alloc | apply Kd.R_drewN | apply Kd.R_drew)); exact HO_4.out⟩, ⟨by (with_reducible repeat (first | apply Kd.N_alloc | apply Kd.N_drewN | apply Kd.N_drew)); exact HO_64.out⟩, ⟨by (with_reducible repeat first | apply ze1 | apply ze2 | apply ze3); exact HO_106005.out⟩, ⟨by (with_reducible repeat first | apply ze1 | apply ze2 | apply ze3); exact HO_106006.out⟩, ⟨by (with_reducible repeat first | apply ze1 | apply ze2 | apply ze3); exact HO_106007.out⟩, ⟨by (with_reducible repeat first | refine zk1 ?_ _ | refine zk2 ?_ | refine zk3 ?_ _); exact BK105.out⟩, ⟨by repeat (first | (with_reducible first | exact HB.out | apply zb1 | apply zb2 | apply zb3 | refine zb4 ?_ GE105.out) | exact HB.out)⟩⟩
                          · rw [if_neg c33] at H
                            exact absurd H (by simp)
                        · rw [if_neg c32] at H
                          exact absurd H (by simp)
                      · rw [if_neg c31] at H
                        have c31b0 : decide (x66_3 < (y123.length : Int)) = false := decide_eq_false c31
                        clear c31
                        replace H := Option.bind_eq_some_iff.mp H
                        obtain ⟨t126, A430, H⟩ := H
                        replace H : ((crc_num.f k3 x4_3 (IntKind.u64.wrap (t126)) 4).bind fun t127 => (some (strOfNums t127, 0))) = some (r1, r2) := H
                        have A43 := zm A430
                        clear A430
                        replace H := Option.bind_eq_some_iff.mp H
                        obtain ⟨t127, A440, H⟩ := H
                        replace H : (some (strOfNums t127, 0)) = some (r1, r2) := H
                        have A44 := zm A440
                        clear A440
                        simp only [Option.some.injEq, Prod.mk.injEq] at H
                        obtain ⟨rfl, rfl⟩ := H
                        have hcv45 := own_string (P := Tryd.prog) Tryd.underlying40 Tryd.underlying5 Tryd.underlying9 (Kd.own_of_R HO_4.out)
                        go_wp2_with (first | ((with_reducible refine gate_callee (f := 18) rfl ?_); refine goesL_ (some 89) rfl rfl Tryd.func18 (by kernel_rfl) rfl #[.string (strOfNums x4_3)] rfl (by (try simp only [List.map_toArray, List.map_cons, List.map_nil]); first | done | rfl | (simp only [List.length_drop, List.length_take]; rfl)) ?_; (with_reducible refine (crc_Sum.calls (strOfNums x4_3) t126 _ A43.out).mono ?_); rintro e w46 ⟨rfl, hb⟩; refine ⟨_, rfl, ?_⟩; have n0_ := zm (Kd.R_below (by (with_reducible repeat (first | apply Kd.R_alloc | apply Kd.R_drewN | apply Kd.R_drew)); exact HO_4.out) hb); have n1_ := zm (Kd.N_below (by (with_reducible repeat (first | apply Kd.N_alloc | apply Kd.N_drewN | apply Kd.N_drew)); exact HO_64.out) hb); have n2_ := zm (Kd.V_below (by (with_reducible repeat first | apply ze1 | apply ze2 | apply ze3); exact HO_106005.out) hb); have n3_ := zm (Kd.V_below (by (with_reducible repeat first | apply ze1 | apply ze2 | apply ze3); exact HO_106006.out) hb); have n4_ := zm (Kd.V_below (by (with_reducible repeat first | apply ze1 | apply ze2 | apply ze3); exact HO_106007.out) hb); have n5_ := zm (blk_below (g := gb105) (o := .cells #[.int .i64 a0_0, .int .i64 a0_1, .int .i64 a0_2, .int .i64 a0_3, .int .i64 a0_4, .slice A0_5 l0_5.length c0_5, .slice A0_6 l0_6.length c0_6, .slice A0_7 l0_7.length c0_7, .bool a0_8] 34 (0, 0)) (by (with_reducible repeat first | refine zk1 ?_ _ | refine zk2 ?_ | refine zk3 ?_ _); exact BK105.out) hb); have n6_ := zm (below_step (by repeat (first | (with_reducible first | exact HB.out | apply zb1 | apply zb2 | apply zb3 | refine zb4 ?_ GE105.out) | exact HB.out)) hb); clear HO_4 HO_64 HO_106005 HO_106006 HO_106007 BK105 HB; have HO_4 := n0_; have HO_64 := n1_; have HO_106005 := n2_; have HO_106006 := n3_; have HO_106007 := n4_; have BK105 := n5_; have HB := n6_; clear n0_ n1_ n2_ n3_ n4_ n5_ n6_; (try clear hb); (try clear hb2); (try clear hk); (try clear hi); obtain ⟨Ao47, co47, eo47⟩ := Kd.R_slice HO_4.out; subst eo47) | ((with_reducible refine gate_callee (f := 24) rfl ?_); refine goesL_ (some 91) rfl rfl Tryd.func24 (by kernel_rfl) rfl #[.slice Ao47 x4_3.length co47, .int .u64 (IntKind.u64.wrap (t126)), .int .i64 4] rfl (by (try simp only [List.map_toArray, List.map_cons, List.map_nil]); first | done | rfl | (simp only [List.length_drop, List.length_take]; rfl)) ?_; (with_reducible refine (crc_num.calls k3 (fun k_ => some k_ = (.slice Ao47 x4_3.length co47 : Value).ownBlock) (.slice Ao47 x4_3.length co47) x4_3 (IntKind.u64.wrap (t126)) 4 t127 w _ ?side1 ?side2 A44.out).mono ?_); (case side1 => repeat (first | (with_reducible first | exact HB.out | apply zb1 | apply zb2 | apply zb3 | refine zb4 ?_ GE105.out) | exact HB.out)); (case side2 => exact Kd.R_tight rfl HO_4.out); rintro e w48 ⟨v128, rfl, ho0, hb, hkp⟩; refine ⟨_, rfl, ?_⟩; have n0_ := zm (Kd.N_mono (ok' := fun k_ => ((P0_5_ k_ ∨ P0_6_ k_ ∨ P0_7_ k_) ∨ w.heap.size ≤ k_) ∧ k_ ≠ gb105 ∧ some k_ ≠ (v128 : Value).ownBlock) (Kd.N_keptB (HO_64.out) hkp (fun k_ hk_ hs_ => (hk_.2.1) hs_)) (fun k_ hk_ => ⟨hk_.1.1, hk_.1.2.2, fun e_ => Or.elim (ho0.1 k_ e_.symm) (fun hs_ => hk_.2.1 hs_) (fun hn_ => Nat.not_le.2 hk_.2.2 hn_)⟩)); have n1_ := zm (Kd.V_mono (ok' := fun k_ => ((P0_5_ k_ ∨ P0_6_ k_ ∨ P0_7_ k_) ∨ w.heap.size ≤ k_) ∧ some k_ ≠ (.slice Ao30 y123.length co30 : Value).ownBlock ∧ k_ ≠ gb105 ∧ some k_ ≠ (v128 : Value).ownBlock) (Kd.V_keptB (HO_106005.out) hkp (fun k_ hk_ hs_ => (hk_.2.1) hs_)) (fun k_ hk_ => ⟨hk_.1.1, hk_.1.2.2.1, hk_.1.2.2.2, fun e_ => Or.elim (ho0.1 k_ e_.symm) (fun hs_ => hk_.2.1 hs_) (fun hn_ => Nat.not_le.2 hk_.2.2 hn_)⟩)); have n2_ := zm (Kd.V_mono (ok' := fun k_ => ((P0_5_ k_ ∨ P0_6_ k_ ∨ P0_7_ k_) ∨ w.heap.size ≤ k_) ∧ some k_ ≠ (.slice Ao30 y123.length co30 : Value).ownBlock ∧ k_ ≠ gb105 ∧ some k_ ≠ (v128 : Value).ownBlock) (Kd.V_keptB (HO_106006.out) hkp (fun k_ hk_ hs_ => (hk_.2.1) hs_)) (fun k_ hk_ => ⟨hk_.1.1, hk_.1.2.2.1, hk_.1.2.2.2, fun e_ => Or.elim (ho0.1 k_ e_.symm) (fun hs_ => hk_.2.1 hs_) (fun hn_ => Nat.not_le.2 hk_.2.2 hn_)⟩)); have n3_ := zm (Kd.V_mono (ok' := fun k_ => ((P0_5_ k_ ∨ P0_6_ k_ ∨ P0_7_ k_) ∨ w.heap.size ≤ k_) ∧ some k_ ≠ (.slice Ao30 y123.length co30 : Value).ownBlock ∧ k_ ≠ gb105 ∧ some k_ ≠ (v128 : Value).ownBlock) (Kd.V_keptB (HO_106007.out) hkp (fun k_ hk_ hs_ => (hk_.2.1) hs_)) (fun k_ hk_ => ⟨hk_.1.1, hk_.1.2.2.1, hk_.1.2.2.2, fun e_ => Or.elim (ho0.1 k_ e_.symm) (fun hs_ => hk_.2.1 hs_) (fun hn_ => Nat.not_le.2 hk_.2.2 hn_)⟩)); have n4_ := zm (blk_kept (by (with_reducible repeat first | refine zk1 ?_ _ | refine zk2 ?_ | refine zk3 ?_ _); exact BK105.out) hkp (fun hs_ => (fun e_ => (Kd.R_ne HO_4.out BK105.out (by decide)) e_) hs_)); have n5_ := zm (Kd.R_mono (ok' := fun k_ => (w.heap.size ≤ k_)) ho0 (fun k_ hk_ => Or.elim hk_ (fun hs_ => (HO_4.out.1 k_ (hs_).symm)) (fun hn_ => (Nat.le_trans (below_size (by repeat (first | (with_reducible first | exact HB.out | apply zb1 | apply zb2 | apply zb3 | refine zb4 ?_ GE105.out) | exact HB.out))) hn_)))); have n6_ := zm (hb); clear HO_64 HO_106005 HO_106006 HO_106007 BK105 HB HO_4; have HO_64 := n0_; have HO_106005 := n1_; have HO_106006 := n2_; have HO_106007 := n3_; have BK105 := n4_; have HO129 := n5_; have HB := n6_; clear n0_ n1_ n2_ n3_ n4_ n5_ n6_; (try clear hb); (try clear hkp); (try clear ho0); have hcv49 := own_string (P := Tryd.prog) Tryd.underlying40 Tryd.underlying5 Tryd.underlying9 (Kd.own_of_R HO129.out)))
                        go_ret2
                        exact ⟨by first | rfl | (simp [errW_none, errW_some] <;> rfl) | (simp [*, errW_none, errW_some] <;> rfl), by repeat (first | (with_reducible first | exact HB.out | apply zb1 | apply zb2 | apply zb3 | refine zb4 ?_ GE105.out) | exact HB.out)⟩
                · rw [if_neg c25] at H
                  exact absurd H (by simp)
    · rw [if_neg c4] at H
      exact absurd H (by simp)
  · replace c3 := Bool.eq_false_iff.mpr c3
    subst c3
    have H1 : (some ((⟨#[]⟩ : ByteArray), 1)) = some (r1, r2) := by rw [if_neg (show ¬ (false = true) by decide)] at H; exact H
    clear H
    have H := H1
    clear H1
    simp only [Option.some.injEq, Prod.mk.injEq] at H
    obtain ⟨rfl, rfl⟩ := H
    go_enter Tryd.func11, Tryd.ntmps11
    go_wp2_with (first | ((with_reducible refine gate_dst (N := 1) rfl ?_); refine box_event ?hg (N := 1) ?hd (cs := #[.int .i64 a0_0, .int .i64 a0_1, .int .i64 a0_2, .int .i64 a0_3, .int .i64 a0_4, .slice A0_5 l0_5.length c0_5, .slice A0_6 l0_6.length c0_6, .slice A0_7 l0_7.length c0_7, .bool a0_8]) (t := 34) ?hr ?_; (case hd => rfl); (case hg => rfl); (case hr => first | (go_simp; done) | (go_simp; rfl)); intro gb105 hg w50 hbox hb; have n0_ := zm (Kd.V_below (Kd.V_elderB (by (with_reducible repeat first | apply ze1 | apply ze2 | apply ze3); exact HO0_5.out) gb105 (Nat.le_of_eq hg.symm)) hb); have n1_ := zm (Kd.V_below (Kd.V_elderB (by (with_reducible repeat first | apply ze1 | apply ze2 | apply ze3); exact HO0_6.out) gb105 (Nat.le_of_eq hg.symm)) hb); have n2_ := zm (Kd.V_below (Kd.V_elderB (by (with_reducible repeat first | apply ze1 | apply ze2 | apply ze3); exact HO0_7.out) gb105 (Nat.le_of_eq hg.symm)) hb); have n3_ := zm (below_step (by repeat (first | (with_reducible first | exact HB.out | apply zb1 | apply zb2 | apply zb3) | exact HB.out)) hb); have n4_ := zm (hbox); have n5_ := zm ((by rw [hg]; exact (below_size (by repeat (first | (with_reducible first | exact HB.out | apply zb1 | apply zb2 | apply zb3) | exact HB.out))) : w.heap.size ≤ gb105)); have n6_ := zm ((by rw [hg]; exact (below_size (by repeat (first | (with_reducible first | exact HB.out | apply zb1 | apply zb2 | apply zb3) | exact HB.out))) : w.heap.size ≤ gb105)); clear HO0_5 HO0_6 HO0_7 HB; have HO0_5 := n0_; have HO0_6 := n1_; have HO0_7 := n2_; have HB := n3_; have BK105 := n4_; have GW105 := n5_; have GE105 := n6_; clear n0_ n1_ n2_ n3_ n4_ n5_ n6_; clear hb hbox hg; have hcz51_0 : w50.cell? ⟨gb105, 0, none⟩ = some (.int .i64 a0_0) := (blk_cell BK105.out 0).trans rfl; have hcz51_1 : w50.cell? ⟨gb105, 1, none⟩ = some (.int .i64 a0_1) := (blk_cell BK105.out 1).trans rfl; have hcz51_2 : w50.cell? ⟨gb105, 2, none⟩ = some (.int .i64 a0_2) := (blk_cell BK105.out 2).trans rfl; have hcz51_3 : w50.cell? ⟨gb105, 3, none⟩ = some (.int .i64 a0_3) := (blk_cell BK105.out 3).trans rfl; have hcz51_4 : w50.cell? ⟨gb105, 4, none⟩ = some (.int .i64 a0_4) := (blk_cell BK105.out 4).trans rfl; have hcz51_5 : w50.cell? ⟨gb105, 5, none⟩ = some (.slice A0_5 l0_5.length c0_5) := (blk_cell BK105.out 5).trans rfl; have hcz51_6 : w50.cell? ⟨gb105, 6, none⟩ = some (.slice A0_6 l0_6.length c0_6) := (blk_cell BK105.out 6).trans rfl; have hcz51_7 : w50.cell? ⟨gb105, 7, none⟩ = some (.slice A0_7 l0_7.length c0_7) := (blk_cell BK105.out 7).trans rfl; have hcz51_8 : w50.cell? ⟨gb105, 8, none⟩ = some (.bool a0_8) := (blk_cell BK105.out 8).trans rfl; have hfz51_0 := blk_frozen BK105.out 0; have hfz51_1 := blk_frozen BK105.out 1; have hfz51_2 := blk_frozen BK105.out 2; have hfz51_3 := blk_frozen BK105.out 3; have hfz51_4 := blk_frozen BK105.out 4; have hfz51_5 := blk_frozen BK105.out 5; have hfz51_6 := blk_frozen BK105.out 6; have hfz51_7 := blk_frozen BK105.out 7; have hfz51_8 := blk_frozen BK105.out 8) | ((with_reducible refine gate_callee (f := 23) rfl ?_); refine goesL_ (some 13) rfl rfl Tryd.func23 (by kernel_rfl) rfl #[.agg #[.int .i64 a0_0, .int .i64 a0_1, .int .i64 a0_2, .int .i64 a0_3, .int .i64 a0_4, .slice A0_5 l0_5.length c0_5, .slice A0_6 l0_6.length c0_6, .slice A0_7 l0_7.length c0_7, .bool a0_8]] rfl (by (try simp only [List.map_toArray, List.map_cons, List.map_nil]); first | done | rfl | (simp only [List.length_drop, List.length_take]; rfl)) ?_; (with_reducible refine (crc_may.calls a0_0 a0_1 a0_2 a0_3 a0_4 _ _ l0_5 _ _ l0_6 _ _ l0_7 a0_8 false _ ?side1 ?side2 ?side3 ?side4 ?side5 ?side6 A2.out).mono ?_); (case side1 => repeat (first | exact (Kd.V_reads' HO0_5.out).2.2 | (with_reducible refine Kd.C_alloc ?_ _) | (with_reducible refine Kd.C_drewN ?_ _) | (with_reducible refine Kd.C_drew ?_))); (case side2 => exact (Kd.V_reads' HO0_5.out).2.1); (case side3 => repeat (first | exact (Kd.V_reads' HO0_6.out).2.2 | (with_reducible refine Kd.C_alloc ?_ _) | (with_reducible refine Kd.C_drewN ?_ _) | (with_reducible refine Kd.C_drew ?_))); (case side4 => exact (Kd.V_reads' HO0_6.out).2.1); (case side5 => repeat (first | exact (Kd.V_reads' HO0_7.out).2.2 | (with_reducible refine Kd.C_alloc ?_ _) | (with_reducible refine Kd.C_drewN ?_ _) | (with_reducible refine Kd.C_drew ?_))); (case side6 => exact (Kd.V_reads' HO0_7.out).2.1); rintro e w52 ⟨rfl, hb⟩; refine ⟨_, rfl, ?_⟩; have n0_ := zm (Kd.V_below (by (with_reducible repeat first | apply ze1 | apply ze2 | apply ze3); exact HO0_5.out) hb); have n1_ := zm (Kd.V_below (by (with_reducible repeat first | apply ze1 | apply ze2 | apply ze3); exact HO0_6.out) hb); have n2_ := zm (Kd.V_below (by (with_reducible repeat first | apply ze1 | apply ze2 | apply ze3); exact HO0_7.out) hb); have n3_ := zm (blk_below (g := gb105) (o := .cells #[.int .i64 a0_0, .int .i64 a0_1, .int .i64 a0_2, .int .i64 a0_3, .int .i64 a0_4, .slice A0_5 l0_5.length c0_5, .slice A0_6 l0_6.length c0_6, .slice A0_7 l0_7.length c0_7, .bool a0_8] 34 (0, 0)) (by (with_reducible repeat first | refine zk1 ?_ _ | refine zk2 ?_ | refine zk3 ?_ _); exact BK105.out) hb); have n4_ := zm (below_step (by repeat (first | (with_reducible first | exact HB.out | apply zb1 | apply zb2 | apply zb3 | refine zb4 ?_ GE105.out) | exact HB.out)) hb); clear HO0_5 HO0_6 HO0_7 BK105 HB; have HO0_5 := n0_; have HO0_6 := n1_; have HO0_7 := n2_; have BK105 := n3_; have HB := n4_; clear n0_ n1_ n2_ n3_ n4_; (try clear hb); (try clear hb2); (try clear hk); (try clear hi)))
    go_ret2
    exact ⟨by first | rfl | (simp [errW_none, errW_some] <;> rfl) | (simp [*, errW_none, errW_some] <;> rfl), by repeat (first | (with_reducible first | exact HB.out | apply zb1 | apply zb2 | apply zb3 | refine zb4 ?_ GE105.out) | exact HB.out)⟩

end Go.Proofs.YtanjahakoadecaaDoor.Pc
