/- Contracts of functions and laws, written by this session's program myprint.py by way of the kit's print. -/
import Derived.Test.YtanjahakoadecaaDoorPc0
import Derived.Test.YtanjahakoadecaaDoorHCrcZ
import Derived.Test.YtanjahakoadecaaDoorPc5
import Derived.Test.YtanjahakoadecaaDoorPc6
namespace Go.Proofs.YtanjahakoadecaaDoor.Pc
open Go.RowKit Go.Proofs.YtanjahakoadecaaDoor.Hand Go.Proofs.YtanjahakoadecaaDoorW.PrintWords Go.Proofs.YtanjahakoadecaaDoorW.PrintLast Go.Proofs.YtanjahakoadecaaDoorW.PrintMore
attribute [local go_sem] max2_int min2_int max_two min_two max_three min_three max_four min_four   -- for this text's walks alone
set_option linter.unusedVariables false
set_option linter.unusedSimpArgs false

/-! ### tallystickref14_Bytes: function 13 -/
def tallystickref14_Bytes.j0 : Nat → Int → Int → Int → Int → Int → Int → List Int → List Int → List Int → Bool → Option (ByteArray × Int)
  | 0, _, _, _, _, _, _, _, _, _, _ => none
  | k + 1, x5, x177000, x177001, x177002, x177003, x177004, x177005, x177006, x177007, x177008 => (tallystickref14_bytes.f k (IntKind.u64.wrap (x177000)) 1).bind fun t178 => (if 4 + t178.size ≤ 9223372036854775807 then ((tallystickref14_bytes.f k (IntKind.u64.wrap (x177001)) 4).bind fun t179 => (if ((⟨#[84, 65, 76, 89]⟩ : ByteArray) ++ t178).size + t179.size ≤ 9223372036854775807 then ((tallystickref14_bytes.f k (IntKind.u64.wrap (x177002)) 4).bind fun t180 => (if (((⟨#[84, 65, 76, 89]⟩ : ByteArray) ++ t178) ++ t179).size + t180.size ≤ 9223372036854775807 then ((tallystickref14_bytes.f k (IntKind.u64.wrap (x177003)) 4).bind fun t181 => (if ((((⟨#[84, 65, 76, 89]⟩ : ByteArray) ++ t178) ++ t179) ++ t180).size + t181.size ≤ 9223372036854775807 then ((tallystickref14_bytes.f k (IntKind.u64.wrap (x177004)) 4).bind fun t182 => (if (((((⟨#[84, 65, 76, 89]⟩ : ByteArray) ++ t178) ++ t179) ++ t180) ++ t181).size + t182.size ≤ 9223372036854775807 then ((tallystickref14_bytes.f k x5 1).bind fun t183 => (if ((((((⟨#[84, 65, 76, 89]⟩ : ByteArray) ++ t178) ++ t179) ++ t180) ++ t181) ++ t182).size + t183.size ≤ 9223372036854775807 then ((tallystickref14_rowBytes.f k x177005).bind fun t184 => (if (((((((⟨#[84, 65, 76, 89]⟩ : ByteArray) ++ t178) ++ t179) ++ t180) ++ t181) ++ t182) ++ t183).size + t184.size ≤ 9223372036854775807 then ((tallystickref14_rowBytes.f k x177006).bind fun t185 => (if ((((((((⟨#[84, 65, 76, 89]⟩ : ByteArray) ++ t178) ++ t179) ++ t180) ++ t181) ++ t182) ++ t183) ++ t184).size + t185.size ≤ 9223372036854775807 then ((tallystickref14_rowBytes.f k x177007).bind fun t186 => (if (((((((((⟨#[84, 65, 76, 89]⟩ : ByteArray) ++ t178) ++ t179) ++ t180) ++ t181) ++ t182) ++ t183) ++ t184) ++ t185).size + t186.size ≤ 9223372036854775807 then ((tallystickref14_Sum.f k ((((((((((⟨#[84, 65, 76, 89]⟩ : ByteArray) ++ t178) ++ t179) ++ t180) ++ t181) ++ t182) ++ t183) ++ t184) ++ t185) ++ t186)).bind fun t187 => ((tallystickref14_bytes.f k (IntKind.u64.wrap (t187)) 4).bind fun t188 => (if ((((((((((⟨#[84, 65, 76, 89]⟩ : ByteArray) ++ t178) ++ t179) ++ t180) ++ t181) ++ t182) ++ t183) ++ t184) ++ t185) ++ t186).size + t188.size ≤ 9223372036854775807 then (some (((((((((((⟨#[84, 65, 76, 89]⟩ : ByteArray) ++ t178) ++ t179) ++ t180) ++ t181) ++ t182) ++ t183) ++ t184) ++ t185) ++ t186) ++ t188, 0)) else (none)))) else (none))) else (none))) else (none))) else (none))) else (none))) else (none))) else (none))) else (none))) else (none))
def tallystickref14_Bytes.f (k : Nat) (a0_0 : Int) (a0_1 : Int) (a0_2 : Int) (a0_3 : Int) (a0_4 : Int) (l0_5 : List Int) (l0_6 : List Int) (l0_7 : List Int) (a0_8 : Bool) : Option (ByteArray × Int) := (tallystickref14_May.f a0_0 a0_1 a0_2 a0_3 a0_4 l0_5 l0_6 l0_7 a0_8).bind fun t177 => (if t177 = true then (if a0_8 = true then (tallystickref14_Bytes.j0 k 1 a0_0 a0_1 a0_2 a0_3 a0_4 l0_5 l0_6 l0_7 a0_8) else (tallystickref14_Bytes.j0 k 0 a0_0 a0_1 a0_2 a0_3 a0_4 l0_5 l0_6 l0_7 a0_8)) else (some ((⟨#[]⟩ : ByteArray), 1)))
theorem tallystickref14_Bytes.mono_l : ∀ k, (∀ y0 y1 y2 y3 y4 y5 y6 y7 y8 y9, LeO (tallystickref14_Bytes.j0 k y0 y1 y2 y3 y4 y5 y6 y7 y8 y9) (tallystickref14_Bytes.j0 (k + 1) y0 y1 y2 y3 y4 y5 y6 y7 y8 y9))
  | 0 => fun _ _ _ _ _ _ _ _ _ _ r h => by simp [tallystickref14_Bytes.j0] at h
  | k + 1 => by
    have ih0 := tallystickref14_Bytes.mono_l k
    · intro y0 y1 y2 y3 y4 y5 y6 y7 y8 y9
      unfold tallystickref14_Bytes.j0
      repeat' first
      | (with_reducible exact ih0 _ _ _ _ _ _ _ _ _ _)
      | (with_reducible exact tallystickref14_Sum.mono _ _)
      | (with_reducible exact tallystickref14_bytes.mono _ _ _)
      | (with_reducible exact tallystickref14_rowBytes.mono _ _)
      | (with_reducible exact LeO.refl _)
      | (with_reducible exact LeO.none _)
      | (with_reducible refine LeO.ite ?_ ?_)
      | (with_reducible refine LeO.bind ?_ (fun _ => ?_))
      | exact ih0 _ _ _ _ _ _ _ _ _ _
      | exact tallystickref14_Sum.mono _ _
      | exact tallystickref14_bytes.mono _ _ _
      | exact tallystickref14_rowBytes.mono _ _
      | exact LeO.none _
      | refine LeO.ite ?_ ?_
      | refine LeO.bind ?_ (fun _ => ?_)
theorem tallystickref14_Bytes.mono : ∀ a0 a1 a2 a3 a4 a5 a6 a7 a8 k, LeO (tallystickref14_Bytes.f k a0 a1 a2 a3 a4 a5 a6 a7 a8) (tallystickref14_Bytes.f (k + 1) a0 a1 a2 a3 a4 a5 a6 a7 a8) := by
  intro a0 a1 a2 a3 a4 a5 a6 a7 a8 k
  have ih0 := tallystickref14_Bytes.mono_l k
  unfold tallystickref14_Bytes.f
  repeat' first
      | (with_reducible exact ih0 _ _ _ _ _ _ _ _ _ _)
      | (with_reducible exact tallystickref14_Sum.mono _ _)
      | (with_reducible exact tallystickref14_bytes.mono _ _ _)
      | (with_reducible exact tallystickref14_rowBytes.mono _ _)
      | (with_reducible exact LeO.refl _)
      | (with_reducible exact LeO.none _)
      | (with_reducible refine LeO.ite ?_ ?_)
      | (with_reducible refine LeO.bind ?_ (fun _ => ?_))
      | exact ih0 _ _ _ _ _ _ _ _ _ _
      | exact tallystickref14_Sum.mono _ _
      | exact tallystickref14_bytes.mono _ _ _
      | exact tallystickref14_rowBytes.mono _ _
      | exact LeO.none _
      | refine LeO.ite ?_ ?_
      | refine LeO.bind ?_ (fun _ => ?_)
def tallystickref14_Bytes.T7 : Bool × List (List Nat × List Nat) := (true, [([], []), ([0], [0]), ([1], [1]), ([2], [2]), ([3], [3]), ([4], [4]), ([], []), ([6], [6]), ([7], [7]), ([8], [8]), ([9, 4], [9]), ([5, 10], [5, 10]), ([], []), ([12], [12]), ([13], [13]), ([14], [14]), ([15, 10], [15]), ([11, 16], [11, 16]), ([], []), ([18], [18]), ([19], [19]), ([20], [20]), ([21], [21]), ([22, 16], [22]), ([17, 23], [17, 23]), ([], []), ([25], [25]), ([26], [26]), ([27], [27]), ([28], [28]), ([29, 23], [29]), ([24, 30], [24, 30]), ([], []), ([32, 30], [32]), ([31, 33], [31, 33]), ([], []), ([35], [35]), ([36], [36]), ([37, 33], [37]), ([34, 38], [34, 38]), ([], []), ([40], [40]), ([41], [41]), ([42, 38], [42]), ([39, 43], [39, 43]), ([], []), ([45], [45]), ([46], [46]), ([47, 43], [47]), ([44, 48], [44, 48]), ([49, 48, 0, 1, 2, 3, 4, 5, 6, 7, 8, 9, 10, 11, 12, 13, 14, 15, 16, 17, 18, 19, 20, 21, 22, 23, 24, 25, 26, 27, 28, 29, 30, 31, 32, 33, 34, 35, 36, 37, 38, 39, 40, 41, 42, 43, 44, 45, 46, 47, 48, 49], [49])])
def tallystickref14_Bytes.B7 : List Nat := [0, 1, 3, 7, 15, 31, 0, 64, 192, 448, 991, 2047, 0, 4096, 12288, 28672, 63455, 131071, 0, 262144, 786432, 1835008, 3932160, 8255455, 16777215, 0, 33554432, 100663296, 234881024, 503316480, 1056831455, 2147483647, 0, 6425540575, 17179869183, 0, 34359738368, 103079215104, 255533643743, 549755813887, 0, 1099511627776, 3298534883328, 8226992945119, 17592186044415, 0, 35184372088832, 105553116266496, 263313690589151, 562949953421311, 1125899906842623]
theorem tallystickref14_Bytes.tab7 : rtab .any (opsOf Tryd.f13 7) = tallystickref14_Bytes.T7 := by kernel_rfl
theorem tallystickref14_Bytes.bits7 : waitsOk tallystickref14_Bytes.T7.2 tallystickref14_Bytes.B7 = true := by kernel_rfl
set_option maxHeartbeats 8000000 in
set_option maxRecDepth 100000 in
theorem tallystickref14_Bytes.calls (k : Nat) (a0_0 : Int) (a0_1 : Int) (a0_2 : Int) (a0_3 : Int) (a0_4 : Int) (A0_5 : Option Addr) (c0_5 : Nat) (l0_5 : List Int) (A0_6 : Option Addr) (c0_6 : Nat) (l0_6 : List Int) (A0_7 : Option Addr) (c0_7 : Nat) (l0_7 : List Int) (a0_8 : Bool) (r1 : ByteArray) (r2 : Int) (w : World) (hr0_5 : Kd.C (Kd.int .u64) w A0_5 l0_5.length l0_5) (hc0_5 : l0_5.length ≤ c0_5) (hr0_6 : Kd.C (Kd.int .u64) w A0_6 l0_6.length l0_6) (hc0_6 : l0_6.length ≤ c0_6) (hr0_7 : Kd.C (Kd.int .u64) w A0_7 l0_7.length l0_7) (hc0_7 : l0_7.length ≤ c0_7) (h : tallystickref14_Bytes.f k a0_0 a0_1 a0_2 a0_3 a0_4 l0_5 l0_6 l0_7 a0_8 = some (r1, r2)) :
    Calls Tryd.prog 13 #[.agg #[.int .i64 a0_0, .int .i64 a0_1, .int .i64 a0_2, .int .i64 a0_3, .int .i64 a0_4, .slice A0_5 l0_5.length c0_5, .slice A0_6 l0_6.length c0_6, .slice A0_7 l0_7.length c0_7, .bool a0_8]] w fun e w' => e = .returned (.tuple #[.string r1, .int .i64 r2]) ∧ Below w.heap.size w w' := by
  have hu34 := Tryd.underlying34
  have HR0_5 := zm hr0_5
  have HC0_5 := zm hc0_5
  clear hr0_5 hc0_5
  have HR0_6 := zm hr0_6
  have HC0_6 := zm hc0_6
  clear hr0_6 hc0_6
  have HR0_7 := zm hr0_7
  have HC0_7 := zm hc0_7
  clear hr0_7 hc0_7
  have HB := zm (Below.refl w.heap.size w)
  have H : ((tallystickref14_May.f a0_0 a0_1 a0_2 a0_3 a0_4 l0_5 l0_6 l0_7 a0_8).bind fun t177 => (if t177 = true then (if a0_8 = true then (tallystickref14_Bytes.j0 k 1 a0_0 a0_1 a0_2 a0_3 a0_4 l0_5 l0_6 l0_7 a0_8) else (tallystickref14_Bytes.j0 k 0 a0_0 a0_1 a0_2 a0_3 a0_4 l0_5 l0_6 l0_7 a0_8)) else (some ((⟨#[]⟩ : ByteArray), 1)))) = some (r1, r2) := h
  clear h
  replace H := Option.bind_eq_some_iff.mp H
  obtain ⟨t177, A20, H⟩ := H
  replace H : (if t177 = true then (if a0_8 = true then (tallystickref14_Bytes.j0 k 1 a0_0 a0_1 a0_2 a0_3 a0_4 l0_5 l0_6 l0_7 a0_8) else (tallystickref14_Bytes.j0 k 0 a0_0 a0_1 a0_2 a0_3 a0_4 l0_5 l0_6 l0_7 a0_8)) else (some ((⟨#[]⟩ : ByteArray), 1))) = some (r1, r2) := H
  have A2 := zm A20
  clear A20
  by_cases c3 : t177 = true
  · subst c3
    have H1 : (if a0_8 = true then (tallystickref14_Bytes.j0 k 1 a0_0 a0_1 a0_2 a0_3 a0_4 l0_5 l0_6 l0_7 a0_8) else (tallystickref14_Bytes.j0 k 0 a0_0 a0_1 a0_2 a0_3 a0_4 l0_5 l0_6 l0_7 a0_8)) = some (r1, r2) := by rw [if_pos rfl] at H; exact H
    clear H
    have H := H1
    clear H1
    have HC4 := zm H
    clear H
    go_enter Tryd.func13, Tryd.ntmps13
    go_upto_if 13 with (first | ((with_reducible refine gate_dst (N := 1) rfl ?_); refine box_event ?hg (N := 1) ?hd (cs := #[.int .i64 a0_0, .int .i64 a0_1, .int .i64 a0_2, .int .i64 a0_3, .int .i64 a0_4, .slice A0_5 l0_5.length c0_5, .slice A0_6 l0_6.length c0_6, .slice A0_7 l0_7.length c0_7, .bool a0_8]) (t := 34) ?hr ?_; (case hd => rfl); (case hg => rfl); (case hr => first | (go_simp; done) | (go_simp; rfl)); intro gb176 hg w5 hbox hb; have n0_ := zm (below_step (by repeat (first | (with_reducible first | exact HB.out | apply zb1 | apply zb2 | apply zb3) | exact HB.out)) hb); have n1_ := zm (hbox); have n2_ := zm ((by rw [hg]; exact (below_size (by repeat (first | (with_reducible first | exact HB.out | apply zb1 | apply zb2 | apply zb3) | exact HB.out))) : w.heap.size ≤ gb176)); have n3_ := zm ((by rw [hg]; exact (below_size (by repeat (first | (with_reducible first | exact HB.out | apply zb1 | apply zb2 | apply zb3) | exact HB.out))) : w.heap.size ≤ gb176)); clear HB; have HB := n0_; have BK176 := n1_; have GW176 := n2_; have GE176 := n3_; clear n0_ n1_ n2_ n3_; clear hb hbox hg; have hcz6_0 : w5.cell? ⟨gb176, 0, none⟩ = some (.int .i64 a0_0) := (blk_cell BK176.out 0).trans rfl; have hcz6_1 : w5.cell? ⟨gb176, 1, none⟩ = some (.int .i64 a0_1) := (blk_cell BK176.out 1).trans rfl; have hcz6_2 : w5.cell? ⟨gb176, 2, none⟩ = some (.int .i64 a0_2) := (blk_cell BK176.out 2).trans rfl; have hcz6_3 : w5.cell? ⟨gb176, 3, none⟩ = some (.int .i64 a0_3) := (blk_cell BK176.out 3).trans rfl; have hcz6_4 : w5.cell? ⟨gb176, 4, none⟩ = some (.int .i64 a0_4) := (blk_cell BK176.out 4).trans rfl; have hcz6_5 : w5.cell? ⟨gb176, 5, none⟩ = some (.slice A0_5 l0_5.length c0_5) := (blk_cell BK176.out 5).trans rfl; have hcz6_6 : w5.cell? ⟨gb176, 6, none⟩ = some (.slice A0_6 l0_6.length c0_6) := (blk_cell BK176.out 6).trans rfl; have hcz6_7 : w5.cell? ⟨gb176, 7, none⟩ = some (.slice A0_7 l0_7.length c0_7) := (blk_cell BK176.out 7).trans rfl; have hcz6_8 : w5.cell? ⟨gb176, 8, none⟩ = some (.bool a0_8) := (blk_cell BK176.out 8).trans rfl; have hfz6_0 := blk_frozen BK176.out 0; have hfz6_1 := blk_frozen BK176.out 1; have hfz6_2 := blk_frozen BK176.out 2; have hfz6_3 := blk_frozen BK176.out 3; have hfz6_4 := blk_frozen BK176.out 4; have hfz6_5 := blk_frozen BK176.out 5; have hfz6_6 := blk_frozen BK176.out 6; have hfz6_7 := blk_frozen BK176.out 7; have hfz6_8 := blk_frozen BK176.out 8) | ((with_reducible refine gate_callee (f := 26) rfl ?_); refine goesL_ (some 8) rfl rfl Tryd.func26 (by kernel_rfl) rfl #[.agg #[.int .i64 a0_0, .int .i64 a0_1, .int .i64 a0_2, .int .i64 a0_3, .int .i64 a0_4, .slice A0_5 l0_5.length c0_5, .slice A0_6 l0_6.length c0_6, .slice A0_7 l0_7.length c0_7, .bool a0_8]] rfl (by (try simp only [List.map_toArray, List.map_cons, List.map_nil]); first | done | rfl | (simp only [List.length_drop, List.length_take]; rfl)) ?_; (with_reducible refine (tallystickref14_May.calls a0_0 a0_1 a0_2 a0_3 a0_4 _ _ l0_5 _ _ l0_6 _ _ l0_7 a0_8 true _ ?side1 ?side2 ?side3 ?side4 ?side5 ?side6 A2.out).mono ?_); (case side1 => repeat (first | exact (Kd.C_below HR0_5.out HB.out) | (with_reducible refine Kd.C_alloc ?_ _) | (with_reducible refine Kd.C_drewN ?_ _) | (with_reducible refine Kd.C_drew ?_))); (case side2 => exact HC0_5.out); (case side3 => repeat (first | exact (Kd.C_below HR0_6.out HB.out) | (with_reducible refine Kd.C_alloc ?_ _) | (with_reducible refine Kd.C_drewN ?_ _) | (with_reducible refine Kd.C_drew ?_))); (case side4 => exact HC0_6.out); (case side5 => repeat (first | exact (Kd.C_below HR0_7.out HB.out) | (with_reducible refine Kd.C_alloc ?_ _) | (with_reducible refine Kd.C_drewN ?_ _) | (with_reducible refine Kd.C_drew ?_))); (case side6 => exact HC0_7.out); rintro e w7 ⟨rfl, hb⟩; refine ⟨_, rfl, ?_⟩; have n0_ := zm (blk_below (g := gb176) (o := .cells #[.int .i64 a0_0, .int .i64 a0_1, .int .i64 a0_2, .int .i64 a0_3, .int .i64 a0_4, .slice A0_5 l0_5.length c0_5, .slice A0_6 l0_6.length c0_6, .slice A0_7 l0_7.length c0_7, .bool a0_8] 34 (0, 0)) (by (with_reducible repeat first | refine zk1 ?_ _ | refine zk2 ?_ | refine zk3 ?_ _); exact BK176.out) hb); have n1_ := zm (below_step (by repeat (first | (with_reducible first | exact HB.out | apply zb1 | apply zb2 | apply zb3 | refine zb4 ?_ GE176.out) | exact HB.out)) hb); clear BK176 HB; have BK176 := n0_; have HB := n1_; clear n0_ n1_; (try clear hb); (try clear hb2); (try clear hk); (try clear hi); have hcz8_0 : w7.cell? ⟨gb176, 0, none⟩ = some (.int .i64 a0_0) := (blk_cell BK176.out 0).trans rfl; have hcz8_1 : w7.cell? ⟨gb176, 1, none⟩ = some (.int .i64 a0_1) := (blk_cell BK176.out 1).trans rfl; have hcz8_2 : w7.cell? ⟨gb176, 2, none⟩ = some (.int .i64 a0_2) := (blk_cell BK176.out 2).trans rfl; have hcz8_3 : w7.cell? ⟨gb176, 3, none⟩ = some (.int .i64 a0_3) := (blk_cell BK176.out 3).trans rfl; have hcz8_4 : w7.cell? ⟨gb176, 4, none⟩ = some (.int .i64 a0_4) := (blk_cell BK176.out 4).trans rfl; have hcz8_5 : w7.cell? ⟨gb176, 5, none⟩ = some (.slice A0_5 l0_5.length c0_5) := (blk_cell BK176.out 5).trans rfl; have hcz8_6 : w7.cell? ⟨gb176, 6, none⟩ = some (.slice A0_6 l0_6.length c0_6) := (blk_cell BK176.out 6).trans rfl; have hcz8_7 : w7.cell? ⟨gb176, 7, none⟩ = some (.slice A0_7 l0_7.length c0_7) := (blk_cell BK176.out 7).trans rfl; have hcz8_8 : w7.cell? ⟨gb176, 8, none⟩ = some (.bool a0_8) := (blk_cell BK176.out 8).trans rfl; have hfz8_0 := blk_frozen BK176.out 0; have hfz8_1 := blk_frozen BK176.out 1; have hfz8_2 := blk_frozen BK176.out 2; have hfz8_3 := blk_frozen BK176.out 3; have hfz8_4 := blk_frozen BK176.out 4; have hfz8_5 := blk_frozen BK176.out 5; have hfz8_6 := blk_frozen BK176.out 6; have hfz8_7 := blk_frozen BK176.out 7; have hfz8_8 := blk_frozen BK176.out 8))
    (try simp only [Act.put, List.setIfInBounds_toArray, List.set_cons_zero, List.set_cons_succ])
    go_cut [5] (fun v5 wc => ∃ (kq : Nat) (x5_3 : Int), v5 = .int .u64 x5_3 ∧ Aside0 (tallystickref14_Bytes.j0 kq x5_3 a0_0 a0_1 a0_2 a0_3 a0_4 l0_5 l0_6 l0_7 a0_8 = some (r1, r2)) ∧ Aside0 (kq ≤ k) ∧ Aside0 (wc.heap[gb176]? = some (.cells #[.int .i64 a0_0, .int .i64 a0_1, .int .i64 a0_2, .int .i64 a0_3, .int .i64 a0_4, (.slice A0_5 l0_5.length c0_5), (.slice A0_6 l0_6.length c0_6), (.slice A0_7 l0_7.length c0_7), .bool a0_8] 34 (0, 0))) ∧ Aside0 (Below w.heap.size w wc))
    case first =>
      have H := HC4.out
      clear HC4
      by_cases c9 : a0_8 = true
      · subst c9
        have H1 : (tallystickref14_Bytes.j0 k 1 a0_0 a0_1 a0_2 a0_3 a0_4 l0_5 l0_6 l0_7 true) = some (r1, r2) := by rw [if_pos rfl] at H; exact H
        clear H
        have H := H1
        clear H1
        have H' := zm H
        clear H
        go_wp2
        go_meet
        case rel => exact ⟨_, (1), (by first | rfl | (simp; done) | (simp [*]; done)), H', ⟨by first | omega | exact Nat.le_refl _⟩, ⟨by (with_reducible repeat first | refine zk1 ?_ _ | refine zk2 ?_ | refine zk3 ?_ _); exact BK176.out⟩, ⟨by repeat (first | (with_reducible first | exact HB.out | apply zb1 | apply zb2 | apply zb3 | refine zb4 ?_ GE176.out) | exact HB.out)⟩⟩
      · replace c9 := Bool.eq_false_iff.mpr c9
        subst c9
        have H1 : (tallystickref14_Bytes.j0 k 0 a0_0 a0_1 a0_2 a0_3 a0_4 l0_5 l0_6 l0_7 false) = some (r1, r2) := by rw [if_neg (show ¬ (false = true) by decide)] at H; exact H
        clear H
        have H := H1
        clear H1
        have H' := zm H
        clear H
        go_wp2
        go_meet
        case rel => exact ⟨_, (0), (by first | rfl | (simp; done) | (simp [*]; done)), H', ⟨by first | omega | exact Nat.le_refl _⟩, ⟨by (with_reducible repeat first | refine zk1 ?_ _ | refine zk2 ?_ | refine zk3 ?_ _); exact BK176.out⟩, ⟨by repeat (first | (with_reducible first | exact HB.out | apply zb1 | apply zb2 | apply zb3 | refine zb4 ?_ GE176.out) | exact HB.out)⟩⟩
    case rest =>
      clear HC4
      try clear c1
      try clear c2
      try clear p2
      try clear c3
      try clear c9
      try clear hcz6_0
      try clear hcz6_1
      try clear hcz6_2
      try clear hcz6_3
      try clear hcz6_4
      try clear hcz6_5
      try clear hcz6_6
      try clear hcz6_7
      try clear hcz6_8
      try clear hcz8_0
      try clear hcz8_1
      try clear hcz8_2
      try clear hcz8_3
      try clear hcz8_4
      try clear hcz8_5
      try clear hcz8_6
      try clear hcz8_7
      try clear hcz8_8
      try clear hfz6_0
      try clear hfz6_1
      try clear hfz6_2
      try clear hfz6_3
      try clear hfz6_4
      try clear hfz6_5
      try clear hfz6_6
      try clear hfz6_7
      try clear hfz6_8
      try clear hfz8_0
      try clear hfz8_1
      try clear hfz8_2
      try clear hfz8_3
      try clear hfz8_4
      try clear hfz8_5
      try clear hfz8_6
      try clear hfz8_7
      try clear hfz8_8
      obtain ⟨kq, x5_3, rfl, HA, HJ3, BK176, HB⟩ := hcut
      cases kq with
      | zero => exact absurd HA.out (by simp [tallystickref14_Bytes.j0])
      | succ kj3 =>
        have H := HA.out
        clear HA
        simp only [tallystickref14_Bytes.j0] at H
        replace H := Option.bind_eq_some_iff.mp H
        obtain ⟨t178, A100, H⟩ := H
        replace H : (if 4 + t178.size ≤ 9223372036854775807 then ((tallystickref14_bytes.f kj3 (IntKind.u64.wrap (a0_1)) 4).bind fun t179 => (if ((⟨#[84, 65, 76, 89]⟩ : ByteArray) ++ t178).size + t179.size ≤ 9223372036854775807 then ((tallystickref14_bytes.f kj3 (IntKind.u64.wrap (a0_2)) 4).bind fun t180 => (if (((⟨#[84, 65, 76, 89]⟩ : ByteArray) ++ t178) ++ t179).size + t180.size ≤ 9223372036854775807 then ((tallystickref14_bytes.f kj3 (IntKind.u64.wrap (a0_3)) 4).bind fun t181 => (if ((((⟨#[84, 65, 76, 89]⟩ : ByteArray) ++ t178) ++ t179) ++ t180).size + t181.size ≤ 9223372036854775807 then ((tallystickref14_bytes.f kj3 (IntKind.u64.wrap (a0_4)) 4).bind fun t182 => (if (((((⟨#[84, 65, 76, 89]⟩ : ByteArray) ++ t178) ++ t179) ++ t180) ++ t181).size + t182.size ≤ 9223372036854775807 then ((tallystickref14_bytes.f kj3 x5_3 1).bind fun t183 => (if ((((((⟨#[84, 65, 76, 89]⟩ : ByteArray) ++ t178) ++ t179) ++ t180) ++ t181) ++ t182).size + t183.size ≤ 9223372036854775807 then ((tallystickref14_rowBytes.f kj3 l0_5).bind fun t184 => (if (((((((⟨#[84, 65, 76, 89]⟩ : ByteArray) ++ t178) ++ t179) ++ t180) ++ t181) ++ t182) ++ t183).size + t184.size ≤ 9223372036854775807 then ((tallystickref14_rowBytes.f kj3 l0_6).bind fun t185 => (if ((((((((⟨#[84, 65, 76, 89]⟩ : ByteArray) ++ t178) ++ t179) ++ t180) ++ t181) ++ t182) ++ t183) ++ t184).size + t185.size ≤ 9223372036854775807 then ((tallystickref14_rowBytes.f kj3 l0_7).bind fun t186 => (if (((((((((⟨#[84, 65, 76, 89]⟩ : ByteArray) ++ t178) ++ t179) ++ t180) ++ t181) ++ t182) ++ t183) ++ t184) ++ t185).size + t186.size ≤ 9223372036854775807 then ((tallystickref14_Sum.f kj3 ((((((((((⟨#[84, 65, 76, 89]⟩ : ByteArray) ++ t178) ++ t179) ++ t180) ++ t181) ++ t182) ++ t183) ++ t184) ++ t185) ++ t186)).bind fun t187 => ((tallystickref14_bytes.f kj3 (IntKind.u64.wrap (t187)) 4).bind fun t188 => (if ((((((((((⟨#[84, 65, 76, 89]⟩ : ByteArray) ++ t178) ++ t179) ++ t180) ++ t181) ++ t182) ++ t183) ++ t184) ++ t185) ++ t186).size + t188.size ≤ 9223372036854775807 then (some (((((((((((⟨#[84, 65, 76, 89]⟩ : ByteArray) ++ t178) ++ t179) ++ t180) ++ t181) ++ t182) ++ t183) ++ t184) ++ t185) ++ t186) ++ t188, 0)) else (none)))) else (none))) else (none))) else (none))) else (none))) else (none))) else (none))) else (none))) else (none))) else (none)) = some (r1, r2) := H
        have A10 := zm A100
        clear A100
        by_cases c11 : 4 + t178.size ≤ 9223372036854775807
        · rw [if_pos c11] at H
          have c11b0 := eq_true c11
          have c11b1 : decide (4 + t178.size ≤ 9223372036854775807) = true := decide_eq_true c11
          try have c11b2 : (9223372036854775807 < 4 + t178.size) = False := eq_false (Nat.not_lt.2 c11)
          replace H := Option.bind_eq_some_iff.mp H
          obtain ⟨t179, A120, H⟩ := H
          replace H : (if ((⟨#[84, 65, 76, 89]⟩ : ByteArray) ++ t178).size + t179.size ≤ 9223372036854775807 then ((tallystickref14_bytes.f kj3 (IntKind.u64.wrap (a0_2)) 4).bind fun t180 => (if (((⟨#[84, 65, 76, 89]⟩ : ByteArray) ++ t178) ++ t179).size + t180.size ≤ 9223372036854775807 then ((tallystickref14_bytes.f kj3 (IntKind.u64.wrap (a0_3)) 4).bind fun t181 => (if ((((⟨#[84, 65, 76, 89]⟩ : ByteArray) ++ t178) ++ t179) ++ t180).size + t181.size ≤ 9223372036854775807 then ((tallystickref14_bytes.f kj3 (IntKind.u64.wrap (a0_4)) 4).bind fun t182 => (if (((((⟨#[84, 65, 76, 89]⟩ : ByteArray) ++ t178) ++ t179) ++ t180) ++ t181).size + t182.size ≤ 9223372036854775807 then ((tallystickref14_bytes.f kj3 x5_3 1).bind fun t183 => (if ((((((⟨#[84, 65, 76, 89]⟩ : ByteArray) ++ t178) ++ t179) ++ t180) ++ t181) ++ t182).size + t183.size ≤ 9223372036854775807 then ((tallystickref14_rowBytes.f kj3 l0_5).bind fun t184 => (if (((((((⟨#[84, 65, 76, 89]⟩ : ByteArray) ++ t178) ++ t179) ++ t180) ++ t181) ++ t182) ++ t183).size + t184.size ≤ 9223372036854775807 then ((tallystickref14_rowBytes.f kj3 l0_6).bind fun t185 => (if ((((((((⟨#[84, 65, 76, 89]⟩ : ByteArray) ++ t178) ++ t179) ++ t180) ++ t181) ++ t182) ++ t183) ++ t184).size + t185.size ≤ 9223372036854775807 then ((tallystickref14_rowBytes.f kj3 l0_7).bind fun t186 => (if (((((((((⟨#[84, 65, 76, 89]⟩ : ByteArray) ++ t178) ++ t179) ++ t180) ++ t181) ++ t182) ++ t183) ++ t184) ++ t185).size + t186.size ≤ 9223372036854775807 then ((tallystickref14_Sum.f kj3 ((((((((((⟨#[84, 65, 76, 89]⟩ : ByteArray) ++ t178) ++ t179) ++ t180) ++ t181) ++ t182) ++ t183) ++ t184) ++ t185) ++ t186)).bind fun t187 => ((tallystickref14_bytes.f kj3 (IntKind.u64.wrap (t187)) 4).bind fun t188 => (if ((((((((((⟨#[84, 65, 76, 89]⟩ : ByteArray) ++ t178) ++ t179) ++ t180) ++ t181) ++ t182) ++ t183) ++ t184) ++ t185) ++ t186).size + t188.size ≤ 9223372036854775807 then (some (((((((((((⟨#[84, 65, 76, 89]⟩ : ByteArray) ++ t178) ++ t179) ++ t180) ++ t181) ++ t182) ++ t183) ++ t184) ++ t185) ++ t186) ++ t188, 0)) else (none)))) else (none))) else (none))) else (none))) else (none))) else (none))) else (none))) else (none))) else (none)) = some (r1, r2) := H
          have A12 := zm A120
          clear A120
          by_cases c13 : ((⟨#[84, 65, 76, 89]⟩ : ByteArray) ++ t178).size + t179.size ≤ 9223372036854775807
          · rw [if_pos c13] at H
            have c13b0 := eq_true c13
            have c13b1 : decide (((⟨#[84, 65, 76, 89]⟩ : ByteArray) ++ t178).size + t179.size ≤ 9223372036854775807) = true := decide_eq_true c13
            try have c13b2 : (9223372036854775807 < ((⟨#[84, 65, 76, 89]⟩ : ByteArray) ++ t178).size + t179.size) = False := eq_false (Nat.not_lt.2 c13)
            have c13b3 : (9223372036854775807 < 4 + t178.size + t179.size) = False := by have h_ := c13; simp only [ByteArray.size_append] at h_; exact eq_false (Nat.not_lt.2 h_)
            replace H := Option.bind_eq_some_iff.mp H
            obtain ⟨t180, A140, H⟩ := H
            replace H : (if (((⟨#[84, 65, 76, 89]⟩ : ByteArray) ++ t178) ++ t179).size + t180.size ≤ 9223372036854775807 then ((tallystickref14_bytes.f kj3 (IntKind.u64.wrap (a0_3)) 4).bind fun t181 => (if ((((⟨#[84, 65, 76, 89]⟩ : ByteArray) ++ t178) ++ t179) ++ t180).size + t181.size ≤ 9223372036854775807 then ((tallystickref14_bytes.f kj3 (IntKind.u64.wrap (a0_4)) 4).bind fun t182 => (if (((((⟨#[84, 65, 76, 89]⟩ : ByteArray) ++ t178) ++ t179) ++ t180) ++ t181).size + t182.size ≤ 9223372036854775807 then ((tallystickref14_bytes.f kj3 x5_3 1).bind fun t183 => (if ((((((⟨#[84, 65, 76, 89]⟩ : ByteArray) ++ t178) ++ t179) ++ t180) ++ t181) ++ t182).size + t183.size ≤ 9223372036854775807 then ((tallystickref14_rowBytes.f kj3 l0_5).bind fun t184 => (if (((((((⟨#[84, 65, 76, 89]⟩ : ByteArray) ++ t178) ++ t179) ++ t180) ++ t181) ++ t182) ++ t183).size + t184.size ≤ 9223372036854775807 then ((tallystickref14_rowBytes.f kj3 l0_6).bind fun t185 => (if ((((((((⟨#[84, 65, 76, 89]⟩ : ByteArray) ++ t178) ++ t179) ++ t180) ++ t181) ++ t182) ++ t183) ++ t184).size + t185.size ≤ 9223372036854775807 then ((tallystickref14_rowBytes.f kj3 l0_7).bind fun t186 => (if (((((((((⟨#[84, 65, 76, 89]⟩ : ByteArray) ++ t178) ++ t179) ++ t180) ++ t181) ++ t182) ++ t183) ++ t184) ++ t185).size + t186.size ≤ 9223372036854775807 then ((tallystickref14_Sum.f kj3 ((((((((((⟨#[84, 65, 76, 89]⟩ : ByteArray) ++ t178) ++ t179) ++ t180) ++ t181) ++ t182) ++ t183) ++ t184) ++ t185) ++ t186)).bind fun t187 => ((tallystickref14_bytes.f kj3 (IntKind.u64.wrap (t187)) 4).bind fun t188 => (if ((((((((((⟨#[84, 65, 76, 89]⟩ : ByteArray) ++ t178) ++ t179) ++ t180) ++ t181) ++ t182) ++ t183) ++ t184) ++ t185) ++ t186).size + t188.size ≤ 9223372036854775807 then (some (((((((((((⟨#[84, 65, 76, 89]⟩ : ByteArray) ++ t178) ++ t179) ++ t180) ++ t181) ++ t182) ++ t183) ++ t184) ++ t185) ++ t186) ++ t188, 0)) else (none)))) else (none))) else (none))) else (none))) else (none))) else (none))) else (none))) else (none)) = some (r1, r2) := H
            have A14 := zm A140
            clear A140
            by_cases c15 : (((⟨#[84, 65, 76, 89]⟩ : ByteArray) ++ t178) ++ t179).size + t180.size ≤ 9223372036854775807
            · rw [if_pos c15] at H
              have c15b0 := eq_true c15
              have c15b1 : decide ((((⟨#[84, 65, 76, 89]⟩ : ByteArray) ++ t178) ++ t179).size + t180.size ≤ 9223372036854775807) = true := decide_eq_true c15
              try have c15b2 : (9223372036854775807 < (((⟨#[84, 65, 76, 89]⟩ : ByteArray) ++ t178) ++ t179).size + t180.size) = False := eq_false (Nat.not_lt.2 c15)
              have c15b3 : (9223372036854775807 < 4 + t178.size + t179.size + t180.size) = False := by have h_ := c15; simp only [ByteArray.size_append] at h_; exact eq_false (Nat.not_lt.2 h_)
              replace H := Option.bind_eq_some_iff.mp H
              obtain ⟨t181, A160, H⟩ := H
              replace H : (if ((((⟨#[84, 65, 76, 89]⟩ : ByteArray) ++ t178) ++ t179) ++ t180).size + t181.size ≤ 9223372036854775807 then ((tallystickref14_bytes.f kj3 (IntKind.u64.wrap (a0_4)) 4).bind fun t182 => (if (((((⟨#[84, 65, 76, 89]⟩ : ByteArray) ++ t178) ++ t179) ++ t180) ++ t181).size + t182.size ≤ 9223372036854775807 then ((tallystickref14_bytes.f kj3 x5_3 1).bind fun t183 => (if ((((((⟨#[84, 65, 76, 89]⟩ : ByteArray) ++ t178) ++ t179) ++ t180) ++ t181) ++ t182).size + t183.size ≤ 9223372036854775807 then ((tallystickref14_rowBytes.f kj3 l0_5).bind fun t184 => (if (((((((⟨#[84, 65, 76, 89]⟩ : ByteArray) ++ t178) ++ t179) ++ t180) ++ t181) ++ t182) ++ t183).size + t184.size ≤ 9223372036854775807 then ((tallystickref14_rowBytes.f kj3 l0_6).bind fun t185 => (if ((((((((⟨#[84, 65, 76, 89]⟩ : ByteArray) ++ t178) ++ t179) ++ t180) ++ t181) ++ t182) ++ t183) ++ t184).size + t185.size ≤ 9223372036854775807 then ((tallystickref14_rowBytes.f kj3 l0_7).bind fun t186 => (if (((((((((⟨#[84, 65, 76, 89]⟩ : ByteArray) ++ t178) ++ t179) ++ t180) ++ t181) ++ t182) ++ t183) ++ t184) ++ t185).size + t186.size ≤ 9223372036854775807 then ((tallystickref14_Sum.f kj3 ((((((((((⟨#[84, 65, 76, 89]⟩ : ByteArray) ++ t178) ++ t179) ++ t180) ++ t181) ++ t182) ++ t183) ++ t184) ++ t185) ++ t186)).bind fun t187 => ((tallystickref14_bytes.f kj3 (IntKind.u64.wrap (t187)) 4).bind fun t188 => (if ((((((((((⟨#[84, 65, 76, 89]⟩ : ByteArray) ++ t178) ++ t179) ++ t180) ++ t181) ++ t182) ++ t183) ++ t184) ++ t185) ++ t186).size + t188.size ≤ 9223372036854775807 then (some (((((((((((⟨#[84, 65, 76, 89]⟩ : ByteArray) ++ t178) ++ t179) ++ t180) ++ t181) ++ t182) ++ t183) ++ t184) ++ t185) ++ t186) ++ t188, 0)) else (none)))) else (none))) else (none))) else (none))) else (none))) else (none))) else (none)) = some (r1, r2) := H
              have A16 := zm A160
              clear A160
              by_cases c17 : ((((⟨#[84, 65, 76, 89]⟩ : ByteArray) ++ t178) ++ t179) ++ t180).size + t181.size ≤ 9223372036854775807
              · rw [if_pos c17] at H
                have c17b0 := eq_true c17
                have c17b1 : decide (((((⟨#[84, 65, 76, 89]⟩ : ByteArray) ++ t178) ++ t179) ++ t180).size + t181.size ≤ 9223372036854775807) = true := decide_eq_true c17
                try have c17b2 : (9223372036854775807 < ((((⟨#[84, 65, 76, 89]⟩ : ByteArray) ++ t178) ++ t179) ++ t180).size + t181.size) = False := eq_false (Nat.not_lt.2 c17)
                have c17b3 : (9223372036854775807 < 4 + t178.size + t179.size + t180.size + t181.size) = False := by have h_ := c17; simp only [ByteArray.size_append] at h_; exact eq_false (Nat.not_lt.2 h_)
                replace H := Option.bind_eq_some_iff.mp H
                obtain ⟨t182, A180, H⟩ := H
                replace H : (if (((((⟨#[84, 65, 76, 89]⟩ : ByteArray) ++ t178) ++ t179) ++ t180) ++ t181).size + t182.size ≤ 9223372036854775807 then ((tallystickref14_bytes.f kj3 x5_3 1).bind fun t183 => (if ((((((⟨#[84, 65, 76, 89]⟩ : ByteArray) ++ t178) ++ t179) ++ t180) ++ t181) ++ t182).size + t183.size ≤ 9223372036854775807 then ((tallystickref14_rowBytes.f kj3 l0_5).bind fun t184 => (if (((((((⟨#[84, 65, 76, 89]⟩ : ByteArray) ++ t178) ++ t179) ++ t180) ++ t181) ++ t182) ++ t183).size + t184.size ≤ 9223372036854775807 then ((tallystickref14_rowBytes.f kj3 l0_6).bind fun t185 => (if ((((((((⟨#[84, 65, 76, 89]⟩ : ByteArray) ++ t178) ++ t179) ++ t180) ++ t181) ++ t182) ++ t183) ++ t184).size + t185.size ≤ 9223372036854775807 then ((tallystickref14_rowBytes.f kj3 l0_7).bind fun t186 => (if (((((((((⟨#[84, 65, 76, 89]⟩ : ByteArray) ++ t178) ++ t179) ++ t180) ++ t181) ++ t182) ++ t183) ++ t184) ++ t185).size + t186.size ≤ 9223372036854775807 then ((tallystickref14_Sum.f kj3 ((((((((((⟨#[84, 65, 76, 89]⟩ : ByteArray) ++ t178) ++ t179) ++ t180) ++ t181) ++ t182) ++ t183) ++ t184) ++ t185) ++ t186)).bind fun t187 => ((tallystickref14_bytes.f kj3 (IntKind.u64.wrap (t187)) 4).bind fun t188 => (if ((((((((((⟨#[84, 65, 76, 89]⟩ : ByteArray) ++ t178) ++ t179) ++ t180) ++ t181) ++ t182) ++ t183) ++ t184) ++ t185) ++ t186).size + t188.size ≤ 9223372036854775807 then (some (((((((((((⟨#[84, 65, 76, 89]⟩ : ByteArray) ++ t178) ++ t179) ++ t180) ++ t181) ++ t182) ++ t183) ++ t184) ++ t185) ++ t186) ++ t188, 0)) else (none)))) else (none))) else (none))) else (none))) else (none))) else (none)) = some (r1, r2) := H
                have A18 := zm A180
                clear A180
                by_cases c19 : (((((⟨#[84, 65, 76, 89]⟩ : ByteArray) ++ t178) ++ t179) ++ t180) ++ t181).size + t182.size ≤ 9223372036854775807
                · rw [if_pos c19] at H
                  have c19b0 := eq_true c19
                  have c19b1 : decide ((((((⟨#[84, 65, 76, 89]⟩ : ByteArray) ++ t178) ++ t179) ++ t180) ++ t181).size + t182.size ≤ 9223372036854775807) = true := decide_eq_true c19
                  try have c19b2 : (9223372036854775807 < (((((⟨#[84, 65, 76, 89]⟩ : ByteArray) ++ t178) ++ t179) ++ t180) ++ t181).size + t182.size) = False := eq_false (Nat.not_lt.2 c19)
                  have c19b3 : (9223372036854775807 < 4 + t178.size + t179.size + t180.size + t181.size + t182.size) = False := by have h_ := c19; simp only [ByteArray.size_append] at h_; exact eq_false (Nat.not_lt.2 h_)
                  replace H := Option.bind_eq_some_iff.mp H
                  obtain ⟨t183, A200, H⟩ := H
                  replace H : (if ((((((⟨#[84, 65, 76, 89]⟩ : ByteArray) ++ t178) ++ t179) ++ t180) ++ t181) ++ t182).size + t183.size ≤ 9223372036854775807 then ((tallystickref14_rowBytes.f kj3 l0_5).bind fun t184 => (if (((((((⟨#[84, 65, 76, 89]⟩ : ByteArray) ++ t178) ++ t179) ++ t180) ++ t181) ++ t182) ++ t183).size + t184.size ≤ 9223372036854775807 then ((tallystickref14_rowBytes.f kj3 l0_6).bind fun t185 => (if ((((((((⟨#[84, 65, 76, 89]⟩ : ByteArray) ++ t178) ++ t179) ++ t180) ++ t181) ++ t182) ++ t183) ++ t184).size + t185.size ≤ 9223372036854775807 then ((tallystickref14_rowBytes.f kj3 l0_7).bind fun t186 => (if (((((((((⟨#[84, 65, 76, 89]⟩ : ByteArray) ++ t178) ++ t179) ++ t180) ++ t181) ++ t182) ++ t183) ++ t184) ++ t185).size + t186.size ≤ 9223372036854775807 then ((tallystickref14_Sum.f kj3 ((((((((((⟨#[84, 65, 76, 89]⟩ : ByteArray) ++ t178) ++ t179) ++ t180) ++ t181) ++ t182) ++ t183) ++ t184) ++ t185) ++ t186)).bind fun t187 => ((tallystickref14_bytes.f kj3 (IntKind.u64.wrap (t187)) 4).bind fun t188 => (if ((((((((((⟨#[84, 65, 76, 89]⟩ : ByteArray) ++ t178) ++ t179) ++ t180) ++ t181) ++ t182) ++ t183) ++ t184) ++ t185) ++ t186).size + t188.size ≤ 9223372036854775807 then (some (((((((((((⟨#[84, 65, 76, 89]⟩ : ByteArray) ++ t178) ++ t179) ++ t180) ++ t181) ++ t182) ++ t183) ++ t184) ++ t185) ++ t186) ++ t188, 0)) else (none)))) else (none))) else (none))) else (none))) else (none)) = some (r1, r2) := H
                  have A20 := zm A200
                  clear A200
                  by_cases c21 : ((((((⟨#[84, 65, 76, 89]⟩ : ByteArray) ++ t178) ++ t179) ++ t180) ++ t181) ++ t182).size + t183.size ≤ 9223372036854775807
                  · rw [if_pos c21] at H
                    have c21b0 := eq_true c21
                    have c21b1 : decide (((((((⟨#[84, 65, 76, 89]⟩ : ByteArray) ++ t178) ++ t179) ++ t180) ++ t181) ++ t182).size + t183.size ≤ 9223372036854775807) = true := decide_eq_true c21
                    try have c21b2 : (9223372036854775807 < ((((((⟨#[84, 65, 76, 89]⟩ : ByteArray) ++ t178) ++ t179) ++ t180) ++ t181) ++ t182).size + t183.size) = False := eq_false (Nat.not_lt.2 c21)
                    have c21b3 : (9223372036854775807 < 4 + t178.size + t179.size + t180.size + t181.size + t182.size + t183.size) = False := by have h_ := c21; simp only [ByteArray.size_append] at h_; exact eq_false (Nat.not_lt.2 h_)
                    replace H := Option.bind_eq_some_iff.mp H
                    obtain ⟨t184, A220, H⟩ := H
                    replace H : (if (((((((⟨#[84, 65, 76, 89]⟩ : ByteArray) ++ t178) ++ t179) ++ t180) ++ t181) ++ t182) ++ t183).size + t184.size ≤ 9223372036854775807 then ((tallystickref14_rowBytes.f kj3 l0_6).bind fun t185 => (if ((((((((⟨#[84, 65, 76, 89]⟩ : ByteArray) ++ t178) ++ t179) ++ t180) ++ t181) ++ t182) ++ t183) ++ t184).size + t185.size ≤ 9223372036854775807 then ((tallystickref14_rowBytes.f kj3 l0_7).bind fun t186 => (if (((((((((⟨#[84, 65, 76, 89]⟩ : ByteArray) ++ t178) ++ t179) ++ t180) ++ t181) ++ t182) ++ t183) ++ t184) ++ t185).size + t186.size ≤ 9223372036854775807 then ((tallystickref14_Sum.f kj3 ((((((((((⟨#[84, 65, 76, 89]⟩ : ByteArray) ++ t178) ++ t179) ++ t180) ++ t181) ++ t182) ++ t183) ++ t184) ++ t185) ++ t186)).bind fun t187 => ((tallystickref14_bytes.f kj3 (IntKind.u64.wrap (t187)) 4).bind fun t188 => (if ((((((((((⟨#[84, 65, 76, 89]⟩ : ByteArray) ++ t178) ++ t179) ++ t180) ++ t181) ++ t182) ++ t183) ++ t184) ++ t185) ++ t186).size + t188.size ≤ 9223372036854775807 then (some (((((((((((⟨#[84, 65, 76, 89]⟩ : ByteArray) ++ t178) ++ t179) ++ t180) ++ t181) ++ t182) ++ t183) ++ t184) ++ t185) ++ t186) ++ t188, 0)) else (none)))) else (none))) else (none))) else (none)) = some (r1, r2) := H
                    have A22 := zm A220
                    clear A220
                    by_cases c23 : (((((((⟨#[84, 65, 76, 89]⟩ : ByteArray) ++ t178) ++ t179) ++ t180) ++ t181) ++ t182) ++ t183).size + t184.size ≤ 9223372036854775807
                    · rw [if_pos c23] at H
                      have c23b0 := eq_true c23
                      have c23b1 : decide ((((((((⟨#[84, 65, 76, 89]⟩ : ByteArray) ++ t178) ++ t179) ++ t180) ++ t181) ++ t182) ++ t183).size + t184.size ≤ 9223372036854775807) = true := decide_eq_true c23
                      try have c23b2 : (9223372036854775807 < (((((((⟨#[84, 65, 76, 89]⟩ : ByteArray) ++ t178) ++ t179) ++ t180) ++ t181) ++ t182) ++ t183).size + t184.size) = False := eq_false (Nat.not_lt.2 c23)
                      have c23b3 : (9223372036854775807 < 4 + t178.size + t179.size + t180.size + t181.size + t182.size + t183.size + t184.size) = False := by have h_ := c23; simp only [ByteArray.size_append] at h_; exact eq_false (Nat.not_lt.2 h_)
                      replace H := Option.bind_eq_some_iff.mp H
                      obtain ⟨t185, A240, H⟩ := H
                      replace H : (if ((((((((⟨#[84, 65, 76, 89]⟩ : ByteArray) ++ t178) ++ t179) ++ t180) ++ t181) ++ t182) ++ t183) ++ t184).size + t185.size ≤ 9223372036854775807 then ((tallystickref14_rowBytes.f kj3 l0_7).bind fun t186 => (if (((((((((⟨#[84, 65, 76, 89]⟩ : ByteArray) ++ t178) ++ t179) ++ t180) ++ t181) ++ t182) ++ t183) ++ t184) ++ t185).size + t186.size ≤ 9223372036854775807 then ((tallystickref14_Sum.f kj3 ((((((((((⟨#[84, 65, 76, 89]⟩ : ByteArray) ++ t178) ++ t179) ++ t180) ++ t181) ++ t182) ++ t183) ++ t184) ++ t185) ++ t186)).bind fun t187 => ((tallystickref14_bytes.f kj3 (IntKind.u64.wrap (t187)) 4).bind fun t188 => (if ((((((((((⟨#[84, 65, 76, 89]⟩ : ByteArray) ++ t178) ++ t179) ++ t180) ++ t181) ++ t182) ++ t183) ++ t184) ++ t185) ++ t186).size + t188.size ≤ 9223372036854775807 then (some (((((((((((⟨#[84, 65, 76, 89]⟩ : ByteArray) ++ t178) ++ t179) ++ t180) ++ t181) ++ t182) ++ t183) ++ t184) ++ t185) ++ t186) ++ t188, 0)) else (none)))) else (none))) else (none)) = some (r1, r2) := H
                      have A24 := zm A240
                      clear A240
                      by_cases c25 : ((((((((⟨#[84, 65, 76, 89]⟩ : ByteArray) ++ t178) ++ t179) ++ t180) ++ t181) ++ t182) ++ t183) ++ t184).size + t185.size ≤ 9223372036854775807
                      · rw [if_pos c25] at H
                        have c25b0 := eq_true c25
                        have c25b1 : decide (((((((((⟨#[84, 65, 76, 89]⟩ : ByteArray) ++ t178) ++ t179) ++ t180) ++ t181) ++ t182) ++ t183) ++ t184).size + t185.size ≤ 9223372036854775807) = true := decide_eq_true c25
                        try have c25b2 : (9223372036854775807 < ((((((((⟨#[84, 65, 76, 89]⟩ : ByteArray) ++ t178) ++ t179) ++ t180) ++ t181) ++ t182) ++ t183) ++ t184).size + t185.size) = False := eq_false (Nat.not_lt.2 c25)
                        have c25b3 : (9223372036854775807 < 4 + t178.size + t179.size + t180.size + t181.size + t182.size + t183.size + t184.size + t185.size) = False := by have h_ := c25; simp only [ByteArray.size_append] at h_; exact eq_false (Nat.not_lt.2 h_)
                        replace H := Option.bind_eq_some_iff.mp H
                        obtain ⟨t186, A260, H⟩ := H
                        replace H : (if (((((((((⟨#[84, 65, 76, 89]⟩ : ByteArray) ++ t178) ++ t179) ++ t180) ++ t181) ++ t182) ++ t183) ++ t184) ++ t185).size + t186.size ≤ 9223372036854775807 then ((tallystickref14_Sum.f kj3 ((((((((((⟨#[84, 65, 76, 89]⟩ : ByteArray) ++ t178) ++ t179) ++ t180) ++ t181) ++ t182) ++ t183) ++ t184) ++ t185) ++ t186)).bind fun t187 => ((tallystickref14_bytes.f kj3 (IntKind.u64.wrap (t187)) 4).bind fun t188 => (if ((((((((((⟨#[84, 65, 76, 89]⟩ : ByteArray) ++ t178) ++ t179) ++ t180) ++ t181) ++ t182) ++ t183) ++ t184) ++ t185) ++ t186).size + t188.size ≤ 9223372036854775807 then (some (((((((((((⟨#[84, 65, 76, 89]⟩ : ByteArray) ++ t178) ++ t179) ++ t180) ++ t181) ++ t182) ++ t183) ++ t184) ++ t185) ++ t186) ++ t188, 0)) else (none)))) else (none)) = some (r1, r2) := H
                        have A26 := zm A260
                        clear A260
                        by_cases c27 : (((((((((⟨#[84, 65, 76, 89]⟩ : ByteArray) ++ t178) ++ t179) ++ t180) ++ t181) ++ t182) ++ t183) ++ t184) ++ t185).size + t186.size ≤ 9223372036854775807
                        · rw [if_pos c27] at H
                          have c27b0 := eq_true c27
                          have c27b1 : decide ((((((((((⟨#[84, 65, 76, 89]⟩ : ByteArray) ++ t178) ++ t179) ++ t180) ++ t181) ++ t182) ++ t183) ++ t184) ++ t185).size + t186.size ≤ 9223372036854775807) = true := decide_eq_true c27
                          try have c27b2 : (9223372036854775807 < (((((((((⟨#[84, 65, 76, 89]⟩ : ByteArray) ++ t178) ++ t179) ++ t180) ++ t181) ++ t182) ++ t183) ++ t184) ++ t185).size + t186.size) = False := eq_false (Nat.not_lt.2 c27)
                          have c27b3 : (9223372036854775807 < 4 + t178.size + t179.size + t180.size + t181.size + t182.size + t183.size + t184.size + t185.size + t186.size) = False := by have h_ := c27; simp only [ByteArray.size_append] at h_; exact eq_false (Nat.not_lt.2 h_)
                          replace H := Option.bind_eq_some_iff.mp H
                          obtain ⟨t187, A280, H⟩ := H
                          replace H : ((tallystickref14_bytes.f kj3 (IntKind.u64.wrap (t187)) 4).bind fun t188 => (if ((((((((((⟨#[84, 65, 76, 89]⟩ : ByteArray) ++ t178) ++ t179) ++ t180) ++ t181) ++ t182) ++ t183) ++ t184) ++ t185) ++ t186).size + t188.size ≤ 9223372036854775807 then (some (((((((((((⟨#[84, 65, 76, 89]⟩ : ByteArray) ++ t178) ++ t179) ++ t180) ++ t181) ++ t182) ++ t183) ++ t184) ++ t185) ++ t186) ++ t188, 0)) else (none))) = some (r1, r2) := H
                          have A28 := zm A280
                          clear A280
                          replace H := Option.bind_eq_some_iff.mp H
                          obtain ⟨t188, A290, H⟩ := H
                          replace H : (if ((((((((((⟨#[84, 65, 76, 89]⟩ : ByteArray) ++ t178) ++ t179) ++ t180) ++ t181) ++ t182) ++ t183) ++ t184) ++ t185) ++ t186).size + t188.size ≤ 9223372036854775807 then (some (((((((((((⟨#[84, 65, 76, 89]⟩ : ByteArray) ++ t178) ++ t179) ++ t180) ++ t181) ++ t182) ++ t183) ++ t184) ++ t185) ++ t186) ++ t188, 0)) else (none)) = some (r1, r2) := H
                          have A29 := zm A290
                          clear A290
                          by_cases c30 : ((((((((((⟨#[84, 65, 76, 89]⟩ : ByteArray) ++ t178) ++ t179) ++ t180) ++ t181) ++ t182) ++ t183) ++ t184) ++ t185) ++ t186).size + t188.size ≤ 9223372036854775807
                          · rw [if_pos c30] at H
                            have c30b0 := eq_true c30
                            have c30b1 : decide (((((((((((⟨#[84, 65, 76, 89]⟩ : ByteArray) ++ t178) ++ t179) ++ t180) ++ t181) ++ t182) ++ t183) ++ t184) ++ t185) ++ t186).size + t188.size ≤ 9223372036854775807) = true := decide_eq_true c30
                            try have c30b2 : (9223372036854775807 < ((((((((((⟨#[84, 65, 76, 89]⟩ : ByteArray) ++ t178) ++ t179) ++ t180) ++ t181) ++ t182) ++ t183) ++ t184) ++ t185) ++ t186).size + t188.size) = False := eq_false (Nat.not_lt.2 c30)
                            have c30b3 : (9223372036854775807 < 4 + t178.size + t179.size + t180.size + t181.size + t182.size + t183.size + t184.size + t185.size + t186.size + t188.size) = False := by have h_ := c30; simp only [ByteArray.size_append] at h_; exact eq_false (Nat.not_lt.2 h_)
                            simp only [Option.some.injEq, Prod.mk.injEq] at H
                            obtain ⟨rfl, rfl⟩ := H
                            try go_wp2
                            have n0_ := zm (blk_drew BK176.out)
                            have n1_ := zm (below_drew1 HB.out)
                            clear BK176
                            clear HB
                            have BK176 := n0_
                            have HB := n1_
                            clear n0_ n1_
                            refine start_ (n := 51) (S := fun w' => w'.cell? ⟨gb176, 0, none⟩ = some (.int .i64 a0_0) ∧ w'.cell? ⟨gb176, 1, none⟩ = some (.int .i64 a0_1) ∧ w'.cell? ⟨gb176, 2, none⟩ = some (.int .i64 a0_2) ∧ w'.cell? ⟨gb176, 3, none⟩ = some (.int .i64 a0_3) ∧ w'.cell? ⟨gb176, 4, none⟩ = some (.int .i64 a0_4) ∧ w'.cell? ⟨gb176, 5, none⟩ = some (.slice A0_5 l0_5.length c0_5) ∧ w'.cell? ⟨gb176, 6, none⟩ = some (.slice A0_6 l0_6.length c0_6) ∧ w'.cell? ⟨gb176, 7, none⟩ = some (.slice A0_7 l0_7.length c0_7) ∧ w'.cell? ⟨gb176, 8, none⟩ = some (.bool a0_8)) (ds := []) #[false, false, false, false, false, false, false, false, false, false, false, false, false, false, false, false, false, false, false, false, false, false, false, false, false, false, false, false, false, false, false, false, false, false, false, false, false, false, false, false, false, false, false, false, false, false, false, false, false, false, false] (by kernel_rfl) rfl rfl ⟨(blk_cell BK176.out 0).trans rfl, (blk_cell BK176.out 1).trans rfl, (blk_cell BK176.out 2).trans rfl, (blk_cell BK176.out 3).trans rfl, (blk_cell BK176.out 4).trans rfl, (blk_cell BK176.out 5).trans rfl, (blk_cell BK176.out 6).trans rfl, (blk_cell BK176.out 7).trans rfl, (blk_cell BK176.out 8).trans rfl⟩ (fun hHeld => ?_); refine with_tabW tallystickref14_Bytes.tab7 tallystickref14_Bytes.bits7 (fun HT_ HW_ => ?_)
                            generalize wc.drew = w31 at BK176 HB hHeld ⊢
                            refine pure_ (i := 0) (N := some 14) (v := ?_) (a' := ?_) #[true, false, false, false, false, false, false, false, false, false, false, false, false, false, false, false, false, false, false, false, false, false, false, false, false, false, false, false, false, false, false, false, false, false, false, false, false, false, false, false, false, false, false, false, false, false, false, false, false, false, false] rfl rfl (any_of HT_.out (by kernel_rfl)) (fun _ _ _ h => h) (Or.inl ⟨by rfl, ?_⟩) ?_ ?_
                            rotate_left
                            · intro w'
                              go_simp
                              with_reducible rfl
                            rotate_left
                            · simp only [Act.put, List.setIfInBounds_toArray, List.set_cons_zero, List.set_cons_succ, i64_w, i32_w]
                              rfl
                            refine pure_ (i := 1) (N := some 15) (v := ?_) (a' := ?_) #[true, true, false, false, false, false, false, false, false, false, false, false, false, false, false, false, false, false, false, false, false, false, false, false, false, false, false, false, false, false, false, false, false, false, false, false, false, false, false, false, false, false, false, false, false, false, false, false, false, false, false] rfl rfl (any_of HT_.out (by kernel_rfl)) (fun _ _ _ h => h) (Or.inl ⟨by rfl, ?_⟩) ?_ ?_
                            rotate_left
                            · intro w'
                              go_simp
                              with_reducible rfl
                            rotate_left
                            · simp only [Act.put, List.setIfInBounds_toArray, List.set_cons_zero, List.set_cons_succ, i64_w, i32_w]
                              rfl
                            refine pure_ (i := 6) (N := some 20) (v := ?_) (a' := ?_) #[true, true, false, false, false, false, true, false, false, false, false, false, false, false, false, false, false, false, false, false, false, false, false, false, false, false, false, false, false, false, false, false, false, false, false, false, false, false, false, false, false, false, false, false, false, false, false, false, false, false, false] rfl rfl (any_of HT_.out (by kernel_rfl)) (fun _ _ _ h => h) (Or.inl ⟨by rfl, ?_⟩) ?_ ?_
                            rotate_left
                            · intro w'
                              go_simp
                              with_reducible rfl
                            rotate_left
                            · simp only [Act.put, List.setIfInBounds_toArray, List.set_cons_zero, List.set_cons_succ, i64_w, i32_w]
                              rfl
                            refine pure_ (i := 7) (N := some 21) (v := ?_) (a' := ?_) #[true, true, false, false, false, false, true, true, false, false, false, false, false, false, false, false, false, false, false, false, false, false, false, false, false, false, false, false, false, false, false, false, false, false, false, false, false, false, false, false, false, false, false, false, false, false, false, false, false, false, false] rfl rfl (any_of HT_.out (by kernel_rfl)) (fun _ _ _ h => h) (Or.inl ⟨by rfl, ?_⟩) ?_ ?_
                            rotate_left
                            · intro w'
                              go_simp
                              with_reducible rfl
                            rotate_left
                            · simp only [Act.put, List.setIfInBounds_toArray, List.set_cons_zero, List.set_cons_succ, i64_w, i32_w]
                              rfl
                            refine pure_ (i := 12) (N := some 26) (v := ?_) (a' := ?_) #[true, true, false, false, false, false, true, true, false, false, false, false, true, false, false, false, false, false, false, false, false, false, false, false, false, false, false, false, false, false, false, false, false, false, false, false, false, false, false, false, false, false, false, false, false, false, false, false, false, false, false] rfl rfl (any_of HT_.out (by kernel_rfl)) (fun _ _ _ h => h) (Or.inl ⟨by rfl, ?_⟩) ?_ ?_
                            rotate_left
                            · intro w'
                              go_simp
                              with_reducible rfl
                            rotate_left
                            · simp only [Act.put, List.setIfInBounds_toArray, List.set_cons_zero, List.set_cons_succ, i64_w, i32_w]
                              rfl
                            refine pure_ (i := 13) (N := some 27) (v := ?_) (a' := ?_) #[true, true, false, false, false, false, true, true, false, false, false, false, true, true, false, false, false, false, false, false, false, false, false, false, false, false, false, false, false, false, false, false, false, false, false, false, false, false, false, false, false, false, false, false, false, false, false, false, false, false, false] rfl rfl (any_of HT_.out (by kernel_rfl)) (fun _ _ _ h => h) (Or.inl ⟨by rfl, ?_⟩) ?_ ?_
                            rotate_left
                            · intro w'
                              go_simp
                              with_reducible rfl
                            rotate_left
                            · simp only [Act.put, List.setIfInBounds_toArray, List.set_cons_zero, List.set_cons_succ, i64_w, i32_w]
                              rfl
                            refine pure_ (i := 18) (N := some 32) (v := ?_) (a' := ?_) #[true, true, false, false, false, false, true, true, false, false, false, false, true, true, false, false, false, false, true, false, false, false, false, false, false, false, false, false, false, false, false, false, false, false, false, false, false, false, false, false, false, false, false, false, false, false, false, false, false, false, false] rfl rfl (any_of HT_.out (by kernel_rfl)) (fun _ _ _ h => h) (Or.inl ⟨by rfl, ?_⟩) ?_ ?_
                            rotate_left
                            · intro w'
                              go_simp
                              with_reducible rfl
                            rotate_left
                            · simp only [Act.put, List.setIfInBounds_toArray, List.set_cons_zero, List.set_cons_succ, i64_w, i32_w]
                              rfl
                            refine pure_ (i := 19) (N := some 33) (v := ?_) (a' := ?_) #[true, true, false, false, false, false, true, true, false, false, false, false, true, true, false, false, false, false, true, true, false, false, false, false, false, false, false, false, false, false, false, false, false, false, false, false, false, false, false, false, false, false, false, false, false, false, false, false, false, false, false] rfl rfl (any_of HT_.out (by kernel_rfl)) (fun _ _ _ h => h) (Or.inl ⟨by rfl, ?_⟩) ?_ ?_
                            rotate_left
                            · intro w'
                              go_simp
                              with_reducible rfl
                            rotate_left
                            · simp only [Act.put, List.setIfInBounds_toArray, List.set_cons_zero, List.set_cons_succ, i64_w, i32_w]
                              rfl
                            refine pure_ (i := 20) (N := some 34) (v := ?_) (a' := ?_) #[true, true, false, false, false, false, true, true, false, false, false, false, true, true, false, false, false, false, true, true, true, false, false, false, false, false, false, false, false, false, false, false, false, false, false, false, false, false, false, false, false, false, false, false, false, false, false, false, false, false, false] rfl rfl (any_of HT_.out (by kernel_rfl)) (fun _ _ _ h => h) (Or.inl ⟨by rfl, ?_⟩) ?_ ?_
                            rotate_left
                            · intro w'
                              go_simp
                              with_reducible rfl
                            rotate_left
                            · simp only [Act.put, List.setIfInBounds_toArray, List.set_cons_zero, List.set_cons_succ, i64_w, i32_w]
                              rfl
                            refine pure_ (i := 25) (N := some 39) (v := ?_) (a' := ?_) #[true, true, false, false, false, false, true, true, false, false, false, false, true, true, false, false, false, false, true, true, true, false, false, false, false, true, false, false, false, false, false, false, false, false, false, false, false, false, false, false, false, false, false, false, false, false, false, false, false, false, false] rfl rfl (any_of HT_.out (by kernel_rfl)) (fun _ _ _ h => h) (Or.inl ⟨by rfl, ?_⟩) ?_ ?_
                            rotate_left
                            · intro w'
                              go_simp
                              with_reducible rfl
                            rotate_left
                            · simp only [Act.put, List.setIfInBounds_toArray, List.set_cons_zero, List.set_cons_succ, i64_w, i32_w]
                              rfl
                            refine pure_ (i := 26) (N := some 40) (v := ?_) (a' := ?_) #[true, true, false, false, false, false, true, true, false, false, false, false, true, true, false, false, false, false, true, true, true, false, false, false, false, true, true, false, false, false, false, false, false, false, false, false, false, false, false, false, false, false, false, false, false, false, false, false, false, false, false] rfl rfl (any_of HT_.out (by kernel_rfl)) (fun _ _ _ h => h) (Or.inl ⟨by rfl, ?_⟩) ?_ ?_
                            rotate_left
                            · intro w'
                              go_simp
                              with_reducible rfl
                            rotate_left
                            · simp only [Act.put, List.setIfInBounds_toArray, List.set_cons_zero, List.set_cons_succ, i64_w, i32_w]
                              rfl
                            refine pure_ (i := 27) (N := some 41) (v := ?_) (a' := ?_) #[true, true, false, false, false, false, true, true, false, false, false, false, true, true, false, false, false, false, true, true, true, false, false, false, false, true, true, true, false, false, false, false, false, false, false, false, false, false, false, false, false, false, false, false, false, false, false, false, false, false, false] rfl rfl (any_of HT_.out (by kernel_rfl)) (fun _ _ _ h => h) (Or.inl ⟨by rfl, ?_⟩) ?_ ?_
                            rotate_left
                            · intro w'
                              go_simp
                              with_reducible rfl
                            rotate_left
                            · simp only [Act.put, List.setIfInBounds_toArray, List.set_cons_zero, List.set_cons_succ, i64_w, i32_w]
                              rfl
                            refine pure_ (i := 32) (N := some 46) (v := ?_) (a' := ?_) #[true, true, false, false, false, false, true, true, false, false, false, false, true, true, false, false, false, false, true, true, true, false, false, false, false, true, true, true, false, false, false, false, true, false, false, false, false, false, false, false, false, false, false, false, false, false, false, false, false, false, false] rfl rfl (any_of HT_.out (by kernel_rfl)) (fun _ _ _ h => h) (Or.inl ⟨by rfl, ?_⟩) ?_ ?_
                            rotate_left
                            · intro w'
                              go_simp
                              with_reducible rfl
                            rotate_left
                            · simp only [Act.put, List.setIfInBounds_toArray, List.set_cons_zero, List.set_cons_succ, i64_w, i32_w]
                              rfl
                            refine pure_ (i := 35) (N := some 49) (v := ?_) (a' := ?_) #[true, true, false, false, false, false, true, true, false, false, false, false, true, true, false, false, false, false, true, true, true, false, false, false, false, true, true, true, false, false, false, false, true, false, false, true, false, false, false, false, false, false, false, false, false, false, false, false, false, false, false] rfl rfl (any_of HT_.out (by kernel_rfl)) (fun _ _ _ h => h) (Or.inl ⟨by rfl, ?_⟩) ?_ ?_
                            rotate_left
                            · intro w'
                              go_simp
                              with_reducible rfl
                            rotate_left
                            · simp only [Act.put, List.setIfInBounds_toArray, List.set_cons_zero, List.set_cons_succ, i64_w, i32_w]
                              rfl
                            refine pure_ (i := 36) (N := some 50) (v := ?_) (a' := ?_) #[true, true, false, false, false, false, true, true, false, false, false, false, true, true, false, false, false, false, true, true, true, false, false, false, false, true, true, true, false, false, false, false, true, false, false, true, true, false, false, false, false, false, false, false, false, false, false, false, false, false, false] rfl rfl (any_of HT_.out (by kernel_rfl)) (fun _ _ _ h => h) (Or.inl ⟨by rfl, ?_⟩) ?_ ?_
                            rotate_left
                            · intro w'
                              go_simp
                              with_reducible rfl
                            rotate_left
                            · simp only [Act.put, List.setIfInBounds_toArray, List.set_cons_zero, List.set_cons_succ, i64_w, i32_w]
                              rfl
                            refine pure_ (i := 40) (N := some 54) (v := ?_) (a' := ?_) #[true, true, false, false, false, false, true, true, false, false, false, false, true, true, false, false, false, false, true, true, true, false, false, false, false, true, true, true, false, false, false, false, true, false, false, true, true, false, false, false, true, false, false, false, false, false, false, false, false, false, false] rfl rfl (any_of HT_.out (by kernel_rfl)) (fun _ _ _ h => h) (Or.inl ⟨by rfl, ?_⟩) ?_ ?_
                            rotate_left
                            · intro w'
                              go_simp
                              with_reducible rfl
                            rotate_left
                            · simp only [Act.put, List.setIfInBounds_toArray, List.set_cons_zero, List.set_cons_succ, i64_w, i32_w]
                              rfl
                            refine pure_ (i := 41) (N := some 55) (v := ?_) (a' := ?_) #[true, true, false, false, false, false, true, true, false, false, false, false, true, true, false, false, false, false, true, true, true, false, false, false, false, true, true, true, false, false, false, false, true, false, false, true, true, false, false, false, true, true, false, false, false, false, false, false, false, false, false] rfl rfl (any_of HT_.out (by kernel_rfl)) (fun _ _ _ h => h) (Or.inl ⟨by rfl, ?_⟩) ?_ ?_
                            rotate_left
                            · intro w'
                              go_simp
                              with_reducible rfl
                            rotate_left
                            · simp only [Act.put, List.setIfInBounds_toArray, List.set_cons_zero, List.set_cons_succ, i64_w, i32_w]
                              rfl
                            refine pure_ (i := 45) (N := some 59) (v := ?_) (a' := ?_) #[true, true, false, false, false, false, true, true, false, false, false, false, true, true, false, false, false, false, true, true, true, false, false, false, false, true, true, true, false, false, false, false, true, false, false, true, true, false, false, false, true, true, false, false, false, true, false, false, false, false, false] rfl rfl (any_of HT_.out (by kernel_rfl)) (fun _ _ _ h => h) (Or.inl ⟨by rfl, ?_⟩) ?_ ?_
                            rotate_left
                            · intro w'
                              go_simp
                              with_reducible rfl
                            rotate_left
                            · simp only [Act.put, List.setIfInBounds_toArray, List.set_cons_zero, List.set_cons_succ, i64_w, i32_w]
                              rfl
                            refine pure_ (i := 46) (N := some 60) (v := ?_) (a' := ?_) #[true, true, false, false, false, false, true, true, false, false, false, false, true, true, false, false, false, false, true, true, true, false, false, false, false, true, true, true, false, false, false, false, true, false, false, true, true, false, false, false, true, true, false, false, false, true, true, false, false, false, false] rfl rfl (any_of HT_.out (by kernel_rfl)) (fun _ _ _ h => h) (Or.inl ⟨by rfl, ?_⟩) ?_ ?_
                            rotate_left
                            · intro w'
                              go_simp
                              with_reducible rfl
                            rotate_left
                            · simp only [Act.put, List.setIfInBounds_toArray, List.set_cons_zero, List.set_cons_succ, i64_w, i32_w]
                              rfl
                            refine take_ (i := 2) (N := some 16) (v := ?_) (a' := ?_) #[true, true, true, false, false, false, true, true, false, false, false, false, true, true, false, false, false, false, true, true, true, false, false, false, false, true, true, true, false, false, false, false, true, false, false, true, true, false, false, false, true, true, false, false, false, true, true, false, false, false, false] rfl rfl (take_ofW HT_.out HW_.out (by kernel_rfl)) (fun _ _ _ h => h) (Or.inl ⟨by rfl, ?_⟩) hHeld ?_ ?_
                            rotate_left
                            · rintro w' ⟨s0, s1, s2, s3, s4, s5, s6, s7, s8⟩
                              go_simp
                              with_reducible rfl
                            rotate_left
                            · simp only [Act.put, List.setIfInBounds_toArray, List.set_cons_zero, List.set_cons_succ, i64_w, i32_w]
                              rfl
                            refine pure_ (i := 3) (N := some 17) (v := ?_) (a' := ?_) #[true, true, true, true, false, false, true, true, false, false, false, false, true, true, false, false, false, false, true, true, true, false, false, false, false, true, true, true, false, false, false, false, true, false, false, true, true, false, false, false, true, true, false, false, false, true, true, false, false, false, false] rfl rfl (any_of HT_.out (by kernel_rfl)) (fun _ _ _ h => h) (Or.inl ⟨by rfl, ?_⟩) ?_ ?_
                            rotate_left
                            · intro w'
                              go_simp
                              with_reducible rfl
                            rotate_left
                            · simp only [Act.put, List.setIfInBounds_toArray, List.set_cons_zero, List.set_cons_succ, i64_w, i32_w]
                              rfl
                            refine take_ (i := 8) (N := some 22) (v := ?_) (a' := ?_) #[true, true, true, true, false, false, true, true, true, false, false, false, true, true, false, false, false, false, true, true, true, false, false, false, false, true, true, true, false, false, false, false, true, false, false, true, true, false, false, false, true, true, false, false, false, true, true, false, false, false, false] rfl rfl (take_ofW HT_.out HW_.out (by kernel_rfl)) (fun _ _ _ h => h) (Or.inl ⟨by rfl, ?_⟩) hHeld ?_ ?_
                            rotate_left
                            · rintro w' ⟨s0, s1, s2, s3, s4, s5, s6, s7, s8⟩
                              go_simp
                              with_reducible rfl
                            rotate_left
                            · simp only [Act.put, List.setIfInBounds_toArray, List.set_cons_zero, List.set_cons_succ, i64_w, i32_w]
                              rfl
                            refine pure_ (i := 9) (N := some 23) (v := ?_) (a' := ?_) #[true, true, true, true, false, false, true, true, true, true, false, false, true, true, false, false, false, false, true, true, true, false, false, false, false, true, true, true, false, false, false, false, true, false, false, true, true, false, false, false, true, true, false, false, false, true, true, false, false, false, false] rfl rfl (any_of HT_.out (by kernel_rfl)) (fun _ _ _ h => h) (Or.inl ⟨by rfl, ?_⟩) ?_ ?_
                            rotate_left
                            · intro w'
                              go_simp
                              with_reducible rfl
                            rotate_left
                            · simp only [Act.put, List.setIfInBounds_toArray, List.set_cons_zero, List.set_cons_succ, i64_w, i32_w]
                              rfl
                            refine take_ (i := 14) (N := some 28) (v := ?_) (a' := ?_) #[true, true, true, true, false, false, true, true, true, true, false, false, true, true, true, false, false, false, true, true, true, false, false, false, false, true, true, true, false, false, false, false, true, false, false, true, true, false, false, false, true, true, false, false, false, true, true, false, false, false, false] rfl rfl (take_ofW HT_.out HW_.out (by kernel_rfl)) (fun _ _ _ h => h) (Or.inl ⟨by rfl, ?_⟩) hHeld ?_ ?_
                            rotate_left
                            · rintro w' ⟨s0, s1, s2, s3, s4, s5, s6, s7, s8⟩
                              go_simp
                              with_reducible rfl
                            rotate_left
                            · simp only [Act.put, List.setIfInBounds_toArray, List.set_cons_zero, List.set_cons_succ, i64_w, i32_w]
                              rfl
                            refine pure_ (i := 15) (N := some 29) (v := ?_) (a' := ?_) #[true, true, true, true, false, false, true, true, true, true, false, false, true, true, true, true, false, false, true, true, true, false, false, false, false, true, true, true, false, false, false, false, true, false, false, true, true, false, false, false, true, true, false, false, false, true, true, false, false, false, false] rfl rfl (any_of HT_.out (by kernel_rfl)) (fun _ _ _ h => h) (Or.inl ⟨by rfl, ?_⟩) ?_ ?_
                            rotate_left
                            · intro w'
                              go_simp
                              with_reducible rfl
                            rotate_left
                            · simp only [Act.put, List.setIfInBounds_toArray, List.set_cons_zero, List.set_cons_succ, i64_w, i32_w]
                              rfl
                            refine take_ (i := 21) (N := some 35) (v := ?_) (a' := ?_) #[true, true, true, true, false, false, true, true, true, true, false, false, true, true, true, true, false, false, true, true, true, true, false, false, false, true, true, true, false, false, false, false, true, false, false, true, true, false, false, false, true, true, false, false, false, true, true, false, false, false, false] rfl rfl (take_ofW HT_.out HW_.out (by kernel_rfl)) (fun _ _ _ h => h) (Or.inl ⟨by rfl, ?_⟩) hHeld ?_ ?_
                            rotate_left
                            · rintro w' ⟨s0, s1, s2, s3, s4, s5, s6, s7, s8⟩
                              go_simp
                              with_reducible rfl
                            rotate_left
                            · simp only [Act.put, List.setIfInBounds_toArray, List.set_cons_zero, List.set_cons_succ, i64_w, i32_w]
                              rfl
                            refine pure_ (i := 22) (N := some 36) (v := ?_) (a' := ?_) #[true, true, true, true, false, false, true, true, true, true, false, false, true, true, true, true, false, false, true, true, true, true, true, false, false, true, true, true, false, false, false, false, true, false, false, true, true, false, false, false, true, true, false, false, false, true, true, false, false, false, false] rfl rfl (any_of HT_.out (by kernel_rfl)) (fun _ _ _ h => h) (Or.inl ⟨by rfl, ?_⟩) ?_ ?_
                            rotate_left
                            · intro w'
                              go_simp
                              with_reducible rfl
                            rotate_left
                            · simp only [Act.put, List.setIfInBounds_toArray, List.set_cons_zero, List.set_cons_succ, i64_w, i32_w]
                              rfl
                            refine take_ (i := 28) (N := some 42) (v := ?_) (a' := ?_) #[true, true, true, true, false, false, true, true, true, true, false, false, true, true, true, true, false, false, true, true, true, true, true, false, false, true, true, true, true, false, false, false, true, false, false, true, true, false, false, false, true, true, false, false, false, true, true, false, false, false, false] rfl rfl (take_ofW HT_.out HW_.out (by kernel_rfl)) (fun _ _ _ h => h) (Or.inl ⟨by rfl, ?_⟩) hHeld ?_ ?_
                            rotate_left
                            · rintro w' ⟨s0, s1, s2, s3, s4, s5, s6, s7, s8⟩
                              go_simp
                              with_reducible rfl
                            rotate_left
                            · simp only [Act.put, List.setIfInBounds_toArray, List.set_cons_zero, List.set_cons_succ, i64_w, i32_w]
                              rfl
                            refine pure_ (i := 29) (N := some 43) (v := ?_) (a' := ?_) #[true, true, true, true, false, false, true, true, true, true, false, false, true, true, true, true, false, false, true, true, true, true, true, false, false, true, true, true, true, true, false, false, true, false, false, true, true, false, false, false, true, true, false, false, false, true, true, false, false, false, false] rfl rfl (any_of HT_.out (by kernel_rfl)) (fun _ _ _ h => h) (Or.inl ⟨by rfl, ?_⟩) ?_ ?_
                            rotate_left
                            · intro w'
                              go_simp
                              with_reducible rfl
                            rotate_left
                            · simp only [Act.put, List.setIfInBounds_toArray, List.set_cons_zero, List.set_cons_succ, i64_w, i32_w]
                              rfl
                            refine take_ (i := 37) (N := some 51) (v := ?_) (a' := ?_) #[true, true, true, true, false, false, true, true, true, true, false, false, true, true, true, true, false, false, true, true, true, true, true, false, false, true, true, true, true, true, false, false, true, false, false, true, true, true, false, false, true, true, false, false, false, true, true, false, false, false, false] rfl rfl (take_ofW HT_.out HW_.out (by kernel_rfl)) (fun _ _ _ h => h) (Or.inl ⟨by rfl, ?_⟩) hHeld ?_ ?_
                            rotate_left
                            · rintro w' ⟨s0, s1, s2, s3, s4, s5, s6, s7, s8⟩
                              go_simp
                              with_reducible rfl
                            rotate_left
                            · simp only [Act.put, List.setIfInBounds_toArray, List.set_cons_zero, List.set_cons_succ, i64_w, i32_w]
                              rfl
                            refine take_ (i := 42) (N := some 56) (v := ?_) (a' := ?_) #[true, true, true, true, false, false, true, true, true, true, false, false, true, true, true, true, false, false, true, true, true, true, true, false, false, true, true, true, true, true, false, false, true, false, false, true, true, true, false, false, true, true, true, false, false, true, true, false, false, false, false] rfl rfl (take_ofW HT_.out HW_.out (by kernel_rfl)) (fun _ _ _ h => h) (Or.inl ⟨by rfl, ?_⟩) hHeld ?_ ?_
                            rotate_left
                            · rintro w' ⟨s0, s1, s2, s3, s4, s5, s6, s7, s8⟩
                              go_simp
                              with_reducible rfl
                            rotate_left
                            · simp only [Act.put, List.setIfInBounds_toArray, List.set_cons_zero, List.set_cons_succ, i64_w, i32_w]
                              rfl
                            refine take_ (i := 47) (N := some 61) (v := ?_) (a' := ?_) #[true, true, true, true, false, false, true, true, true, true, false, false, true, true, true, true, false, false, true, true, true, true, true, false, false, true, true, true, true, true, false, false, true, false, false, true, true, true, false, false, true, true, true, false, false, true, true, true, false, false, false] rfl rfl (take_ofW HT_.out HW_.out (by kernel_rfl)) (fun _ _ _ h => h) (Or.inl ⟨by rfl, ?_⟩) hHeld ?_ ?_
                            rotate_left
                            · rintro w' ⟨s0, s1, s2, s3, s4, s5, s6, s7, s8⟩
                              go_simp
                              with_reducible rfl
                            rotate_left
                            · simp only [Act.put, List.setIfInBounds_toArray, List.set_cons_zero, List.set_cons_succ, i64_w, i32_w]
                              rfl
                            refine one_ (i := 4) (N := some 18) #[true, true, true, true, true, false, true, true, true, true, false, false, true, true, true, true, false, false, true, true, true, true, true, false, false, true, true, true, true, true, false, false, true, false, false, true, true, true, false, false, true, true, true, false, false, true, true, true, false, false, false] rfl rfl (one_of HT_.out (by kernel_rfl)) (by decide) (fun K hK => ?_)
                            refine goes_ Tryd.func27 (by kernel_rfl) rfl #[.int .u64 (IntKind.u64.wrap (a0_0)), .int .i64 1] (by rfl) rfl rfl (by (try simp only [List.map_toArray, List.map_cons, List.map_nil]); first | done | rfl | (simp only [List.length_drop, List.length_take]; rfl)) ?_
                            with_reducible refine (tallystickref14_bytes.calls kj3 (IntKind.u64.wrap (a0_0)) 1 t178 _ A10.out).mono ?_
                            rintro e w32 ⟨rfl, hb⟩
                            refine ⟨_, rfl, ?_⟩
                            have n0_ := zm (blk_below (g := gb176) (o := .cells #[.int .i64 a0_0, .int .i64 a0_1, .int .i64 a0_2, .int .i64 a0_3, .int .i64 a0_4, .slice A0_5 l0_5.length c0_5, .slice A0_6 l0_6.length c0_6, .slice A0_7 l0_7.length c0_7, .bool a0_8] 34 (0, 0)) (by (with_reducible repeat first | refine zk1 ?_ _ | refine zk2 ?_ | refine zk3 ?_ _); exact BK176.out) hb)
                            have n1_ := zm (below_step (by repeat (first | (with_reducible first | exact HB.out | apply zb1 | apply zb2 | apply zb3 | refine zb4 ?_ GE176.out) | exact HB.out)) hb)
                            clear BK176
                            clear HB
                            have BK176 := n0_
                            have HB := n1_
                            clear n0_ n1_
                            (try clear hb)
                            (try clear hb2)
                            (try clear hk)
                            (try clear hi)
                            refine hK.out _ _ ⟨(blk_cell BK176.out 0).trans rfl, (blk_cell BK176.out 1).trans rfl, (blk_cell BK176.out 2).trans rfl, (blk_cell BK176.out 3).trans rfl, (blk_cell BK176.out 4).trans rfl, (blk_cell BK176.out 5).trans rfl, (blk_cell BK176.out 6).trans rfl, (blk_cell BK176.out 7).trans rfl, (blk_cell BK176.out 8).trans rfl⟩ (fun hHeld => ?_)
                            clear hK K
                            refine norm_ (a' := ?_) ?_ ?_
                            rotate_left
                            · show Act.put _ (some 18) _ = _
                              simp only [Act.put, List.setIfInBounds_toArray, List.set_cons_zero, List.set_cons_succ, i64_w, i32_w]
                              rfl
                            refine pure_ (i := 5) (N := some 19) (v := ?_) (a' := ?_) #[true, true, true, true, true, true, true, true, true, true, false, false, true, true, true, true, false, false, true, true, true, true, true, false, false, true, true, true, true, true, false, false, true, false, false, true, true, true, false, false, true, true, true, false, false, true, true, true, false, false, false] rfl rfl (any_of HT_.out (by kernel_rfl)) (fun _ _ _ h => h) (Or.inl ⟨by rfl, ?_⟩) ?_ ?_
                            rotate_left
                            · intro w'
                              go_simp
                              with_reducible rfl
                            rotate_left
                            · simp only [Act.put, List.setIfInBounds_toArray, List.set_cons_zero, List.set_cons_succ, i64_w, i32_w]
                              rfl
                            refine one_ (i := 10) (N := some 24) #[true, true, true, true, true, true, true, true, true, true, true, false, true, true, true, true, false, false, true, true, true, true, true, false, false, true, true, true, true, true, false, false, true, false, false, true, true, true, false, false, true, true, true, false, false, true, true, true, false, false, false] rfl rfl (one_of HT_.out (by kernel_rfl)) (by decide) (fun K hK => ?_)
                            refine goes_ Tryd.func27 (by kernel_rfl) rfl #[.int .u64 (IntKind.u64.wrap (a0_1)), .int .i64 4] (by rfl) rfl rfl (by (try simp only [List.map_toArray, List.map_cons, List.map_nil]); first | done | rfl | (simp only [List.length_drop, List.length_take]; rfl)) ?_
                            with_reducible refine (tallystickref14_bytes.calls kj3 (IntKind.u64.wrap (a0_1)) 4 t179 _ A12.out).mono ?_
                            rintro e w33 ⟨rfl, hb⟩
                            refine ⟨_, rfl, ?_⟩
                            have n0_ := zm (blk_below (g := gb176) (o := .cells #[.int .i64 a0_0, .int .i64 a0_1, .int .i64 a0_2, .int .i64 a0_3, .int .i64 a0_4, .slice A0_5 l0_5.length c0_5, .slice A0_6 l0_6.length c0_6, .slice A0_7 l0_7.length c0_7, .bool a0_8] 34 (0, 0)) (by (with_reducible repeat first | refine zk1 ?_ _ | refine zk2 ?_ | refine zk3 ?_ _); exact BK176.out) hb)
                            have n1_ := zm (below_step (by repeat (first | (with_reducible first | exact HB.out | apply zb1 | apply zb2 | apply zb3 | refine zb4 ?_ GE176.out) | exact HB.out)) hb)
                            clear BK176
                            clear HB
                            have BK176 := n0_
                            have HB := n1_
                            clear n0_ n1_
                            (try clear hb)
                            (try clear hb2)
                            (try clear hk)
                            (try clear hi)
                            refine hK.out _ _ ⟨(blk_cell BK176.out 0).trans rfl, (blk_cell BK176.out 1).trans rfl, (blk_cell BK176.out 2).trans rfl, (blk_cell BK176.out 3).trans rfl, (blk_cell BK176.out 4).trans rfl, (blk_cell BK176.out 5).trans rfl, (blk_cell BK176.out 6).trans rfl, (blk_cell BK176.out 7).trans rfl, (blk_cell BK176.out 8).trans rfl⟩ (fun hHeld => ?_)
                            clear hK K
                            refine norm_ (a' := ?_) ?_ ?_
                            rotate_left
                            · show Act.put _ (some 24) _ = _
                              simp only [Act.put, List.setIfInBounds_toArray, List.set_cons_zero, List.set_cons_succ, i64_w, i32_w]
                              rfl
                            refine pure_ (i := 11) (N := some 25) (v := ?_) (a' := ?_) #[true, true, true, true, true, true, true, true, true, true, true, true, true, true, true, true, false, false, true, true, true, true, true, false, false, true, true, true, true, true, false, false, true, false, false, true, true, true, false, false, true, true, true, false, false, true, true, true, false, false, false] rfl rfl (any_of HT_.out (by kernel_rfl)) (fun _ _ _ h => h) (Or.inl ⟨by rfl, ?_⟩) ?_ ?_
                            rotate_left
                            · intro w'
                              go_simp
                              with_reducible rfl
                            rotate_left
                            · simp only [Act.put, List.setIfInBounds_toArray, List.set_cons_zero, List.set_cons_succ, i64_w, i32_w]
                              rfl
                            refine one_ (i := 16) (N := some 30) #[true, true, true, true, true, true, true, true, true, true, true, true, true, true, true, true, true, false, true, true, true, true, true, false, false, true, true, true, true, true, false, false, true, false, false, true, true, true, false, false, true, true, true, false, false, true, true, true, false, false, false] rfl rfl (one_of HT_.out (by kernel_rfl)) (by decide) (fun K hK => ?_)
                            refine goes_ Tryd.func27 (by kernel_rfl) rfl #[.int .u64 (IntKind.u64.wrap (a0_2)), .int .i64 4] (by rfl) rfl rfl (by (try simp only [List.map_toArray, List.map_cons, List.map_nil]); first | done | rfl | (simp only [List.length_drop, List.length_take]; rfl)) ?_
                            with_reducible refine (tallystickref14_bytes.calls kj3 (IntKind.u64.wrap (a0_2)) 4 t180 _ A14.out).mono ?_
                            rintro e w34 ⟨rfl, hb⟩
                            refine ⟨_, rfl, ?_⟩
                            have n0_ := zm (blk_below (g := gb176) (o := .cells #[.int .i64 a0_0, .int .i64 a0_1, .int .i64 a0_2, .int .i64 a0_3, .int .i64 a0_4, .slice A0_5 l0_5.length c0_5, .slice A0_6 l0_6.length c0_6, .slice A0_7 l0_7.length c0_7, .bool a0_8] 34 (0, 0)) (by (with_reducible repeat first | refine zk1 ?_ _ | refine zk2 ?_ | refine zk3 ?_ _); exact BK176.out) hb)
                            have n1_ := zm (below_step (by repeat (first | (with_reducible first | exact HB.out | apply zb1 | apply zb2 | apply zb3 | refine zb4 ?_ GE176.out) | exact HB.out)) hb)
                            clear BK176
                            clear HB
                            have BK176 := n0_
                            have HB := n1_
                            clear n0_ n1_
                            (try clear hb)
                            (try clear hb2)
                            (try clear hk)
                            (try clear hi)
                            refine hK.out _ _ ⟨(blk_cell BK176.out 0).trans rfl, (blk_cell BK176.out 1).trans rfl, (blk_cell BK176.out 2).trans rfl, (blk_cell BK176.out 3).trans rfl, (blk_cell BK176.out 4).trans rfl, (blk_cell BK176.out 5).trans rfl, (blk_cell BK176.out 6).trans rfl, (blk_cell BK176.out 7).trans rfl, (blk_cell BK176.out 8).trans rfl⟩ (fun hHeld => ?_)
                            clear hK K
                            refine norm_ (a' := ?_) ?_ ?_
                            rotate_left
                            · show Act.put _ (some 30) _ = _
                              simp only [Act.put, List.setIfInBounds_toArray, List.set_cons_zero, List.set_cons_succ, i64_w, i32_w]
                              rfl
                            refine pure_ (i := 17) (N := some 31) (v := ?_) (a' := ?_) #[true, true, true, true, true, true, true, true, true, true, true, true, true, true, true, true, true, true, true, true, true, true, true, false, false, true, true, true, true, true, false, false, true, false, false, true, true, true, false, false, true, true, true, false, false, true, true, true, false, false, false] rfl rfl (any_of HT_.out (by kernel_rfl)) (fun _ _ _ h => h) (Or.inl ⟨by rfl, ?_⟩) ?_ ?_
                            rotate_left
                            · intro w'
                              go_simp
                              with_reducible rfl
                            rotate_left
                            · simp only [Act.put, List.setIfInBounds_toArray, List.set_cons_zero, List.set_cons_succ, i64_w, i32_w]
                              rfl
                            refine one_ (i := 23) (N := some 37) #[true, true, true, true, true, true, true, true, true, true, true, true, true, true, true, true, true, true, true, true, true, true, true, true, false, true, true, true, true, true, false, false, true, false, false, true, true, true, false, false, true, true, true, false, false, true, true, true, false, false, false] rfl rfl (one_of HT_.out (by kernel_rfl)) (by decide) (fun K hK => ?_)
                            refine goes_ Tryd.func27 (by kernel_rfl) rfl #[.int .u64 (IntKind.u64.wrap (a0_3)), .int .i64 4] (by rfl) rfl rfl (by (try simp only [List.map_toArray, List.map_cons, List.map_nil]); first | done | rfl | (simp only [List.length_drop, List.length_take]; rfl)) ?_
                            with_reducible refine (tallystickref14_bytes.calls kj3 (IntKind.u64.wrap (a0_3)) 4 t181 _ A16.out).mono ?_
                            rintro e w35 ⟨rfl, hb⟩
                            refine ⟨_, rfl, ?_⟩
                            have n0_ := zm (blk_below (g := gb176) (o := .cells #[.int .i64 a0_0, .int .i64 a0_1, .int .i64 a0_2, .int .i64 a0_3, .int .i64 a0_4, .slice A0_5 l0_5.length c0_5, .slice A0_6 l0_6.length c0_6, .slice A0_7 l0_7.length c0_7, .bool a0_8] 34 (0, 0)) (by (with_reducible repeat first | refine zk1 ?_ _ | refine zk2 ?_ | refine zk3 ?_ _); exact BK176.out) hb)
                            have n1_ := zm (below_step (by repeat (first | (with_reducible first | exact HB.out | apply zb1 | apply zb2 | apply zb3 | refine zb4 ?_ GE176.out) | exact HB.out)) hb)
                            clear BK176
                            clear HB
                            have BK176 := n0_
                            have HB := n1_
                            clear n0_ n1_
                            (try clear hb)
                            (try clear hb2)
                            (try clear hk)
                            (try clear hi)
                            refine hK.out _ _ ⟨(blk_cell BK176.out 0).trans rfl, (blk_cell BK176.out 1).trans rfl, (blk_cell BK176.out 2).trans rfl, (blk_cell BK176.out 3).trans rfl, (blk_cell BK176.out 4).trans rfl, (blk_cell BK176.out 5).trans rfl, (blk_cell BK176.out 6).trans rfl, (blk_cell BK176.out 7).trans rfl, (blk_cell BK176.out 8).trans rfl⟩ (fun hHeld => ?_)
                            clear hK K
                            refine norm_ (a' := ?_) ?_ ?_
                            rotate_left
                            · show Act.put _ (some 37) _ = _
                              simp only [Act.put, List.setIfInBounds_toArray, List.set_cons_zero, List.set_cons_succ, i64_w, i32_w]
                              rfl
                            refine pure_ (i := 24) (N := some 38) (v := ?_) (a' := ?_) #[true, true, true, true, true, true, true, true, true, true, true, true, true, true, true, true, true, true, true, true, true, true, true, true, true, true, true, true, true, true, false, false, true, false, false, true, true, true, false, false, true, true, true, false, false, true, true, true, false, false, false] rfl rfl (any_of HT_.out (by kernel_rfl)) (fun _ _ _ h => h) (Or.inl ⟨by rfl, ?_⟩) ?_ ?_
                            rotate_left
                            · intro w'
                              go_simp
                              with_reducible rfl
                            rotate_left
                            · simp only [Act.put, List.setIfInBounds_toArray, List.set_cons_zero, List.set_cons_succ, i64_w, i32_w]
                              rfl
                            refine one_ (i := 30) (N := some 44) #[true, true, true, true, true, true, true, true, true, true, true, true, true, true, true, true, true, true, true, true, true, true, true, true, true, true, true, true, true, true, true, false, true, false, false, true, true, true, false, false, true, true, true, false, false, true, true, true, false, false, false] rfl rfl (one_of HT_.out (by kernel_rfl)) (by decide) (fun K hK => ?_)
                            refine goes_ Tryd.func27 (by kernel_rfl) rfl #[.int .u64 (IntKind.u64.wrap (a0_4)), .int .i64 4] (by rfl) rfl rfl (by (try simp only [List.map_toArray, List.map_cons, List.map_nil]); first | done | rfl | (simp only [List.length_drop, List.length_take]; rfl)) ?_
                            with_reducible refine (tallystickref14_bytes.calls kj3 (IntKind.u64.wrap (a0_4)) 4 t182 _ A18.out).mono ?_
                            rintro e w36 ⟨rfl, hb⟩
                            refine ⟨_, rfl, ?_⟩
                            have n0_ := zm (blk_below (g := gb176) (o := .cells #[.int .i64 a0_0, .int .i64 a0_1, .int .i64 a0_2, .int .i64 a0_3, .int .i64 a0_4, .slice A0_5 l0_5.length c0_5, .slice A0_6 l0_6.length c0_6, .slice A0_7 l0_7.length c0_7, .bool a0_8] 34 (0, 0)) (by (with_reducible repeat first | refine zk1 ?_ _ | refine zk2 ?_ | refine zk3 ?_ _); exact BK176.out) hb)
                            have n1_ := zm (below_step (by repeat (first | (with_reducible first | exact HB.out | apply zb1 | apply zb2 | apply zb3 | refine zb4 ?_ GE176.out) | exact HB.out)) hb)
                            clear BK176
                            clear HB
                            have BK176 := n0_
                            have HB := n1_
                            clear n0_ n1_
                            (try clear hb)
                            (try clear hb2)
                            (try clear hk)
                            (try clear hi)
                            refine hK.out _ _ ⟨(blk_cell BK176.out 0).trans rfl, (blk_cell BK176.out 1).trans rfl, (blk_cell BK176.out 2).trans rfl, (blk_cell BK176.out 3).trans rfl, (blk_cell BK176.out 4).trans rfl, (blk_cell BK176.out 5).trans rfl, (blk_cell BK176.out 6).trans rfl, (blk_cell BK176.out 7).trans rfl, (blk_cell BK176.out 8).trans rfl⟩ (fun hHeld => ?_)
                            clear hK K
                            refine norm_ (a' := ?_) ?_ ?_
                            rotate_left
                            · show Act.put _ (some 44) _ = _
                              simp only [Act.put, List.setIfInBounds_toArray, List.set_cons_zero, List.set_cons_succ, i64_w, i32_w]
                              rfl
                            refine pure_ (i := 31) (N := some 45) (v := ?_) (a' := ?_) #[true, true, true, true, true, true, true, true, true, true, true, true, true, true, true, true, true, true, true, true, true, true, true, true, true, true, true, true, true, true, true, true, true, false, false, true, true, true, false, false, true, true, true, false, false, true, true, true, false, false, false] rfl rfl (any_of HT_.out (by kernel_rfl)) (fun _ _ _ h => h) (Or.inl ⟨by rfl, ?_⟩) ?_ ?_
                            rotate_left
                            · intro w'
                              go_simp
                              with_reducible rfl
                            rotate_left
                            · simp only [Act.put, List.setIfInBounds_toArray, List.set_cons_zero, List.set_cons_succ, i64_w, i32_w]
                              rfl
                            refine one_ (i := 33) (N := some 47) #[true, true, true, true, true, true, true, true, true, true, true, true, true, true, true, true, true, true, true, true, true, true, true, true, true, true, true, true, true, true, true, true, true, true, false, true, true, true, false, false, true, true, true, false, false, true, true, true, false, false, false] rfl rfl (one_of HT_.out (by kernel_rfl)) (by decide) (fun K hK => ?_)
                            refine goes_ Tryd.func27 (by kernel_rfl) rfl #[.int .u64 x5_3, .int .i64 1] (by rfl) rfl rfl (by (try simp only [List.map_toArray, List.map_cons, List.map_nil]); first | done | rfl | (simp only [List.length_drop, List.length_take]; rfl)) ?_
                            with_reducible refine (tallystickref14_bytes.calls kj3 x5_3 1 t183 _ A20.out).mono ?_
                            rintro e w37 ⟨rfl, hb⟩
                            refine ⟨_, rfl, ?_⟩
                            have n0_ := zm (blk_below (g := gb176) (o := .cells #[.int .i64 a0_0, .int .i64 a0_1, .int .i64 a0_2, .int .i64 a0_3, .int .i64 a0_4, .slice A0_5 l0_5.length c0_5, .slice A0_6 l0_6.length c0_6, .slice A0_7 l0_7.length c0_7, .bool a0_8] 34 (0, 0)) (by (with_reducible repeat first | refine zk1 ?_ _ | refine zk2 ?_ | refine zk3 ?_ _); exact BK176.out) hb)
                            have n1_ := zm (below_step (by repeat (first | (with_reducible first | exact HB.out | apply zb1 | apply zb2 | apply zb3 | refine zb4 ?_ GE176.out) | exact HB.out)) hb)
                            clear BK176
                            clear HB
                            have BK176 := n0_
                            have HB := n1_
                            clear n0_ n1_
                            (try clear hb)
                            (try clear hb2)
                            (try clear hk)
                            (try clear hi)
                            refine hK.out _ _ ⟨(blk_cell BK176.out 0).trans rfl, (blk_cell BK176.out 1).trans rfl, (blk_cell BK176.out 2).trans rfl, (blk_cell BK176.out 3).trans rfl, (blk_cell BK176.out 4).trans rfl, (blk_cell BK176.out 5).trans rfl, (blk_cell BK176.out 6).trans rfl, (blk_cell BK176.out 7).trans rfl, (blk_cell BK176.out 8).trans rfl⟩ (fun hHeld => ?_)
                            clear hK K
                            refine norm_ (a' := ?_) ?_ ?_
                            rotate_left
                            · show Act.put _ (some 47) _ = _
                              simp only [Act.put, List.setIfInBounds_toArray, List.set_cons_zero, List.set_cons_succ, i64_w, i32_w]
                              rfl
                            refine pure_ (i := 34) (N := some 48) (v := ?_) (a' := ?_) #[true, true, true, true, true, true, true, true, true, true, true, true, true, true, true, true, true, true, true, true, true, true, true, true, true, true, true, true, true, true, true, true, true, true, true, true, true, true, false, false, true, true, true, false, false, true, true, true, false, false, false] rfl rfl (any_of HT_.out (by kernel_rfl)) (fun _ _ _ h => h) (Or.inl ⟨by rfl, ?_⟩) ?_ ?_
                            rotate_left
                            · intro w'
                              go_simp
                              with_reducible rfl
                            rotate_left
                            · simp only [Act.put, List.setIfInBounds_toArray, List.set_cons_zero, List.set_cons_succ, i64_w, i32_w]
                              rfl
                            refine one_ (i := 38) (N := some 52) #[true, true, true, true, true, true, true, true, true, true, true, true, true, true, true, true, true, true, true, true, true, true, true, true, true, true, true, true, true, true, true, true, true, true, true, true, true, true, true, false, true, true, true, false, false, true, true, true, false, false, false] rfl rfl (one_of HT_.out (by kernel_rfl)) (by decide) (fun K hK => ?_)
                            refine goes_ Tryd.func28 (by kernel_rfl) rfl #[.slice A0_5 l0_5.length c0_5] (by rfl) rfl rfl (by (try simp only [List.map_toArray, List.map_cons, List.map_nil]); first | done | rfl | (simp only [List.length_drop, List.length_take]; rfl)) ?_
                            with_reducible refine (tallystickref14_rowBytes.calls kj3 _ _ l0_5 t184 _ ?side1 ?side2 A22.out).mono ?_
                            (case side1 => repeat (first | exact (Kd.C_below HR0_5.out HB.out) | (with_reducible refine Kd.C_alloc ?_ _) | (with_reducible refine Kd.C_drewN ?_ _) | (with_reducible refine Kd.C_drew ?_)))
                            (case side2 => exact HC0_5.out)
                            rintro e w38 ⟨rfl, hb⟩
                            refine ⟨_, rfl, ?_⟩
                            have n0_ := zm (blk_below (g := gb176) (o := .cells #[.int .i64 a0_0, .int .i64 a0_1, .int .i64 a0_2, .int .i64 a0_3, .int .i64 a0_4, .slice A0_5 l0_5.length c0_5, .slice A0_6 l0_6.length c0_6, .slice A0_7 l0_7.length c0_7, .bool a0_8] 34 (0, 0)) (by (with_reducible repeat first | refine zk1 ?_ _ | refine zk2 ?_ | refine zk3 ?_ _); exact BK176.out) hb)
                            have n1_ := zm (below_step (by repeat (first | (with_reducible first | exact HB.out | apply zb1 | apply zb2 | apply zb3 | refine zb4 ?_ GE176.out) | exact HB.out)) hb)
                            clear BK176
                            clear HB
                            have BK176 := n0_
                            have HB := n1_
                            clear n0_ n1_
                            (try clear hb)
                            (try clear hb2)
                            (try clear hk)
                            (try clear hi)
                            refine hK.out _ _ ⟨(blk_cell BK176.out 0).trans rfl, (blk_cell BK176.out 1).trans rfl, (blk_cell BK176.out 2).trans rfl, (blk_cell BK176.out 3).trans rfl, (blk_cell BK176.out 4).trans rfl, (blk_cell BK176.out 5).trans rfl, (blk_cell BK176.out 6).trans rfl, (blk_cell BK176.out 7).trans rfl, (blk_cell BK176.out 8).trans rfl⟩ (fun hHeld => ?_)
                            clear hK K
                            refine norm_ (a' := ?_) ?_ ?_
                            rotate_left
                            · show Act.put _ (some 52) _ = _
                              simp only [Act.put, List.setIfInBounds_toArray, List.set_cons_zero, List.set_cons_succ, i64_w, i32_w]
                              rfl
                            refine pure_ (i := 39) (N := some 53) (v := ?_) (a' := ?_) #[true, true, true, true, true, true, true, true, true, true, true, true, true, true, true, true, true, true, true, true, true, true, true, true, true, true, true, true, true, true, true, true, true, true, true, true, true, true, true, true, true, true, true, false, false, true, true, true, false, false, false] rfl rfl (any_of HT_.out (by kernel_rfl)) (fun _ _ _ h => h) (Or.inl ⟨by rfl, ?_⟩) ?_ ?_
                            rotate_left
                            · intro w'
                              go_simp
                              with_reducible rfl
                            rotate_left
                            · simp only [Act.put, List.setIfInBounds_toArray, List.set_cons_zero, List.set_cons_succ, i64_w, i32_w]
                              rfl
                            refine one_ (i := 43) (N := some 57) #[true, true, true, true, true, true, true, true, true, true, true, true, true, true, true, true, true, true, true, true, true, true, true, true, true, true, true, true, true, true, true, true, true, true, true, true, true, true, true, true, true, true, true, true, false, true, true, true, false, false, false] rfl rfl (one_of HT_.out (by kernel_rfl)) (by decide) (fun K hK => ?_)
                            refine goes_ Tryd.func28 (by kernel_rfl) rfl #[.slice A0_6 l0_6.length c0_6] (by rfl) rfl rfl (by (try simp only [List.map_toArray, List.map_cons, List.map_nil]); first | done | rfl | (simp only [List.length_drop, List.length_take]; rfl)) ?_
                            with_reducible refine (tallystickref14_rowBytes.calls kj3 _ _ l0_6 t185 _ ?side1 ?side2 A24.out).mono ?_
                            (case side1 => repeat (first | exact (Kd.C_below HR0_6.out HB.out) | (with_reducible refine Kd.C_alloc ?_ _) | (with_reducible refine Kd.C_drewN ?_ _) | (with_reducible refine Kd.C_drew ?_)))
                            (case side2 => exact HC0_6.out)
                            rintro e w39 ⟨rfl, hb⟩
                            refine ⟨_, rfl, ?_⟩
                            have n0_ := zm (blk_below (g := gb176) (o := .cells #[.int .i64 a0_0, .int .i64 a0_1, .int .i64 a0_2, .int .i64 a0_3, .int .i64 a0_4, .slice A0_5 l0_5.length c0_5, .slice A0_6 l0_6.length c0_6, .slice A0_7 l0_7.length c0_7, .bool a0_8] 34 (0, 0)) (by (with_reducible repeat first | refine zk1 ?_ _ | refine zk2 ?_ | refine zk3 ?_ _); exact BK176.out) hb)
                            have n1_ := zm (below_step (by repeat (first | (with_reducible first | exact HB.out | apply zb1 | apply zb2 | apply zb3 | refine zb4 ?_ GE176.out) | exact HB.out)) hb)
                            clear BK176
                            clear HB
                            have BK176 := n0_
                            have HB := n1_
                            clear n0_ n1_
                            (try clear hb)
                            (try clear hb2)
                            (try clear hk)
                            (try clear hi)
                            refine hK.out _ _ ⟨(blk_cell BK176.out 0).trans rfl, (blk_cell BK176.out 1).trans rfl, (blk_cell BK176.out 2).trans rfl, (blk_cell BK176.out 3).trans rfl, (blk_cell BK176.out 4).trans rfl, (blk_cell BK176.out 5).trans rfl, (blk_cell BK176.out 6).trans rfl, (blk_cell BK176.out 7).trans rfl, (blk_cell BK176.out 8).trans rfl⟩ (fun hHeld => ?_)
                            clear hK K
                            refine norm_ (a' := ?_) ?_ ?_
                            rotate_left
                            · show Act.put _ (some 57) _ = _
                              simp only [Act.put, List.setIfInBounds_toArray, List.set_cons_zero, List.set_cons_succ, i64_w, i32_w]
                              rfl
                            refine pure_ (i := 44) (N := some 58) (v := ?_) (a' := ?_) #[true, true, true, true, true, true, true, true, true, true, true, true, true, true, true, true, true, true, true, true, true, true, true, true, true, true, true, true, true, true, true, true, true, true, true, true, true, true, true, true, true, true, true, true, true, true, true, true, false, false, false] rfl rfl (any_of HT_.out (by kernel_rfl)) (fun _ _ _ h => h) (Or.inl ⟨by rfl, ?_⟩) ?_ ?_
                            rotate_left
                            · intro w'
                              go_simp
                              with_reducible rfl
                            rotate_left
                            · simp only [Act.put, List.setIfInBounds_toArray, List.set_cons_zero, List.set_cons_succ, i64_w, i32_w]
                              rfl
                            refine one_ (i := 48) (N := some 62) #[true, true, true, true, true, true, true, true, true, true, true, true, true, true, true, true, true, true, true, true, true, true, true, true, true, true, true, true, true, true, true, true, true, true, true, true, true, true, true, true, true, true, true, true, true, true, true, true, true, false, false] rfl rfl (one_of HT_.out (by kernel_rfl)) (by decide) (fun K hK => ?_)
                            refine goes_ Tryd.func28 (by kernel_rfl) rfl #[.slice A0_7 l0_7.length c0_7] (by rfl) rfl rfl (by (try simp only [List.map_toArray, List.map_cons, List.map_nil]); first | done | rfl | (simp only [List.length_drop, List.length_take]; rfl)) ?_
                            with_reducible refine (tallystickref14_rowBytes.calls kj3 _ _ l0_7 t186 _ ?side1 ?side2 A26.out).mono ?_
                            (case side1 => repeat (first | exact (Kd.C_below HR0_7.out HB.out) | (with_reducible refine Kd.C_alloc ?_ _) | (with_reducible refine Kd.C_drewN ?_ _) | (with_reducible refine Kd.C_drew ?_)))
                            (case side2 => exact HC0_7.out)
                            rintro e w40 ⟨rfl, hb⟩
                            refine ⟨_, rfl, ?_⟩
                            have n0_ := zm (blk_below (g := gb176) (o := .cells #[.int .i64 a0_0, .int .i64 a0_1, .int .i64 a0_2, .int .i64 a0_3, .int .i64 a0_4, .slice A0_5 l0_5.length c0_5, .slice A0_6 l0_6.length c0_6, .slice A0_7 l0_7.length c0_7, .bool a0_8] 34 (0, 0)) (by (with_reducible repeat first | refine zk1 ?_ _ | refine zk2 ?_ | refine zk3 ?_ _); exact BK176.out) hb)
                            have n1_ := zm (below_step (by repeat (first | (with_reducible first | exact HB.out | apply zb1 | apply zb2 | apply zb3 | refine zb4 ?_ GE176.out) | exact HB.out)) hb)
                            clear BK176
                            clear HB
                            have BK176 := n0_
                            have HB := n1_
                            clear n0_ n1_
                            (try clear hb)
                            (try clear hb2)
                            (try clear hk)
                            (try clear hi)
                            refine hK.out _ _ ⟨(blk_cell BK176.out 0).trans rfl, (blk_cell BK176.out 1).trans rfl, (blk_cell BK176.out 2).trans rfl, (blk_cell BK176.out 3).trans rfl, (blk_cell BK176.out 4).trans rfl, (blk_cell BK176.out 5).trans rfl, (blk_cell BK176.out 6).trans rfl, (blk_cell BK176.out 7).trans rfl, (blk_cell BK176.out 8).trans rfl⟩ (fun hHeld => ?_)
                            clear hK K
                            refine norm_ (a' := ?_) ?_ ?_
                            rotate_left
                            · show Act.put _ (some 62) _ = _
                              simp only [Act.put, List.setIfInBounds_toArray, List.set_cons_zero, List.set_cons_succ, i64_w, i32_w]
                              rfl
                            refine pure_ (i := 49) (N := some 63) (v := ?_) (a' := ?_) #[true, true, true, true, true, true, true, true, true, true, true, true, true, true, true, true, true, true, true, true, true, true, true, true, true, true, true, true, true, true, true, true, true, true, true, true, true, true, true, true, true, true, true, true, true, true, true, true, true, true, false] rfl rfl (any_of HT_.out (by kernel_rfl)) (fun _ _ _ h => h) (Or.inl ⟨by rfl, ?_⟩) ?_ ?_
                            rotate_left
                            · intro w'
                              go_simp
                              with_reducible rfl
                            rotate_left
                            · simp only [Act.put, List.setIfInBounds_toArray, List.set_cons_zero, List.set_cons_succ, i64_w, i32_w]
                              rfl
                            refine pure_ (i := 50) (N := some 6) (v := ?_) (a' := ?_) #[true, true, true, true, true, true, true, true, true, true, true, true, true, true, true, true, true, true, true, true, true, true, true, true, true, true, true, true, true, true, true, true, true, true, true, true, true, true, true, true, true, true, true, true, true, true, true, true, true, true, true] rfl rfl (any_of HT_.out (by kernel_rfl)) (fun _ _ _ h => h) (Or.inl ⟨by rfl, ?_⟩) ?_ ?_
                            rotate_left
                            · intro w'
                              go_simp
                              with_reducible rfl
                            rotate_left
                            · simp only [Act.put, List.setIfInBounds_toArray, List.set_cons_zero, List.set_cons_succ, i64_w, i32_w]
                              rfl
                            refine done_ (done_of HT_.out (by kernel_rfl)) ?_
                            try go_wp2_with (first | ((with_reducible refine gate_callee (f := 19) rfl ?_); refine goesL_ (some 66) rfl rfl Tryd.func19 (by kernel_rfl) rfl #[.string ((((((((((⟨#[84, 65, 76, 89]⟩ : ByteArray) ++ t178) ++ t179) ++ t180) ++ t181) ++ t182) ++ t183) ++ t184) ++ t185) ++ t186)] rfl (by (try simp only [List.map_toArray, List.map_cons, List.map_nil]); first | done | rfl | (simp only [List.length_drop, List.length_take]; rfl)) ?_; (with_reducible refine (tallystickref14_Sum.calls kj3 ((((((((((⟨#[84, 65, 76, 89]⟩ : ByteArray) ++ t178) ++ t179) ++ t180) ++ t181) ++ t182) ++ t183) ++ t184) ++ t185) ++ t186) t187 _ A28.out).mono ?_); rintro e w' ⟨rfl, ⟨nd, rfl⟩⟩; refine ⟨_, rfl, ?_⟩) | ((with_reducible refine gate_callee (f := 27) rfl ?_); refine goesL_ (some 68) rfl rfl Tryd.func27 (by kernel_rfl) rfl #[.int .u64 (IntKind.u64.wrap (t187)), .int .i64 4] rfl (by (try simp only [List.map_toArray, List.map_cons, List.map_nil]); first | done | rfl | (simp only [List.length_drop, List.length_take]; rfl)) ?_; (with_reducible refine (tallystickref14_bytes.calls kj3 (IntKind.u64.wrap (t187)) 4 t188 _ A29.out).mono ?_); rintro e w41 ⟨rfl, hb⟩; refine ⟨_, rfl, ?_⟩; have n0_ := zm (blk_below (g := gb176) (o := .cells #[.int .i64 a0_0, .int .i64 a0_1, .int .i64 a0_2, .int .i64 a0_3, .int .i64 a0_4, .slice A0_5 l0_5.length c0_5, .slice A0_6 l0_6.length c0_6, .slice A0_7 l0_7.length c0_7, .bool a0_8] 34 (0, 0)) (by (with_reducible repeat first | refine zk1 ?_ _ | refine zk2 ?_ | refine zk3 ?_ _); exact BK176.out) hb); have n1_ := zm (below_step (by repeat (first | (with_reducible first | exact HB.out | apply zb1 | apply zb2 | apply zb3 | refine zb4 ?_ GE176.out) | exact HB.out)) hb); clear BK176 HB; have BK176 := n0_; have HB := n1_; clear n0_ n1_; (try clear hb); (try clear hb2); (try clear hk); (try clear hi)))
                            go_ret2
                            exact ⟨by first | rfl | (simp [errW_none, errW_some] <;> rfl) | (simp [*, errW_none, errW_some] <;> rfl), by repeat (first | (with_reducible first | exact HB.out | apply zb1 | apply zb2 | apply zb3 | refine zb4 ?_ GE176.out) | exact HB.out)⟩
                          · rw [if_neg c30] at H
                            exact absurd H (by simp)
                        · rw [if_neg c27] at H
                          exact absurd H (by simp)
                      · rw [if_neg c25] at H
                        exact absurd H (by simp)
                    · rw [if_neg c23] at H
                      exact absurd H (by simp)
                  · rw [if_neg c21] at H
                    exact absurd H (by simp)
                · rw [if_neg c19] at H
                  exact absurd H (by simp)
              · rw [if_neg c17] at H
                exact absurd H (by simp)
            · rw [if_neg c15] at H
              exact absurd H (by simp)
          · rw [if_neg c13] at H
            exact absurd H (by simp)
        · rw [if_neg c11] at H
          exact absurd H (by simp)
  · replace c3 := Bool.eq_false_iff.mpr c3
    subst c3
    have H1 : (some ((⟨#[]⟩ : ByteArray), 1)) = some (r1, r2) := by rw [if_neg (show ¬ (false = true) by decide)] at H; exact H
    clear H
    have H := H1
    clear H1
    simp only [Option.some.injEq, Prod.mk.injEq] at H
    obtain ⟨rfl, rfl⟩ := H
    go_enter Tryd.func13, Tryd.ntmps13
    go_wp2_with (first | ((with_reducible refine gate_dst (N := 1) rfl ?_); refine box_event ?hg (N := 1) ?hd (cs := #[.int .i64 a0_0, .int .i64 a0_1, .int .i64 a0_2, .int .i64 a0_3, .int .i64 a0_4, .slice A0_5 l0_5.length c0_5, .slice A0_6 l0_6.length c0_6, .slice A0_7 l0_7.length c0_7, .bool a0_8]) (t := 34) ?hr ?_; (case hd => rfl); (case hg => rfl); (case hr => first | (go_simp; done) | (go_simp; rfl)); intro gb176 hg w42 hbox hb; have n0_ := zm (below_step (by repeat (first | (with_reducible first | exact HB.out | apply zb1 | apply zb2 | apply zb3) | exact HB.out)) hb); have n1_ := zm (hbox); have n2_ := zm ((by rw [hg]; exact (below_size (by repeat (first | (with_reducible first | exact HB.out | apply zb1 | apply zb2 | apply zb3) | exact HB.out))) : w.heap.size ≤ gb176)); have n3_ := zm ((by rw [hg]; exact (below_size (by repeat (first | (with_reducible first | exact HB.out | apply zb1 | apply zb2 | apply zb3) | exact HB.out))) : w.heap.size ≤ gb176)); clear HB; have HB := n0_; have BK176 := n1_; have GW176 := n2_; have GE176 := n3_; clear n0_ n1_ n2_ n3_; clear hb hbox hg; have hcz43_0 : w42.cell? ⟨gb176, 0, none⟩ = some (.int .i64 a0_0) := (blk_cell BK176.out 0).trans rfl; have hcz43_1 : w42.cell? ⟨gb176, 1, none⟩ = some (.int .i64 a0_1) := (blk_cell BK176.out 1).trans rfl; have hcz43_2 : w42.cell? ⟨gb176, 2, none⟩ = some (.int .i64 a0_2) := (blk_cell BK176.out 2).trans rfl; have hcz43_3 : w42.cell? ⟨gb176, 3, none⟩ = some (.int .i64 a0_3) := (blk_cell BK176.out 3).trans rfl; have hcz43_4 : w42.cell? ⟨gb176, 4, none⟩ = some (.int .i64 a0_4) := (blk_cell BK176.out 4).trans rfl; have hcz43_5 : w42.cell? ⟨gb176, 5, none⟩ = some (.slice A0_5 l0_5.length c0_5) := (blk_cell BK176.out 5).trans rfl; have hcz43_6 : w42.cell? ⟨gb176, 6, none⟩ = some (.slice A0_6 l0_6.length c0_6) := (blk_cell BK176.out 6).trans rfl; have hcz43_7 : w42.cell? ⟨gb176, 7, none⟩ = some (.slice A0_7 l0_7.length c0_7) := (blk_cell BK176.out 7).trans rfl; have hcz43_8 : w42.cell? ⟨gb176, 8, none⟩ = some (.bool a0_8) := (blk_cell BK176.out 8).trans rfl; have hfz43_0 := blk_frozen BK176.out 0; have hfz43_1 := blk_frozen BK176.out 1; have hfz43_2 := blk_frozen BK176.out 2; have hfz43_3 := blk_frozen BK176.out 3; have hfz43_4 := blk_frozen BK176.out 4; have hfz43_5 := blk_frozen BK176.out 5; have hfz43_6 := blk_frozen BK176.out 6; have hfz43_7 := blk_frozen BK176.out 7; have hfz43_8 := blk_frozen BK176.out 8) | ((with_reducible refine gate_callee (f := 26) rfl ?_); refine goesL_ (some 8) rfl rfl Tryd.func26 (by kernel_rfl) rfl #[.agg #[.int .i64 a0_0, .int .i64 a0_1, .int .i64 a0_2, .int .i64 a0_3, .int .i64 a0_4, .slice A0_5 l0_5.length c0_5, .slice A0_6 l0_6.length c0_6, .slice A0_7 l0_7.length c0_7, .bool a0_8]] rfl (by (try simp only [List.map_toArray, List.map_cons, List.map_nil]); first | done | rfl | (simp only [List.length_drop, List.length_take]; rfl)) ?_; (with_reducible refine (tallystickref14_May.calls a0_0 a0_1 a0_2 a0_3 a0_4 _ _ l0_5 _ _ l0_6 _ _ l0_7 a0_8 false _ ?side1 ?side2 ?side3 ?side4 ?side5 ?side6 A2.out).mono ?_); (case side1 => repeat (first | exact (Kd.C_below HR0_5.out HB.out) | (with_reducible refine Kd.C_alloc ?_ _) | (with_reducible refine Kd.C_drewN ?_ _) | (with_reducible refine Kd.C_drew ?_))); (case side2 => exact HC0_5.out); (case side3 => repeat (first | exact (Kd.C_below HR0_6.out HB.out) | (with_reducible refine Kd.C_alloc ?_ _) | (with_reducible refine Kd.C_drewN ?_ _) | (with_reducible refine Kd.C_drew ?_))); (case side4 => exact HC0_6.out); (case side5 => repeat (first | exact (Kd.C_below HR0_7.out HB.out) | (with_reducible refine Kd.C_alloc ?_ _) | (with_reducible refine Kd.C_drewN ?_ _) | (with_reducible refine Kd.C_drew ?_))); (case side6 => exact HC0_7.out); rintro e w44 ⟨rfl, hb⟩; refine ⟨_, rfl, ?_⟩; have n0_ := zm (blk_below (g := gb176) (o := .cells #[.int .i64 a0_0, .int .i64 a0_1, .int .i64 a0_2, .int .i64 a0_3, .int .i64 a0_4, .slice A0_5 l0_5.length c0_5, .slice A0_6 l0_6.length c0_6, .slice A0_7 l0_7.length c0_7, .bool a0_8] 34 (0, 0)) (by (with_reducible repeat first | refine zk1 ?_ _ | refine zk2 ?_ | refine zk3 ?_ _); exact BK176.out) hb); have n1_ := zm (below_step (by repeat (first | (with_reducible first | exact HB.out | apply zb1 | apply zb2 | apply zb3 | refine zb4 ?_ GE176.out) | exact HB.out)) hb); clear BK176 HB; have BK176 := n0_; have HB := n1_; clear n0_ n1_; (try clear hb); (try clear hb2); (try clear hk); (try clear hi)))
    go_ret2
    exact ⟨by first | rfl | (simp [errW_none, errW_some] <;> rfl) | (simp [*, errW_none, errW_some] <;> rfl), by repeat (first | (with_reducible first | exact HB.out | apply zb1 | apply zb2 | apply zb3 | refine zb4 ?_ GE176.out) | exact HB.out)⟩

end Go.Proofs.YtanjahakoadecaaDoor.Pc
