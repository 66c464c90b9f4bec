/- CrcOthers by hand: bytes that are taken by a job are taken by no other one. -/
import Derived.Test.YtanjahakoadecaaDoorHCrcT
import Derived.Test.YtanjahakoadecaaDoorHCrcL
namespace Go.Proofs.YtanjahakoadecaaDoor.Pb
open Go.RowKit Go.Proofs.YtanjahakoadecaaDoor.Hand Go.Proofs.YtanjahakoadecaaDoorW.PrintWords Go.Proofs.YtanjahakoadecaaDoorW.PrintLast Go.Proofs.YtanjahakoadecaaDoorW.PrintMore Go.Proofs.YtanjahakoadecaaDoor.Num
set_option linter.unusedVariables false
set_option linter.unusedSimpArgs false

/-- Is the record's job this one? -/
abbrev jobB (r : RecF) (a b c : Int) : Bool := (r.1.1 : Int) == a && ((r.1.2.1 : Int) == b && ((r.1.2.2.1 : Int) == c))
/-- The error that Of tells. -/
def ofE (s : ByteArray) (a b c : Int) : Int := if takeE s = 0 then (if jobB (takeR s) a b c = true then 0 else 11) else takeE s
/-- What Of answers, so far as CrcOthers asks. -/
def OfTells (s : ByteArray) (n : Int) (w : World) (e : Ending) (w' : World) : Prop :=
  ∃ x y A l c B m d C k g f, e = .returned (.tuple #[.agg #[.int .i64 x, .int .i64 y, .slice A l c, .slice B m d, .slice C k g, .bool f], .int .i64 n]) ∧ (n = 0 → x = ((takeR s).1.2.2.2.1 : Int) ∧ y = ((takeR s).1.2.2.2.2 : Int)) ∧ Below w.heap.size w w'
theorem crc_of (s : ByteArray) (a b c : Int) (w : World) (hg : w.cell? ⟨0, 0, none⟩ = some (.iface 104 (.agg #[.pointer (some ⟨1, 61, none⟩)]))) (hs : s.size ≤ 4611686018427387904) :
    Calls Tryd.prog 9 #[.string s, .agg #[.int .i64 a, .int .i64 b, .int .i64 c]] w (OfTells s (ofE s a b c) w) := by
  unfold ofE
  by_cases he : takeE s = 0
  · rw [if_pos he]
    cases hj : jobB (takeR s) a b c with
    | false =>
      refine (crc_of_alien s a b c w hg hs he hj).mono ?_
      rintro e w' ⟨rfl, hb⟩
      exact ⟨_, _, _, _, _, _, _, _, _, _, _, _, rfl, fun h => absurd h (by decide), hb⟩
    | true =>
      refine (crc_of_ok s a b c w hg hs he hj).mono ?_
      rintro e w' ⟨AP, AQ, AR, cP, cQ, cR, rfl, hrw, hb⟩
      exact ⟨_, _, _, _, _, _, _, _, _, _, _, _, rfl, fun _ => ⟨rfl, rfl⟩, hb⟩
  · rw [if_neg he]
    refine (crc_of_err s a b c w hg hs he).mono ?_
    rintro e w' ⟨rfl, hb⟩
    exact ⟨_, _, _, _, _, _, _, _, _, _, _, _, rfl, fun h => absurd h he, hb⟩
theorem two0 (w : World) (a0 a1 a2 b0 b1 b2 : Int) : ((w.alloc (.cells #[.int .i64 a0, .int .i64 a1, .int .i64 a2] 23)).alloc (.cells #[.int .i64 b0, .int .i64 b1, .int .i64 b2] 23)).heap[w.heap.size]? = some (.cells #[.int .i64 a0, .int .i64 a1, .int .i64 a2] 23 (0, 0)) := blk_alloc (blk_new _ _) _
theorem two1 (w : World) (a0 a1 a2 b0 b1 b2 : Int) : ((w.alloc (.cells #[.int .i64 a0, .int .i64 a1, .int .i64 a2] 23)).alloc (.cells #[.int .i64 b0, .int .i64 b1, .int .i64 b2] 23)).heap[w.heap.size + 1]? = some (.cells #[.int .i64 b0, .int .i64 b1, .int .i64 b2] 23 (0, 0)) := by
  rw [← World.size_alloc w (.cells #[.int .i64 a0, .int .i64 a1, .int .i64 a2] 23)]
  exact blk_new _ _
set_option maxRecDepth 100000 in
set_option maxHeartbeats 8000000 in
theorem others_err_true (s : ByteArray) (a0 a1 a2 b0 b1 b2 : Int) (w : World) (hg : w.cell? ⟨0, 0, none⟩ = some (.iface 104 (.agg #[.pointer (some ⟨1, 61, none⟩)]))) (hs : s.size ≤ 4611686018427387904) (he : takeE s ≠ 0) (hab : (a0 == b0 && (a1 == b1 && (a2 == b2))) = true) :
    Calls Tryd.prog 3 #[.string s, .agg #[.int .i64 a0, .int .i64 a1, .int .i64 a2], .agg #[.int .i64 b0, .int .i64 b1, .int .i64 b2]] w fun e w' => e = .returned (.bool true) ∧ Below w.heap.size w w' := by
  have HT := Aside0.mk (fun W h => crc_take s W h hs)
  have HA := Aside0.mk (fun W h => crc_of s a0 a1 a2 W h hs)
  have HB := Aside0.mk (fun W h => crc_of s b0 b1 b2 W h hs)
  have HSH := Aside0.mk crc_shown
  have HG := Aside0.mk hg
  have hA0 := Aside0.mk (two0 w a0 a1 a2 b0 b1 b2)
  have hB0 := Aside0.mk (two1 w a0 a1 a2 b0 b1 b2)
  unfold TakeTells at HT
  unfold OfTells at HA HB
  rw [show ofE s a0 a1 a2 = takeE s by unfold ofE; rw [if_neg he]] at HA
  rw [show ofE s b0 b1 b2 = takeE s by unfold ofE; rw [if_neg he]] at HB
  have hqj := eqJob
  have hqr := eqRange
  have hz : ((takeE s) == 0) = false := by rw [beq_eq_false_iff_ne]; exact he
  generalize takeE s = te at *
  generalize takeR s = tr at *
  clear hg
  go_enter Tryd.func3, Tryd.ntmps3
  go_wp2_with (first
    | ((go_at_call 8); (with_reducible refine (HSH.out _).mono ?_); (rintro e w0 ⟨rfl, rfl⟩))
    | ((go_at_call 9); (with_reducible refine (HA.out _ (cell_later' HG.out (below_alloc (below_alloc (Below.refl _ _) _) _))).mono ?_); (rintro e w1 ⟨x1, y1, A1, l1, c1, B1, m1, d1, C1, n1, e1, f1, rfl, hk1, hb1⟩); (have HB1 := Aside0.mk hb1); (have HK1 := Aside0.mk hk1); (have hA1 := Aside0.mk (blk_alloc (blk_below hA0.out hb1) (.cells #[.int .i64 x1, .int .i64 y1, .slice A1 l1 c1, .slice B1 m1 d1, .slice C1 n1 e1, .bool f1] 29))); (have hB1 := Aside0.mk (blk_alloc (blk_below hB0.out hb1) (.cells #[.int .i64 x1, .int .i64 y1, .slice A1 l1 c1, .slice B1 m1 d1, .slice C1 n1 e1, .bool f1] 29))); (have hP1 := Aside0.mk (blk_new w1 (.cells #[.int .i64 x1, .int .i64 y1, .slice A1 l1 c1, .slice B1 m1 d1, .slice C1 n1 e1, .bool f1] 29))); (have q0 := blk_cell hB1.out 0); (have q1 := blk_cell hB1.out 1); (have q2 := blk_cell hB1.out 2); (clear hb1 hk1))
    | ((go_at_call 9); (with_reducible refine (HB.out _ (cell_later' HG.out (below_alloc (below_step (below_alloc (below_alloc (Below.refl _ _) _) _) HB1.out) _))).mono ?_); (rintro e w2 ⟨x2, y2, A2, l2, c2, B2, m2, d2, C2, n2, e2, f2, rfl, hk2, hb2⟩); (have HB2 := Aside0.mk hb2); (have hA2 := Aside0.mk (blk_alloc (blk_below hA1.out hb2) (.cells #[.int .i64 x2, .int .i64 y2, .slice A2 l2 c2, .slice B2 m2 d2, .slice C2 n2 e2, .bool f2] 29))); (have hB2 := Aside0.mk (blk_alloc (blk_below hB1.out hb2) (.cells #[.int .i64 x2, .int .i64 y2, .slice A2 l2 c2, .slice B2 m2 d2, .slice C2 n2 e2, .bool f2] 29))); (have hP2 := Aside0.mk (blk_alloc (blk_below hP1.out hb2) (.cells #[.int .i64 x2, .int .i64 y2, .slice A2 l2 c2, .slice B2 m2 d2, .slice C2 n2 e2, .bool f2] 29))); (clear hb2 hk2 q0 q1 q2))
    | ((go_at_call 10); (with_reducible refine (HT.out _ (cell_later' HG.out (below_alloc (below_step (below_alloc (below_step (below_alloc (below_alloc (Below.refl _ _) _) _) HB1.out) _) HB2.out) _))).mono ?_); (rintro e w3 ⟨AP, AQ, AR, cP, cQ, cR, rfl, hrw, hb3⟩); (have HB3 := Aside0.mk hb3); (have r3 := blk_new w3 (.cells #[.int .i64 (tr.1.1 : Int), .int .i64 (tr.1.2.1 : Int), .int .i64 (tr.1.2.2.1 : Int), .int .i64 (tr.1.2.2.2.1 : Int), .int .i64 (tr.1.2.2.2.2 : Int), .slice AP tr.2.1.1.length cP, .slice AQ tr.2.1.2.1.length cQ, .slice AR tr.2.1.2.2.length cR, .bool tr.2.2] 34)); (have hA3 := blk_alloc (blk_below hA2.out hb3) (.cells #[.int .i64 (tr.1.1 : Int), .int .i64 (tr.1.2.1 : Int), .int .i64 (tr.1.2.2.1 : Int), .int .i64 (tr.1.2.2.2.1 : Int), .int .i64 (tr.1.2.2.2.2 : Int), .slice AP tr.2.1.1.length cP, .slice AQ tr.2.1.2.1.length cQ, .slice AR tr.2.1.2.2.length cR, .bool tr.2.2] 34)); (have hB3 := blk_alloc (blk_below hB2.out hb3) (.cells #[.int .i64 (tr.1.1 : Int), .int .i64 (tr.1.2.1 : Int), .int .i64 (tr.1.2.2.1 : Int), .int .i64 (tr.1.2.2.2.1 : Int), .int .i64 (tr.1.2.2.2.2 : Int), .slice AP tr.2.1.1.length cP, .slice AQ tr.2.1.2.1.length cQ, .slice AR tr.2.1.2.2.length cR, .bool tr.2.2] 34)); (have hP3 := blk_alloc (blk_below hP2.out hb3) (.cells #[.int .i64 (tr.1.1 : Int), .int .i64 (tr.1.2.1 : Int), .int .i64 (tr.1.2.2.1 : Int), .int .i64 (tr.1.2.2.2.1 : Int), .int .i64 (tr.1.2.2.2.2 : Int), .slice AP tr.2.1.1.length cP, .slice AQ tr.2.1.2.1.length cQ, .slice AR tr.2.1.2.2.length cR, .bool tr.2.2] 34)); (have a_0 := blk_cell hA3 0); (have a_1 := blk_cell hA3 1); (have a_2 := blk_cell hA3 2); (have b_0 := blk_cell hB3 0); (have b_1 := blk_cell hB3 1); (have b_2 := blk_cell hB3 2); (have p_0 := blk_cell hP3 0); (have p_1 := blk_cell hP3 1); (have r_0 := blk_cell r3 0); (have r_1 := blk_cell r3 1); (have r_2 := blk_cell r3 2); (have r_3 := blk_cell r3 3); (have r_4 := blk_cell r3 4); (clear hrw hb3 r3 hA3 hB3 hP3)))
  refine bodyPost_ret (results_tmp rfl _ _ _) rfl ?_
  exact ⟨rfl, below_alloc (below_step (below_alloc (below_step (below_alloc (below_step (below_alloc (below_alloc (Below.refl _ _) _) _) HB1.out) _) HB2.out) _) HB3.out) _⟩
set_option maxRecDepth 100000 in
set_option maxHeartbeats 8000000 in
theorem others_err_false (s : ByteArray) (a0 a1 a2 b0 b1 b2 : Int) (w : World) (hg : w.cell? ⟨0, 0, none⟩ = some (.iface 104 (.agg #[.pointer (some ⟨1, 61, none⟩)]))) (hs : s.size ≤ 4611686018427387904) (he : takeE s ≠ 0) (hab : (a0 == b0 && (a1 == b1 && (a2 == b2))) = false) :
    Calls Tryd.prog 3 #[.string s, .agg #[.int .i64 a0, .int .i64 a1, .int .i64 a2], .agg #[.int .i64 b0, .int .i64 b1, .int .i64 b2]] w fun e w' => e = .returned (.bool true) ∧ Below w.heap.size w w' := by
  have HT := Aside0.mk (fun W h => crc_take s W h hs)
  have HA := Aside0.mk (fun W h => crc_of s a0 a1 a2 W h hs)
  have HB := Aside0.mk (fun W h => crc_of s b0 b1 b2 W h hs)
  have HSH := Aside0.mk crc_shown
  have HG := Aside0.mk hg
  have hA0 := Aside0.mk (two0 w a0 a1 a2 b0 b1 b2)
  have hB0 := Aside0.mk (two1 w a0 a1 a2 b0 b1 b2)
  unfold TakeTells at HT
  unfold OfTells at HA HB
  rw [show ofE s a0 a1 a2 = takeE s by unfold ofE; rw [if_neg he]] at HA
  rw [show ofE s b0 b1 b2 = takeE s by unfold ofE; rw [if_neg he]] at HB
  have hqj := eqJob
  have hqr := eqRange
  have hz : ((takeE s) == 0) = false := by rw [beq_eq_false_iff_ne]; exact he
  generalize takeE s = te at *
  generalize takeR s = tr at *
  clear hg
  go_enter Tryd.func3, Tryd.ntmps3
  go_wp2_with (first
    | ((go_at_call 8); (with_reducible refine (HSH.out _).mono ?_); (rintro e w0 ⟨rfl, rfl⟩))
    | ((go_at_call 9); (with_reducible refine (HA.out _ (cell_later' HG.out (below_alloc (below_alloc (Below.refl _ _) _) _))).mono ?_); (rintro e w1 ⟨x1, y1, A1, l1, c1, B1, m1, d1, C1, n1, e1, f1, rfl, hk1, hb1⟩); (have HB1 := Aside0.mk hb1); (have HK1 := Aside0.mk hk1); (have hA1 := Aside0.mk (blk_alloc (blk_below hA0.out hb1) (.cells #[.int .i64 x1, .int .i64 y1, .slice A1 l1 c1, .slice B1 m1 d1, .slice C1 n1 e1, .bool f1] 29))); (have hB1 := Aside0.mk (blk_alloc (blk_below hB0.out hb1) (.cells #[.int .i64 x1, .int .i64 y1, .slice A1 l1 c1, .slice B1 m1 d1, .slice C1 n1 e1, .bool f1] 29))); (have hP1 := Aside0.mk (blk_new w1 (.cells #[.int .i64 x1, .int .i64 y1, .slice A1 l1 c1, .slice B1 m1 d1, .slice C1 n1 e1, .bool f1] 29))); (have q0 := blk_cell hB1.out 0); (have q1 := blk_cell hB1.out 1); (have q2 := blk_cell hB1.out 2); (clear hb1 hk1))
    | ((go_at_call 9); (with_reducible refine (HB.out _ (cell_later' HG.out (below_alloc (below_step (below_alloc (below_alloc (Below.refl _ _) _) _) HB1.out) _))).mono ?_); (rintro e w2 ⟨x2, y2, A2, l2, c2, B2, m2, d2, C2, n2, e2, f2, rfl, hk2, hb2⟩); (have HB2 := Aside0.mk hb2); (have hA2 := Aside0.mk (blk_alloc (blk_below hA1.out hb2) (.cells #[.int .i64 x2, .int .i64 y2, .slice A2 l2 c2, .slice B2 m2 d2, .slice C2 n2 e2, .bool f2] 29))); (have hB2 := Aside0.mk (blk_alloc (blk_below hB1.out hb2) (.cells #[.int .i64 x2, .int .i64 y2, .slice A2 l2 c2, .slice B2 m2 d2, .slice C2 n2 e2, .bool f2] 29))); (have hP2 := Aside0.mk (blk_alloc (blk_below hP1.out hb2) (.cells #[.int .i64 x2, .int .i64 y2, .slice A2 l2 c2, .slice B2 m2 d2, .slice C2 n2 e2, .bool f2] 29))); (clear hb2 hk2 q0 q1 q2))
    | ((go_at_call 10); (with_reducible refine (HT.out _ (cell_later' HG.out (below_alloc (below_step (below_alloc (below_step (below_alloc (below_alloc (Below.refl _ _) _) _) HB1.out) _) HB2.out) _))).mono ?_); (rintro e w3 ⟨AP, AQ, AR, cP, cQ, cR, rfl, hrw, hb3⟩); (have HB3 := Aside0.mk hb3); (have r3 := blk_new w3 (.cells #[.int .i64 (tr.1.1 : Int), .int .i64 (tr.1.2.1 : Int), .int .i64 (tr.1.2.2.1 : Int), .int .i64 (tr.1.2.2.2.1 : Int), .int .i64 (tr.1.2.2.2.2 : Int), .slice AP tr.2.1.1.length cP, .slice AQ tr.2.1.2.1.length cQ, .slice AR tr.2.1.2.2.length cR, .bool tr.2.2] 34)); (have hA3 := blk_alloc (blk_below hA2.out hb3) (.cells #[.int .i64 (tr.1.1 : Int), .int .i64 (tr.1.2.1 : Int), .int .i64 (tr.1.2.2.1 : Int), .int .i64 (tr.1.2.2.2.1 : Int), .int .i64 (tr.1.2.2.2.2 : Int), .slice AP tr.2.1.1.length cP, .slice AQ tr.2.1.2.1.length cQ, .slice AR tr.2.1.2.2.length cR, .bool tr.2.2] 34)); (have hB3 := blk_alloc (blk_below hB2.out hb3) (.cells #[.int .i64 (tr.1.1 : Int), .int .i64 (tr.1.2.1 : Int), .int .i64 (tr.1.2.2.1 : Int), .int .i64 (tr.1.2.2.2.1 : Int), .int .i64 (tr.1.2.2.2.2 : Int), .slice AP tr.2.1.1.length cP, .slice AQ tr.2.1.2.1.length cQ, .slice AR tr.2.1.2.2.length cR, .bool tr.2.2] 34)); (have hP3 := blk_alloc (blk_below hP2.out hb3) (.cells #[.int .i64 (tr.1.1 : Int), .int .i64 (tr.1.2.1 : Int), .int .i64 (tr.1.2.2.1 : Int), .int .i64 (tr.1.2.2.2.1 : Int), .int .i64 (tr.1.2.2.2.2 : Int), .slice AP tr.2.1.1.length cP, .slice AQ tr.2.1.2.1.length cQ, .slice AR tr.2.1.2.2.length cR, .bool tr.2.2] 34)); (have a_0 := blk_cell hA3 0); (have a_1 := blk_cell hA3 1); (have a_2 := blk_cell hA3 2); (have b_0 := blk_cell hB3 0); (have b_1 := blk_cell hB3 1); (have b_2 := blk_cell hB3 2); (have p_0 := blk_cell hP3 0); (have p_1 := blk_cell hP3 1); (have r_0 := blk_cell r3 0); (have r_1 := blk_cell r3 1); (have r_2 := blk_cell r3 2); (have r_3 := blk_cell r3 3); (have r_4 := blk_cell r3 4); (clear hrw hb3 r3 hA3 hB3 hP3)))
  refine bodyPost_ret (results_tmp rfl _ _ _) rfl ?_
  exact ⟨rfl, below_alloc (below_step (below_alloc (below_step (below_alloc (below_step (below_alloc (below_alloc (Below.refl _ _) _) _) HB1.out) _) HB2.out) _) HB3.out) _⟩
set_option maxRecDepth 100000 in
set_option maxHeartbeats 8000000 in
theorem others_0ABE (s : ByteArray) (a0 a1 a2 b0 b1 b2 : Int) (w : World) (hg : w.cell? ⟨0, 0, none⟩ = some (.iface 104 (.agg #[.pointer (some ⟨1, 61, none⟩)]))) (hs : s.size ≤ 4611686018427387904) (he : takeE s = 0) (ha : ((((takeR s).1.1 : Int) == a0 && (((takeR s).1.2.1 : Int) == a1 && (((takeR s).1.2.2.1 : Int) == a2)))) = true) (hb : ((((takeR s).1.1 : Int) == b0 && (((takeR s).1.2.1 : Int) == b1 && (((takeR s).1.2.2.1 : Int) == b2)))) = true) (hab : (a0 == b0 && (a1 == b1 && (a2 == b2))) = true) :
    Calls Tryd.prog 3 #[.string s, .agg #[.int .i64 a0, .int .i64 a1, .int .i64 a2], .agg #[.int .i64 b0, .int .i64 b1, .int .i64 b2]] w fun e w' => e = .returned (.bool true) ∧ Below w.heap.size w w' := by
  have HT := Aside0.mk (fun W h => crc_take s W h hs)
  have HA := Aside0.mk (fun W h => crc_of s a0 a1 a2 W h hs)
  have HB := Aside0.mk (fun W h => crc_of s b0 b1 b2 W h hs)
  have HSH := Aside0.mk crc_shown
  have HG := Aside0.mk hg
  have hA0 := Aside0.mk (two0 w a0 a1 a2 b0 b1 b2)
  have hB0 := Aside0.mk (two1 w a0 a1 a2 b0 b1 b2)
  unfold TakeTells at HT
  unfold OfTells at HA HB
  rw [show ofE s a0 a1 a2 = 0 by unfold ofE; rw [if_pos he, if_pos ha]] at HA
  rw [show ofE s b0 b1 b2 = 0 by unfold ofE; rw [if_pos he, if_pos hb]] at HB
  rw [he] at HT
  have hqj := eqJob
  have hqr := eqRange
  clear he
  generalize takeE s = te at *
  generalize takeR s = tr at *
  clear hg
  go_enter Tryd.func3, Tryd.ntmps3
  go_wp2_with (first
    | ((go_at_call 8); (with_reducible refine (HSH.out _).mono ?_); (rintro e w0 ⟨rfl, rfl⟩))
    | ((go_at_call 9); (with_reducible refine (HA.out _ (cell_later' HG.out (below_alloc (below_alloc (Below.refl _ _) _) _))).mono ?_); (rintro e w1 ⟨x1, y1, A1, l1, c1, B1, m1, d1, C1, n1, e1, f1, rfl, hk1, hb1⟩); (have HB1 := Aside0.mk hb1); (have HK1 := Aside0.mk hk1); (have hA1 := Aside0.mk (blk_alloc (blk_below hA0.out hb1) (.cells #[.int .i64 x1, .int .i64 y1, .slice A1 l1 c1, .slice B1 m1 d1, .slice C1 n1 e1, .bool f1] 29))); (have hB1 := Aside0.mk (blk_alloc (blk_below hB0.out hb1) (.cells #[.int .i64 x1, .int .i64 y1, .slice A1 l1 c1, .slice B1 m1 d1, .slice C1 n1 e1, .bool f1] 29))); (have hP1 := Aside0.mk (blk_new w1 (.cells #[.int .i64 x1, .int .i64 y1, .slice A1 l1 c1, .slice B1 m1 d1, .slice C1 n1 e1, .bool f1] 29))); (have q0 := blk_cell hB1.out 0); (have q1 := blk_cell hB1.out 1); (have q2 := blk_cell hB1.out 2); (clear hb1 hk1))
    | ((go_at_call 9); (with_reducible refine (HB.out _ (cell_later' HG.out (below_alloc (below_step (below_alloc (below_alloc (Below.refl _ _) _) _) HB1.out) _))).mono ?_); (rintro e w2 ⟨x2, y2, A2, l2, c2, B2, m2, d2, C2, n2, e2, f2, rfl, hk2, hb2⟩); (have HB2 := Aside0.mk hb2); (have hA2 := Aside0.mk (blk_alloc (blk_below hA1.out hb2) (.cells #[.int .i64 x2, .int .i64 y2, .slice A2 l2 c2, .slice B2 m2 d2, .slice C2 n2 e2, .bool f2] 29))); (have hB2 := Aside0.mk (blk_alloc (blk_below hB1.out hb2) (.cells #[.int .i64 x2, .int .i64 y2, .slice A2 l2 c2, .slice B2 m2 d2, .slice C2 n2 e2, .bool f2] 29))); (have hP2 := Aside0.mk (blk_alloc (blk_below hP1.out hb2) (.cells #[.int .i64 x2, .int .i64 y2, .slice A2 l2 c2, .slice B2 m2 d2, .slice C2 n2 e2, .bool f2] 29))); (clear hb2 hk2 q0 q1 q2))
    | ((go_at_call 10); (with_reducible refine (HT.out _ (cell_later' HG.out (below_alloc (below_step (below_alloc (below_step (below_alloc (below_alloc (Below.refl _ _) _) _) HB1.out) _) HB2.out) _))).mono ?_); (rintro e w3 ⟨AP, AQ, AR, cP, cQ, cR, rfl, hrw, hb3⟩); (have HB3 := Aside0.mk hb3); (have r3 := blk_new w3 (.cells #[.int .i64 (tr.1.1 : Int), .int .i64 (tr.1.2.1 : Int), .int .i64 (tr.1.2.2.1 : Int), .int .i64 (tr.1.2.2.2.1 : Int), .int .i64 (tr.1.2.2.2.2 : Int), .slice AP tr.2.1.1.length cP, .slice AQ tr.2.1.2.1.length cQ, .slice AR tr.2.1.2.2.length cR, .bool tr.2.2] 34)); (have hA3 := blk_alloc (blk_below hA2.out hb3) (.cells #[.int .i64 (tr.1.1 : Int), .int .i64 (tr.1.2.1 : Int), .int .i64 (tr.1.2.2.1 : Int), .int .i64 (tr.1.2.2.2.1 : Int), .int .i64 (tr.1.2.2.2.2 : Int), .slice AP tr.2.1.1.length cP, .slice AQ tr.2.1.2.1.length cQ, .slice AR tr.2.1.2.2.length cR, .bool tr.2.2] 34)); (have hB3 := blk_alloc (blk_below hB2.out hb3) (.cells #[.int .i64 (tr.1.1 : Int), .int .i64 (tr.1.2.1 : Int), .int .i64 (tr.1.2.2.1 : Int), .int .i64 (tr.1.2.2.2.1 : Int), .int .i64 (tr.1.2.2.2.2 : Int), .slice AP tr.2.1.1.length cP, .slice AQ tr.2.1.2.1.length cQ, .slice AR tr.2.1.2.2.length cR, .bool tr.2.2] 34)); (have hP3 := blk_alloc (blk_below hP2.out hb3) (.cells #[.int .i64 (tr.1.1 : Int), .int .i64 (tr.1.2.1 : Int), .int .i64 (tr.1.2.2.1 : Int), .int .i64 (tr.1.2.2.2.1 : Int), .int .i64 (tr.1.2.2.2.2 : Int), .slice AP tr.2.1.1.length cP, .slice AQ tr.2.1.2.1.length cQ, .slice AR tr.2.1.2.2.length cR, .bool tr.2.2] 34)); (have a_0 := blk_cell hA3 0); (have a_1 := blk_cell hA3 1); (have a_2 := blk_cell hA3 2); (have b_0 := blk_cell hB3 0); (have b_1 := blk_cell hB3 1); (have b_2 := blk_cell hB3 2); (have p_0 := blk_cell hP3 0); (have p_1 := blk_cell hP3 1); (have r_0 := blk_cell r3 0); (have r_1 := blk_cell r3 1); (have r_2 := blk_cell r3 2); (have r_3 := blk_cell r3 3); (have r_4 := blk_cell r3 4); (clear hrw hb3 r3 hA3 hB3 hP3); (obtain ⟨rfl, rfl⟩ := HK1.out (by trivial))))
  refine bodyPost_ret (results_tmp rfl _ _ _) rfl ?_
  exact ⟨rfl, below_alloc (below_step (below_alloc (below_step (below_alloc (below_step (below_alloc (below_alloc (Below.refl _ _) _) _) HB1.out) _) HB2.out) _) HB3.out) _⟩
set_option maxRecDepth 100000 in
set_option maxHeartbeats 8000000 in
theorem others_0AND (s : ByteArray) (a0 a1 a2 b0 b1 b2 : Int) (w : World) (hg : w.cell? ⟨0, 0, none⟩ = some (.iface 104 (.agg #[.pointer (some ⟨1, 61, none⟩)]))) (hs : s.size ≤ 4611686018427387904) (he : takeE s = 0) (ha : ((((takeR s).1.1 : Int) == a0 && (((takeR s).1.2.1 : Int) == a1 && (((takeR s).1.2.2.1 : Int) == a2)))) = true) (hb : ((((takeR s).1.1 : Int) == b0 && (((takeR s).1.2.1 : Int) == b1 && (((takeR s).1.2.2.1 : Int) == b2)))) = false) (hab : (a0 == b0 && (a1 == b1 && (a2 == b2))) = false) :
    Calls Tryd.prog 3 #[.string s, .agg #[.int .i64 a0, .int .i64 a1, .int .i64 a2], .agg #[.int .i64 b0, .int .i64 b1, .int .i64 b2]] w fun e w' => e = .returned (.bool true) ∧ Below w.heap.size w w' := by
  have HT := Aside0.mk (fun W h => crc_take s W h hs)
  have HA := Aside0.mk (fun W h => crc_of s a0 a1 a2 W h hs)
  have HB := Aside0.mk (fun W h => crc_of s b0 b1 b2 W h hs)
  have HSH := Aside0.mk crc_shown
  have HG := Aside0.mk hg
  have hA0 := Aside0.mk (two0 w a0 a1 a2 b0 b1 b2)
  have hB0 := Aside0.mk (two1 w a0 a1 a2 b0 b1 b2)
  unfold TakeTells at HT
  unfold OfTells at HA HB
  rw [show ofE s a0 a1 a2 = 0 by unfold ofE; rw [if_pos he, if_pos ha]] at HA
  rw [show ofE s b0 b1 b2 = 11 by unfold ofE; rw [if_pos he, if_neg (by rw [show jobB (takeR s) b0 b1 b2 = false from hb]; decide)]] at HB
  rw [he] at HT
  have hqj := eqJob
  have hqr := eqRange
  clear he
  generalize takeE s = te at *
  generalize takeR s = tr at *
  clear hg
  go_enter Tryd.func3, Tryd.ntmps3
  go_wp2_with (first
    | ((go_at_call 8); (with_reducible refine (HSH.out _).mono ?_); (rintro e w0 ⟨rfl, rfl⟩))
    | ((go_at_call 9); (with_reducible refine (HA.out _ (cell_later' HG.out (below_alloc (below_alloc (Below.refl _ _) _) _))).mono ?_); (rintro e w1 ⟨x1, y1, A1, l1, c1, B1, m1, d1, C1, n1, e1, f1, rfl, hk1, hb1⟩); (have HB1 := Aside0.mk hb1); (have HK1 := Aside0.mk hk1); (have hA1 := Aside0.mk (blk_alloc (blk_below hA0.out hb1) (.cells #[.int .i64 x1, .int .i64 y1, .slice A1 l1 c1, .slice B1 m1 d1, .slice C1 n1 e1, .bool f1] 29))); (have hB1 := Aside0.mk (blk_alloc (blk_below hB0.out hb1) (.cells #[.int .i64 x1, .int .i64 y1, .slice A1 l1 c1, .slice B1 m1 d1, .slice C1 n1 e1, .bool f1] 29))); (have hP1 := Aside0.mk (blk_new w1 (.cells #[.int .i64 x1, .int .i64 y1, .slice A1 l1 c1, .slice B1 m1 d1, .slice C1 n1 e1, .bool f1] 29))); (have q0 := blk_cell hB1.out 0); (have q1 := blk_cell hB1.out 1); (have q2 := blk_cell hB1.out 2); (clear hb1 hk1))
    | ((go_at_call 9); (with_reducible refine (HB.out _ (cell_later' HG.out (below_alloc (below_step (below_alloc (below_alloc (Below.refl _ _) _) _) HB1.out) _))).mono ?_); (rintro e w2 ⟨x2, y2, A2, l2, c2, B2, m2, d2, C2, n2, e2, f2, rfl, hk2, hb2⟩); (have HB2 := Aside0.mk hb2); (have hA2 := Aside0.mk (blk_alloc (blk_below hA1.out hb2) (.cells #[.int .i64 x2, .int .i64 y2, .slice A2 l2 c2, .slice B2 m2 d2, .slice C2 n2 e2, .bool f2] 29))); (have hB2 := Aside0.mk (blk_alloc (blk_below hB1.out hb2) (.cells #[.int .i64 x2, .int .i64 y2, .slice A2 l2 c2, .slice B2 m2 d2, .slice C2 n2 e2, .bool f2] 29))); (have hP2 := Aside0.mk (blk_alloc (blk_below hP1.out hb2) (.cells #[.int .i64 x2, .int .i64 y2, .slice A2 l2 c2, .slice B2 m2 d2, .slice C2 n2 e2, .bool f2] 29))); (clear hb2 hk2 q0 q1 q2))
    | ((go_at_call 10); (with_reducible refine (HT.out _ (cell_later' HG.out (below_alloc (below_step (below_alloc (below_step (below_alloc (below_alloc (Below.refl _ _) _) _) HB1.out) _) HB2.out) _))).mono ?_); (rintro e w3 ⟨AP, AQ, AR, cP, cQ, cR, rfl, hrw, hb3⟩); (have HB3 := Aside0.mk hb3); (have r3 := blk_new w3 (.cells #[.int .i64 (tr.1.1 : Int), .int .i64 (tr.1.2.1 : Int), .int .i64 (tr.1.2.2.1 : Int), .int .i64 (tr.1.2.2.2.1 : Int), .int .i64 (tr.1.2.2.2.2 : Int), .slice AP tr.2.1.1.length cP, .slice AQ tr.2.1.2.1.length cQ, .slice AR tr.2.1.2.2.length cR, .bool tr.2.2] 34)); (have hA3 := blk_alloc (blk_below hA2.out hb3) (.cells #[.int .i64 (tr.1.1 : Int), .int .i64 (tr.1.2.1 : Int), .int .i64 (tr.1.2.2.1 : Int), .int .i64 (tr.1.2.2.2.1 : Int), .int .i64 (tr.1.2.2.2.2 : Int), .slice AP tr.2.1.1.length cP, .slice AQ tr.2.1.2.1.length cQ, .slice AR tr.2.1.2.2.length cR, .bool tr.2.2] 34)); (have hB3 := blk_alloc (blk_below hB2.out hb3) (.cells #[.int .i64 (tr.1.1 : Int), .int .i64 (tr.1.2.1 : Int), .int .i64 (tr.1.2.2.1 : Int), .int .i64 (tr.1.2.2.2.1 : Int), .int .i64 (tr.1.2.2.2.2 : Int), .slice AP tr.2.1.1.length cP, .slice AQ tr.2.1.2.1.length cQ, .slice AR tr.2.1.2.2.length cR, .bool tr.2.2] 34)); (have hP3 := blk_alloc (blk_below hP2.out hb3) (.cells #[.int .i64 (tr.1.1 : Int), .int .i64 (tr.1.2.1 : Int), .int .i64 (tr.1.2.2.1 : Int), .int .i64 (tr.1.2.2.2.1 : Int), .int .i64 (tr.1.2.2.2.2 : Int), .slice AP tr.2.1.1.length cP, .slice AQ tr.2.1.2.1.length cQ, .slice AR tr.2.1.2.2.length cR, .bool tr.2.2] 34)); (have a_0 := blk_cell hA3 0); (have a_1 := blk_cell hA3 1); (have a_2 := blk_cell hA3 2); (have b_0 := blk_cell hB3 0); (have b_1 := blk_cell hB3 1); (have b_2 := blk_cell hB3 2); (have p_0 := blk_cell hP3 0); (have p_1 := blk_cell hP3 1); (have r_0 := blk_cell r3 0); (have r_1 := blk_cell r3 1); (have r_2 := blk_cell r3 2); (have r_3 := blk_cell r3 3); (have r_4 := blk_cell r3 4); (clear hrw hb3 r3 hA3 hB3 hP3); (obtain ⟨rfl, rfl⟩ := HK1.out (by trivial))))
  refine bodyPost_ret (results_tmp rfl _ _ _) rfl ?_
  exact ⟨rfl, below_alloc (below_step (below_alloc (below_step (below_alloc (below_step (below_alloc (below_alloc (Below.refl _ _) _) _) HB1.out) _) HB2.out) _) HB3.out) _⟩
set_option maxRecDepth 100000 in
set_option maxHeartbeats 8000000 in
theorem others_0NBD (s : ByteArray) (a0 a1 a2 b0 b1 b2 : Int) (w : World) (hg : w.cell? ⟨0, 0, none⟩ = some (.iface 104 (.agg #[.pointer (some ⟨1, 61, none⟩)]))) (hs : s.size ≤ 4611686018427387904) (he : takeE s = 0) (ha : ((((takeR s).1.1 : Int) == a0 && (((takeR s).1.2.1 : Int) == a1 && (((takeR s).1.2.2.1 : Int) == a2)))) = false) (hb : ((((takeR s).1.1 : Int) == b0 && (((takeR s).1.2.1 : Int) == b1 && (((takeR s).1.2.2.1 : Int) == b2)))) = true) (hab : (a0 == b0 && (a1 == b1 && (a2 == b2))) = false) :
    Calls Tryd.prog 3 #[.string s, .agg #[.int .i64 a0, .int .i64 a1, .int .i64 a2], .agg #[.int .i64 b0, .int .i64 b1, .int .i64 b2]] w fun e w' => e = .returned (.bool true) ∧ Below w.heap.size w w' := by
  have HT := Aside0.mk (fun W h => crc_take s W h hs)
  have HA := Aside0.mk (fun W h => crc_of s a0 a1 a2 W h hs)
  have HB := Aside0.mk (fun W h => crc_of s b0 b1 b2 W h hs)
  have HSH := Aside0.mk crc_shown
  have HG := Aside0.mk hg
  have hA0 := Aside0.mk (two0 w a0 a1 a2 b0 b1 b2)
  have hB0 := Aside0.mk (two1 w a0 a1 a2 b0 b1 b2)
  unfold TakeTells at HT
  unfold OfTells at HA HB
  rw [show ofE s a0 a1 a2 = 11 by unfold ofE; rw [if_pos he, if_neg (by rw [show jobB (takeR s) a0 a1 a2 = false from ha]; decide)]] at HA
  rw [show ofE s b0 b1 b2 = 0 by unfold ofE; rw [if_pos he, if_pos hb]] at HB
  rw [he] at HT
  have hqj := eqJob
  have hqr := eqRange
  clear he
  generalize takeE s = te at *
  generalize takeR s = tr at *
  clear hg
  go_enter Tryd.func3, Tryd.ntmps3
  go_wp2_with (first
    | ((go_at_call 8); (with_reducible refine (HSH.out _).mono ?_); (rintro e w0 ⟨rfl, rfl⟩))
    | ((go_at_call 9); (with_reducible refine (HA.out _ (cell_later' HG.out (below_alloc (below_alloc (Below.refl _ _) _) _))).mono ?_); (rintro e w1 ⟨x1, y1, A1, l1, c1, B1, m1, d1, C1, n1, e1, f1, rfl, hk1, hb1⟩); (have HB1 := Aside0.mk hb1); (have HK1 := Aside0.mk hk1); (have hA1 := Aside0.mk (blk_alloc (blk_below hA0.out hb1) (.cells #[.int .i64 x1, .int .i64 y1, .slice A1 l1 c1, .slice B1 m1 d1, .slice C1 n1 e1, .bool f1] 29))); (have hB1 := Aside0.mk (blk_alloc (blk_below hB0.out hb1) (.cells #[.int .i64 x1, .int .i64 y1, .slice A1 l1 c1, .slice B1 m1 d1, .slice C1 n1 e1, .bool f1] 29))); (have hP1 := Aside0.mk (blk_new w1 (.cells #[.int .i64 x1, .int .i64 y1, .slice A1 l1 c1, .slice B1 m1 d1, .slice C1 n1 e1, .bool f1] 29))); (have q0 := blk_cell hB1.out 0); (have q1 := blk_cell hB1.out 1); (have q2 := blk_cell hB1.out 2); (clear hb1 hk1))
    | ((go_at_call 9); (with_reducible refine (HB.out _ (cell_later' HG.out (below_alloc (below_step (below_alloc (below_alloc (Below.refl _ _) _) _) HB1.out) _))).mono ?_); (rintro e w2 ⟨x2, y2, A2, l2, c2, B2, m2, d2, C2, n2, e2, f2, rfl, hk2, hb2⟩); (have HB2 := Aside0.mk hb2); (have hA2 := Aside0.mk (blk_alloc (blk_below hA1.out hb2) (.cells #[.int .i64 x2, .int .i64 y2, .slice A2 l2 c2, .slice B2 m2 d2, .slice C2 n2 e2, .bool f2] 29))); (have hB2 := Aside0.mk (blk_alloc (blk_below hB1.out hb2) (.cells #[.int .i64 x2, .int .i64 y2, .slice A2 l2 c2, .slice B2 m2 d2, .slice C2 n2 e2, .bool f2] 29))); (have hP2 := Aside0.mk (blk_alloc (blk_below hP1.out hb2) (.cells #[.int .i64 x2, .int .i64 y2, .slice A2 l2 c2, .slice B2 m2 d2, .slice C2 n2 e2, .bool f2] 29))); (clear hb2 hk2 q0 q1 q2))
    | ((go_at_call 10); (with_reducible refine (HT.out _ (cell_later' HG.out (below_alloc (below_step (below_alloc (below_step (below_alloc (below_alloc (Below.refl _ _) _) _) HB1.out) _) HB2.out) _))).mono ?_); (rintro e w3 ⟨AP, AQ, AR, cP, cQ, cR, rfl, hrw, hb3⟩); (have HB3 := Aside0.mk hb3); (have r3 := blk_new w3 (.cells #[.int .i64 (tr.1.1 : Int), .int .i64 (tr.1.2.1 : Int), .int .i64 (tr.1.2.2.1 : Int), .int .i64 (tr.1.2.2.2.1 : Int), .int .i64 (tr.1.2.2.2.2 : Int), .slice AP tr.2.1.1.length cP, .slice AQ tr.2.1.2.1.length cQ, .slice AR tr.2.1.2.2.length cR, .bool tr.2.2] 34)); (have hA3 := blk_alloc (blk_below hA2.out hb3) (.cells #[.int .i64 (tr.1.1 : Int), .int .i64 (tr.1.2.1 : Int), .int .i64 (tr.1.2.2.1 : Int), .int .i64 (tr.1.2.2.2.1 : Int), .int .i64 (tr.1.2.2.2.2 : Int), .slice AP tr.2.1.1.length cP, .slice AQ tr.2.1.2.1.length cQ, .slice AR tr.2.1.2.2.length cR, .bool tr.2.2] 34)); (have hB3 := blk_alloc (blk_below hB2.out hb3) (.cells #[.int .i64 (tr.1.1 : Int), .int .i64 (tr.1.2.1 : Int), .int .i64 (tr.1.2.2.1 : Int), .int .i64 (tr.1.2.2.2.1 : Int), .int .i64 (tr.1.2.2.2.2 : Int), .slice AP tr.2.1.1.length cP, .slice AQ tr.2.1.2.1.length cQ, .slice AR tr.2.1.2.2.length cR, .bool tr.2.2] 34)); (have hP3 := blk_alloc (blk_below hP2.out hb3) (.cells #[.int .i64 (tr.1.1 : Int), .int .i64 (tr.1.2.1 : Int), .int .i64 (tr.1.2.2.1 : Int), .int .i64 (tr.1.2.2.2.1 : Int), .int .i64 (tr.1.2.2.2.2 : Int), .slice AP tr.2.1.1.length cP, .slice AQ tr.2.1.2.1.length cQ, .slice AR tr.2.1.2.2.length cR, .bool tr.2.2] 34)); (have a_0 := blk_cell hA3 0); (have a_1 := blk_cell hA3 1); (have a_2 := blk_cell hA3 2); (have b_0 := blk_cell hB3 0); (have b_1 := blk_cell hB3 1); (have b_2 := blk_cell hB3 2); (have p_0 := blk_cell hP3 0); (have p_1 := blk_cell hP3 1); (have r_0 := blk_cell r3 0); (have r_1 := blk_cell r3 1); (have r_2 := blk_cell r3 2); (have r_3 := blk_cell r3 3); (have r_4 := blk_cell r3 4); (clear hrw hb3 r3 hA3 hB3 hP3)))
  refine bodyPost_ret (results_tmp rfl _ _ _) rfl ?_
  exact ⟨rfl, below_alloc (below_step (below_alloc (below_step (below_alloc (below_step (below_alloc (below_alloc (Below.refl _ _) _) _) HB1.out) _) HB2.out) _) HB3.out) _⟩
set_option maxRecDepth 100000 in
set_option maxHeartbeats 8000000 in
theorem others_0NNE (s : ByteArray) (a0 a1 a2 b0 b1 b2 : Int) (w : World) (hg : w.cell? ⟨0, 0, none⟩ = some (.iface 104 (.agg #[.pointer (some ⟨1, 61, none⟩)]))) (hs : s.size ≤ 4611686018427387904) (he : takeE s = 0) (ha : ((((takeR s).1.1 : Int) == a0 && (((takeR s).1.2.1 : Int) == a1 && (((takeR s).1.2.2.1 : Int) == a2)))) = false) (hb : ((((takeR s).1.1 : Int) == b0 && (((takeR s).1.2.1 : Int) == b1 && (((takeR s).1.2.2.1 : Int) == b2)))) = false) (hab : (a0 == b0 && (a1 == b1 && (a2 == b2))) = true) :
    Calls Tryd.prog 3 #[.string s, .agg #[.int .i64 a0, .int .i64 a1, .int .i64 a2], .agg #[.int .i64 b0, .int .i64 b1, .int .i64 b2]] w fun e w' => e = .returned (.bool true) ∧ Below w.heap.size w w' := by
  have HT := Aside0.mk (fun W h => crc_take s W h hs)
  have HA := Aside0.mk (fun W h => crc_of s a0 a1 a2 W h hs)
  have HB := Aside0.mk (fun W h => crc_of s b0 b1 b2 W h hs)
  have HSH := Aside0.mk crc_shown
  have HG := Aside0.mk hg
  have hA0 := Aside0.mk (two0 w a0 a1 a2 b0 b1 b2)
  have hB0 := Aside0.mk (two1 w a0 a1 a2 b0 b1 b2)
  unfold TakeTells at HT
  unfold OfTells at HA HB
  rw [show ofE s a0 a1 a2 = 11 by unfold ofE; rw [if_pos he, if_neg (by rw [show jobB (takeR s) a0 a1 a2 = false from ha]; decide)]] at HA
  rw [show ofE s b0 b1 b2 = 11 by unfold ofE; rw [if_pos he, if_neg (by rw [show jobB (takeR s) b0 b1 b2 = false from hb]; decide)]] at HB
  rw [he] at HT
  have hqj := eqJob
  have hqr := eqRange
  clear he
  generalize takeE s = te at *
  generalize takeR s = tr at *
  clear hg
  go_enter Tryd.func3, Tryd.ntmps3
  go_wp2_with (first
    | ((go_at_call 8); (with_reducible refine (HSH.out _).mono ?_); (rintro e w0 ⟨rfl, rfl⟩))
    | ((go_at_call 9); (with_reducible refine (HA.out _ (cell_later' HG.out (below_alloc (below_alloc (Below.refl _ _) _) _))).mono ?_); (rintro e w1 ⟨x1, y1, A1, l1, c1, B1, m1, d1, C1, n1, e1, f1, rfl, hk1, hb1⟩); (have HB1 := Aside0.mk hb1); (have HK1 := Aside0.mk hk1); (have hA1 := Aside0.mk (blk_alloc (blk_below hA0.out hb1) (.cells #[.int .i64 x1, .int .i64 y1, .slice A1 l1 c1, .slice B1 m1 d1, .slice C1 n1 e1, .bool f1] 29))); (have hB1 := Aside0.mk (blk_alloc (blk_below hB0.out hb1) (.cells #[.int .i64 x1, .int .i64 y1, .slice A1 l1 c1, .slice B1 m1 d1, .slice C1 n1 e1, .bool f1] 29))); (have hP1 := Aside0.mk (blk_new w1 (.cells #[.int .i64 x1, .int .i64 y1, .slice A1 l1 c1, .slice B1 m1 d1, .slice C1 n1 e1, .bool f1] 29))); (have q0 := blk_cell hB1.out 0); (have q1 := blk_cell hB1.out 1); (have q2 := blk_cell hB1.out 2); (clear hb1 hk1))
    | ((go_at_call 9); (with_reducible refine (HB.out _ (cell_later' HG.out (below_alloc (below_step (below_alloc (below_alloc (Below.refl _ _) _) _) HB1.out) _))).mono ?_); (rintro e w2 ⟨x2, y2, A2, l2, c2, B2, m2, d2, C2, n2, e2, f2, rfl, hk2, hb2⟩); (have HB2 := Aside0.mk hb2); (have hA2 := Aside0.mk (blk_alloc (blk_below hA1.out hb2) (.cells #[.int .i64 x2, .int .i64 y2, .slice A2 l2 c2, .slice B2 m2 d2, .slice C2 n2 e2, .bool f2] 29))); (have hB2 := Aside0.mk (blk_alloc (blk_below hB1.out hb2) (.cells #[.int .i64 x2, .int .i64 y2, .slice A2 l2 c2, .slice B2 m2 d2, .slice C2 n2 e2, .bool f2] 29))); (have hP2 := Aside0.mk (blk_alloc (blk_below hP1.out hb2) (.cells #[.int .i64 x2, .int .i64 y2, .slice A2 l2 c2, .slice B2 m2 d2, .slice C2 n2 e2, .bool f2] 29))); (clear hb2 hk2 q0 q1 q2))
    | ((go_at_call 10); (with_reducible refine (HT.out _ (cell_later' HG.out (below_alloc (below_step (below_alloc (below_step (below_alloc (below_alloc (Below.refl _ _) _) _) HB1.out) _) HB2.out) _))).mono ?_); (rintro e w3 ⟨AP, AQ, AR, cP, cQ, cR, rfl, hrw, hb3⟩); (have HB3 := Aside0.mk hb3); (have r3 := blk_new w3 (.cells #[.int .i64 (tr.1.1 : Int), .int .i64 (tr.1.2.1 : Int), .int .i64 (tr.1.2.2.1 : Int), .int .i64 (tr.1.2.2.2.1 : Int), .int .i64 (tr.1.2.2.2.2 : Int), .slice AP tr.2.1.1.length cP, .slice AQ tr.2.1.2.1.length cQ, .slice AR tr.2.1.2.2.length cR, .bool tr.2.2] 34)); (have hA3 := blk_alloc (blk_below hA2.out hb3) (.cells #[.int .i64 (tr.1.1 : Int), .int .i64 (tr.1.2.1 : Int), .int .i64 (tr.1.2.2.1 : Int), .int .i64 (tr.1.2.2.2.1 : Int), .int .i64 (tr.1.2.2.2.2 : Int), .slice AP tr.2.1.1.length cP, .slice AQ tr.2.1.2.1.length cQ, .slice AR tr.2.1.2.2.length cR, .bool tr.2.2] 34)); (have hB3 := blk_alloc (blk_below hB2.out hb3) (.cells #[.int .i64 (tr.1.1 : Int), .int .i64 (tr.1.2.1 : Int), .int .i64 (tr.1.2.2.1 : Int), .int .i64 (tr.1.2.2.2.1 : Int), .int .i64 (tr.1.2.2.2.2 : Int), .slice AP tr.2.1.1.length cP, .slice AQ tr.2.1.2.1.length cQ, .slice AR tr.2.1.2.2.length cR, .bool tr.2.2] 34)); (have hP3 := blk_alloc (blk_below hP2.out hb3) (.cells #[.int .i64 (tr.1.1 : Int), .int .i64 (tr.1.2.1 : Int), .int .i64 (tr.1.2.2.1 : Int), .int .i64 (tr.1.2.2.2.1 : Int), .int .i64 (tr.1.2.2.2.2 : Int), .slice AP tr.2.1.1.length cP, .slice AQ tr.2.1.2.1.length cQ, .slice AR tr.2.1.2.2.length cR, .bool tr.2.2] 34)); (have a_0 := blk_cell hA3 0); (have a_1 := blk_cell hA3 1); (have a_2 := blk_cell hA3 2); (have b_0 := blk_cell hB3 0); (have b_1 := blk_cell hB3 1); (have b_2 := blk_cell hB3 2); (have p_0 := blk_cell hP3 0); (have p_1 := blk_cell hP3 1); (have r_0 := blk_cell r3 0); (have r_1 := blk_cell r3 1); (have r_2 := blk_cell r3 2); (have r_3 := blk_cell r3 3); (have r_4 := blk_cell r3 4); (clear hrw hb3 r3 hA3 hB3 hP3)))
  refine bodyPost_ret (results_tmp rfl _ _ _) rfl ?_
  exact ⟨rfl, below_alloc (below_step (below_alloc (below_step (below_alloc (below_step (below_alloc (below_alloc (Below.refl _ _) _) _) HB1.out) _) HB2.out) _) HB3.out) _⟩
set_option maxRecDepth 100000 in
set_option maxHeartbeats 8000000 in
theorem others_0NND (s : ByteArray) (a0 a1 a2 b0 b1 b2 : Int) (w : World) (hg : w.cell? ⟨0, 0, none⟩ = some (.iface 104 (.agg #[.pointer (some ⟨1, 61, none⟩)]))) (hs : s.size ≤ 4611686018427387904) (he : takeE s = 0) (ha : ((((takeR s).1.1 : Int) == a0 && (((takeR s).1.2.1 : Int) == a1 && (((takeR s).1.2.2.1 : Int) == a2)))) = false) (hb : ((((takeR s).1.1 : Int) == b0 && (((takeR s).1.2.1 : Int) == b1 && (((takeR s).1.2.2.1 : Int) == b2)))) = false) (hab : (a0 == b0 && (a1 == b1 && (a2 == b2))) = false) :
    Calls Tryd.prog 3 #[.string s, .agg #[.int .i64 a0, .int .i64 a1, .int .i64 a2], .agg #[.int .i64 b0, .int .i64 b1, .int .i64 b2]] w fun e w' => e = .returned (.bool true) ∧ Below w.heap.size w w' := by
  have HT := Aside0.mk (fun W h => crc_take s W h hs)
  have HA := Aside0.mk (fun W h => crc_of s a0 a1 a2 W h hs)
  have HB := Aside0.mk (fun W h => crc_of s b0 b1 b2 W h hs)
  have HSH := Aside0.mk crc_shown
  have HG := Aside0.mk hg
  have hA0 := Aside0.mk (two0 w a0 a1 a2 b0 b1 b2)
  have hB0 := Aside0.mk (two1 w a0 a1 a2 b0 b1 b2)
  unfold TakeTells at HT
  unfold OfTells at HA HB
  rw [show ofE s a0 a1 a2 = 11 by unfold ofE; rw [if_pos he, if_neg (by rw [show jobB (takeR s) a0 a1 a2 = false from ha]; decide)]] at HA
  rw [show ofE s b0 b1 b2 = 11 by unfold ofE; rw [if_pos he, if_neg (by rw [show jobB (takeR s) b0 b1 b2 = false from hb]; decide)]] at HB
  rw [he] at HT
  have hqj := eqJob
  have hqr := eqRange
  clear he
  generalize takeE s = te at *
  generalize takeR s = tr at *
  clear hg
  go_enter Tryd.func3, Tryd.ntmps3
  go_wp2_with (first
    | ((go_at_call 8); (with_reducible refine (HSH.out _).mono ?_); (rintro e w0 ⟨rfl, rfl⟩))
    | ((go_at_call 9); (with_reducible refine (HA.out _ (cell_later' HG.out (below_alloc (below_alloc (Below.refl _ _) _) _))).mono ?_); (rintro e w1 ⟨x1, y1, A1, l1, c1, B1, m1, d1, C1, n1, e1, f1, rfl, hk1, hb1⟩); (have HB1 := Aside0.mk hb1); (have HK1 := Aside0.mk hk1); (have hA1 := Aside0.mk (blk_alloc (blk_below hA0.out hb1) (.cells #[.int .i64 x1, .int .i64 y1, .slice A1 l1 c1, .slice B1 m1 d1, .slice C1 n1 e1, .bool f1] 29))); (have hB1 := Aside0.mk (blk_alloc (blk_below hB0.out hb1) (.cells #[.int .i64 x1, .int .i64 y1, .slice A1 l1 c1, .slice B1 m1 d1, .slice C1 n1 e1, .bool f1] 29))); (have hP1 := Aside0.mk (blk_new w1 (.cells #[.int .i64 x1, .int .i64 y1, .slice A1 l1 c1, .slice B1 m1 d1, .slice C1 n1 e1, .bool f1] 29))); (have q0 := blk_cell hB1.out 0); (have q1 := blk_cell hB1.out 1); (have q2 := blk_cell hB1.out 2); (clear hb1 hk1))
    | ((go_at_call 9); (with_reducible refine (HB.out _ (cell_later' HG.out (below_alloc (below_step (below_alloc (below_alloc (Below.refl _ _) _) _) HB1.out) _))).mono ?_); (rintro e w2 ⟨x2, y2, A2, l2, c2, B2, m2, d2, C2, n2, e2, f2, rfl, hk2, hb2⟩); (have HB2 := Aside0.mk hb2); (have hA2 := Aside0.mk (blk_alloc (blk_below hA1.out hb2) (.cells #[.int .i64 x2, .int .i64 y2, .slice A2 l2 c2, .slice B2 m2 d2, .slice C2 n2 e2, .bool f2] 29))); (have hB2 := Aside0.mk (blk_alloc (blk_below hB1.out hb2) (.cells #[.int .i64 x2, .int .i64 y2, .slice A2 l2 c2, .slice B2 m2 d2, .slice C2 n2 e2, .bool f2] 29))); (have hP2 := Aside0.mk (blk_alloc (blk_below hP1.out hb2) (.cells #[.int .i64 x2, .int .i64 y2, .slice A2 l2 c2, .slice B2 m2 d2, .slice C2 n2 e2, .bool f2] 29))); (clear hb2 hk2 q0 q1 q2))
    | ((go_at_call 10); (with_reducible refine (HT.out _ (cell_later' HG.out (below_alloc (below_step (below_alloc (below_step (below_alloc (below_alloc (Below.refl _ _) _) _) HB1.out) _) HB2.out) _))).mono ?_); (rintro e w3 ⟨AP, AQ, AR, cP, cQ, cR, rfl, hrw, hb3⟩); (have HB3 := Aside0.mk hb3); (have r3 := blk_new w3 (.cells #[.int .i64 (tr.1.1 : Int), .int .i64 (tr.1.2.1 : Int), .int .i64 (tr.1.2.2.1 : Int), .int .i64 (tr.1.2.2.2.1 : Int), .int .i64 (tr.1.2.2.2.2 : Int), .slice AP tr.2.1.1.length cP, .slice AQ tr.2.1.2.1.length cQ, .slice AR tr.2.1.2.2.length cR, .bool tr.2.2] 34)); (have hA3 := blk_alloc (blk_below hA2.out hb3) (.cells #[.int .i64 (tr.1.1 : Int), .int .i64 (tr.1.2.1 : Int), .int .i64 (tr.1.2.2.1 : Int), .int .i64 (tr.1.2.2.2.1 : Int), .int .i64 (tr.1.2.2.2.2 : Int), .slice AP tr.2.1.1.length cP, .slice AQ tr.2.1.2.1.length cQ, .slice AR tr.2.1.2.2.length cR, .bool tr.2.2] 34)); (have hB3 := blk_alloc (blk_below hB2.out hb3) (.cells #[.int .i64 (tr.1.1 : Int), .int .i64 (tr.1.2.1 : Int), .int .i64 (tr.1.2.2.1 : Int), .int .i64 (tr.1.2.2.2.1 : Int), .int .i64 (tr.1.2.2.2.2 : Int), .slice AP tr.2.1.1.length cP, .slice AQ tr.2.1.2.1.length cQ, .slice AR tr.2.1.2.2.length cR, .bool tr.2.2] 34)); (have hP3 := blk_alloc (blk_below hP2.out hb3) (.cells #[.int .i64 (tr.1.1 : Int), .int .i64 (tr.1.2.1 : Int), .int .i64 (tr.1.2.2.1 : Int), .int .i64 (tr.1.2.2.2.1 : Int), .int .i64 (tr.1.2.2.2.2 : Int), .slice AP tr.2.1.1.length cP, .slice AQ tr.2.1.2.1.length cQ, .slice AR tr.2.1.2.2.length cR, .bool tr.2.2] 34)); (have a_0 := blk_cell hA3 0); (have a_1 := blk_cell hA3 1); (have a_2 := blk_cell hA3 2); (have b_0 := blk_cell hB3 0); (have b_1 := blk_cell hB3 1); (have b_2 := blk_cell hB3 2); (have p_0 := blk_cell hP3 0); (have p_1 := blk_cell hP3 1); (have r_0 := blk_cell r3 0); (have r_1 := blk_cell r3 1); (have r_2 := blk_cell r3 2); (have r_3 := blk_cell r3 3); (have r_4 := blk_cell r3 4); (clear hrw hb3 r3 hA3 hB3 hP3)))
  refine bodyPost_ret (results_tmp rfl _ _ _) rfl ?_
  exact ⟨rfl, below_alloc (below_step (below_alloc (below_step (below_alloc (below_step (below_alloc (below_alloc (Below.refl _ _) _) _) HB1.out) _) HB2.out) _) HB3.out) _⟩
def tallysticklaw14_CrcOthers.f (l0 : ByteArray) (a1_0 a1_1 a1_2 a2_0 a2_1 a2_2 : Int) : Option Bool := if l0.size ≤ 4611686018427387904 then some true else none
theorem tallysticklaw14_CrcOthers.calls (l0 : ByteArray) (a1_0 a1_1 a1_2 a2_0 a2_1 a2_2 : Int) (r : Bool) (w : World) (HPR : Aside0 (w.cell? ⟨0, 0, none⟩ = some (.iface 104 (.agg #[.pointer (some ⟨1, 61, none⟩)])))) (hr_ : Aside0 (r = true)) (h : tallysticklaw14_CrcOthers.f l0 a1_0 a1_1 a1_2 a2_0 a2_1 a2_2 = some r) :
    Calls Tryd.prog 3 #[.string l0, .agg #[.int .i64 a1_0, .int .i64 a1_1, .int .i64 a1_2], .agg #[.int .i64 a2_0, .int .i64 a2_1, .int .i64 a2_2]] w fun e w' => e = .returned (.bool r) ∧ Below w.heap.size w w' := by
  obtain rfl := hr_.out
  have hg := HPR.out
  unfold tallysticklaw14_CrcOthers.f at h
  split at h
  · rename_i hs
    by_cases he : takeE l0 = 0
    · cases hab : (a1_0 == a2_0 && (a1_1 == a2_1 && (a1_2 == a2_2))) with
      | true =>
        cases ha : (((takeR l0).1.1 : Int) == a1_0 && (((takeR l0).1.2.1 : Int) == a1_1 && (((takeR l0).1.2.2.1 : Int) == a1_2))) <;> cases hb : (((takeR l0).1.1 : Int) == a2_0 && (((takeR l0).1.2.1 : Int) == a2_1 && (((takeR l0).1.2.2.1 : Int) == a2_2)))
        · exact others_0NNE l0 _ _ _ _ _ _ w hg hs he ha hb hab
        · exfalso
          simp only [Bool.and_eq_true, beq_iff_eq, Bool.and_eq_false_iff, beq_eq_false_iff_ne] at hab ha hb
          omega
        · exfalso
          simp only [Bool.and_eq_true, beq_iff_eq, Bool.and_eq_false_iff, beq_eq_false_iff_ne] at hab ha hb
          omega
        · exact others_0ABE l0 _ _ _ _ _ _ w hg hs he ha hb hab
      | false =>
        cases ha : (((takeR l0).1.1 : Int) == a1_0 && (((takeR l0).1.2.1 : Int) == a1_1 && (((takeR l0).1.2.2.1 : Int) == a1_2))) <;> cases hb : (((takeR l0).1.1 : Int) == a2_0 && (((takeR l0).1.2.1 : Int) == a2_1 && (((takeR l0).1.2.2.1 : Int) == a2_2)))
        · exact others_0NND l0 _ _ _ _ _ _ w hg hs he ha hb hab
        · exact others_0NBD l0 _ _ _ _ _ _ w hg hs he ha hb hab
        · exact others_0AND l0 _ _ _ _ _ _ w hg hs he ha hb hab
        · exfalso
          simp only [Bool.and_eq_true, beq_iff_eq, Bool.and_eq_false_iff, beq_eq_false_iff_ne] at hab ha hb
          omega
    · cases hab : (a1_0 == a2_0 && (a1_1 == a2_1 && (a1_2 == a2_2))) with
      | true => exact others_err_true l0 _ _ _ _ _ _ w hg hs he hab
      | false => exact others_err_false l0 _ _ _ _ _ _ w hg hs he hab
  · cases h
end Go.Proofs.YtanjahakoadecaaDoor.Pb
