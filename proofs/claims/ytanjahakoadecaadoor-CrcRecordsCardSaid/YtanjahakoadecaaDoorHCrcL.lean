/- Texts joined into one: each with its own sentence of what is proved, and under which conditions. -/
import Derived.Test.YtanjahakoadecaaDoorHCrcJ
import Derived.Test.YtanjahakoadecaaDoorWEqStruct
/- crc.Take by one contract: the number that it tells and the record are plain functions of the bytes. -/
namespace Go.Proofs.YtanjahakoadecaaDoor.Hand
open Go.RowKit Go.Proofs.YtanjahakoadecaaDoorW.PrintWords Go.Proofs.YtanjahakoadecaaDoorW.PrintMore Go.Proofs.YtanjahakoadecaaDoor.Num
set_option linter.unusedVariables false
set_option linter.unusedSimpArgs false

/-- A record's fields. -/
abbrev RecF : Type := (Nat × Nat × Nat × Nat × Nat) × (List Int × List Int × List Int) × Bool
def noneR : RecF := ((0, 0, 0, 0, 0), ([], [], []), false)
/-- The error that Take tells of bytes. -/
def takeE (s : ByteArray) : Int :=
  if s.size < 8 then 5 else if ((numF (s.extract (s.size - 4) s.size).data.toList 0 : Nat) : Int) = ((4294967295 ^^^ crcFold (s.extract 0 (s.size - 4)).data.toList 4294967295 : Nat) : Int) then
    (if ((s.extract 0 4).toList == [84, 65, 76, 89]) = true then (match (partsF (s.extract 4 (s.size - 4))).2.2.2 with | some e => e | none => 0) else 6) else 7
/-- The record that it tells. -/
def takeR (s : ByteArray) : RecF :=
  if s.size < 8 then noneR else if ((numF (s.extract (s.size - 4) s.size).data.toList 0 : Nat) : Int) = ((4294967295 ^^^ crcFold (s.extract 0 (s.size - 4)).data.toList 4294967295 : Nat) : Int) then
    (if ((s.extract 0 4).toList == [84, 65, 76, 89]) = true then (match (partsF (s.extract 4 (s.size - 4))).2.2.2 with | some _ => noneR | none => ((partsF (s.extract 4 (s.size - 4))).1, (partsF (s.extract 4 (s.size - 4))).2.1, (partsF (s.extract 4 (s.size - 4))).2.2.1)) else noneR) else noneR
/-- A record's value. -/
abbrev recV (r : RecF) (AP AQ AR : Option Addr) (cP cQ cR : Nat) : Value :=
  .agg #[.int .i64 (r.1.1 : Int), .int .i64 (r.1.2.1 : Int), .int .i64 (r.1.2.2.1 : Int), .int .i64 (r.1.2.2.2.1 : Int), .int .i64 (r.1.2.2.2.2 : Int), .slice AP r.2.1.1.length cP, .slice AQ r.2.1.2.1.length cQ, .slice AR r.2.1.2.2.length cR, .bool r.2.2]
/-- What Take answers. -/
def TakeTells (s : ByteArray) (w : World) (e : Ending) (w' : World) : Prop :=
  ∃ AP AQ AR cP cQ cR, e = .returned (.tuple #[recV (takeR s) AP AQ AR cP cQ cR, .int .i64 (takeE s)]) ∧ RW w w' AP AQ AR cP cQ cR (takeR s).2.1.1 (takeR s).2.1.2.1 (takeR s).2.1.2.2 ∧ Below w.heap.size w w'
theorem tells_none {s : ByteArray} {w w' : World} {e : Ending} {n : Int} (hr : takeR s = noneR) (hn : takeE s = n) (he : e = .returned (.tuple #[zeroRec, .int .i64 n])) (hb : Below w.heap.size w w') : TakeTells s w e w' := by
  unfold TakeTells
  rw [hr, hn]
  exact ⟨none, none, none, 0, 0, 0, he, ⟨Kd.R_nil _ _ _ _ _, Kd.R_nil _ _ _ _ _, Kd.R_nil _ _ _ _ _⟩, hb⟩
theorem crc_take (s : ByteArray) (w : World) (hg : w.cell? ⟨0, 0, none⟩ = some (.iface 104 (.agg #[.pointer (some ⟨1, 61, none⟩)]))) (hs : s.size ≤ 4611686018427387904) :
    Calls Tryd.prog 10 #[.string s] w (TakeTells s w) := by
  by_cases h8 : s.size < 8
  · refine (crc_take_short s w h8).mono ?_
    rintro e w' ⟨he, hb⟩
    exact tells_none (by unfold takeR; rw [if_pos h8]) (by unfold takeE; rw [if_pos h8]) he hb
  · by_cases hsum : ((numF (s.extract (s.size - 4) s.size).data.toList 0 : Nat) : Int) = ((4294967295 ^^^ crcFold (s.extract 0 (s.size - 4)).data.toList 4294967295 : Nat) : Int)
    · cases hf : ((s.extract 0 4).toList == [84, 65, 76, 89]) with
      | false =>
        refine (crc_take_form s w (by omega) hs hsum hf).mono ?_
        rintro e w' ⟨he, hb⟩
        exact tells_none (by unfold takeR; rw [if_neg h8, if_pos hsum, if_neg (by rw [hf]; decide)]) (by unfold takeE; rw [if_neg h8, if_pos hsum, if_neg (by rw [hf]; decide)]) he hb
      | true =>
        refine (crc_take_rest s w hg (by omega) hs hsum hf).mono ?_
        rintro e w' ⟨h1, h2, hb⟩
        cases hp : (partsF (s.extract 4 (s.size - 4))).2.2.2 with
        | some e0 =>
          exact tells_none (by unfold takeR; rw [if_neg h8, if_pos hsum, if_pos hf, hp]) (by unfold takeE; rw [if_neg h8, if_pos hsum, if_pos hf, hp]) (h1 e0 hp) hb
        | none =>
          obtain ⟨AP, cP, AQ, cQ, AR, cR, he, hrw⟩ := h2 hp
          unfold TakeTells
          rw [show takeR s = ((partsF (s.extract 4 (s.size - 4))).1, (partsF (s.extract 4 (s.size - 4))).2.1, (partsF (s.extract 4 (s.size - 4))).2.2.1) by unfold takeR; rw [if_neg h8, if_pos hsum, if_pos hf, hp], show takeE s = 0 by unfold takeE; rw [if_neg h8, if_pos hsum, if_pos hf, hp]]
          exact ⟨AP, AQ, AR, cP, cQ, cR, he, hrw, hb⟩
    · refine (crc_take_sum s w (by omega) hs hsum).mono ?_
      rintro e w' ⟨he, hb⟩
      exact tells_none (by unfold takeR; rw [if_neg h8, if_neg hsum]) (by unfold takeE; rw [if_neg h8, if_neg hsum]) he hb
end Go.Proofs.YtanjahakoadecaaDoor.Hand

/- crc.Of by hand: a job's part of bytes. -/
namespace Go.Proofs.YtanjahakoadecaaDoor.Hand
open Go.RowKit Go.Proofs.YtanjahakoadecaaDoorW.PrintWords Go.Proofs.YtanjahakoadecaaDoorW.PrintLast Go.Proofs.YtanjahakoadecaaDoorW.PrintMore Go.Proofs.YtanjahakoadecaaDoor.Num
set_option linter.unusedVariables false
set_option linter.unusedSimpArgs false

theorem eqJob (d : Nat) (w : World) (x0 y0 x1 y1 x2 y2 : Int) :
    (Op.equalIn (d + 2) 23 (.agg #[.int .i64 x0, .int .i64 x1, .int .i64 x2]) (.agg #[.int .i64 y0, .int .i64 y1, .int .i64 y2])).run Tryd.prog w = .ok (x0 == y0 && (x1 == y1 && (x2 == y2))) w := by
  refine eqA_of Tryd.underlying23 (by kernel_rfl) ?_
  refine eqf_cons (by rfl) (by go_simp; rfl) (by go_simp; rfl) (by go_simp) ?_
  refine eqf_cons (by rfl) (by go_simp; rfl) (by go_simp; rfl) (by go_simp) ?_
  exact eqf_last (by rfl) (by go_simp; rfl) (by go_simp; rfl) (by go_simp)
/-- The part that is none. -/
abbrev zeroPart : Value := .agg #[.int .i64 0, .int .i64 0, .slice none 0 0, .slice none 0 0, .slice none 0 0, .bool false]
theorem blk_at1 (w : World) (a b c : Int) : ((w.alloc (.cells #[.int .i64 a, .int .i64 b, .int .i64 c] 23)).alloc (.cells #[.int .i64 0, .int .i64 0, .slice none 0 0, .slice none 0 0, .slice none 0 0, .bool false] 29)).heap[w.heap.size + 1]? = some (.cells #[.int .i64 0, .int .i64 0, .slice none 0 0, .slice none 0 0, .slice none 0 0, .bool false] 29 (0, 0)) := by
  rw [← World.size_alloc w (.cells #[.int .i64 a, .int .i64 b, .int .i64 c] 23)]
  exact blk_new _ _
/-- What stands while the part's cells are written. -/
structure OfS (w0 w : World) (AP AQ AR : Option Addr) (cP cQ cR : Nat) (p q r : List Int) (xs : Array Value) : Prop where
  rw : RW w0 w AP AQ AR cP cQ cR p q r
  bel : Below w0.heap.size w0 w
  res : w.heap[w0.heap.size + 1]? = some (.cells xs 29 (0, 0))
theorem OfS.put {w0 w : World} {AP AQ AR : Option Addr} {cP cQ cR : Nat} {p q r : List Int} {xs : Array Value} (h : OfS w0 w AP AQ AR cP cQ cR p q r xs) (k : Nat) (v : Value) : OfS w0 (w.setCell ⟨w0.heap.size + 1, k, none⟩ v) AP AQ AR cP cQ cR p q r (xs.setIfInBounds k v) := by
  have ht : ∀ x, x ∈ 58 :: (Kd.int .u64).E → x ≠ 29 := by
    intro x hx
    rcases List.mem_singleton.1 hx
    decide
  exact ⟨⟨Kd.R_set h.rw.p h.res ht k v, Kd.R_set h.rw.q h.res ht k v, Kd.R_set h.rw.r h.res ht k v⟩, h.bel.setCell (p := ⟨w0.heap.size + 1, k, none⟩) (by simp) _, set_at h.res⟩
theorem OfS.later {w0 w w1 : World} {AP AQ AR : Option Addr} {cP cQ cR : Nat} {p q r : List Int} {xs : Array Value} (h : OfS w0 w AP AQ AR cP cQ cR p q r xs) (k : Below w.heap.size w w1) : OfS w0 w1 AP AQ AR cP cQ cR p q r xs := ⟨h.rw.later k, h.bel.trans (k.mono h.bel.size), blk_below h.res k⟩
theorem blk_at0 (w : World) (a b c : Int) : ((w.alloc (.cells #[.int .i64 a, .int .i64 b, .int .i64 c] 23)).alloc (.cells #[.int .i64 0, .int .i64 0, .slice none 0 0, .slice none 0 0, .slice none 0 0, .bool false] 29)).heap[w.heap.size]? = some (.cells #[.int .i64 a, .int .i64 b, .int .i64 c] 23 (0, 0)) := blk_alloc (blk_new _ _) _
set_option maxRecDepth 100000 in
set_option maxHeartbeats 4000000 in
theorem crc_of_err (s : ByteArray) (a b c : Int) (w : World) (hg : w.cell? ⟨0, 0, none⟩ = some (.iface 104 (.agg #[.pointer (some ⟨1, 61, none⟩)]))) (hs : s.size ≤ 4611686018427387904) (he : takeE s ≠ 0) :
    Calls Tryd.prog 9 #[.string s, .agg #[.int .i64 a, .int .i64 b, .int .i64 c]] w fun e w' => e = .returned (.tuple #[zeroPart, .int .i64 (takeE s)]) ∧ Below w.heap.size w w' := by
  have HT := Aside0.mk (fun W h => crc_take s W h hs)
  have HG := Aside0.mk hg
  unfold TakeTells at HT
  have hb : ((takeE s) == 0) = false := by rw [beq_eq_false_iff_ne]; exact he
  generalize takeE s = te at *
  generalize takeR s = tr at *
  clear hg
  go_enter Tryd.func9, Tryd.ntmps9
  go_wp2_with ((go_at_call 10); (with_reducible refine (HT.out _ (cell_later' HG.out (below_alloc (below_alloc (Below.refl _ _) _) _))).mono ?_); (rintro e w1 ⟨AP, AQ, AR, cP, cQ, cR, rfl, hrw, hbl⟩); (have HRW := Aside0.mk hrw); (have HBL := Aside0.mk hbl); (have hr1 := blk_below (blk_at1 w a b c) hbl); (have hr2 := blk_alloc hr1 (.cells #[.int .i64 (tr.1.1 : Int), .int .i64 (tr.1.2.1 : Int), .int .i64 (tr.1.2.2.1 : Int), .int .i64 (tr.1.2.2.2.1 : Int), .int .i64 (tr.1.2.2.2.2 : Int), .slice AP tr.2.1.1.length cP, .slice AQ tr.2.1.2.1.length cQ, .slice AR tr.2.1.2.2.length cR, .bool tr.2.2] 34)); (have y0 := blk_cell hr2 0); (have y1 := blk_cell hr2 1); (have y2 := blk_cell hr2 2); (have y3 := blk_cell hr2 3); (have y4 := blk_cell hr2 4); (have y5 := blk_cell hr2 5); (have x0 := blk_frozen hr2 0); (have x1 := blk_frozen hr2 1); (have x2 := blk_frozen hr2 2); (have x3 := blk_frozen hr2 3); (have x4 := blk_frozen hr2 4); (have x5 := blk_frozen hr2 5); (have HR2 := Aside0.mk hr2); (clear hrw hbl hr1 hr2))
  have hf0 : OfS w _ AP AQ AR cP cQ cR tr.2.1.1 tr.2.1.2.1 tr.2.1.2.2 #[.int .i64 0, .int .i64 0, .slice none 0 0, .slice none 0 0, .slice none 0 0, .bool false] := ⟨(HRW.out.lower (by simp; omega)).later (below_alloc (Below.refl _ _) _), (below_alloc (below_alloc (Below.refl _ _) _) _ |>.trans (HBL.out.mono (by simp; omega))) |> fun h => below_alloc h _, HR2.out⟩
  have hf1 : OfS w _ AP AQ AR cP cQ cR tr.2.1.1 tr.2.1.2.1 tr.2.1.2.2 #[.int .i64 0, .int .i64 0, .slice none 0 0, .slice none 0 0, .slice none 0 0, .bool false] := hf0.put 0 (.int .i64 0)
  clear hf0
  have hf2 : OfS w _ AP AQ AR cP cQ cR tr.2.1.1 tr.2.1.2.1 tr.2.1.2.2 #[.int .i64 0, .int .i64 0, .slice none 0 0, .slice none 0 0, .slice none 0 0, .bool false] := hf1.put 1 (.int .i64 0)
  clear hf1
  have hf3 : OfS w _ AP AQ AR cP cQ cR tr.2.1.1 tr.2.1.2.1 tr.2.1.2.2 #[.int .i64 0, .int .i64 0, .slice none 0 0, .slice none 0 0, .slice none 0 0, .bool false] := hf2.put 2 (.slice none 0 0)
  clear hf2
  have hf4 : OfS w _ AP AQ AR cP cQ cR tr.2.1.1 tr.2.1.2.1 tr.2.1.2.2 #[.int .i64 0, .int .i64 0, .slice none 0 0, .slice none 0 0, .slice none 0 0, .bool false] := hf3.put 3 (.slice none 0 0)
  clear hf3
  have hf5 : OfS w _ AP AQ AR cP cQ cR tr.2.1.1 tr.2.1.2.1 tr.2.1.2.2 #[.int .i64 0, .int .i64 0, .slice none 0 0, .slice none 0 0, .slice none 0 0, .bool false] := hf4.put 4 (.slice none 0 0)
  clear hf4
  have hf6 : OfS w _ AP AQ AR cP cQ cR tr.2.1.1 tr.2.1.2.1 tr.2.1.2.2 #[.int .i64 0, .int .i64 0, .slice none 0 0, .slice none 0 0, .slice none 0 0, .bool false] := hf5.put 5 (.bool false)
  clear hf5
  refine bodyPost_ret (results_ct rfl _ _ (w.heap.size + 1) 29 _ (0, 0) _ rfl hf6.res Tryd.underlying29 rfl (by kernel_rfl)) rfl ?_
  exact ⟨rfl, hf6.bel⟩
set_option maxRecDepth 100000 in
set_option maxHeartbeats 4000000 in
theorem crc_of_alien (s : ByteArray) (a b c : Int) (w : World) (hg : w.cell? ⟨0, 0, none⟩ = some (.iface 104 (.agg #[.pointer (some ⟨1, 61, none⟩)]))) (hs : s.size ≤ 4611686018427387904) (he : takeE s = 0) (hj : (((takeR s).1.1 : Int) == a && (((takeR s).1.2.1 : Int) == b && (((takeR s).1.2.2.1 : Int) == c))) = false) :
    Calls Tryd.prog 9 #[.string s, .agg #[.int .i64 a, .int .i64 b, .int .i64 c]] w fun e w' => e = .returned (.tuple #[zeroPart, .int .i64 11]) ∧ Below w.heap.size w w' := by
  have HT := Aside0.mk (fun W h => crc_take s W h hs)
  have HG := Aside0.mk hg
  unfold TakeTells at HT
  rw [he] at HT
  have hqj := eqJob
  generalize takeR s = tr at *
  clear hg
  go_enter Tryd.func9, Tryd.ntmps9
  go_wp2_with ((go_at_call 10); (with_reducible refine (HT.out _ (cell_later' HG.out (below_alloc (below_alloc (Below.refl _ _) _) _))).mono ?_); (rintro e w1 ⟨AP, AQ, AR, cP, cQ, cR, rfl, hrw, hbl⟩); (have HRW := Aside0.mk hrw); (have HBL := Aside0.mk hbl); (have hr1 := blk_below (blk_at1 w a b c) hbl); (have hr2 := blk_alloc hr1 (.cells #[.int .i64 (tr.1.1 : Int), .int .i64 (tr.1.2.1 : Int), .int .i64 (tr.1.2.2.1 : Int), .int .i64 (tr.1.2.2.2.1 : Int), .int .i64 (tr.1.2.2.2.2 : Int), .slice AP tr.2.1.1.length cP, .slice AQ tr.2.1.2.1.length cQ, .slice AR tr.2.1.2.2.length cR, .bool tr.2.2] 34)); (have y0 := blk_cell hr2 0); (have y1 := blk_cell hr2 1); (have y2 := blk_cell hr2 2); (have y3 := blk_cell hr2 3); (have y4 := blk_cell hr2 4); (have y5 := blk_cell hr2 5); (have x0 := blk_frozen hr2 0); (have x1 := blk_frozen hr2 1); (have x2 := blk_frozen hr2 2); (have x3 := blk_frozen hr2 3); (have x4 := blk_frozen hr2 4); (have x5 := blk_frozen hr2 5); (have HR2 := Aside0.mk hr2); (have hx0 := blk_alloc (blk_below (blk_at0 w a b c) hbl) (.cells #[.int .i64 (tr.1.1 : Int), .int .i64 (tr.1.2.1 : Int), .int .i64 (tr.1.2.2.1 : Int), .int .i64 (tr.1.2.2.2.1 : Int), .int .i64 (tr.1.2.2.2.2 : Int), .slice AP tr.2.1.1.length cP, .slice AQ tr.2.1.2.1.length cQ, .slice AR tr.2.1.2.2.length cR, .bool tr.2.2] 34)); (have b0 := blk_cell hx0 0); (have b1 := blk_cell hx0 1); (have b2 := blk_cell hx0 2); (clear hrw hbl hr1 hr2 hx0))
  have hf0 : OfS w _ AP AQ AR cP cQ cR tr.2.1.1 tr.2.1.2.1 tr.2.1.2.2 #[.int .i64 0, .int .i64 0, .slice none 0 0, .slice none 0 0, .slice none 0 0, .bool false] := ⟨(HRW.out.lower (by simp; omega)).later (below_alloc (Below.refl _ _) _), (below_alloc (below_alloc (Below.refl _ _) _) _ |>.trans (HBL.out.mono (by simp; omega))) |> fun h => below_alloc h _, HR2.out⟩
  have hf1 : OfS w _ AP AQ AR cP cQ cR tr.2.1.1 tr.2.1.2.1 tr.2.1.2.2 #[.int .i64 0, .int .i64 0, .slice none 0 0, .slice none 0 0, .slice none 0 0, .bool false] := hf0.put 0 (.int .i64 0)
  clear hf0
  have hf2 : OfS w _ AP AQ AR cP cQ cR tr.2.1.1 tr.2.1.2.1 tr.2.1.2.2 #[.int .i64 0, .int .i64 0, .slice none 0 0, .slice none 0 0, .slice none 0 0, .bool false] := hf1.put 1 (.int .i64 0)
  clear hf1
  have hf3 : OfS w _ AP AQ AR cP cQ cR tr.2.1.1 tr.2.1.2.1 tr.2.1.2.2 #[.int .i64 0, .int .i64 0, .slice none 0 0, .slice none 0 0, .slice none 0 0, .bool false] := hf2.put 2 (.slice none 0 0)
  clear hf2
  have hf4 : OfS w _ AP AQ AR cP cQ cR tr.2.1.1 tr.2.1.2.1 tr.2.1.2.2 #[.int .i64 0, .int .i64 0, .slice none 0 0, .slice none 0 0, .slice none 0 0, .bool false] := hf3.put 3 (.slice none 0 0)
  clear hf3
  have hf5 : OfS w _ AP AQ AR cP cQ cR tr.2.1.1 tr.2.1.2.1 tr.2.1.2.2 #[.int .i64 0, .int .i64 0, .slice none 0 0, .slice none 0 0, .slice none 0 0, .bool false] := hf4.put 4 (.slice none 0 0)
  clear hf4
  have hf6 : OfS w _ AP AQ AR cP cQ cR tr.2.1.1 tr.2.1.2.1 tr.2.1.2.2 #[.int .i64 0, .int .i64 0, .slice none 0 0, .slice none 0 0, .slice none 0 0, .bool false] := hf5.put 5 (.bool false)
  clear hf5
  refine bodyPost_ret (results_ct rfl _ _ (w.heap.size + 1) 29 _ (0, 0) _ rfl hf6.res Tryd.underlying29 rfl (by kernel_rfl)) rfl ?_
  exact ⟨rfl, hf6.bel⟩
set_option maxRecDepth 100000 in
set_option maxHeartbeats 4000000 in
theorem crc_of_ok (s : ByteArray) (a b c : Int) (w : World) (hg : w.cell? ⟨0, 0, none⟩ = some (.iface 104 (.agg #[.pointer (some ⟨1, 61, none⟩)]))) (hs : s.size ≤ 4611686018427387904) (he : takeE s = 0) (hj : (((takeR s).1.1 : Int) == a && (((takeR s).1.2.1 : Int) == b && (((takeR s).1.2.2.1 : Int) == c))) = true) :
    Calls Tryd.prog 9 #[.string s, .agg #[.int .i64 a, .int .i64 b, .int .i64 c]] w fun e w' => ∃ AP AQ AR cP cQ cR, e = .returned (.tuple #[.agg #[.int .i64 ((takeR s).1.2.2.2.1 : Int), .int .i64 ((takeR s).1.2.2.2.2 : Int), .slice AP (takeR s).2.1.1.length cP, .slice AQ (takeR s).2.1.2.1.length cQ, .slice AR (takeR s).2.1.2.2.length cR, .bool (takeR s).2.2], .int .i64 0]) ∧ RW w w' AP AQ AR cP cQ cR (takeR s).2.1.1 (takeR s).2.1.2.1 (takeR s).2.1.2.2 ∧ Below w.heap.size w w' := by
  have HT := Aside0.mk (fun W h => crc_take s W h hs)
  have HG := Aside0.mk hg
  unfold TakeTells at HT
  rw [he] at HT
  have hqj := eqJob
  generalize takeR s = tr at *
  clear hg
  go_enter Tryd.func9, Tryd.ntmps9
  go_wp2_with ((go_at_call 10); (with_reducible refine (HT.out _ (cell_later' HG.out (below_alloc (below_alloc (Below.refl _ _) _) _))).mono ?_); (rintro e w1 ⟨AP, AQ, AR, cP, cQ, cR, rfl, hrw, hbl⟩); (have HRW := Aside0.mk hrw); (have HBL := Aside0.mk hbl); (have hr1 := blk_below (blk_at1 w a b c) hbl); (have hr2 := blk_alloc hr1 (.cells #[.int .i64 (tr.1.1 : Int), .int .i64 (tr.1.2.1 : Int), .int .i64 (tr.1.2.2.1 : Int), .int .i64 (tr.1.2.2.2.1 : Int), .int .i64 (tr.1.2.2.2.2 : Int), .slice AP tr.2.1.1.length cP, .slice AQ tr.2.1.2.1.length cQ, .slice AR tr.2.1.2.2.length cR, .bool tr.2.2] 34)); (have y0 := blk_cell hr2 0); (have y1 := blk_cell hr2 1); (have y2 := blk_cell hr2 2); (have y3 := blk_cell hr2 3); (have y4 := blk_cell hr2 4); (have y5 := blk_cell hr2 5); (have x0 := blk_frozen hr2 0); (have x1 := blk_frozen hr2 1); (have x2 := blk_frozen hr2 2); (have x3 := blk_frozen hr2 3); (have x4 := blk_frozen hr2 4); (have x5 := blk_frozen hr2 5); (have HR2 := Aside0.mk hr2); (have hx0 := blk_alloc (blk_below (blk_at0 w a b c) hbl) (.cells #[.int .i64 (tr.1.1 : Int), .int .i64 (tr.1.2.1 : Int), .int .i64 (tr.1.2.2.1 : Int), .int .i64 (tr.1.2.2.2.1 : Int), .int .i64 (tr.1.2.2.2.2 : Int), .slice AP tr.2.1.1.length cP, .slice AQ tr.2.1.2.1.length cQ, .slice AR tr.2.1.2.2.length cR, .bool tr.2.2] 34)); (have b0 := blk_cell hx0 0); (have b1 := blk_cell hx0 1); (have b2 := blk_cell hx0 2); (clear hrw hbl hr1 hr2 hx0))
  have hf0 : OfS w _ AP AQ AR cP cQ cR tr.2.1.1 tr.2.1.2.1 tr.2.1.2.2 #[.int .i64 0, .int .i64 0, .slice none 0 0, .slice none 0 0, .slice none 0 0, .bool false] := ⟨(HRW.out.lower (by simp; omega)).later (below_alloc (Below.refl _ _) _), (below_alloc (below_alloc (Below.refl _ _) _) _ |>.trans (HBL.out.mono (by simp; omega))) |> fun h => below_alloc h _, HR2.out⟩
  have hf1 : OfS w _ AP AQ AR cP cQ cR tr.2.1.1 tr.2.1.2.1 tr.2.1.2.2 #[.int .i64 (tr.1.2.2.2.1 : Int), .int .i64 0, .slice none 0 0, .slice none 0 0, .slice none 0 0, .bool false] := hf0.put 0 (.int .i64 (tr.1.2.2.2.1 : Int))
  clear hf0
  have hf2 : OfS w _ AP AQ AR cP cQ cR tr.2.1.1 tr.2.1.2.1 tr.2.1.2.2 #[.int .i64 (tr.1.2.2.2.1 : Int), .int .i64 (tr.1.2.2.2.2 : Int), .slice none 0 0, .slice none 0 0, .slice none 0 0, .bool false] := hf1.put 1 (.int .i64 (tr.1.2.2.2.2 : Int))
  clear hf1
  have hf3 : OfS w _ AP AQ AR cP cQ cR tr.2.1.1 tr.2.1.2.1 tr.2.1.2.2 #[.int .i64 (tr.1.2.2.2.1 : Int), .int .i64 (tr.1.2.2.2.2 : Int), .slice AP tr.2.1.1.length cP, .slice none 0 0, .slice none 0 0, .bool false] := hf2.put 2 (.slice AP tr.2.1.1.length cP)
  clear hf2
  have hf4 : OfS w _ AP AQ AR cP cQ cR tr.2.1.1 tr.2.1.2.1 tr.2.1.2.2 #[.int .i64 (tr.1.2.2.2.1 : Int), .int .i64 (tr.1.2.2.2.2 : Int), .slice AP tr.2.1.1.length cP, .slice AQ tr.2.1.2.1.length cQ, .slice none 0 0, .bool false] := hf3.put 3 (.slice AQ tr.2.1.2.1.length cQ)
  clear hf3
  have hf5 : OfS w _ AP AQ AR cP cQ cR tr.2.1.1 tr.2.1.2.1 tr.2.1.2.2 #[.int .i64 (tr.1.2.2.2.1 : Int), .int .i64 (tr.1.2.2.2.2 : Int), .slice AP tr.2.1.1.length cP, .slice AQ tr.2.1.2.1.length cQ, .slice AR tr.2.1.2.2.length cR, .bool false] := hf4.put 4 (.slice AR tr.2.1.2.2.length cR)
  clear hf4
  have hf6 : OfS w _ AP AQ AR cP cQ cR tr.2.1.1 tr.2.1.2.1 tr.2.1.2.2 #[.int .i64 (tr.1.2.2.2.1 : Int), .int .i64 (tr.1.2.2.2.2 : Int), .slice AP tr.2.1.1.length cP, .slice AQ tr.2.1.2.1.length cQ, .slice AR tr.2.1.2.2.length cR, .bool tr.2.2] := hf5.put 5 (.bool tr.2.2)
  clear hf5
  refine bodyPost_ret (results_ct rfl _ _ (w.heap.size + 1) 29 _ (0, 0) _ rfl hf6.res Tryd.underlying29 rfl (by kernel_rfl)) rfl ?_
  exact ⟨AP, AQ, AR, cP, cQ, cR, rfl, hf6.rw, hf6.bel⟩
end Go.Proofs.YtanjahakoadecaaDoor.Hand
