/- Texts joined into one: each with its own sentence of what is proved, and under which conditions. -/
import Derived.Test.YtanjahakoadecaaDoorHCrcO
import Derived.Test.YtanjahakoadecaaDoorPCrcJ
import Derived.Test.YtanjahakoadecaaDoorWEqStruct
/- Law 14: the document's Take, in the form in which the print tells a contract. -/
namespace Go.Proofs.YtanjahakoadecaaDoor.Hand
open Go.RowKit Go.Proofs.YtanjahakoadecaaDoorW.PrintWords Go.Proofs.YtanjahakoadecaaDoorW.PrintLast Go.Proofs.YtanjahakoadecaaDoorW.PrintMore Go.Proofs.YtanjahakoadecaaDoor.Num Go.Proofs.YtanjahakoadecaaDoor.Pure
set_option linter.unusedVariables false
set_option linter.unusedSimpArgs false

theorem ref_take (s : ByteArray) (w : World) (hs : s.size ≤ 4611686018427387904) : Calls Tryd.prog 14 #[.string s] w (TakeT (takeR s, takeE s) w) := by
  by_cases h8 : s.size < 8
  · have e : (takeR s, takeE s) = (noneR, (5 : Int)) := by unfold takeE takeR; rw [if_pos h8, if_pos h8]
    rw [e]
    exact ref_take_short s w h8
  have h8' : 8 ≤ s.size := by omega
  by_cases heq : numF (bl (s.extract (s.size - 4) s.size)) 0 = crcL (bl (s.extract 0 (s.size - 4)))
  · cases hfm : ((s.extract 0 4).toList == [84, 65, 76, 89]) with
    | false =>
      have hsum : ((numF (s.extract (s.size - 4) s.size).data.toList 0 : Nat) : Int) = ((4294967295 ^^^ crcFold (s.extract 0 (s.size - 4)).data.toList 4294967295 : Nat) : Int) := congrArg _ heq
      have e : (takeR s, takeE s) = (noneR, (6 : Int)) := by
        unfold takeE takeR
        rw [if_neg h8, if_neg h8, if_pos hsum, if_pos hsum, hfm]
        rfl
      rw [e]
      exact ref_take_form s w h8' hs heq hfm
    | true =>
      rw [take_parts h8' heq hfm]
      by_cases hB : (s.extract 4 (s.size - 4)).size < 18
      · rw [tkB_few hB]
        exact ref_take_few s w h8' hs heq hfm hB
      · exact ref_take_rest s w h8' hs heq hfm (by omega)
  · have hsum : ¬ ((numF (s.extract (s.size - 4) s.size).data.toList 0 : Nat) : Int) = ((4294967295 ^^^ crcFold (s.extract 0 (s.size - 4)).data.toList 4294967295 : Nat) : Int) := fun h => heq (Int.ofNat.inj h)
    have e : (takeR s, takeE s) = (noneR, (7 : Int)) := by
      unfold takeE takeR
      rw [if_neg h8, if_neg h8, if_neg hsum, if_neg hsum]
    rw [e]
    exact ref_take_sum s w h8' hs heq
def tallystickref14_Take.f (a0 : ByteArray) : Option (Int × Int × Int × Int × Int × List Int × List Int × List Int × Bool × Int) := crc_Take.f a0
theorem tallystickref14_Take.calls (a0 : ByteArray) (r1 r2 r3 r4 r5 : Int) (r6 r7 r8 : List Int) (r9 : Bool) (r10 : Int) (w : World) (h : tallystickref14_Take.f a0 = some (r1, r2, r3, r4, r5, r6, r7, r8, r9, r10)) :
    Calls Tryd.prog 14 #[.string a0] w fun e w' => ∃ v5_ v6_ v7_ : Value, e = .returned (.tuple #[.agg #[.int .i64 r1, .int .i64 r2, .int .i64 r3, .int .i64 r4, .int .i64 r5, v5_, v6_, v7_, .bool r9], .int .i64 r10]) ∧ Kd.V (Kd.int .u64) 58 w' w.heap.size (fun k_ => (w.heap.size ≤ k_)) v5_ r6 ∧ Kd.V (Kd.int .u64) 58 w' w.heap.size (fun k_ => (w.heap.size ≤ k_)) v6_ r7 ∧ Kd.V (Kd.int .u64) 58 w' w.heap.size (fun k_ => (w.heap.size ≤ k_)) v7_ r8 ∧ Below w.heap.size w w' := by
  unfold tallystickref14_Take.f crc_Take.f at h
  split at h
  · rename_i hs
    have h := Option.some.inj h
    simp only [Prod.mk.injEq] at h
    obtain ⟨rfl, rfl, rfl, rfl, rfl, rfl, rfl, rfl, rfl, rfl⟩ := h
    exact ref_take a0 w hs
  · cases h
end Go.Proofs.YtanjahakoadecaaDoor.Hand

/- The document's Of by hand: a job's part of bytes (as crc.Of; the rows told by what they are). -/
namespace Go.Proofs.YtanjahakoadecaaDoor.Hand
open Go.RowKit Go.Proofs.YtanjahakoadecaaDoorW.PrintWords Go.Proofs.YtanjahakoadecaaDoorW.PrintLast Go.Proofs.YtanjahakoadecaaDoorW.PrintMore Go.Proofs.YtanjahakoadecaaDoor.Num
set_option linter.unusedVariables false
set_option linter.unusedSimpArgs false

/-- Rows that are new since w0, apart from block g. -/
structure VW (w0 w : World) (g : Nat) (AP AQ AR : Option Addr) (cP cQ cR : Nat) (p q r : List Int) : Prop where
  p : Kd.V (Kd.int .u64) 58 w w0.heap.size (fun k => w0.heap.size ≤ k ∧ (g = 0 ∨ k ≠ g)) (.slice AP p.length cP) p
  q : Kd.V (Kd.int .u64) 58 w w0.heap.size (fun k => w0.heap.size ≤ k ∧ (g = 0 ∨ k ≠ g)) (.slice AQ q.length cQ) q
  r : Kd.V (Kd.int .u64) 58 w w0.heap.size (fun k => w0.heap.size ≤ k ∧ (g = 0 ∨ k ≠ g)) (.slice AR r.length cR) r
theorem VW.later {w0 w w1 : World} {g : Nat} {AP AQ AR : Option Addr} {cP cQ cR : Nat} {p q r : List Int} (h : VW w0 w g AP AQ AR cP cQ cR p q r) (k : Below w.heap.size w w1) : VW w0 w1 g AP AQ AR cP cQ cR p q r := ⟨Kd.V_below h.p k, Kd.V_below h.q k, Kd.V_below h.r k⟩
theorem VW.down {w0 w : World} {g : Nat} {AP AQ AR : Option Addr} {cP cQ cR : Nat} {p q r : List Int} (h : VW w0 w g AP AQ AR cP cQ cR p q r) : VW w0 w 0 AP AQ AR cP cQ cR p q r := ⟨Kd.V_mono h.p (fun _ hk => ⟨hk.1, .inl rfl⟩), Kd.V_mono h.q (fun _ hk => ⟨hk.1, .inl rfl⟩), Kd.V_mono h.r (fun _ hk => ⟨hk.1, .inl rfl⟩)⟩
theorem VW.up {w0 w1 w : World} {AP AQ AR : Option Addr} {cP cQ cR : Nat} {p q r : List Int} (h : VW w1 w 0 AP AQ AR cP cQ cR p q r) (hl : w0.heap.size + 1 < w1.heap.size) : VW w0 w (w0.heap.size + 1) AP AQ AR cP cQ cR p q r :=
  ⟨Kd.V_lower (Kd.V_mono h.p (fun _ hk => ⟨by have := hk.1; omega, .inr (by have := hk.1; omega)⟩)) (by omega), Kd.V_lower (Kd.V_mono h.q (fun _ hk => ⟨by have := hk.1; omega, .inr (by have := hk.1; omega)⟩)) (by omega), Kd.V_lower (Kd.V_mono h.r (fun _ hk => ⟨by have := hk.1; omega, .inr (by have := hk.1; omega)⟩)) (by omega)⟩
structure OfV (w0 w : World) (AP AQ AR : Option Addr) (cP cQ cR : Nat) (p q r : List Int) (xs : Array Value) : Prop where
  rw : VW w0 w (w0.heap.size + 1) AP AQ AR cP cQ cR p q r
  bel : Below w0.heap.size w0 w
  res : w.heap[w0.heap.size + 1]? = some (.cells xs 29 (0, 0))
theorem OfV.put {w0 w : World} {AP AQ AR : Option Addr} {cP cQ cR : Nat} {p q r : List Int} {xs : Array Value} (h : OfV w0 w AP AQ AR cP cQ cR p q r xs) (k : Nat) (v : Value) : OfV w0 (w.setCell ⟨w0.heap.size + 1, k, none⟩ v) AP AQ AR cP cQ cR p q r (xs.setIfInBounds k v) :=
  have hk : ∀ j, (w0.heap.size ≤ j ∧ (w0.heap.size + 1 = 0 ∨ j ≠ w0.heap.size + 1)) → j ≠ w0.heap.size + 1 := fun j hj => by omega
  ⟨⟨Kd.V_far (p := ⟨w0.heap.size + 1, k, none⟩) h.rw.p hk v, Kd.V_far (p := ⟨w0.heap.size + 1, k, none⟩) h.rw.q hk v, Kd.V_far (p := ⟨w0.heap.size + 1, k, none⟩) h.rw.r hk v⟩, h.bel.setCell (p := ⟨w0.heap.size + 1, k, none⟩) (by simp) _, set_at h.res⟩
def TakeTells2 (s : ByteArray) (w : World) (e : Ending) (w' : World) : Prop :=
  ∃ AP AQ AR cP cQ cR, e = .returned (.tuple #[recV (takeR s) AP AQ AR cP cQ cR, .int .i64 (takeE s)]) ∧ VW w w' 0 AP AQ AR cP cQ cR (takeR s).2.1.1 (takeR s).2.1.2.1 (takeR s).2.1.2.2 ∧ Below w.heap.size w w'
theorem ref_take2 (s : ByteArray) (w : World) (hs : s.size ≤ 4611686018427387904) : Calls Tryd.prog 14 #[.string s] w (TakeTells2 s w) := by
  refine (ref_take s w hs).mono ?_
  rintro e w' ⟨v5, v6, v7, rfl, h5, h6, h7, hb⟩
  obtain ⟨A5, c5, rfl⟩ := Kd.V_slice h5
  obtain ⟨A6, c6, rfl⟩ := Kd.V_slice h6
  obtain ⟨A7, c7, rfl⟩ := Kd.V_slice h7
  exact ⟨A5, A6, A7, c5, c6, c7, rfl, ⟨Kd.V_mono h5 (fun _ hk => ⟨hk, .inl rfl⟩), Kd.V_mono h6 (fun _ hk => ⟨hk, .inl rfl⟩), Kd.V_mono h7 (fun _ hk => ⟨hk, .inl rfl⟩)⟩, hb⟩
set_option maxRecDepth 100000 in
set_option maxHeartbeats 4000000 in
theorem ref_of_err (s : ByteArray) (a b c : Int) (w : World) (hs : s.size ≤ 4611686018427387904) (he : takeE s ≠ 0) :
    Calls Tryd.prog 15 #[.string s, .agg #[.int .i64 a, .int .i64 b, .int .i64 c]] w fun e w' => e = .returned (.tuple #[zeroPart, .int .i64 (takeE s)]) ∧ Below w.heap.size w w' := by
  have HT := Aside0.mk (fun W => ref_take2 s W hs)
  unfold TakeTells2 at HT
  have hb : ((takeE s) == 0) = false := by rw [beq_eq_false_iff_ne]; exact he
  generalize takeE s = te at *
  generalize takeR s = tr at *
  go_enter Tryd.func15, Tryd.ntmps15
  go_wp2_with ((go_at_call 14); (with_reducible refine (HT.out _).mono ?_); (rintro e w1 ⟨AP, AQ, AR, cP, cQ, cR, rfl, hrw, hbl⟩); (have HRW := Aside0.mk hrw); (have HBL := Aside0.mk hbl); (have hr1 := blk_below (blk_at1 w a b c) hbl); (have hr2 := blk_alloc hr1 (.cells #[.int .i64 (tr.1.1 : Int), .int .i64 (tr.1.2.1 : Int), .int .i64 (tr.1.2.2.1 : Int), .int .i64 (tr.1.2.2.2.1 : Int), .int .i64 (tr.1.2.2.2.2 : Int), .slice AP tr.2.1.1.length cP, .slice AQ tr.2.1.2.1.length cQ, .slice AR tr.2.1.2.2.length cR, .bool tr.2.2] 34)); (have y0 := blk_cell hr2 0); (have y1 := blk_cell hr2 1); (have y2 := blk_cell hr2 2); (have y3 := blk_cell hr2 3); (have y4 := blk_cell hr2 4); (have y5 := blk_cell hr2 5); (have x0 := blk_frozen hr2 0); (have x1 := blk_frozen hr2 1); (have x2 := blk_frozen hr2 2); (have x3 := blk_frozen hr2 3); (have x4 := blk_frozen hr2 4); (have x5 := blk_frozen hr2 5); (have HR2 := Aside0.mk hr2); (clear hrw hbl hr1 hr2))
  have hf0 : OfV w _ AP AQ AR cP cQ cR tr.2.1.1 tr.2.1.2.1 tr.2.1.2.2 #[.int .i64 0, .int .i64 0, .slice none 0 0, .slice none 0 0, .slice none 0 0, .bool false] := ⟨(HRW.out.up (by simp)).later (below_alloc (Below.refl _ _) _), (below_alloc (below_alloc (Below.refl _ _) _) _ |>.trans (HBL.out.mono (by simp; omega))) |> fun h => below_alloc h _, HR2.out⟩
  have hf1 : OfV w _ AP AQ AR cP cQ cR tr.2.1.1 tr.2.1.2.1 tr.2.1.2.2 #[.int .i64 0, .int .i64 0, .slice none 0 0, .slice none 0 0, .slice none 0 0, .bool false] := hf0.put 0 (.int .i64 0)
  clear hf0
  have hf2 : OfV w _ AP AQ AR cP cQ cR tr.2.1.1 tr.2.1.2.1 tr.2.1.2.2 #[.int .i64 0, .int .i64 0, .slice none 0 0, .slice none 0 0, .slice none 0 0, .bool false] := hf1.put 1 (.int .i64 0)
  clear hf1
  have hf3 : OfV w _ AP AQ AR cP cQ cR tr.2.1.1 tr.2.1.2.1 tr.2.1.2.2 #[.int .i64 0, .int .i64 0, .slice none 0 0, .slice none 0 0, .slice none 0 0, .bool false] := hf2.put 2 (.slice none 0 0)
  clear hf2
  have hf4 : OfV w _ AP AQ AR cP cQ cR tr.2.1.1 tr.2.1.2.1 tr.2.1.2.2 #[.int .i64 0, .int .i64 0, .slice none 0 0, .slice none 0 0, .slice none 0 0, .bool false] := hf3.put 3 (.slice none 0 0)
  clear hf3
  have hf5 : OfV w _ AP AQ AR cP cQ cR tr.2.1.1 tr.2.1.2.1 tr.2.1.2.2 #[.int .i64 0, .int .i64 0, .slice none 0 0, .slice none 0 0, .slice none 0 0, .bool false] := hf4.put 4 (.slice none 0 0)
  clear hf4
  have hf6 : OfV w _ AP AQ AR cP cQ cR tr.2.1.1 tr.2.1.2.1 tr.2.1.2.2 #[.int .i64 0, .int .i64 0, .slice none 0 0, .slice none 0 0, .slice none 0 0, .bool false] := hf5.put 5 (.bool false)
  clear hf5
  refine bodyPost_ret (results_ct rfl _ _ (w.heap.size + 1) 29 _ (0, 0) _ rfl hf6.res Tryd.underlying29 rfl (by kernel_rfl)) rfl ?_
  exact ⟨rfl, hf6.bel⟩
set_option maxRecDepth 100000 in
set_option maxHeartbeats 4000000 in
theorem ref_of_alien (s : ByteArray) (a b c : Int) (w : World) (hs : s.size ≤ 4611686018427387904) (he : takeE s = 0) (hj : (((takeR s).1.1 : Int) == a && (((takeR s).1.2.1 : Int) == b && (((takeR s).1.2.2.1 : Int) == c))) = false) :
    Calls Tryd.prog 15 #[.string s, .agg #[.int .i64 a, .int .i64 b, .int .i64 c]] w fun e w' => e = .returned (.tuple #[zeroPart, .int .i64 11]) ∧ Below w.heap.size w w' := by
  have HT := Aside0.mk (fun W => ref_take2 s W hs)
  unfold TakeTells2 at HT
  rw [he] at HT
  have hqj := eqJob
  generalize takeR s = tr at *
  go_enter Tryd.func15, Tryd.ntmps15
  go_wp2_with ((go_at_call 14); (with_reducible refine (HT.out _).mono ?_); (rintro e w1 ⟨AP, AQ, AR, cP, cQ, cR, rfl, hrw, hbl⟩); (have HRW := Aside0.mk hrw); (have HBL := Aside0.mk hbl); (have hr1 := blk_below (blk_at1 w a b c) hbl); (have hr2 := blk_alloc hr1 (.cells #[.int .i64 (tr.1.1 : Int), .int .i64 (tr.1.2.1 : Int), .int .i64 (tr.1.2.2.1 : Int), .int .i64 (tr.1.2.2.2.1 : Int), .int .i64 (tr.1.2.2.2.2 : Int), .slice AP tr.2.1.1.length cP, .slice AQ tr.2.1.2.1.length cQ, .slice AR tr.2.1.2.2.length cR, .bool tr.2.2] 34)); (have y0 := blk_cell hr2 0); (have y1 := blk_cell hr2 1); (have y2 := blk_cell hr2 2); (have y3 := blk_cell hr2 3); (have y4 := blk_cell hr2 4); (have y5 := blk_cell hr2 5); (have x0 := blk_frozen hr2 0); (have x1 := blk_frozen hr2 1); (have x2 := blk_frozen hr2 2); (have x3 := blk_frozen hr2 3); (have x4 := blk_frozen hr2 4); (have x5 := blk_frozen hr2 5); (have HR2 := Aside0.mk hr2); (have hx0 := blk_alloc (blk_below (blk_at0 w a b c) hbl) (.cells #[.int .i64 (tr.1.1 : Int), .int .i64 (tr.1.2.1 : Int), .int .i64 (tr.1.2.2.1 : Int), .int .i64 (tr.1.2.2.2.1 : Int), .int .i64 (tr.1.2.2.2.2 : Int), .slice AP tr.2.1.1.length cP, .slice AQ tr.2.1.2.1.length cQ, .slice AR tr.2.1.2.2.length cR, .bool tr.2.2] 34)); (have b0 := blk_cell hx0 0); (have b1 := blk_cell hx0 1); (have b2 := blk_cell hx0 2); (clear hrw hbl hr1 hr2 hx0))
  have hf0 : OfV w _ AP AQ AR cP cQ cR tr.2.1.1 tr.2.1.2.1 tr.2.1.2.2 #[.int .i64 0, .int .i64 0, .slice none 0 0, .slice none 0 0, .slice none 0 0, .bool false] := ⟨(HRW.out.up (by simp)).later (below_alloc (Below.refl _ _) _), (below_alloc (below_alloc (Below.refl _ _) _) _ |>.trans (HBL.out.mono (by simp; omega))) |> fun h => below_alloc h _, HR2.out⟩
  have hf1 : OfV w _ AP AQ AR cP cQ cR tr.2.1.1 tr.2.1.2.1 tr.2.1.2.2 #[.int .i64 0, .int .i64 0, .slice none 0 0, .slice none 0 0, .slice none 0 0, .bool false] := hf0.put 0 (.int .i64 0)
  clear hf0
  have hf2 : OfV w _ AP AQ AR cP cQ cR tr.2.1.1 tr.2.1.2.1 tr.2.1.2.2 #[.int .i64 0, .int .i64 0, .slice none 0 0, .slice none 0 0, .slice none 0 0, .bool false] := hf1.put 1 (.int .i64 0)
  clear hf1
  have hf3 : OfV w _ AP AQ AR cP cQ cR tr.2.1.1 tr.2.1.2.1 tr.2.1.2.2 #[.int .i64 0, .int .i64 0, .slice none 0 0, .slice none 0 0, .slice none 0 0, .bool false] := hf2.put 2 (.slice none 0 0)
  clear hf2
  have hf4 : OfV w _ AP AQ AR cP cQ cR tr.2.1.1 tr.2.1.2.1 tr.2.1.2.2 #[.int .i64 0, .int .i64 0, .slice none 0 0, .slice none 0 0, .slice none 0 0, .bool false] := hf3.put 3 (.slice none 0 0)
  clear hf3
  have hf5 : OfV w _ AP AQ AR cP cQ cR tr.2.1.1 tr.2.1.2.1 tr.2.1.2.2 #[.int .i64 0, .int .i64 0, .slice none 0 0, .slice none 0 0, .slice none 0 0, .bool false] := hf4.put 4 (.slice none 0 0)
  clear hf4
  have hf6 : OfV w _ AP AQ AR cP cQ cR tr.2.1.1 tr.2.1.2.1 tr.2.1.2.2 #[.int .i64 0, .int .i64 0, .slice none 0 0, .slice none 0 0, .slice none 0 0, .bool false] := hf5.put 5 (.bool false)
  clear hf5
  refine bodyPost_ret (results_ct rfl _ _ (w.heap.size + 1) 29 _ (0, 0) _ rfl hf6.res Tryd.underlying29 rfl (by kernel_rfl)) rfl ?_
  exact ⟨rfl, hf6.bel⟩
set_option maxRecDepth 100000 in
set_option maxHeartbeats 4000000 in
theorem ref_of_ok (s : ByteArray) (a b c : Int) (w : World) (hs : s.size ≤ 4611686018427387904) (he : takeE s = 0) (hj : (((takeR s).1.1 : Int) == a && (((takeR s).1.2.1 : Int) == b && (((takeR s).1.2.2.1 : Int) == c))) = true) :
    Calls Tryd.prog 15 #[.string s, .agg #[.int .i64 a, .int .i64 b, .int .i64 c]] w fun e w' => ∃ AP AQ AR cP cQ cR, e = .returned (.tuple #[.agg #[.int .i64 ((takeR s).1.2.2.2.1 : Int), .int .i64 ((takeR s).1.2.2.2.2 : Int), .slice AP (takeR s).2.1.1.length cP, .slice AQ (takeR s).2.1.2.1.length cQ, .slice AR (takeR s).2.1.2.2.length cR, .bool (takeR s).2.2], .int .i64 0]) ∧ VW w w' 0 AP AQ AR cP cQ cR (takeR s).2.1.1 (takeR s).2.1.2.1 (takeR s).2.1.2.2 ∧ Below w.heap.size w w' := by
  have HT := Aside0.mk (fun W => ref_take2 s W hs)
  unfold TakeTells2 at HT
  rw [he] at HT
  have hqj := eqJob
  generalize takeR s = tr at *
  go_enter Tryd.func15, Tryd.ntmps15
  go_wp2_with ((go_at_call 14); (with_reducible refine (HT.out _).mono ?_); (rintro e w1 ⟨AP, AQ, AR, cP, cQ, cR, rfl, hrw, hbl⟩); (have HRW := Aside0.mk hrw); (have HBL := Aside0.mk hbl); (have hr1 := blk_below (blk_at1 w a b c) hbl); (have hr2 := blk_alloc hr1 (.cells #[.int .i64 (tr.1.1 : Int), .int .i64 (tr.1.2.1 : Int), .int .i64 (tr.1.2.2.1 : Int), .int .i64 (tr.1.2.2.2.1 : Int), .int .i64 (tr.1.2.2.2.2 : Int), .slice AP tr.2.1.1.length cP, .slice AQ tr.2.1.2.1.length cQ, .slice AR tr.2.1.2.2.length cR, .bool tr.2.2] 34)); (have y0 := blk_cell hr2 0); (have y1 := blk_cell hr2 1); (have y2 := blk_cell hr2 2); (have y3 := blk_cell hr2 3); (have y4 := blk_cell hr2 4); (have y5 := blk_cell hr2 5); (have x0 := blk_frozen hr2 0); (have x1 := blk_frozen hr2 1); (have x2 := blk_frozen hr2 2); (have x3 := blk_frozen hr2 3); (have x4 := blk_frozen hr2 4); (have x5 := blk_frozen hr2 5); (have HR2 := Aside0.mk hr2); (have hx0 := blk_alloc (blk_below (blk_at0 w a b c) hbl) (.cells #[.int .i64 (tr.1.1 : Int), .int .i64 (tr.1.2.1 : Int), .int .i64 (tr.1.2.2.1 : Int), .int .i64 (tr.1.2.2.2.1 : Int), .int .i64 (tr.1.2.2.2.2 : Int), .slice AP tr.2.1.1.length cP, .slice AQ tr.2.1.2.1.length cQ, .slice AR tr.2.1.2.2.length cR, .bool tr.2.2] 34)); (have b0 := blk_cell hx0 0); (have b1 := blk_cell hx0 1); (have b2 := blk_cell hx0 2); (clear hrw hbl hr1 hr2 hx0))
  have hf0 : OfV w _ AP AQ AR cP cQ cR tr.2.1.1 tr.2.1.2.1 tr.2.1.2.2 #[.int .i64 0, .int .i64 0, .slice none 0 0, .slice none 0 0, .slice none 0 0, .bool false] := ⟨(HRW.out.up (by simp)).later (below_alloc (Below.refl _ _) _), (below_alloc (below_alloc (Below.refl _ _) _) _ |>.trans (HBL.out.mono (by simp; omega))) |> fun h => below_alloc h _, HR2.out⟩
  have hf1 : OfV w _ AP AQ AR cP cQ cR tr.2.1.1 tr.2.1.2.1 tr.2.1.2.2 #[.int .i64 (tr.1.2.2.2.1 : Int), .int .i64 0, .slice none 0 0, .slice none 0 0, .slice none 0 0, .bool false] := hf0.put 0 (.int .i64 (tr.1.2.2.2.1 : Int))
  clear hf0
  have hf2 : OfV w _ AP AQ AR cP cQ cR tr.2.1.1 tr.2.1.2.1 tr.2.1.2.2 #[.int .i64 (tr.1.2.2.2.1 : Int), .int .i64 (tr.1.2.2.2.2 : Int), .slice none 0 0, .slice none 0 0, .slice none 0 0, .bool false] := hf1.put 1 (.int .i64 (tr.1.2.2.2.2 : Int))
  clear hf1
  have hf3 : OfV w _ AP AQ AR cP cQ cR tr.2.1.1 tr.2.1.2.1 tr.2.1.2.2 #[.int .i64 (tr.1.2.2.2.1 : Int), .int .i64 (tr.1.2.2.2.2 : Int), .slice AP tr.2.1.1.length cP, .slice none 0 0, .slice none 0 0, .bool false] := hf2.put 2 (.slice AP tr.2.1.1.length cP)
  clear hf2
  have hf4 : OfV w _ AP AQ AR cP cQ cR tr.2.1.1 tr.2.1.2.1 tr.2.1.2.2 #[.int .i64 (tr.1.2.2.2.1 : Int), .int .i64 (tr.1.2.2.2.2 : Int), .slice AP tr.2.1.1.length cP, .slice AQ tr.2.1.2.1.length cQ, .slice none 0 0, .bool false] := hf3.put 3 (.slice AQ tr.2.1.2.1.length cQ)
  clear hf3
  have hf5 : OfV w _ AP AQ AR cP cQ cR tr.2.1.1 tr.2.1.2.1 tr.2.1.2.2 #[.int .i64 (tr.1.2.2.2.1 : Int), .int .i64 (tr.1.2.2.2.2 : Int), .slice AP tr.2.1.1.length cP, .slice AQ tr.2.1.2.1.length cQ, .slice AR tr.2.1.2.2.length cR, .bool false] := hf4.put 4 (.slice AR tr.2.1.2.2.length cR)
  clear hf4
  have hf6 : OfV w _ AP AQ AR cP cQ cR tr.2.1.1 tr.2.1.2.1 tr.2.1.2.2 #[.int .i64 (tr.1.2.2.2.1 : Int), .int .i64 (tr.1.2.2.2.2 : Int), .slice AP tr.2.1.1.length cP, .slice AQ tr.2.1.2.1.length cQ, .slice AR tr.2.1.2.2.length cR, .bool tr.2.2] := hf5.put 5 (.bool tr.2.2)
  clear hf5
  refine bodyPost_ret (results_ct rfl _ _ (w.heap.size + 1) 29 _ (0, 0) _ rfl hf6.res Tryd.underlying29 rfl (by kernel_rfl)) rfl ?_
  exact ⟨AP, AQ, AR, cP, cQ, cR, rfl, hf6.rw.down, hf6.bel⟩
def tallystickref14_Of.f (a0 : ByteArray) (a1_0 a1_1 a1_2 : Int) : Option (Int × Int × List Int × List Int × List Int × Bool × Int) := crc_Of.f a0 a1_0 a1_1 a1_2
theorem tallystickref14_Of.calls (a0 : ByteArray) (a1_0 a1_1 a1_2 r1 r2 : Int) (r3 r4 r5 : List Int) (r6 : Bool) (r7 : Int) (w : World) (h : tallystickref14_Of.f a0 a1_0 a1_1 a1_2 = some (r1, r2, r3, r4, r5, r6, r7)) :
    Calls Tryd.prog 15 #[.string a0, .agg #[.int .i64 a1_0, .int .i64 a1_1, .int .i64 a1_2]] w fun e w' => ∃ v2_ v3_ v4_ : Value, e = .returned (.tuple #[.agg #[.int .i64 r1, .int .i64 r2, v2_, v3_, v4_, .bool r6], .int .i64 r7]) ∧ Kd.V (Kd.int .u64) 58 w' w.heap.size (fun k_ => (w.heap.size ≤ k_)) v2_ r3 ∧ Kd.V (Kd.int .u64) 58 w' w.heap.size (fun k_ => (w.heap.size ≤ k_)) v3_ r4 ∧ Kd.V (Kd.int .u64) 58 w' w.heap.size (fun k_ => (w.heap.size ≤ k_)) v4_ r5 ∧ Below w.heap.size w w' := by
  unfold tallystickref14_Of.f crc_Of.f at h
  split at h
  · rename_i hs
    have h := Option.some.inj h
    unfold ofR at h
    by_cases he : takeE a0 = 0
    · rw [if_pos he] at h
      cases hj : jobB (takeR a0) a1_0 a1_1 a1_2 with
      | false =>
        rw [hj, if_neg (by decide)] at h
        simp only [Prod.mk.injEq] at h
        obtain ⟨rfl, rfl, rfl, rfl, rfl, rfl, rfl⟩ := h
        refine (ref_of_alien a0 _ _ _ w hs he hj).mono ?_
        rintro e w' ⟨rfl, hb⟩
        exact ⟨_, _, _, rfl, Kd.V_nil _ _ _ _ _, Kd.V_nil _ _ _ _ _, Kd.V_nil _ _ _ _ _, hb⟩
      | true =>
        rw [hj, if_pos rfl] at h
        simp only [Prod.mk.injEq] at h
        obtain ⟨rfl, rfl, rfl, rfl, rfl, rfl, rfl⟩ := h
        refine (ref_of_ok a0 _ _ _ w hs he hj).mono ?_
        rintro e w' ⟨AP, AQ, AR, cP, cQ, cR, rfl, hrw, hb⟩
        exact ⟨_, _, _, rfl, Kd.V_mono hrw.p (fun _ hk => hk.1), Kd.V_mono hrw.q (fun _ hk => hk.1), Kd.V_mono hrw.r (fun _ hk => hk.1), hb⟩
    · rw [if_neg he] at h
      simp only [Prod.mk.injEq] at h
      obtain ⟨rfl, rfl, rfl, rfl, rfl, rfl, rfl⟩ := h
      refine (ref_of_err a0 _ _ _ w hs he).mono ?_
      rintro e w' ⟨rfl, hb⟩
      exact ⟨_, _, _, rfl, Kd.V_nil _ _ _ _ _, Kd.V_nil _ _ _ _ _, Kd.V_nil _ _ _ _ _, hb⟩
  · cases h
end Go.Proofs.YtanjahakoadecaaDoor.Hand
