/- crc.Take by hand: bytes that are too few; that begin otherwise; that parts finds wrong, or right. -/
import Derived.Test.YtanjahakoadecaaDoorHCrcG
import Derived.Test.YtanjahakoadecaaDoorHCrcI
namespace Go.Proofs.YtanjahakoadecaaDoor.Hand
open Go.RowKit Go.Proofs.YtanjahakoadecaaDoorW.PrintWords Go.Proofs.YtanjahakoadecaaDoorW.PrintMore Go.Proofs.YtanjahakoadecaaDoor.Num
set_option linter.unusedVariables false
set_option linter.unusedSimpArgs false

/-- The record that is none. -/
abbrev zeroRec : Value := .agg #[.int .i64 0, .int .i64 0, .int .i64 0, .int .i64 0, .int .i64 0, .slice none 0 0, .slice none 0 0, .slice none 0 0, .bool false]
/-- What stands while the result's cells are written. -/
structure Fin2 (w0 w : World) (gb : Nat) (AP AQ AR : Option Addr) (cP cQ cR : Nat) (p q r : List Int) (xs : Array Value) : Prop where
  rw : RW w0 w AP AQ AR cP cQ cR p q r
  bel : Below w0.heap.size w0 w
  res : w.heap[gb]? = some (.cells xs 34 (0, 0))
  hi : w0.heap.size ≤ gb
theorem Fin2.put {w0 w : World} {gb : Nat} {AP AQ AR : Option Addr} {cP cQ cR : Nat} {p q r : List Int} {xs : Array Value} (h : Fin2 w0 w gb AP AQ AR cP cQ cR p q r xs) (k : Nat) (v : Value) : Fin2 w0 (w.setCell ⟨gb, k, none⟩ v) gb AP AQ AR cP cQ cR p q r (xs.setIfInBounds k v) := by
  have ht : ∀ x, x ∈ 58 :: (Kd.int .u64).E → x ≠ 34 := by
    intro x hx
    rcases List.mem_singleton.1 hx
    decide
  exact ⟨⟨Kd.R_set h.rw.p h.res ht k v, Kd.R_set h.rw.q h.res ht k v, Kd.R_set h.rw.r h.res ht k v⟩, h.bel.setCell (p := ⟨gb, k, none⟩) h.hi _, set_at h.res, h.hi⟩
/-- The result's cells are those of no record. -/
structure Zr (w0 w : World) (gb : Nat) : Prop where
  bel : Below w0.heap.size w0 w
  res : w.heap[gb]? = some (.cells #[.int .i64 0, .int .i64 0, .int .i64 0, .int .i64 0, .int .i64 0, .slice none 0 0, .slice none 0 0, .slice none 0 0, .bool false] 34 (0, 0))
  hi : w0.heap.size ≤ gb
theorem Zr.put {w0 w : World} {gb : Nat} (h : Zr w0 w gb) (k : Nat) (v : Value) (hz : (#[.int .i64 0, .int .i64 0, .int .i64 0, .int .i64 0, .int .i64 0, .slice none 0 0, .slice none 0 0, .slice none 0 0, .bool false] : Array Value).setIfInBounds k v = #[.int .i64 0, .int .i64 0, .int .i64 0, .int .i64 0, .int .i64 0, .slice none 0 0, .slice none 0 0, .slice none 0 0, .bool false]) : Zr w0 (w.setCell ⟨gb, k, none⟩ v) gb :=
  ⟨h.bel.setCell (p := ⟨gb, k, none⟩) h.hi _, by rw [set_at h.res, hz], h.hi⟩
theorem Zr.later {w0 w w1 : World} {gb : Nat} (h : Zr w0 w gb) (k : Below w.heap.size w w1) : Zr w0 w1 gb := ⟨h.bel.trans (k.mono h.bel.size), blk_below h.res k, h.hi⟩
theorem RW.lower {w0 w0' w : World} {AP AQ AR : Option Addr} {cP cQ cR : Nat} {p q r : List Int} (h : RW w0 w AP AQ AR cP cQ cR p q r) (hl : w0'.heap.size ≤ w0.heap.size) : RW w0' w AP AQ AR cP cQ cR p q r :=
  ⟨Kd.R_lower h.p (by omega), Kd.R_lower h.q (by omega), Kd.R_lower h.r (by omega)⟩
set_option maxRecDepth 100000 in
theorem crc_take_short (s : ByteArray) (w : World) (h8 : s.size < 8) :
    Calls Tryd.prog 10 #[.string s] w fun e w' => e = .returned (.tuple #[zeroRec, .int .i64 5]) ∧ Below w.heap.size w w' := by
  have hsw : IntKind.i64.wrap ((s.size : Int) - 4) = (s.size : Int) - 4 := by rw [IntKind.wrap_i64]; omega
  have hl : (s.size : Int) - 4 < 4 := by omega
  go_enter Tryd.func10, Tryd.ntmps10
  go_wp2
  refine bodyPost_ret (results_ct rfl _ _ w.heap.size 34 _ (0, 0) _ rfl (blk_new w _) Tryd.underlying34 rfl (by kernel_rfl)) rfl ?_
  exact ⟨rfl, below_alloc (Below.refl _ _) _⟩
set_option maxRecDepth 100000 in
set_option maxHeartbeats 4000000 in
theorem crc_take_form (s : ByteArray) (w : World) (h8 : 8 ≤ s.size) (hs : s.size ≤ 4611686018427387904)
    (hsum : ((numF (s.extract (s.size - 4) s.size).data.toList 0 : Nat) : Int) = ((4294967295 ^^^ crcFold (s.extract 0 (s.size - 4)).data.toList 4294967295 : Nat) : Int)) (hne : ((s.extract 0 4).toList == [84, 65, 76, 89]) = false) :
    Calls Tryd.prog 10 #[.string s] w fun e w' => e = .returned (.tuple #[zeroRec, .int .i64 6]) ∧ Below w.heap.size w w' := by
  have hz1 : (s.extract (s.size - 4) s.size).size = 4 := by rw [ByteArray.size_extract]; omega
  have hz2 : (s.extract 0 (s.size - 4)).size = s.size - 4 := by rw [ByteArray.size_extract]; omega
  have h1 := fun W => crc_number (s.extract (s.size - 4) s.size) W (by omega)
  have h2 := fun W => crc_sum (s.extract 0 (s.size - 4)) W (by omega)
  have hy : (4294967295 ^^^ crcFold (s.extract 0 (s.size - 4)).data.toList 4294967295) < 4294967296 := Nat.xor_lt_two_pow (n := 32) (by decide) (crcFold_lt _ (by decide))
  generalize (numF (s.extract (s.size - 4) s.size).data.toList 0) = x at *
  generalize (4294967295 ^^^ crcFold (s.extract 0 (s.size - 4)).data.toList 4294967295) = y at *
  obtain rfl : x = y := by omega
  obtain ⟨n, hn⟩ : ∃ n, n = s.size - 4 := ⟨_, rfl⟩
  rw [← hn] at h1 h2
  have hsn : (s.size : Int) - 4 = (n : Int) := by omega
  have hsw : IntKind.i64.wrap ((s.size : Int) - 4) = (n : Int) := by rw [IntKind.wrap_i64]; omega
  have hl : (4 : Int) ≤ (n : Int) := by omega
  have hlo : (0 : Int) ≤ (n : Int) := by omega
  have hhi : (n : Int) ≤ (s.size : Int) := by omega
  have h4 : (4 : Int) ≤ (s.size : Int) := by omega
  clear hn hz1 hz2 hsum
  have H1 := Aside0.mk h1
  have H2 := Aside0.mk h2
  clear h1 h2
  go_enter Tryd.func10, Tryd.ntmps10
  go_wp2
  go_region_held3 (fun _ => True) (exact trivial)
    (first
      | ((go_at_call 20); (with_reducible refine (H1.out _).mono ?_); (rintro e w1 ⟨rfl, rfl⟩))
      | ((go_at_call 18); (with_reducible refine (H2.out _).mono ?_); (rintro e w1 ⟨rfl, rfl⟩)))
  all_goals
    have hw : IntKind.u64.wrap (x : Int) = (x : Int) := by rw [IntKind.wrap_u64]; omega
    rw [hw]
    have hbn : ((x : Int) != (x : Int)) = false := by simp
    rw [hbn]
    clear hw hbn
    go_wp2
  all_goals
    refine bodyPost_ret (results_ct rfl _ _ w.heap.size 34 _ (0, 0) _ rfl (blk_new w _) Tryd.underlying34 rfl (by kernel_rfl)) rfl ?_
    exact ⟨rfl, ((Below.refl _ w).alloc (Nat.le_refl _) _).drew⟩
set_option maxRecDepth 100000 in
set_option maxHeartbeats 4000000 in
theorem crc_take_rest (s : ByteArray) (w : World) (hg0 : w.cell? ⟨0, 0, none⟩ = some (.iface 104 (.agg #[.pointer (some ⟨1, 61, none⟩)]))) (h8 : 8 ≤ s.size) (hs : s.size ≤ 4611686018427387904)
    (hsum : ((numF (s.extract (s.size - 4) s.size).data.toList 0 : Nat) : Int) = ((4294967295 ^^^ crcFold (s.extract 0 (s.size - 4)).data.toList 4294967295 : Nat) : Int)) (hfm : ((s.extract 0 4).toList == [84, 65, 76, 89]) = true) :
    Calls Tryd.prog 10 #[.string s] w fun e w' => (∀ e0, (partsF (s.extract 4 (s.size - 4))).2.2.2 = some e0 → e = .returned (.tuple #[zeroRec, .int .i64 e0])) ∧ ((partsF (s.extract 4 (s.size - 4))).2.2.2 = none → ∃ AP cP AQ cQ AR cR, e = .returned (.tuple #[.agg #[.int .i64 (((partsF (s.extract 4 (s.size - 4))).1.1 : Nat) : Int), .int .i64 (((partsF (s.extract 4 (s.size - 4))).1.2.1 : Nat) : Int), .int .i64 (((partsF (s.extract 4 (s.size - 4))).1.2.2.1 : Nat) : Int), .int .i64 (((partsF (s.extract 4 (s.size - 4))).1.2.2.2.1 : Nat) : Int), .int .i64 (((partsF (s.extract 4 (s.size - 4))).1.2.2.2.2 : Nat) : Int), .slice AP (partsF (s.extract 4 (s.size - 4))).2.1.1.length cP, .slice AQ (partsF (s.extract 4 (s.size - 4))).2.1.2.1.length cQ, .slice AR (partsF (s.extract 4 (s.size - 4))).2.1.2.2.length cR, .bool (partsF (s.extract 4 (s.size - 4))).2.2.1], .int .i64 0]) ∧ RW w w' AP AQ AR cP cQ cR (partsF (s.extract 4 (s.size - 4))).2.1.1 (partsF (s.extract 4 (s.size - 4))).2.1.2.1 (partsF (s.extract 4 (s.size - 4))).2.1.2.2) ∧ Below w.heap.size w w' := by
  have hz1 : (s.extract (s.size - 4) s.size).size = 4 := by rw [ByteArray.size_extract]; omega
  have hz2 : (s.extract 0 (s.size - 4)).size = s.size - 4 := by rw [ByteArray.size_extract]; omega
  have h1 := fun W => crc_number (s.extract (s.size - 4) s.size) W (by omega)
  have h2 := fun W => crc_sum (s.extract 0 (s.size - 4)) W (by omega)
  have hy : (4294967295 ^^^ crcFold (s.extract 0 (s.size - 4)).data.toList 4294967295) < 4294967296 := Nat.xor_lt_two_pow (n := 32) (by decide) (crcFold_lt _ (by decide))
  generalize (numF (s.extract (s.size - 4) s.size).data.toList 0) = x at *
  generalize (4294967295 ^^^ crcFold (s.extract 0 (s.size - 4)).data.toList 4294967295) = y at *
  obtain rfl : x = y := by omega
  obtain ⟨n, hn⟩ : ∃ n, n = s.size - 4 := ⟨_, rfl⟩
  rw [← hn] at h1 h2 ⊢
  have hsn : (s.size : Int) - 4 = (n : Int) := by omega
  have hsw : IntKind.i64.wrap ((s.size : Int) - 4) = (n : Int) := by rw [IntKind.wrap_i64]; omega
  have hl : (4 : Int) ≤ (n : Int) := by omega
  have hlo : (0 : Int) ≤ (n : Int) := by omega
  have hhi : (n : Int) ≤ (s.size : Int) := by omega
  have h4 : (4 : Int) ≤ (s.size : Int) := by omega
  have hpz : (s.extract 4 n).size ≤ 4611686018427387904 := by rw [ByteArray.size_extract]; omega
  have HPA := Aside0.mk (fun W => crc_parts (s.extract 4 n) W hpz)
  generalize partsF (s.extract 4 n) = pf at *
  obtain ⟨⟨c, d, g, f, u⟩, ⟨pP, pQ, pR⟩, mb, st⟩ := pf
  dsimp only at HPA
  dsimp only
  have HG0 := Aside0.mk hg0
  clear hg0
  clear hn hz1 hz2 hsum
  have H1 := Aside0.mk h1
  have H2 := Aside0.mk h2
  clear h1 h2
  go_enter Tryd.func10, Tryd.ntmps10
  go_wp2
  go_region_held3 (fun _ => True) (exact trivial)
    (first
      | ((go_at_call 20); (with_reducible refine (H1.out _).mono ?_); (rintro e w1 ⟨rfl, rfl⟩))
      | ((go_at_call 18); (with_reducible refine (H2.out _).mono ?_); (rintro e w1 ⟨rfl, rfl⟩)))
  all_goals
    have hw : IntKind.u64.wrap (x : Int) = (x : Int) := by rw [IntKind.wrap_u64]; omega
    rw [hw]
    have hbn : ((x : Int) != (x : Int)) = false := by simp
    rw [hbn]
    clear hw hbn
    go_wp2_with ((go_at_call 21); (with_reducible refine (HPA.out _).mono ?_); (rintro e w1 ⟨AP, cP, AQ, cQ, AR, cR, ve, rfl, hrw, her, hb⟩); (have HRW := Aside0.mk hrw); (have HER := Aside0.mk her); (have HB := Aside0.mk hb); (clear hrw her hb))
  all_goals
    have hbw : Below w.heap.size w w1 := ((Below.refl _ w).alloc (Nat.le_refl _) _).drew.trans (HB.out.mono (by simp))
    have hres1 := blk_below (blk_below (blk_new w (.cells #[.int .i64 0, .int .i64 0, .int .i64 0, .int .i64 0, .int .i64 0, .slice none 0 0, .slice none 0 0, .slice none 0 0, .bool false] 34)) (below_drew (Below.refl _ _))) HB.out
    have hW3 : Below w1.heap.size w1 ((w1.alloc (.cells #[.int .i64 (c : Int), .int .i64 (d : Int), .int .i64 (g : Int), .int .i64 (f : Int), .int .i64 (u : Int), .slice AP pP.length cP, .slice AQ pQ.length cQ, .slice AR pR.length cR, .bool mb] 34)).alloc (.cells #[.pointer none] 64)) := below_alloc (below_alloc (Below.refl _ _) _) _
    have hres3 := blk_below hres1 hW3
    have hrec3 : ((w1.alloc (.cells #[.int .i64 (c : Int), .int .i64 (d : Int), .int .i64 (g : Int), .int .i64 (f : Int), .int .i64 (u : Int), .slice AP pP.length cP, .slice AQ pQ.length cQ, .slice AR pR.length cR, .bool mb] 34)).alloc (.cells #[.pointer none] 64)).heap[w1.heap.size]? = some (.cells #[.int .i64 (c : Int), .int .i64 (d : Int), .int .i64 (g : Int), .int .i64 (f : Int), .int .i64 (u : Int), .slice AP pP.length cP, .slice AQ pQ.length cQ, .slice AR pR.length cR, .bool mb] 34 (0, 0)) := blk_alloc (blk_new _ _) _
    have e0 := blk_cell hres3 0
    have e1 := blk_cell hres3 1
    have e2 := blk_cell hres3 2
    have e3 := blk_cell hres3 3
    have e4 := blk_cell hres3 4
    have e5 := blk_cell hres3 5
    have e6 := blk_cell hres3 6
    have e7 := blk_cell hres3 7
    have e8 := blk_cell hres3 8
    have fz : ∀ k, ((w1.alloc (.cells #[.int .i64 (c : Int), .int .i64 (d : Int), .int .i64 (g : Int), .int .i64 (f : Int), .int .i64 (u : Int), .slice AP pP.length cP, .slice AQ pQ.length cQ, .slice AR pR.length cR, .bool mb] 34)).alloc (.cells #[.pointer none] 64)).frozen? ⟨w.heap.size, k, none⟩ = false := fun k => blk_frozen hres3 k
    have z0 := fz 0
    have z1 := fz 1
    have z2 := fz 2
    have z3 := fz 3
    have z4 := fz 4
    have z5 := fz 5
    have z6 := fz 6
    have z7 := fz 7
    have z8 := fz 8
    have r0 := blk_cell hrec3 0
    have r1 := blk_cell hrec3 1
    have r2 := blk_cell hrec3 2
    have r3 := blk_cell hrec3 3
    have r4 := blk_cell hrec3 4
    have r5 := blk_cell hrec3 5
    have r6 := blk_cell hrec3 6
    have r7 := blk_cell hrec3 7
    have r8 := blk_cell hrec3 8
    have HRES := Aside0.mk hres3
    have HRES1 := Aside0.mk hres1
    have hpt0 := blk_new (w1.alloc (.cells #[.int .i64 (c : Int), .int .i64 (d : Int), .int .i64 (g : Int), .int .i64 (f : Int), .int .i64 (u : Int), .slice AP pP.length cP, .slice AQ pQ.length cQ, .slice AR pR.length cR, .bool mb] 34)) (.cells #[.pointer none] 64)
    rw [World.size_alloc] at hpt0
    have HPT := Aside0.mk hpt0
    clear hpt0
    have HBW := Aside0.mk (hbw.trans (hW3.mono hbw.size))
    have HW3 := Aside0.mk hW3
    clear hres3 hrec3 fz hbw hres1 hW3
    cases st with
    | none =>
      obtain rfl : ve = .nilIface := HER.out
      refine (as_nil _ _).mono ?_
      rintro ev w4 ⟨rfl, rfl⟩
      go_wp2
      have hf0 : Fin2 w _ w.heap.size AP AQ AR cP cQ cR pP pQ pR #[.int .i64 0, .int .i64 0, .int .i64 0, .int .i64 0, .int .i64 0, .slice none 0 0, .slice none 0 0, .slice none 0 0, .bool false] := ⟨(HRW.out.lower (by simp)).later HW3.out, HBW.out, HRES.out, Nat.le_refl _⟩
      have hf1 : Fin2 w _ w.heap.size AP AQ AR cP cQ cR pP pQ pR #[.int .i64 (c : Int), .int .i64 0, .int .i64 0, .int .i64 0, .int .i64 0, .slice none 0 0, .slice none 0 0, .slice none 0 0, .bool false] := hf0.put 0 (.int .i64 (c : Int))
      clear hf0
      have hf2 : Fin2 w _ w.heap.size AP AQ AR cP cQ cR pP pQ pR #[.int .i64 (c : Int), .int .i64 (d : Int), .int .i64 0, .int .i64 0, .int .i64 0, .slice none 0 0, .slice none 0 0, .slice none 0 0, .bool false] := hf1.put 1 (.int .i64 (d : Int))
      clear hf1
      have hf3 : Fin2 w _ w.heap.size AP AQ AR cP cQ cR pP pQ pR #[.int .i64 (c : Int), .int .i64 (d : Int), .int .i64 (g : Int), .int .i64 0, .int .i64 0, .slice none 0 0, .slice none 0 0, .slice none 0 0, .bool false] := hf2.put 2 (.int .i64 (g : Int))
      clear hf2
      have hf4 : Fin2 w _ w.heap.size AP AQ AR cP cQ cR pP pQ pR #[.int .i64 (c : Int), .int .i64 (d : Int), .int .i64 (g : Int), .int .i64 (f : Int), .int .i64 0, .slice none 0 0, .slice none 0 0, .slice none 0 0, .bool false] := hf3.put 3 (.int .i64 (f : Int))
      clear hf3
      have hf5 : Fin2 w _ w.heap.size AP AQ AR cP cQ cR pP pQ pR #[.int .i64 (c : Int), .int .i64 (d : Int), .int .i64 (g : Int), .int .i64 (f : Int), .int .i64 (u : Int), .slice none 0 0, .slice none 0 0, .slice none 0 0, .bool false] := hf4.put 4 (.int .i64 (u : Int))
      clear hf4
      have hf6 : Fin2 w _ w.heap.size AP AQ AR cP cQ cR pP pQ pR #[.int .i64 (c : Int), .int .i64 (d : Int), .int .i64 (g : Int), .int .i64 (f : Int), .int .i64 (u : Int), .slice AP pP.length cP, .slice none 0 0, .slice none 0 0, .bool false] := hf5.put 5 (.slice AP pP.length cP)
      clear hf5
      have hf7 : Fin2 w _ w.heap.size AP AQ AR cP cQ cR pP pQ pR #[.int .i64 (c : Int), .int .i64 (d : Int), .int .i64 (g : Int), .int .i64 (f : Int), .int .i64 (u : Int), .slice AP pP.length cP, .slice AQ pQ.length cQ, .slice none 0 0, .bool false] := hf6.put 6 (.slice AQ pQ.length cQ)
      clear hf6
      have hf8 : Fin2 w _ w.heap.size AP AQ AR cP cQ cR pP pQ pR #[.int .i64 (c : Int), .int .i64 (d : Int), .int .i64 (g : Int), .int .i64 (f : Int), .int .i64 (u : Int), .slice AP pP.length cP, .slice AQ pQ.length cQ, .slice AR pR.length cR, .bool false] := hf7.put 7 (.slice AR pR.length cR)
      clear hf7
      have hf9 : Fin2 w _ w.heap.size AP AQ AR cP cQ cR pP pQ pR #[.int .i64 (c : Int), .int .i64 (d : Int), .int .i64 (g : Int), .int .i64 (f : Int), .int .i64 (u : Int), .slice AP pP.length cP, .slice AQ pQ.length cQ, .slice AR pR.length cR, .bool mb] := hf8.put 8 (.bool mb)
      clear hf8
      refine bodyPost_ret (results_ct rfl _ _ w.heap.size 34 _ (0, 0) _ rfl hf9.res Tryd.underlying34 rfl (by kernel_rfl)) rfl ?_
      exact ⟨⟨AP, cP, AQ, cQ, AR, cR, rfl, hf9.rw⟩, hf9.bel⟩
    | some e9 =>
      obtain ⟨left, p, rfl, hp⟩ := HER.out
      have hp3 := blk_below hp HW3.out
      have hpt : p < w1.heap.size := blk_lt hp
      have qg := cell_later' (cell_later' (cell_later' HG0.out (below_drew (below_alloc (Below.refl _ _) _))) HB.out) HW3.out
      refine (as_at left p _ (.pointer none) _ qg (by simp) (by simp)).mono ?_
      rintro ev w4 ⟨rfl, W, hWb, rfl⟩
      have hpt3 : (_ : World).heap[w1.heap.size + 1]? = some (.cells #[.pointer none] 64 (0, 0)) := HPT.out
      have hptW := set1 (x := .pointer (some ⟨p, 0, none⟩)) (blk_below hpt3 hWb)
      have qtW := blk_cell hptW 0
      have hlw := blk_lt HRES1.out
      have qpW := blk_cell ((Below.heap_setCell W ⟨w1.heap.size + 1, 0, none⟩ (.pointer (some ⟨p, 0, none⟩)) p (by simp; omega)).trans (blk_below hp3 hWb)) 0
      have hrW := (Below.heap_setCell W ⟨w1.heap.size + 1, 0, none⟩ (.pointer (some ⟨p, 0, none⟩)) w.heap.size (by simp; omega)).trans (blk_below HRES.out hWb)
      have hbW : Below w.heap.size w (W.setCell ⟨w1.heap.size + 1, 0, none⟩ (.pointer (some ⟨p, 0, none⟩))) := (HBW.out.trans (hWb.mono HBW.out.size)).setCell (p := ⟨w1.heap.size + 1, 0, none⟩) (by simp; omega) _
      have hnp : p ≠ w.heap.size := by
        intro hp0
        have hq1 := blk_below hp3 hWb
        have hq2 := blk_below HRES.out hWb
        rw [hp0, hq2] at hq1
        injection hq1 with hq1
        injection hq1 with _ hq1
        exact absurd hq1 (by decide)
      have hnp' : w.heap.size ≠ p := Ne.symm hnp
      have hnt : w1.heap.size + 1 ≠ w.heap.size := by omega
      have hnt' : w.heap.size ≠ w1.heap.size + 1 := by omega
      obtain ⟨V, hV⟩ : ∃ V, V = W.setCell ⟨w1.heap.size + 1, 0, none⟩ (.pointer (some ⟨p, 0, none⟩)) := ⟨_, rfl⟩
      rw [← hV] at qtW qpW hrW hbW ⊢
      have y0 := blk_cell hrW 0
      have y1 := blk_cell hrW 1
      have y2 := blk_cell hrW 2
      have y3 := blk_cell hrW 3
      have y4 := blk_cell hrW 4
      have y5 := blk_cell hrW 5
      have y6 := blk_cell hrW 6
      have y7 := blk_cell hrW 7
      have y8 := blk_cell hrW 8
      have fz : ∀ k, V.frozen? ⟨w.heap.size, k, none⟩ = false := fun k => blk_frozen hrW k
      have x0 := fz 0
      have x1 := fz 1
      have x2 := fz 2
      have x3 := fz 3
      have x4 := fz 4
      have x5 := fz 5
      have x6 := fz 6
      have x7 := fz 7
      have x8 := fz 8
      have HRV := Aside0.mk hrW
      have HBV := Aside0.mk hbW
      clear hrW hbW hV hptW hpt3 hp3 fz e0 e1 e2 e3 e4 e5 e6 e7 e8 z0 z1 z2 z3 z4 z5 z6 z7 z8 r0 r1 r2 r3 r4 r5 r6 r7 r8 hWb
      go_wp2
      go_region
      go_wp2
      have hv0 : Zr w V w.heap.size := ⟨HBV.out, HRV.out, Nat.le_refl _⟩
      have hv1 : Zr w _ w.heap.size := hv0.put 0 (.int .i64 0) rfl
      clear hv0
      have hv2 : Zr w _ w.heap.size := hv1.put 1 (.int .i64 0) rfl
      clear hv1
      have hv3 : Zr w _ w.heap.size := hv2.put 2 (.int .i64 0) rfl
      clear hv2
      have hv4 : Zr w _ w.heap.size := hv3.put 3 (.int .i64 0) rfl
      clear hv3
      have hv5 : Zr w _ w.heap.size := hv4.put 4 (.int .i64 0) rfl
      clear hv4
      have hv6 : Zr w _ w.heap.size := hv5.put 5 (.slice none 0 0) rfl
      clear hv5
      have hv7 : Zr w _ w.heap.size := hv6.put 6 (.slice none 0 0) rfl
      clear hv6
      have hv8 : Zr w _ w.heap.size := hv7.put 7 (.slice none 0 0) rfl
      clear hv7
      have hv9 : Zr w _ w.heap.size := hv8.put 8 (.bool false) rfl
      clear hv8
      have hvd := hv9.later (below_drew (Below.refl _ _))
      refine bodyPost_ret (results_ct rfl _ _ w.heap.size 34 _ (0, 0) _ rfl hvd.res Tryd.underlying34 rfl (by kernel_rfl)) rfl ?_
      refine ⟨?_, ?_, hvd.bel⟩
      · intro e0 he0
        cases he0
        rfl
      · intro he0
        cases he0
end Go.Proofs.YtanjahakoadecaaDoor.Hand
