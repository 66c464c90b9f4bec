/- crc.parts by hand: what bytes without ends are. -/
import Derived.Test.YtanjahakoadecaaDoorHCrcF
namespace Go.Proofs.YtanjahakoadecaaDoor.Hand
open Go.RowKit Go.Proofs.YtanjahakoadecaaDoorW.PrintWords Go.Proofs.YtanjahakoadecaaDoorW.PrintMore Go.Proofs.YtanjahakoadecaaDoor.Num
set_option linter.unusedVariables false
set_option linter.unusedSimpArgs false

theorem set_at {w : World} {g k : Nat} {T : TypeId} {xs : Array Value} {v : Value} (h : w.heap[g]? = some (.cells xs T (0, 0))) : (w.setCell ⟨g, k, none⟩ v).heap[g]? = some (.cells (xs.setIfInBounds k v) T (0, 0)) := by
  rw [setCell_eq_setRow w g k _ _ _ _ h, setRow_heap w g _ _ _ _ h]
theorem Env.far {w : World} {be bs g k : Nat} {st : Option Int} {S : ByteArray} {xs : Array Value} {v : Value} (h : Env w be bs st S) (hb : w.heap[g]? = some (.cells xs 34 (0, 0))) : Env (w.setCell ⟨g, k, none⟩ v) be bs st S := by
  have key : ∀ {j : Nat} {cells : Array Value} {T : TypeId}, w.heap[j]? = some (.cells cells T (0, 0)) → T ≠ 34 → (w.setCell ⟨g, k, none⟩ v).heap[j]? = some (.cells cells T (0, 0)) := fun {j cells T} hj ht => by
    have hne : j ≠ g := by
      rintro rfl
      rw [hj] at hb
      injection hb with hb
      injection hb with _ hb
      exact ht hb
    exact (Below.heap_setCell w ⟨g, k, none⟩ v j hne).trans hj
  refine ⟨?_, key h.s (by decide)⟩
  cases st with
  | none => exact key h.e (by decide)
  | some e =>
    obtain ⟨left, p, h1, h2⟩ := h.e
    exact ⟨left, p, key h1 (by decide), key h2 (by decide)⟩
/-- What parts has: its variables, the record's cells, the result's. B: the first new block. -/
structure PS (w0 w : World) (st : Option Int) (S : ByteArray) (xs : Array Value) : Prop where
  env : Env w (w0.heap.size + 1 + 1) w0.heap.size st S
  held : Held w (w0.heap.size + 1 + 1) w0.heap.size (w0.heap.size + 1 + 1 + 1) (w0.heap.size + 1 + 1 + 1 + 1)
  cells : w.heap[w0.heap.size + 1 + 1 + 1 + 1 + 1]? = some (.cells xs 34 (0, 0))
  res : w.heap[w0.heap.size + 1]? = some (.cells #[.int .i64 0, .int .i64 0, .int .i64 0, .int .i64 0, .int .i64 0, .slice none 0 0, .slice none 0 0, .slice none 0 0, .bool false] 34 (0, 0))
  bel : Below w0.heap.size w0 w
theorem PS.turn {w0 w w1 : World} {st st' : Option Int} {S S' : ByteArray} {xs : Array Value} (h : PS w0 w st S xs) (k : Turn (w0.heap.size + 1 + 1) w0.heap.size w w1) (he : Env w1 (w0.heap.size + 1 + 1) w0.heap.size st' S') : PS w0 w1 st' S' xs :=
  ⟨he, h.held.turn k, (k.block _ (blk_lt h.cells) (by omega) (by omega)).trans h.cells, (k.block _ (blk_lt h.res) (by omega) (by omega)).trans h.res, h.bel.trans (k.below (by omega) (Nat.le_refl _) h.bel.size)⟩
theorem cell_later' {w w' : World} {p : Addr} {v : Value} (h : w.cell? p = some v) (hb : Below w.heap.size w w') : w'.cell? p = some v := (hb.cell (World.block_lt_of_cell? w _ h)).trans h
theorem PS.later {w0 w w1 : World} {st : Option Int} {S : ByteArray} {xs : Array Value} (h : PS w0 w st S xs) (k : Below w.heap.size w w1) : PS w0 w1 st S xs :=
  ⟨h.env.later k, ⟨cell_later' h.held.o k, cell_later' h.held.t k, h.held.ne⟩, blk_below h.cells k, blk_below h.res k, h.bel.trans (k.mono h.bel.size)⟩
theorem PS.put {w0 w : World} {st : Option Int} {S : ByteArray} {xs : Array Value} (h : PS w0 w st S xs) (k : Nat) (v : Value) : PS w0 (w.setCell ⟨w0.heap.size + 1 + 1 + 1 + 1 + 1, k, none⟩ v) st S (xs.setIfInBounds k v) :=
  ⟨h.env.far h.cells, ⟨(World.cell?_setCell_far w _ _ _ (by simp <;> omega)).trans h.held.o, (World.cell?_setCell_far w _ _ _ (by simp)).trans h.held.t, h.held.ne⟩, set_at h.cells, (Below.heap_setCell w _ _ _ (by simp <;> omega)).trans h.res, h.bel.setCell (p := ⟨w0.heap.size + 1 + 1 + 1 + 1 + 1, k, none⟩) (by simp <;> omega) _⟩
/-- Beside that: the row of the four pointers that a loop goes through. -/
structure PQ (w0 w : World) (bp : Nat) (rs : Array Value) (T : TypeId) (st : Option Int) (S : ByteArray) (xs : Array Value) : Prop where
  ps : PS w0 w st S xs
  ptr : w.heap[bp]? = some (.cells rs T (0, 0))
  hi : w0.heap.size + 1 + 1 + 1 + 1 + 1 < bp
theorem PQ.turn {w0 w w1 : World} {bp : Nat} {rs : Array Value} {T : TypeId} {st st' : Option Int} {S S' : ByteArray} {xs : Array Value} (h : PQ w0 w bp rs T st S xs) (k : Turn (w0.heap.size + 1 + 1) w0.heap.size w w1) (he : Env w1 (w0.heap.size + 1 + 1) w0.heap.size st' S') : PQ w0 w1 bp rs T st' S' xs :=
  ⟨h.ps.turn k he, (k.block _ (blk_lt h.ptr) (by have := h.hi; omega) (by have := h.hi; omega)).trans h.ptr, h.hi⟩
theorem PQ.put {w0 w : World} {bp : Nat} {rs : Array Value} {T : TypeId} {st : Option Int} {S : ByteArray} {xs : Array Value} (h : PQ w0 w bp rs T st S xs) (k : Nat) (v : Value) : PQ w0 (w.setCell ⟨w0.heap.size + 1 + 1 + 1 + 1 + 1, k, none⟩ v) bp rs T st S (xs.setIfInBounds k v) :=
  ⟨h.ps.put k v, (Below.heap_setCell w ⟨w0.heap.size + 1 + 1 + 1 + 1 + 1, k, none⟩ v bp (by have := h.hi; simp; omega)).trans h.ptr, h.hi⟩
theorem row_size_le (st : Option Int) (S : ByteArray) : (rowF st S).2.2.size ≤ S.size := Nat.le_trans (wordsF_size _ _ _ _) (take_size_le 4 st S)
/-- The error's value. -/
def ErrV (w : World) (v : Value) : Option Int → Prop
  | none => v = .nilIface
  | some e => ∃ (left : Int) (p : Nat), v = .iface 79 (.agg #[.int .i64 left, .iface 64 (.pointer (some ⟨p, 0, none⟩))]) ∧ w.heap[p]? = some (.cells #[.int .i64 e] 68 (0, 0))
theorem Env.value {w : World} {be bs : Nat} {st : Option Int} {S : ByteArray} (h : Env w be bs st S) : ∃ ve, w.cell? ⟨be, 0, none⟩ = some ve ∧ ErrV w ve st := by
  cases st with
  | none => exact ⟨_, blk_cell h.e 0, rfl⟩
  | some e =>
    obtain ⟨left, p, h1, h2⟩ := h.e
    exact ⟨_, blk_cell h1 0, left, p, rfl, h2⟩
theorem R_rd {w : World} {base c : Nat} {A : Option Addr} {xs : List Int} (h : Kd.R (Kd.int .u64) 58 w base (fun _ => True) (.slice A xs.length c) xs) : Rd w A xs.length xs ∧ xs.length ≤ c := by
  obtain ⟨_, h2, h3⟩ := Kd.R_reads' h
  exact ⟨Rd.of_C h3, h2⟩
theorem row_inB (st : Option Int) (S : ByteArray) {p : List Int} {st' : Option Int} {S' : ByteArray} (h : rowF st S = (p, st', S')) : InB W p := by
  have h1 : (rowF st S).1 = p := by rw [h]
  rw [← h1]
  exact wordsF_inB _ _ _ _ (inB_nil _)
/-- The three rows of the record. -/
structure RW (w0 w : World) (AP AQ AR : Option Addr) (cP cQ cR : Nat) (p q r : List Int) : Prop where
  p : Kd.R (Kd.int .u64) 58 w (w0.heap.size + 1 + 1 + 1) (fun _ => True) (.slice AP p.length cP) p
  q : Kd.R (Kd.int .u64) 58 w (w0.heap.size + 1 + 1 + 1) (fun _ => True) (.slice AQ q.length cQ) q
  r : Kd.R (Kd.int .u64) 58 w (w0.heap.size + 1 + 1 + 1) (fun _ => True) (.slice AR r.length cR) r
theorem RW.turn {w0 w w1 : World} {AP AQ AR : Option Addr} {cP cQ cR : Nat} {p q r : List Int} (h : RW w0 w AP AQ AR cP cQ cR p q r) (k : Turn (w0.heap.size + 1 + 1) w0.heap.size w w1) : RW w0 w1 AP AQ AR cP cQ cR p q r :=
  ⟨R_turn h.p k (by omega) (by omega), R_turn h.q k (by omega) (by omega), R_turn h.r k (by omega) (by omega)⟩
theorem RW.later {w0 w w1 : World} {AP AQ AR : Option Addr} {cP cQ cR : Nat} {p q r : List Int} (h : RW w0 w AP AQ AR cP cQ cR p q r) (k : Below w.heap.size w w1) : RW w0 w1 AP AQ AR cP cQ cR p q r := ⟨Kd.R_below h.p k, Kd.R_below h.q k, Kd.R_below h.r k⟩
/-- What bytes without ends are: the job's and the range's numbers, the rows, the sign; and what is wrong. -/
def partsF (S : ByteArray) : (Nat × Nat × Nat × Nat × Nat) × (List Int × List Int × List Int) × Bool × Option Int :=
  let t1 := takeF 1 none S
  let t2 := takeF 4 t1.2.1 t1.2.2
  let t3 := takeF 4 t2.2.1 t2.2.2
  let t4 := takeF 4 t3.2.1 t3.2.2
  let t5 := takeF 4 t4.2.1 t4.2.2
  let t6 := takeF 1 t5.2.1 t5.2.2
  let r1 := rowF (if 1 < t6.1 then t6.2.1.or (some 6) else t6.2.1) t6.2.2
  let r2 := rowF r1.2.1 r1.2.2
  let r3 := rowF r2.2.1 r2.2.2
  let st := if r3.2.2.toList.isEmpty = true then r3.2.1 else r3.2.1.or (some 6)
  ((t1.1, t2.1, t3.1, t4.1, t5.1), (r1.1, r2.1, r3.1), (((t6.1 : Nat) : Int) == 1), if mayV (t1.1 : Int) (t2.1 : Int) (t3.1 : Int) (t4.1 : Int) (t5.1 : Int) r1.1 r2.1 r3.1 = true then st else st.or (some 1))
/-- What stands at the end: the result's cells are written. -/
structure Fin (w0 w : World) (AP AQ AR : Option Addr) (cP cQ cR : Nat) (p q r : List Int) (ve : Value) (st : Option Int) (xs : Array Value) : Prop where
  rw : RW w0 w AP AQ AR cP cQ cR p q r
  err : ErrV w ve st
  bel : Below w0.heap.size w0 w
  res : w.heap[w0.heap.size + 1]? = some (.cells xs 34 (0, 0))
theorem Fin.later {w0 w w1 : World} {AP AQ AR : Option Addr} {cP cQ cR : Nat} {p q r : List Int} {ve : Value} {st : Option Int} {xs : Array Value} (h : Fin w0 w AP AQ AR cP cQ cR p q r ve st xs) (k : Below w.heap.size w w1) : Fin w0 w1 AP AQ AR cP cQ cR p q r ve st xs := by
  refine ⟨h.rw.later k, ?_, h.bel.trans (k.mono h.bel.size), blk_below h.res k⟩
  cases st with
  | none => exact h.err
  | some e =>
    obtain ⟨left, p, h1, h2⟩ := h.err
    exact ⟨left, p, h1, blk_below h2 k⟩
theorem Fin.put {w0 w : World} {AP AQ AR : Option Addr} {cP cQ cR : Nat} {p q r : List Int} {ve : Value} {st : Option Int} {xs : Array Value} (h : Fin w0 w AP AQ AR cP cQ cR p q r ve st xs) (k : Nat) (v : Value) : Fin w0 (w.setCell ⟨w0.heap.size + 1, k, none⟩ v) AP AQ AR cP cQ cR p q r ve st (xs.setIfInBounds k v) := by
  have ht : ∀ x, x ∈ 58 :: (Kd.int .u64).E → x ≠ 34 := by
    intro x hx
    rcases List.mem_singleton.1 hx
    decide
  refine ⟨⟨Kd.R_set h.rw.p h.res ht k v, Kd.R_set h.rw.q h.res ht k v, Kd.R_set h.rw.r h.res ht k v⟩, ?_, h.bel.setCell (p := ⟨w0.heap.size + 1, k, none⟩) (by simp) _, set_at h.res⟩
  cases st with
  | none => exact h.err
  | some e =>
    obtain ⟨left, p, h1, h2⟩ := h.err
    refine ⟨left, p, h1, (Below.heap_setCell w ⟨w0.heap.size + 1, k, none⟩ v p ?_).trans h2⟩
    intro he
    have h3 := h.res
    have he' : p = w0.heap.size + 1 := he
    rw [← he', h2] at h3
    injection h3 with h3
    injection h3 with _ h3
    exact absurd h3 (by decide)
/-- A function value is stored into its variable. -/
theorem store_func (W : World) (p : Addr) (f : Nat) (cs : Array Value) (old : Value) (hc : W.cell? p = some old) (hf : W.frozen? p = false) :
    (store p (.func (.func f) #[] cs)).run Tryd.prog W = .ok () (W.setCell p (.func (.func f) #[] cs)) := by
  rw [run_store Tryd.prog W p _ _ (by rfl)]
  simp [hc, hf]
set_option maxRecDepth 100000 in
set_option maxHeartbeats 4000000 in
theorem crc_parts (S : ByteArray) (w : World) (hS : S.size ≤ 4611686018427387904) :
    Calls Tryd.prog 21 #[.string S] w fun ev w' => ∃ AP cP AQ cQ AR cR ve, ev = .returned (.tuple #[.agg #[.int .i64 (((partsF S).1.1 : Nat) : Int), .int .i64 (((partsF S).1.2.1 : Nat) : Int), .int .i64 (((partsF S).1.2.2.1 : Nat) : Int), .int .i64 (((partsF S).1.2.2.2.1 : Nat) : Int), .int .i64 (((partsF S).1.2.2.2.2 : Nat) : Int), .slice AP (partsF S).2.1.1.length cP, .slice AQ (partsF S).2.1.2.1.length cQ, .slice AR (partsF S).2.1.2.2.length cR, .bool (partsF S).2.2.1], ve]) ∧ RW w w' AP AQ AR cP cQ cR (partsF S).2.1.1 (partsF S).2.1.2.1 (partsF S).2.1.2.2 ∧ ErrV w' ve (partsF S).2.2.2 ∧ Below w.heap.size w w' := by
  go_enter Tryd.func21, Tryd.ntmps21
  go_wp2
  obtain ⟨A4, hA4⟩ : ∃ A4, A4 = (((w.alloc (.cells #[.string S] 9)).alloc (.cells #[.int .i64 0, .int .i64 0, .int .i64 0, .int .i64 0, .int .i64 0, .slice none 0 0, .slice none 0 0, .slice none 0 0, .bool false] 34)).alloc (.cells #[.nilIface] 61)).alloc (.cells #[.nilFunc] 80) := ⟨_, rfl⟩
  have hz : A4.heap.size = w.heap.size + 1 + 1 + 1 + 1 := by rw [hA4, World.size_alloc, World.size_alloc, World.size_alloc, World.size_alloc]
  have hs4 : A4.heap[w.heap.size]? = some (.cells #[.string S] 9 (0, 0)) := by rw [hA4]; exact blk_alloc (blk_alloc (blk_alloc (blk_new _ _) _) _) _
  have hr4 : A4.heap[w.heap.size + 1]? = some (.cells #[.int .i64 0, .int .i64 0, .int .i64 0, .int .i64 0, .int .i64 0, .slice none 0 0, .slice none 0 0, .slice none 0 0, .bool false] 34 (0, 0)) := by
    rw [hA4]
    refine blk_alloc (blk_alloc ?_ _) _
    rw [← World.size_alloc w (.cells #[.string S] 9)]
    exact blk_new _ _
  have he4 : A4.heap[w.heap.size + 1 + 1]? = some (.cells #[.nilIface] 61 (0, 0)) := by
    rw [hA4]
    refine blk_alloc ?_ _
    rw [← World.size_alloc w (.cells #[.string S] 9), ← World.size_alloc (w.alloc (.cells #[.string S] 9))]
    exact blk_new _ _
  have ho4 : A4.heap[w.heap.size + 1 + 1 + 1]? = some (.cells #[.nilFunc] 80 (0, 0)) := by
    rw [hA4]
    rw [← World.size_alloc w (.cells #[.string S] 9), ← World.size_alloc (w.alloc (.cells #[.string S] 9)), ← World.size_alloc ((w.alloc (.cells #[.string S] 9)).alloc _)]
    exact blk_new _ _
  have hb4 : Below w.heap.size w A4 := by rw [hA4]; exact below_alloc (below_alloc (below_alloc (below_alloc (Below.refl _ _) _) _) _) _
  rw [← hA4]
  clear hA4
  have qo4 : A4.cell? ⟨w.heap.size + 1 + 1 + 1, 0, none⟩ = some .nilFunc := blk_cell ho4 0
  have fo4 : A4.frozen? ⟨w.heap.size + 1 + 1 + 1, 0, none⟩ = false := blk_frozen ho4 0
  have hst4 := fun fv => store_func A4 ⟨w.heap.size + 1 + 1 + 1, 0, none⟩ 32 fv _ qo4 fo4
  rw [hst4]
  go_simp
  go_wp2
  obtain ⟨A6, hA6⟩ : ∃ A6, A6 = (A4.setCell ⟨w.heap.size + 1 + 1 + 1, 0, none⟩ (.func (.func 32) #[] #[.pointer (some ⟨w.heap.size + 1 + 1, 0, none⟩), .pointer (some ⟨w.heap.size, 0, none⟩)])).alloc (.cells #[.nilFunc] 81) := ⟨_, rfl⟩
  have es4 : ∀ p v, (A4.setCell p v).heap.size = A4.heap.size := fun p v => by simp [World.setCell]
  have hs6 : A6.heap[w.heap.size]? = some (.cells #[.string S] 9 (0, 0)) := by rw [hA6]; exact blk_alloc ((Below.heap_setCell A4 _ _ _ (by simp <;> omega)).trans hs4) _
  have hr6 : A6.heap[w.heap.size + 1]? = some (.cells #[.int .i64 0, .int .i64 0, .int .i64 0, .int .i64 0, .int .i64 0, .slice none 0 0, .slice none 0 0, .slice none 0 0, .bool false] 34 (0, 0)) := by rw [hA6]; exact blk_alloc ((Below.heap_setCell A4 _ _ _ (by simp <;> omega)).trans hr4) _
  have he6 : A6.heap[w.heap.size + 1 + 1]? = some (.cells #[.nilIface] 61 (0, 0)) := by rw [hA6]; exact blk_alloc ((Below.heap_setCell A4 _ _ _ (by simp)).trans he4) _
  have ho6 : A6.heap[w.heap.size + 1 + 1 + 1]? = some (.cells #[.func (.func 32) #[] #[.pointer (some ⟨w.heap.size + 1 + 1, 0, none⟩), .pointer (some ⟨w.heap.size, 0, none⟩)]] 80 (0, 0)) := by rw [hA6]; exact blk_alloc (set1 ho4) _
  have ht6 : A6.heap[w.heap.size + 1 + 1 + 1 + 1]? = some (.cells #[.nilFunc] 81 (0, 0)) := by rw [hA6, ← hz, ← es4]; exact blk_new _ _
  have hz6 : A6.heap.size = w.heap.size + 1 + 1 + 1 + 1 + 1 := by rw [hA6, World.size_alloc, es4, hz]
  have hb6 : Below w.heap.size w A6 := by rw [hA6]; exact below_alloc (hb4.setCell (p := ⟨w.heap.size + 1 + 1 + 1, 0, none⟩) (by simp <;> omega) _) _
  rw [← hA6]
  clear hA6 hs4 hr4 he4 ho4 hb4 qo4 fo4 hst4 es4 hz
  have hst6 := fun fv => store_func A6 ⟨w.heap.size + 1 + 1 + 1 + 1, 0, none⟩ 33 fv _ (blk_cell ht6 0) (blk_frozen ht6 0)
  rw [hst6]
  go_simp
  obtain ⟨A8, hA8⟩ : ∃ A8, A8 = (A6.setCell ⟨w.heap.size + 1 + 1 + 1 + 1, 0, none⟩ (.func (.func 33) #[] #[.pointer (some ⟨w.heap.size, 0, none⟩), .pointer (some ⟨w.heap.size + 1 + 1 + 1, 0, none⟩), .pointer (some ⟨w.heap.size + 1 + 1, 0, none⟩)])).alloc (.cells #[.int .i64 0, .int .i64 0, .int .i64 0, .int .i64 0, .int .i64 0, .slice none 0 0, .slice none 0 0, .slice none 0 0, .bool false] 34) := ⟨_, rfl⟩
  have es6 : ∀ p v, (A6.setCell p v).heap.size = A6.heap.size := fun p v => by simp [World.setCell]
  have hps : PS w A8 none S #[.int .i64 0, .int .i64 0, .int .i64 0, .int .i64 0, .int .i64 0, .slice none 0 0, .slice none 0 0, .slice none 0 0, .bool false] := by
    rw [hA8]
    refine ⟨⟨blk_alloc ((Below.heap_setCell A6 _ _ _ (by simp <;> omega)).trans he6) _, blk_alloc ((Below.heap_setCell A6 _ _ _ (by simp <;> omega)).trans hs6) _⟩, ⟨?_, ?_, by omega⟩, ?_, blk_alloc ((Below.heap_setCell A6 _ _ _ (by simp <;> omega)).trans hr6) _, below_alloc (hb6.setCell (p := ⟨w.heap.size + 1 + 1 + 1 + 1, 0, none⟩) (by simp <;> omega) _) _⟩
    · exact blk_cell (blk_alloc ((Below.heap_setCell A6 _ _ _ (by simp)).trans ho6) _) 0
    · exact blk_cell (blk_alloc (set1 ht6) _) 0
    · rw [← hz6, ← es6]
      exact blk_new _ _
  have HPS := Aside0.mk hps
  have qt8 := hps.held.t
  rw [hA8] at qt8
  have HA8 := Aside0.mk hA8
  clear hA8 hps hs6 hr6 he6 ho6 ht6 hb6 hst6 es6
  obtain ⟨c, st1, S1, h1⟩ : ∃ c st S', takeF 1 none S = (c, st, S') := ⟨_, _, _, rfl⟩
  have HT1 := Aside0.mk (fun W (h : PS w W none S #[.int .i64 0, .int .i64 0, .int .i64 0, .int .i64 0, .int .i64 0, .slice none 0 0, .slice none 0 0, .slice none 0 0, .bool false]) => crc_take_1 _ _ _ _ none S W h.env h.held hS)
  rw [h1] at HT1
  have lc := take_num_lt 1 none S
  have sc := take_size_le 1 none S
  rw [h1] at lc sc
  have wc : IntKind.i64.wrap (c : Int) = (c : Int) := by rw [IntKind.wrap_i64]; omega
  have hu34 := Tryd.underlying34
  have hu23 := Tryd.underlying23
  have hu29 := Tryd.underlying29
  have hu26 := Tryd.underlying26
  go_wp2_with ((go_at_call 33); rw [← HA8.out]; (with_reducible refine (HT1.out _ HPS.out).mono ?_); (rintro ev w1 ⟨rfl, hE1, hT1⟩); (have hP1 := HPS.out.turn hT1 hE1); (have q1 := blk_cell hP1.cells 0); (have f1 := blk_frozen hP1.cells 0); (have HP1 := Aside0.mk (hP1.put 0 (.int .i64 (c : Int)))); (clear hE1 hT1 hP1))
  have HA1 := HPS
  obtain ⟨W2, hW2⟩ : ∃ W2, W2 = (w1.setCell ⟨w.heap.size + 1 + 1 + 1 + 1 + 1, 0, none⟩ (.int .i64 (c : Int))).alloc (.cells #[.pointer (some ⟨w.heap.size + 1 + 1 + 1 + 1 + 1, 1, none⟩), .pointer (some ⟨w.heap.size + 1 + 1 + 1 + 1 + 1, 2, none⟩), .pointer (some ⟨w.heap.size + 1 + 1 + 1 + 1 + 1, 3, none⟩), .pointer (some ⟨w.heap.size + 1 + 1 + 1 + 1 + 1, 4, none⟩)] 84) := ⟨_, rfl⟩
  have hq2 : PQ w W2 w1.heap.size #[.pointer (some ⟨w.heap.size + 1 + 1 + 1 + 1 + 1, 1, none⟩), .pointer (some ⟨w.heap.size + 1 + 1 + 1 + 1 + 1, 2, none⟩), .pointer (some ⟨w.heap.size + 1 + 1 + 1 + 1 + 1, 3, none⟩), .pointer (some ⟨w.heap.size + 1 + 1 + 1 + 1 + 1, 4, none⟩)] 84 st1 S1 #[.int .i64 (c : Int), .int .i64 0, .int .i64 0, .int .i64 0, .int .i64 0, .slice none 0 0, .slice none 0 0, .slice none 0 0, .bool false] := by
    rw [hW2]
    have es : (w1.setCell ⟨w.heap.size + 1 + 1 + 1 + 1 + 1, 0, none⟩ (.int .i64 (c : Int))).heap.size = w1.heap.size := by simp [World.setCell]
    refine ⟨(HP1.out).later (below_alloc (Below.refl _ _) _), ?_, ?_⟩
    · rw [← es]
      exact blk_new _ _
    · rw [← es]
      exact blk_lt HP1.out.cells
  rw [← hW2]
  have HQ2 := Aside0.mk hq2
  have qt2 := hq2.ps.held.t
  have qp2 := blk_cell hq2.ptr 0
  obtain ⟨bp, hbp⟩ : ∃ bp, bp = w1.heap.size := ⟨_, rfl⟩
  rw [← hbp] at HQ2 qp2 ⊢
  clear hW2 hq2 q1 f1 hbp HP1 HA8 qt8 HPS HA1 HT1 hz6
  obtain ⟨d, st2, S2, h2⟩ : ∃ c st S', takeF 4 st1 S1 = (c, st, S') := ⟨_, _, _, rfl⟩
  have l2 := take_num_lt 4 st1 S1
  have s2 := take_size_le 4 st1 S1
  rw [h2] at l2 s2
  dsimp only at l2 s2
  have HT2 := Aside0.mk (fun W (h : PQ w W bp #[.pointer (some ⟨w.heap.size + 1 + 1 + 1 + 1 + 1, 1, none⟩), .pointer (some ⟨w.heap.size + 1 + 1 + 1 + 1 + 1, 2, none⟩), .pointer (some ⟨w.heap.size + 1 + 1 + 1 + 1 + 1, 3, none⟩), .pointer (some ⟨w.heap.size + 1 + 1 + 1 + 1 + 1, 4, none⟩)] 84 st1 S1 #[.int .i64 (c : Int), .int .i64 0, .int .i64 0, .int .i64 0, .int .i64 0, .slice none 0 0, .slice none 0 0, .slice none 0 0, .bool false]) => crc_take_4 _ _ _ _ st1 S1 W h.ps.env h.ps.held (by omega))
  rw [h2] at HT2
  have wk2 : IntKind.i64.wrap (d : Int) = (d : Int) := by rw [IntKind.wrap_i64]; omega
  obtain ⟨g, st3, S3, h3⟩ : ∃ c st S', takeF 4 st2 S2 = (c, st, S') := ⟨_, _, _, rfl⟩
  have l3 := take_num_lt 4 st2 S2
  have s3 := take_size_le 4 st2 S2
  rw [h3] at l3 s3
  dsimp only at l3 s3
  have HT3 := Aside0.mk (fun W (h : PQ w W bp #[.pointer (some ⟨w.heap.size + 1 + 1 + 1 + 1 + 1, 1, none⟩), .pointer (some ⟨w.heap.size + 1 + 1 + 1 + 1 + 1, 2, none⟩), .pointer (some ⟨w.heap.size + 1 + 1 + 1 + 1 + 1, 3, none⟩), .pointer (some ⟨w.heap.size + 1 + 1 + 1 + 1 + 1, 4, none⟩)] 84 st2 S2 #[.int .i64 (c : Int), .int .i64 (d : Int), .int .i64 0, .int .i64 0, .int .i64 0, .slice none 0 0, .slice none 0 0, .slice none 0 0, .bool false]) => crc_take_4 _ _ _ _ st2 S2 W h.ps.env h.ps.held (by omega))
  rw [h3] at HT3
  have wk3 : IntKind.i64.wrap (g : Int) = (g : Int) := by rw [IntKind.wrap_i64]; omega
  obtain ⟨f, st4, S4, h4⟩ : ∃ c st S', takeF 4 st3 S3 = (c, st, S') := ⟨_, _, _, rfl⟩
  have l4 := take_num_lt 4 st3 S3
  have s4 := take_size_le 4 st3 S3
  rw [h4] at l4 s4
  dsimp only at l4 s4
  have HT4 := Aside0.mk (fun W (h : PQ w W bp #[.pointer (some ⟨w.heap.size + 1 + 1 + 1 + 1 + 1, 1, none⟩), .pointer (some ⟨w.heap.size + 1 + 1 + 1 + 1 + 1, 2, none⟩), .pointer (some ⟨w.heap.size + 1 + 1 + 1 + 1 + 1, 3, none⟩), .pointer (some ⟨w.heap.size + 1 + 1 + 1 + 1 + 1, 4, none⟩)] 84 st3 S3 #[.int .i64 (c : Int), .int .i64 (d : Int), .int .i64 (g : Int), .int .i64 0, .int .i64 0, .slice none 0 0, .slice none 0 0, .slice none 0 0, .bool false]) => crc_take_4 _ _ _ _ st3 S3 W h.ps.env h.ps.held (by omega))
  rw [h4] at HT4
  have wk4 : IntKind.i64.wrap (f : Int) = (f : Int) := by rw [IntKind.wrap_i64]; omega
  obtain ⟨u, st5, S5, h5⟩ : ∃ c st S', takeF 4 st4 S4 = (c, st, S') := ⟨_, _, _, rfl⟩
  have l5 := take_num_lt 4 st4 S4
  have s5 := take_size_le 4 st4 S4
  rw [h5] at l5 s5
  dsimp only at l5 s5
  have HT5 := Aside0.mk (fun W (h : PQ w W bp #[.pointer (some ⟨w.heap.size + 1 + 1 + 1 + 1 + 1, 1, none⟩), .pointer (some ⟨w.heap.size + 1 + 1 + 1 + 1 + 1, 2, none⟩), .pointer (some ⟨w.heap.size + 1 + 1 + 1 + 1 + 1, 3, none⟩), .pointer (some ⟨w.heap.size + 1 + 1 + 1 + 1 + 1, 4, none⟩)] 84 st4 S4 #[.int .i64 (c : Int), .int .i64 (d : Int), .int .i64 (g : Int), .int .i64 (f : Int), .int .i64 0, .slice none 0 0, .slice none 0 0, .slice none 0 0, .bool false]) => crc_take_4 _ _ _ _ st4 S4 W h.ps.env h.ps.held (by omega))
  rw [h5] at HT5
  have wk5 : IntKind.i64.wrap (u : Int) = (u : Int) := by rw [IntKind.wrap_i64]; omega
  try dsimp only at lc sc
  refine wp_loop_rounds 5 ?_
  rw [rounds_succ]
  go_wp2_with ((go_at_call 33); (with_reducible refine (HT2.out _ HQ2.out).mono ?_); (rintro ev y0 ⟨rfl, hE, hT⟩); (have hP := HQ2.out.turn hT hE); (have q10 := blk_cell hP.ps.cells 1); (have f10 := blk_frozen hP.ps.cells 1); (have hQ : PQ w (y0.setCell ⟨w.heap.size + 1 + 1 + 1 + 1 + 1, 1, none⟩ (.int .i64 (d : Int))) bp #[.pointer (some ⟨w.heap.size + 1 + 1 + 1 + 1 + 1, 1, none⟩), .pointer (some ⟨w.heap.size + 1 + 1 + 1 + 1 + 1, 2, none⟩), .pointer (some ⟨w.heap.size + 1 + 1 + 1 + 1 + 1, 3, none⟩), .pointer (some ⟨w.heap.size + 1 + 1 + 1 + 1 + 1, 4, none⟩)] 84 st2 S2 #[.int .i64 (c : Int), .int .i64 (d : Int), .int .i64 0, .int .i64 0, .int .i64 0, .slice none 0 0, .slice none 0 0, .slice none 0 0, .bool false] := hP.put 1 _); (have qt10 := hQ.ps.held.t); (have qp10 := blk_cell hQ.ptr 1); (have HQ3 := Aside0.mk hQ); (clear hE hT hP hQ))
  rw [rounds_succ]
  go_wp2_with ((go_at_call 33); (with_reducible refine (HT3.out _ HQ3.out).mono ?_); (rintro ev y1 ⟨rfl, hE, hT⟩); (have hP := HQ3.out.turn hT hE); (have q11 := blk_cell hP.ps.cells 2); (have f11 := blk_frozen hP.ps.cells 2); (have hQ : PQ w (y1.setCell ⟨w.heap.size + 1 + 1 + 1 + 1 + 1, 2, none⟩ (.int .i64 (g : Int))) bp #[.pointer (some ⟨w.heap.size + 1 + 1 + 1 + 1 + 1, 1, none⟩), .pointer (some ⟨w.heap.size + 1 + 1 + 1 + 1 + 1, 2, none⟩), .pointer (some ⟨w.heap.size + 1 + 1 + 1 + 1 + 1, 3, none⟩), .pointer (some ⟨w.heap.size + 1 + 1 + 1 + 1 + 1, 4, none⟩)] 84 st3 S3 #[.int .i64 (c : Int), .int .i64 (d : Int), .int .i64 (g : Int), .int .i64 0, .int .i64 0, .slice none 0 0, .slice none 0 0, .slice none 0 0, .bool false] := hP.put 2 _); (have qt11 := hQ.ps.held.t); (have qp11 := blk_cell hQ.ptr 2); (have HQ4 := Aside0.mk hQ); (clear hE hT hP hQ))
  rw [rounds_succ]
  go_wp2_with ((go_at_call 33); (with_reducible refine (HT4.out _ HQ4.out).mono ?_); (rintro ev y2 ⟨rfl, hE, hT⟩); (have hP := HQ4.out.turn hT hE); (have q12 := blk_cell hP.ps.cells 3); (have f12 := blk_frozen hP.ps.cells 3); (have hQ : PQ w (y2.setCell ⟨w.heap.size + 1 + 1 + 1 + 1 + 1, 3, none⟩ (.int .i64 (f : Int))) bp #[.pointer (some ⟨w.heap.size + 1 + 1 + 1 + 1 + 1, 1, none⟩), .pointer (some ⟨w.heap.size + 1 + 1 + 1 + 1 + 1, 2, none⟩), .pointer (some ⟨w.heap.size + 1 + 1 + 1 + 1 + 1, 3, none⟩), .pointer (some ⟨w.heap.size + 1 + 1 + 1 + 1 + 1, 4, none⟩)] 84 st4 S4 #[.int .i64 (c : Int), .int .i64 (d : Int), .int .i64 (g : Int), .int .i64 (f : Int), .int .i64 0, .slice none 0 0, .slice none 0 0, .slice none 0 0, .bool false] := hP.put 3 _); (have qt12 := hQ.ps.held.t); (have qp12 := blk_cell hQ.ptr 3); (have HQ5 := Aside0.mk hQ); (clear hE hT hP hQ))
  rw [rounds_succ]
  go_wp2_with ((go_at_call 33); (with_reducible refine (HT5.out _ HQ5.out).mono ?_); (rintro ev y3 ⟨rfl, hE, hT⟩); (have hP := HQ5.out.turn hT hE); (have q13 := blk_cell hP.ps.cells 4); (have f13 := blk_frozen hP.ps.cells 4); (have hQ : PQ w (y3.setCell ⟨w.heap.size + 1 + 1 + 1 + 1 + 1, 4, none⟩ (.int .i64 (u : Int))) bp #[.pointer (some ⟨w.heap.size + 1 + 1 + 1 + 1 + 1, 1, none⟩), .pointer (some ⟨w.heap.size + 1 + 1 + 1 + 1 + 1, 2, none⟩), .pointer (some ⟨w.heap.size + 1 + 1 + 1 + 1 + 1, 3, none⟩), .pointer (some ⟨w.heap.size + 1 + 1 + 1 + 1 + 1, 4, none⟩)] 84 st5 S5 #[.int .i64 (c : Int), .int .i64 (d : Int), .int .i64 (g : Int), .int .i64 (f : Int), .int .i64 (u : Int), .slice none 0 0, .slice none 0 0, .slice none 0 0, .bool false] := hP.put 4 _); (have qt13 := hQ.ps.held.t); (have qp13 := blk_cell hQ.ptr 3); (have HQ6 := Aside0.mk hQ); (clear hE hT hP hQ))
  rw [rounds_succ]
  obtain ⟨mi, st6, S6, h6⟩ : ∃ c st S', takeF 1 st5 S5 = (c, st, S') := ⟨_, _, _, rfl⟩
  have l6 := take_num_lt 1 st5 S5
  have s6 := take_size_le 1 st5 S5
  rw [h6] at l6 s6
  dsimp only at l6 s6
  have HT6 := Aside0.mk (fun W (h : PS w W st5 S5 #[.int .i64 (c : Int), .int .i64 (d : Int), .int .i64 (g : Int), .int .i64 (f : Int), .int .i64 (u : Int), .slice none 0 0, .slice none 0 0, .slice none 0 0, .bool false]) => crc_take_1 _ _ _ _ st5 S5 W h.env h.held (by omega))
  rw [h6] at HT6
  have HOD := Aside0.mk (fun e st S W (h : PS w W st S #[.int .i64 (c : Int), .int .i64 (d : Int), .int .i64 (g : Int), .int .i64 (f : Int), .int .i64 (u : Int), .slice none 0 0, .slice none 0 0, .slice none 0 0, .bool false]) => crc_oddF e _ _ st S W h.env)
  go_upto_if 47 with ((go_at_call 33); (with_reducible refine (HT6.out _ HQ6.out.ps).mono ?_); (rintro ev y4 ⟨rfl, hE, hT⟩); (have hP := HQ6.out.ps.turn hT hE); (have qo4 := hP.held.o); (have HP4 := Aside0.mk hP); (clear hE hT hP))
  go_cut [] from 47 to 49 (fun wx => Aside0 (PS w wx (if 1 < mi then st6.or (some 6) else st6) S6 #[.int .i64 (c : Int), .int .i64 (d : Int), .int .i64 (g : Int), .int .i64 (f : Int), .int .i64 (u : Int), .slice none 0 0, .slice none 0 0, .slice none 0 0, .bool false]))
  case first =>
    by_cases hmi : 1 < mi
    · have hmi' : (1 : Int) < (mi : Int) := by omega
      go_wp2_with ((go_at_call 32); (with_reducible refine (HOD.out _ _ _ _ HP4.out).mono ?_); (rintro ev y5 ⟨rfl, hE, hT⟩); (have HPF := Aside0.mk (HP4.out.turn hT hE)); (clear hE hT))
      go_meet
      case rel =>
        rw [if_pos hmi]
        exact HPF
    · have hmi' : ¬ (1 : Int) < (mi : Int) := by omega
      go_wp2
      go_meet
      case rel =>
        rw [if_neg hmi]
        exact HP4
  case rest =>
    obtain ⟨st7, h7⟩ : ∃ st, st = (if 1 < mi then st6.or (some 6) else st6) := ⟨_, rfl⟩
    rw [← h7] at hcut
    have q8 := blk_cell hcut.out.cells 8
    have f8 := blk_frozen hcut.out.cells 8
    obtain ⟨mb, hmb⟩ : ∃ mb, mb = ((mi : Int) == 1) := ⟨_, rfl⟩
    have HMB := Aside0.mk hmb
    have hcb : PS w (wc.setCell ⟨w.heap.size + 1 + 1 + 1 + 1 + 1, 8, none⟩ (.bool mb)) st7 S6 #[.int .i64 (c : Int), .int .i64 (d : Int), .int .i64 (g : Int), .int .i64 (f : Int), .int .i64 (u : Int), .slice none 0 0, .slice none 0 0, .slice none 0 0, .bool mb] := hcut.out.put 8 _
    have HCB := Aside0.mk hcb
    clear hcb
    go_wp2
    obtain ⟨W3, hW3⟩ : ∃ W3, W3 = (wc.setCell ⟨w.heap.size + 1 + 1 + 1 + 1 + 1, 8, none⟩ (.bool mb)).alloc (.cells #[.pointer (some ⟨w.heap.size + 1 + 1 + 1 + 1 + 1, 5, none⟩), .pointer (some ⟨w.heap.size + 1 + 1 + 1 + 1 + 1, 6, none⟩), .pointer (some ⟨w.heap.size + 1 + 1 + 1 + 1 + 1, 7, none⟩)] 86) := ⟨_, rfl⟩
    have hq3 : PQ w W3 wc.heap.size #[.pointer (some ⟨w.heap.size + 1 + 1 + 1 + 1 + 1, 5, none⟩), .pointer (some ⟨w.heap.size + 1 + 1 + 1 + 1 + 1, 6, none⟩), .pointer (some ⟨w.heap.size + 1 + 1 + 1 + 1 + 1, 7, none⟩)] 86 st7 S6 #[.int .i64 (c : Int), .int .i64 (d : Int), .int .i64 (g : Int), .int .i64 (f : Int), .int .i64 (u : Int), .slice none 0 0, .slice none 0 0, .slice none 0 0, .bool mb] := by
      rw [hW3]
      have es : (wc.setCell ⟨w.heap.size + 1 + 1 + 1 + 1 + 1, 8, none⟩ (.bool mb)).heap.size = wc.heap.size := by simp [World.setCell]
      refine ⟨(HCB.out).later (below_alloc (Below.refl _ _) _), ?_, ?_⟩
      · rw [← es]
        exact blk_new _ _
      · rw [← es]
        exact blk_lt HCB.out.cells
    rw [← hmb, ← hW3]
    have HR0 := Aside0.mk hq3
    have qr0 := blk_cell hq3.ptr 0
    obtain ⟨bq, hbq⟩ : ∃ bq, bq = wc.heap.size := ⟨_, rfl⟩
    rw [← hbq] at HR0 qr0 ⊢
    have hlw : w.heap.size + 1 + 1 < W3.heap.size := by have := blk_lt hq3.ps.cells; omega
    clear hW3 hq3 q8 f8 hbq HCB hcut hmb
    obtain ⟨pP, st8, S7, h8⟩ : ∃ c st S', rowF st7 S6 = (c, st, S') := ⟨_, _, _, rfl⟩
    have s8 := row_size_le st7 S6
    rw [h8] at s8
    dsimp only at s8
    obtain ⟨pQ, st9, S8, h9⟩ : ∃ c st S', rowF st8 S7 = (c, st, S') := ⟨_, _, _, rfl⟩
    have s9 := row_size_le st8 S7
    rw [h9] at s9
    dsimp only at s9
    obtain ⟨pR, st10, S9, h10⟩ : ∃ c st S', rowF st9 S8 = (c, st, S') := ⟨_, _, _, rfl⟩
    have s10 := row_size_le st9 S8
    rw [h10] at s10
    dsimp only at s10
    refine wp_loop_rounds 4 ?_
    rw [rounds_succ]
    have HTR1 := Aside0.mk (fun W (h : PQ w W bq #[.pointer (some ⟨w.heap.size + 1 + 1 + 1 + 1 + 1, 5, none⟩), .pointer (some ⟨w.heap.size + 1 + 1 + 1 + 1 + 1, 6, none⟩), .pointer (some ⟨w.heap.size + 1 + 1 + 1 + 1 + 1, 7, none⟩)] 86 st7 S6 #[.int .i64 (c : Int), .int .i64 (d : Int), .int .i64 (g : Int), .int .i64 (f : Int), .int .i64 (u : Int), .slice none 0 0, .slice none 0 0, .slice none 0 0, .bool mb]) => crc_rowF _ _ _ _ st7 S6 W h.ps.env h.ps.held (by omega))
    rw [h8] at HTR1
    go_wp2_with ((go_at_call 34); (with_reducible refine (HTR1.out _ HR0.out).mono ?_); (rintro ev z0 ⟨v0, rfl, hV, hE, hT⟩); (have hlbP : w.heap.size + 1 + 1 < _ ∧ w.heap.size < _ := ⟨Nat.lt_of_lt_of_le (Nat.lt_succ_self _) (blk_lt HR0.out.ps.cells |> Nat.le_of_lt |> Nat.le_trans (by omega)), Nat.lt_of_lt_of_le (Nat.lt_succ_self _) (blk_lt HR0.out.ps.cells |> Nat.le_of_lt |> Nat.le_trans (by omega))⟩); (obtain ⟨AP, cP, ev0, hlP, _⟩ := Kd.R_reads hV); subst ev0; (have hP := HR0.out.turn hT hE); (have q20 := blk_cell hP.ps.cells 5); (have f20 := blk_frozen hP.ps.cells 5); (have HXN := Aside0.mk (Kd.R_set hV hP.ps.cells (by intro q hq; rcases List.mem_singleton.1 hq; decide) 5 (.slice AP pP.length cP))); (have HWP := Aside0.mk HXN.out); (clear HXN); (have hQ : PQ w (z0.setCell ⟨w.heap.size + 1 + 1 + 1 + 1 + 1, 5, none⟩ (.slice AP pP.length cP)) bq #[.pointer (some ⟨w.heap.size + 1 + 1 + 1 + 1 + 1, 5, none⟩), .pointer (some ⟨w.heap.size + 1 + 1 + 1 + 1 + 1, 6, none⟩), .pointer (some ⟨w.heap.size + 1 + 1 + 1 + 1 + 1, 7, none⟩)] 86 st8 S7 #[.int .i64 (c : Int), .int .i64 (d : Int), .int .i64 (g : Int), .int .i64 (f : Int), .int .i64 (u : Int), .slice AP pP.length cP, .slice none 0 0, .slice none 0 0, .bool mb] := hP.put 5 _); (have qr1 := blk_cell hQ.ptr 1); (have HR1 := Aside0.mk hQ); (clear hE hT hP hQ hV))
    rw [rounds_succ]
    have HTR2 := Aside0.mk (fun W (h : PQ w W bq #[.pointer (some ⟨w.heap.size + 1 + 1 + 1 + 1 + 1, 5, none⟩), .pointer (some ⟨w.heap.size + 1 + 1 + 1 + 1 + 1, 6, none⟩), .pointer (some ⟨w.heap.size + 1 + 1 + 1 + 1 + 1, 7, none⟩)] 86 st8 S7 #[.int .i64 (c : Int), .int .i64 (d : Int), .int .i64 (g : Int), .int .i64 (f : Int), .int .i64 (u : Int), .slice AP pP.length cP, .slice none 0 0, .slice none 0 0, .bool mb]) => crc_rowF _ _ _ _ st8 S7 W h.ps.env h.ps.held (by omega))
    rw [h9] at HTR2
    go_wp2_with ((go_at_call 34); (with_reducible refine (HTR2.out _ HR1.out).mono ?_); (rintro ev z1 ⟨v1, rfl, hV, hE, hT⟩); (have hlbQ : w.heap.size + 1 + 1 < _ ∧ w.heap.size < _ := ⟨Nat.lt_of_lt_of_le (Nat.lt_succ_self _) (blk_lt HR1.out.ps.cells |> Nat.le_of_lt |> Nat.le_trans (by omega)), Nat.lt_of_lt_of_le (Nat.lt_succ_self _) (blk_lt HR1.out.ps.cells |> Nat.le_of_lt |> Nat.le_trans (by omega))⟩); (obtain ⟨AQ, cQ, ev1, hlQ, _⟩ := Kd.R_reads hV); subst ev1; (have hP := HR1.out.turn hT hE); (have q21 := blk_cell hP.ps.cells 6); (have f21 := blk_frozen hP.ps.cells 6); (have HXP := Aside0.mk (Kd.R_set (R_turn HWP.out hT hlbP.1 hlbP.2) hP.ps.cells (by intro q hq; rcases List.mem_singleton.1 hq; decide) 6 (.slice AQ pQ.length cQ))); (have HXN := Aside0.mk (Kd.R_set hV hP.ps.cells (by intro q hq; rcases List.mem_singleton.1 hq; decide) 6 (.slice AQ pQ.length cQ))); (have HWP := Aside0.mk HXP.out); (clear HXP); (have HWQ := Aside0.mk HXN.out); (clear HXN); (have hQ : PQ w (z1.setCell ⟨w.heap.size + 1 + 1 + 1 + 1 + 1, 6, none⟩ (.slice AQ pQ.length cQ)) bq #[.pointer (some ⟨w.heap.size + 1 + 1 + 1 + 1 + 1, 5, none⟩), .pointer (some ⟨w.heap.size + 1 + 1 + 1 + 1 + 1, 6, none⟩), .pointer (some ⟨w.heap.size + 1 + 1 + 1 + 1 + 1, 7, none⟩)] 86 st9 S8 #[.int .i64 (c : Int), .int .i64 (d : Int), .int .i64 (g : Int), .int .i64 (f : Int), .int .i64 (u : Int), .slice AP pP.length cP, .slice AQ pQ.length cQ, .slice none 0 0, .bool mb] := hP.put 6 _); (have qr2 := blk_cell hQ.ptr 2); (have HR2 := Aside0.mk hQ); (clear hE hT hP hQ hV))
    rw [rounds_succ]
    have HTR3 := Aside0.mk (fun W (h : PQ w W bq #[.pointer (some ⟨w.heap.size + 1 + 1 + 1 + 1 + 1, 5, none⟩), .pointer (some ⟨w.heap.size + 1 + 1 + 1 + 1 + 1, 6, none⟩), .pointer (some ⟨w.heap.size + 1 + 1 + 1 + 1 + 1, 7, none⟩)] 86 st9 S8 #[.int .i64 (c : Int), .int .i64 (d : Int), .int .i64 (g : Int), .int .i64 (f : Int), .int .i64 (u : Int), .slice AP pP.length cP, .slice AQ pQ.length cQ, .slice none 0 0, .bool mb]) => crc_rowF _ _ _ _ st9 S8 W h.ps.env h.ps.held (by omega))
    rw [h10] at HTR3
    go_wp2_with ((go_at_call 34); (with_reducible refine (HTR3.out _ HR2.out).mono ?_); (rintro ev z2 ⟨v2, rfl, hV, hE, hT⟩); (have hlbR : w.heap.size + 1 + 1 < _ ∧ w.heap.size < _ := ⟨Nat.lt_of_lt_of_le (Nat.lt_succ_self _) (blk_lt HR2.out.ps.cells |> Nat.le_of_lt |> Nat.le_trans (by omega)), Nat.lt_of_lt_of_le (Nat.lt_succ_self _) (blk_lt HR2.out.ps.cells |> Nat.le_of_lt |> Nat.le_trans (by omega))⟩); (obtain ⟨AR, cR, ev2, hlR, _⟩ := Kd.R_reads hV); subst ev2; (have hP := HR2.out.turn hT hE); (have q22 := blk_cell hP.ps.cells 7); (have f22 := blk_frozen hP.ps.cells 7); (have HXP := Aside0.mk (Kd.R_set (R_turn HWP.out hT hlbP.1 hlbP.2) hP.ps.cells (by intro q hq; rcases List.mem_singleton.1 hq; decide) 7 (.slice AR pR.length cR))); (have HXQ := Aside0.mk (Kd.R_set (R_turn HWQ.out hT hlbQ.1 hlbQ.2) hP.ps.cells (by intro q hq; rcases List.mem_singleton.1 hq; decide) 7 (.slice AR pR.length cR))); (have HXN := Aside0.mk (Kd.R_set hV hP.ps.cells (by intro q hq; rcases List.mem_singleton.1 hq; decide) 7 (.slice AR pR.length cR))); (have HWP := Aside0.mk HXP.out); (clear HXP); (have HWQ := Aside0.mk HXQ.out); (clear HXQ); (have HWR := Aside0.mk HXN.out); (clear HXN); (have hQ : PQ w (z2.setCell ⟨w.heap.size + 1 + 1 + 1 + 1 + 1, 7, none⟩ (.slice AR pR.length cR)) bq #[.pointer (some ⟨w.heap.size + 1 + 1 + 1 + 1 + 1, 5, none⟩), .pointer (some ⟨w.heap.size + 1 + 1 + 1 + 1 + 1, 6, none⟩), .pointer (some ⟨w.heap.size + 1 + 1 + 1 + 1 + 1, 7, none⟩)] 86 st10 S9 #[.int .i64 (c : Int), .int .i64 (d : Int), .int .i64 (g : Int), .int .i64 (f : Int), .int .i64 (u : Int), .slice AP pP.length cP, .slice AQ pQ.length cQ, .slice AR pR.length cR, .bool mb] := hP.put 7 _); (have qr3 := blk_cell hQ.ptr 2); (have HR3 := Aside0.mk hQ); (clear hE hT hP hQ hV))
    rw [rounds_succ]
    have qs9 := blk_cell HR3.out.ps.env.s 0
    have HRW : Aside0 (RW w _ AP AQ AR cP cQ cR pP pQ pR) := ⟨⟨Kd.R_lower HWP.out (by have := hlbP.1; omega), Kd.R_lower HWQ.out (by have := hlbQ.1; omega), Kd.R_lower HWR.out (by have := hlbR.1; omega)⟩⟩
    have HPZ := Aside0.mk HR3.out.ps
    have qoz := HR3.out.ps.held.o
    go_upto_if 72 with (fail)
    go_cut [] from 71 to 74 (fun wx => Aside0 (PS w wx (if S9.toList.isEmpty = true then st10 else st10.or (some 6)) S9 #[.int .i64 (c : Int), .int .i64 (d : Int), .int .i64 (g : Int), .int .i64 (f : Int), .int .i64 (u : Int), .slice AP pP.length cP, .slice AQ pQ.length cQ, .slice AR pR.length cR, .bool mb]) ∧ Aside0 (RW w wx AP AQ AR cP cQ cR pP pQ pR))
    case first =>
      cases hem : S9.toList.isEmpty with
      | true =>
        go_wp2
        go_meet
        case rel =>
          refine ⟨?_, HRW⟩
          rw [if_pos (by simp [hem])]
          exact HPZ
      | false =>
        have HOZ := Aside0.mk (crc_oddF 6 _ _ st10 S9 _ HPZ.out.env)
        go_wp2_with ((go_at_call 32); (with_reducible refine HOZ.out.mono ?_); (rintro ev y7 ⟨rfl, hE, hT⟩); (have HPF := Aside0.mk (HPZ.out.turn hT hE)); (have HRF := Aside0.mk (HRW.out.turn hT)); (clear hE hT))
        go_meet
        case rel =>
          refine ⟨?_, HRF⟩
          rw [if_neg (by simp [hem])]
          exact HPF
    case rest =>
      obtain ⟨HPC, HRC⟩ := hcut
      obtain ⟨st11, h11⟩ : ∃ st, st = (if S9.toList.isEmpty = true then st10 else st10.or (some 6)) := ⟨_, rfl⟩
      rw [← h11] at HPC
      have hmy := crc_may (c : Int) (d : Int) (g : Int) (f : Int) (u : Int) AP cP pP AQ cQ pQ AR cR pR mb wc (R_rd HRC.out.p).1 (R_rd HRC.out.p).2 (row_inB _ _ h8) (R_rd HRC.out.q).1 (R_rd HRC.out.q).2 (row_inB _ _ h9) (R_rd HRC.out.r).1 (R_rd HRC.out.r).2 (row_inB _ _ h10)
      obtain ⟨my, hmyv⟩ : ∃ my, my = mayV (c : Int) (d : Int) (g : Int) (f : Int) (u : Int) pP pQ pR := ⟨_, rfl⟩
      rw [← hmyv] at hmy
      have HMY := Aside0.mk hmy
      have HMV := Aside0.mk hmyv
      clear hmy hmyv
      have hx := HPC.out.cells
      have r0 := blk_cell hx 0
      have r1 := blk_cell hx 1
      have r2 := blk_cell hx 2
      have r3 := blk_cell hx 3
      have r4 := blk_cell hx 4
      have r5 := blk_cell hx 5
      have r6 := blk_cell hx 6
      have r7 := blk_cell hx 7
      have r8 := blk_cell hx 8
      clear hx
      go_upto_if 77 with ((go_at_call 23); (with_reducible refine HMY.out.mono ?_); (rintro ev y8 ⟨rfl, hb⟩); (have HPM := Aside0.mk (HPC.out.later hb)); (have HRM := Aside0.mk (HRC.out.later hb)); (clear hb))
      go_cut [] from 75 to 79 (fun wx => Aside0 (PS w wx (if my = true then st11 else st11.or (some 1)) S9 #[.int .i64 (c : Int), .int .i64 (d : Int), .int .i64 (g : Int), .int .i64 (f : Int), .int .i64 (u : Int), .slice AP pP.length cP, .slice AQ pQ.length cQ, .slice AR pR.length cR, .bool mb]) ∧ Aside0 (RW w wx AP AQ AR cP cQ cR pP pQ pR))
      case first =>
        have qom := HPM.out.held.o
        have HOM := Aside0.mk (crc_oddF 1 _ _ st11 S9 _ HPM.out.env)
        cases my with
        | true =>
          go_wp2
          go_meet
          case rel =>
            refine ⟨?_, HRM⟩
            rw [if_pos (by simp)]
            exact HPM
        | false =>
          go_wp2_with ((go_at_call 32); (with_reducible refine HOM.out.mono ?_); (rintro ev y9 ⟨rfl, hE, hT⟩); (have HPF := Aside0.mk (HPM.out.turn hT hE)); (have HRF := Aside0.mk (HRM.out.turn hT)); (clear hE hT))
          go_meet
          case rel =>
            refine ⟨?_, HRF⟩
            rw [if_neg (by simp)]
            exact HPF
      case rest =>
        obtain ⟨HPE, HRE⟩ := hcut
        obtain ⟨st12, h12⟩ : ∃ st, st = (if my = true then st11 else st11.or (some 1)) := ⟨_, rfl⟩
        rw [← h12] at HPE
        have hx := HPE.out.cells
        have r0 := blk_cell hx 0
        have r1 := blk_cell hx 1
        have r2 := blk_cell hx 2
        have r3 := blk_cell hx 3
        have r4 := blk_cell hx 4
        have r5 := blk_cell hx 5
        have r6 := blk_cell hx 6
        have r7 := blk_cell hx 7
        have r8 := blk_cell hx 8
        obtain ⟨ve, qe, hve⟩ : ∃ ve, wc.cell? ⟨w.heap.size + 1 + 1, 0, none⟩ = some ve ∧ ErrV wc ve st12 := HPE.out.env.value
        have hy := HPE.out.res
        have e0 := blk_cell hy 0
        have e1 := blk_cell hy 1
        have e2 := blk_cell hy 2
        have e3 := blk_cell hy 3
        have e4 := blk_cell hy 4
        have e5 := blk_cell hy 5
        have e6 := blk_cell hy 6
        have e7 := blk_cell hy 7
        have e8 := blk_cell hy 8
        have fz : ∀ k, wc.frozen? ⟨w.heap.size + 1, k, none⟩ = false := fun k => blk_frozen hy k
        have z0 := fz 0
        have z1 := fz 1
        have z2 := fz 2
        have z3 := fz 3
        have z4 := fz 4
        have z5 := fz 5
        have z6 := fz 6
        have z7 := fz 7
        have z8 := fz 8
        have HX := Aside0.mk hx
        have HY := Aside0.mk hy
        have HV := Aside0.mk hve
        clear hx hy hve fz
        go_wp2
        go_region
        go_wp2
        have hf0 : Fin w wc AP AQ AR cP cQ cR pP pQ pR ve st12 #[.int .i64 0, .int .i64 0, .int .i64 0, .int .i64 0, .int .i64 0, .slice none 0 0, .slice none 0 0, .slice none 0 0, .bool false] := ⟨HRE.out, HV.out, HPE.out.bel, HY.out⟩
        have hf1 : Fin w _ AP AQ AR cP cQ cR pP pQ pR ve st12 #[.int .i64 (c : Int), .int .i64 0, .int .i64 0, .int .i64 0, .int .i64 0, .slice none 0 0, .slice none 0 0, .slice none 0 0, .bool false] := hf0.put 0 (.int .i64 (c : Int))
        clear hf0
        have hf2 : Fin w _ AP AQ AR cP cQ cR pP pQ pR ve st12 #[.int .i64 (c : Int), .int .i64 (d : Int), .int .i64 0, .int .i64 0, .int .i64 0, .slice none 0 0, .slice none 0 0, .slice none 0 0, .bool false] := hf1.put 1 (.int .i64 (d : Int))
        clear hf1
        have hf3 : Fin w _ AP AQ AR cP cQ cR pP pQ pR ve st12 #[.int .i64 (c : Int), .int .i64 (d : Int), .int .i64 (g : Int), .int .i64 0, .int .i64 0, .slice none 0 0, .slice none 0 0, .slice none 0 0, .bool false] := hf2.put 2 (.int .i64 (g : Int))
        clear hf2
        have hf4 : Fin w _ AP AQ AR cP cQ cR pP pQ pR ve st12 #[.int .i64 (c : Int), .int .i64 (d : Int), .int .i64 (g : Int), .int .i64 (f : Int), .int .i64 0, .slice none 0 0, .slice none 0 0, .slice none 0 0, .bool false] := hf3.put 3 (.int .i64 (f : Int))
        clear hf3
        have hf5 : Fin w _ AP AQ AR cP cQ cR pP pQ pR ve st12 #[.int .i64 (c : Int), .int .i64 (d : Int), .int .i64 (g : Int), .int .i64 (f : Int), .int .i64 (u : Int), .slice none 0 0, .slice none 0 0, .slice none 0 0, .bool false] := hf4.put 4 (.int .i64 (u : Int))
        clear hf4
        have hf6 : Fin w _ AP AQ AR cP cQ cR pP pQ pR ve st12 #[.int .i64 (c : Int), .int .i64 (d : Int), .int .i64 (g : Int), .int .i64 (f : Int), .int .i64 (u : Int), .slice AP pP.length cP, .slice none 0 0, .slice none 0 0, .bool false] := hf5.put 5 (.slice AP pP.length cP)
        clear hf5
        have hf7 : Fin w _ AP AQ AR cP cQ cR pP pQ pR ve st12 #[.int .i64 (c : Int), .int .i64 (d : Int), .int .i64 (g : Int), .int .i64 (f : Int), .int .i64 (u : Int), .slice AP pP.length cP, .slice AQ pQ.length cQ, .slice none 0 0, .bool false] := hf6.put 6 (.slice AQ pQ.length cQ)
        clear hf6
        have hf8 : Fin w _ AP AQ AR cP cQ cR pP pQ pR ve st12 #[.int .i64 (c : Int), .int .i64 (d : Int), .int .i64 (g : Int), .int .i64 (f : Int), .int .i64 (u : Int), .slice AP pP.length cP, .slice AQ pQ.length cQ, .slice AR pR.length cR, .bool false] := hf7.put 7 (.slice AR pR.length cR)
        clear hf7
        have hf9 : Fin w _ AP AQ AR cP cQ cR pP pQ pR ve st12 #[.int .i64 (c : Int), .int .i64 (d : Int), .int .i64 (g : Int), .int .i64 (f : Int), .int .i64 (u : Int), .slice AP pP.length cP, .slice AQ pQ.length cQ, .slice AR pR.length cR, .bool mb] := hf8.put 8 (.bool mb)
        clear hf8
        have hfin := hf9.later (below_drew (Below.refl _ _))
        refine bodyPost_ret (results_ct rfl _ _ (w.heap.size + 1) 34 _ (0, 0) _ rfl hfin.res Tryd.underlying34 rfl (by kernel_rfl)) rfl ?_
        have hpf : partsF S = ((c, d, g, f, u), (pP, pQ, pR), mb, st12) := by
          unfold partsF
          rw [h12, h11, HMV.out, HMB.out]
          simp only [h1, h2, h3, h4, h5, h6, ← h7, h8, h9, h10]
        rw [hpf]
        exact ⟨AP, cP, AQ, cQ, AR, cR, ve, rfl, hfin.rw, hfin.err, hfin.bel⟩
end Go.Proofs.YtanjahakoadecaaDoor.Hand
