/- crc.parts's inner functions by hand: odd, take. -/
import Derived.Test.YtanjahakoadecaaDoorHCrcD
import Derived.Test.YtanjahakoadecaaDoorHCrcB
namespace Go.Proofs.YtanjahakoadecaaDoor.Hand
open Go.RowKit Go.Proofs.YtanjahakoadecaaDoorW.PrintWords Go.Proofs.YtanjahakoadecaaDoorW.PrintMore
set_option linter.unusedVariables false
set_option linter.unusedSimpArgs false

/-- The error's variable: nil, or an 'at' over a 'bad' with the number e. -/
def ErrAt (w : World) (be : Nat) : Option Int → Prop
  | none => w.heap[be]? = some (.cells #[.nilIface] 61 (0, 0))
  | some e => ∃ (left : Int) (p : Nat), w.heap[be]? = some (.cells #[.iface 79 (.agg #[.int .i64 left, .iface 64 (.pointer (some ⟨p, 0, none⟩))])] 61 (0, 0)) ∧ w.heap[p]? = some (.cells #[.int .i64 e] 68 (0, 0))
/-- What the inner functions find: the error, and the bytes left. -/
structure Env (w : World) (be bs : Nat) (st : Option Int) (S : ByteArray) : Prop where
  e : ErrAt w be st
  s : w.heap[bs]? = some (.cells #[.string S] 9 (0, 0))
/-- Two blocks may have turned; new ones may lie behind. -/
structure Turn (be bs : Nat) (w w' : World) : Prop where
  a : w'.os = w.os
  b : w'.tape = w.tape
  c : w'.output = w.output
  size : w.heap.size ≤ w'.heap.size
  block : ∀ k, k < w.heap.size → k ≠ be → k ≠ bs → w'.heap[k]? = w.heap[k]?
theorem Turn.refl (be bs : Nat) (w : World) : Turn be bs w w := ⟨rfl, rfl, rfl, Nat.le_refl _, fun _ _ _ _ => rfl⟩
theorem Turn.trans {be bs : Nat} {w w1 w2 : World} (h : Turn be bs w w1) (k : Turn be bs w1 w2) : Turn be bs w w2 :=
  ⟨k.a.trans h.a, k.b.trans h.b, k.c.trans h.c, Nat.le_trans h.size k.size, fun j hj h1 h2 => (k.block j (Nat.lt_of_lt_of_le hj h.size) h1 h2).trans (h.block j hj h1 h2)⟩
theorem Turn.of_below {be bs : Nat} {w w1 : World} (h : Below w.heap.size w w1) : Turn be bs w w1 := ⟨h.os, h.tape, h.output, h.size, fun j hj _ _ => h.block j hj⟩
theorem Turn.set {be bs g : Nat} {w w1 : World} {v : Value} (h : Turn be bs w w1) (hg : g = be ∨ g = bs) : Turn be bs w (w1.setCell ⟨g, 0, none⟩ v) := by
  have hb : Below 0 w1 (w1.setCell ⟨g, 0, none⟩ v) := (Below.refl 0 w1).setCell (p := ⟨g, 0, none⟩) (Nat.zero_le _) _
  refine ⟨hb.os.trans h.a, hb.tape.trans h.b, hb.output.trans h.c, Nat.le_trans h.size hb.size, fun j hj h1 h2 => ?_⟩
  have hne : j ≠ g := by rcases hg with e | e <;> omega
  exact (Below.heap_setCell w1 ⟨g, 0, none⟩ v j hne).trans (h.block j hj h1 h2)
/-- Below a bound that lies under both blocks nothing has turned. -/
theorem Turn.below {be bs B : Nat} {w w1 : World} (h : Turn be bs w w1) (h1 : B ≤ be) (h2 : B ≤ bs) (hB : B ≤ w.heap.size) : Below B w w1 := ⟨h.a, h.b, h.c, h.size, fun j hj => h.block j (by omega) (by omega) (by omega)⟩
theorem set1 {w : World} {g : Nat} {T : TypeId} {a x : Value} (h : w.heap[g]? = some (.cells #[a] T (0, 0))) : (w.setCell ⟨g, 0, none⟩ x).heap[g]? = some (.cells #[x] T (0, 0)) := by
  rw [setCell_eq_setRow w g 0 _ _ _ _ h, setRow_heap w g _ _ _ _ h]
  rfl
theorem Env.later {w w' : World} {be bs : Nat} {st : Option Int} {S : ByteArray} (h : Env w be bs st S) (hb : Below w.heap.size w w') : Env w' be bs st S := by
  refine ⟨?_, blk_below h.s hb⟩
  cases st with
  | none => exact blk_below h.e hb
  | some e =>
    obtain ⟨left, p, h1, h2⟩ := h.e
    exact ⟨left, p, blk_below h1 hb, blk_below h2 hb⟩
theorem Env.ne {w : World} {be bs : Nat} {st : Option Int} {S : ByteArray} (h : Env w be bs st S) : be ≠ bs := by
  rintro rfl
  have h1 := h.s
  cases st with
  | none =>
    have h2 : w.heap[be]? = _ := h.e
    rw [h1] at h2
    cases h2
  | some e =>
    obtain ⟨left, p, h2, _⟩ := h.e
    rw [h1] at h2
    cases h2
set_option maxRecDepth 100000 in
theorem crc_oddF (e : Int) (be bs : Nat) (st : Option Int) (S : ByteArray) (w : World) (hE : Env w be bs st S) :
    Calls Tryd.prog 32 #[.int .i64 e, .pointer (some ⟨be, 0, none⟩), .pointer (some ⟨bs, 0, none⟩)] w fun ev w' => ev = .returned (.tuple #[]) ∧ Env w' be bs (st.or (some e)) S ∧ Turn be bs w w' := by
  have qs : w.cell? ⟨bs, 0, none⟩ = some (.string S) := blk_cell hE.s 0
  cases st with
  | some e0 =>
    obtain ⟨left, p, he, hp⟩ := hE.e
    have qe : w.cell? ⟨be, 0, none⟩ = some (.iface 79 (.agg #[.int .i64 left, .iface 64 (.pointer (some ⟨p, 0, none⟩))])) := blk_cell he 0
    have HE := Aside0.mk hE
    clear hE he hp
    go_enter Tryd.func32, Tryd.ntmps32
    go_wp2
    refine bodyPost_end (results_none rfl _ _ _) rfl ?_
    exact ⟨rfl, HE.out, Turn.refl _ _ _⟩
  | none =>
    have he : w.heap[be]? = some (.cells #[.nilIface] 61 (0, 0)) := hE.e
    have qe : w.cell? ⟨be, 0, none⟩ = some .nilIface := blk_cell he 0
    have hb1 : Below w.heap.size w (w.alloc (.cells #[.int .i64 e] 68)) := below_alloc (Below.refl _ _) _
    have qe1 : (w.alloc (.cells #[.int .i64 e] 68)).cell? ⟨be, 0, none⟩ = some .nilIface := blk_cell (blk_below he hb1) 0
    have fe1 : (w.alloc (.cells #[.int .i64 e] 68)).frozen? ⟨be, 0, none⟩ = false := blk_frozen (blk_below he hb1) 0
    have HE := Aside0.mk hE
    have HX := Aside0.mk he
    clear hE he hb1
    go_enter Tryd.func32, Tryd.ntmps32
    go_wp2
    refine bodyPost_end (results_none rfl _ _ _) rfl ?_
    have hb1 : Below w.heap.size w (w.alloc (.cells #[.int .i64 e] 68)) := below_alloc (Below.refl _ _) _
    have hbe := blk_below HX.out hb1
    have hnew : (w.alloc (.cells #[.int .i64 e] 68)).heap[w.heap.size]? = some (.cells #[.int .i64 e] 68 (0, 0)) := blk_new _ _
    have hlt := blk_lt HX.out
    have hne := HE.out.ne
    refine ⟨rfl, ⟨⟨_, w.heap.size, set1 hbe, ?_⟩, ?_⟩, Turn.set (Turn.of_below hb1) (.inl rfl)⟩
    · exact (Below.heap_setCell _ ⟨be, 0, none⟩ _ w.heap.size (by show w.heap.size ≠ be; omega)).trans hnew
    · exact (Below.heap_setCell _ ⟨be, 0, none⟩ _ bs (Ne.symm hne)).trans (blk_below HE.out.s hb1)
set_option maxRecDepth 100000 in
theorem crc_number8 (s : ByteArray) (w : World) (hs : s.size ≤ 8) :
    Calls Tryd.prog 20 #[.string s] w fun e w' => e = .returned (.int .u64 ((numF s.data.toList 0 : Nat) : Int)) ∧ w' = w := by
  go_enter Tryd.func20, Tryd.ntmps20
  go_wp2
  go_loopw [3, 7] (fun v3 v7 wr => ∃ (v i : Nat), v3 = .int .u64 (v : Int) ∧ v7 = .int .i64 (i : Int) ∧ i ≤ s.size ∧ v < 256 ^ i ∧ wr = w ∧ Aside0 (numF (s.data.toList.drop i) v = numF s.data.toList 0)) (fun _ v7 _ => s.size - (intOf v7).toNat)
  case atStart => exact ⟨0, 0, rfl, rfl, Nat.zero_le _, by decide, rfl, ⟨rfl⟩⟩
  case round =>
    obtain ⟨v, i, rfl, rfl, hi, hv, rfl, HF⟩ := hrel
    by_cases hlt : i < s.size
    · have hb : s[i].toNat < 256 := s[i].toNat_lt
      have hv2 : v < 72057594037927936 := Nat.lt_of_lt_of_le hv (Nat.le_trans (Nat.pow_le_pow_right (by decide) (show i ≤ 7 by omega)) (by decide))
      have HV := Aside0.mk hv
      clear hv
      go_wp2
      have e1 : bits .or .u64 ((v : Int) * 256) (s[i].toNat : Int) = ((v * 256 + s[i].toNat : Nat) : Int) := by
        have h := u64_or_nat (v * 256) s[i].toNat (by omega) (by omega)
        rw [or_byte v _ hb] at h
        rw [← h]; rfl
      rw [e1]
      refine ⟨⟨v * 256 + s[i].toNat, i + 1, rfl, rfl, hlt, ?_, trivial, ⟨?_⟩⟩, by simp only [intOf]; omega⟩
      · have := HV.out
        rw [Nat.pow_succ]
        omega
      · rw [← HF.out, List.drop_eq_getElem_cons (show i < s.data.toList.length from hlt)]
        rfl
    · go_wp2
      refine bodyPost_ret (results_tmp rfl _ _ _) rfl ?_
      have h := HF.out
      rw [List.drop_eq_nil_of_le (by show s.size ≤ i; omega)] at h
      exact ⟨by rw [← h]; rfl, rfl⟩
/-- What take does: an error sticks; else so many bytes are taken off. -/
def takeF (m : Nat) (st : Option Int) (S : ByteArray) : Nat × Option Int × ByteArray :=
  match st with
  | some e => (0, some e, S)
  | none => if S.size < m then (0, some 5, S) else (numF (S.extract 0 m).data.toList 0, none, S.extract m S.size)
/-- The held functions' own variables. -/
structure Held (w : World) (be bs bo bt : Nat) : Prop where
  o : w.cell? ⟨bo, 0, none⟩ = some (.func (.func 32) #[] #[.pointer (some ⟨be, 0, none⟩), .pointer (some ⟨bs, 0, none⟩)])
  t : w.cell? ⟨bt, 0, none⟩ = some (.func (.func 33) #[] #[.pointer (some ⟨bs, 0, none⟩), .pointer (some ⟨bo, 0, none⟩), .pointer (some ⟨be, 0, none⟩)])
  ne : bo ≠ be ∧ bo ≠ bs ∧ bt ≠ be ∧ bt ≠ bs
theorem cell_turn {be bs : Nat} {w w1 : World} {p : Addr} {v : Value} (h : w.cell? p = some v) (k : Turn be bs w w1) (h1 : p.block ≠ be) (h2 : p.block ≠ bs) : w1.cell? p = some v := by
  have hl := World.block_lt_of_cell? w p h
  have hb := k.block p.block hl h1 h2
  unfold World.cell? at h ⊢
  rwa [hb]
theorem Held.turn {w w1 : World} {be bs bo bt : Nat} (h : Held w be bs bo bt) (k : Turn be bs w w1) : Held w1 be bs bo bt :=
  ⟨cell_turn h.o k h.ne.1 h.ne.2.1, cell_turn h.t k h.ne.2.2.1 h.ne.2.2.2, h.ne⟩
set_option maxRecDepth 100000 in
theorem crc_takeF (m : Nat) (hm : m ≤ 8) (be bs bo bt : Nat) (st : Option Int) (S : ByteArray) (w : World) (hE : Env w be bs st S) (hH : Held w be bs bo bt) (hS : S.size ≤ 4611686018427387904) :
    Calls Tryd.prog 33 #[.int .i64 (m : Int), .pointer (some ⟨bs, 0, none⟩), .pointer (some ⟨bo, 0, none⟩), .pointer (some ⟨be, 0, none⟩)] w fun ev w' => ev = .returned (.int .u64 (((takeF m st S).1 : Nat) : Int)) ∧ Env w' be bs (takeF m st S).2.1 (takeF m st S).2.2 ∧ Turn be bs w w' := by
  have qs : w.cell? ⟨bs, 0, none⟩ = some (.string S) := blk_cell hE.s 0
  have qo := hH.o
  have HO := Aside0.mk (crc_oddF 5 be bs st S w hE)
  have HN := Aside0.mk (fun W => crc_number8 (S.extract 0 m) W (by rw [ByteArray.size_extract]; omega))
  have HE := Aside0.mk hE
  by_cases hlt : S.size < m
  · have hlt' : (S.size : Int) < (m : Int) := by omega
    have ht : takeF m st S = (0, st.or (some 5), S) := by
      unfold takeF
      cases st with
      | some e => rfl
      | none => rw [if_pos hlt]; rfl
    obtain ⟨e, he⟩ : ∃ e, st.or (some 5) = some e := by cases st <;> exact ⟨_, rfl⟩
    rw [he] at HO ht
    rw [ht]
    clear hE hH ht he
    go_enter Tryd.func33, Tryd.ntmps33
    go_wp2_with ((go_at_call 32); (with_reducible refine HO.out.mono ?_); (rintro ev w1 ⟨rfl, hE1, hT1⟩); (obtain ⟨left, p, he1, _⟩ := hE1.e); (have qe1 := blk_cell he1 0); (have HE1 := Aside0.mk hE1); (have HT1 := Aside0.mk hT1); (clear hE1 hT1 he1))
    refine bodyPost_ret (results_tmp rfl _ _ _) rfl ?_
    exact ⟨rfl, HE1.out, HT1.out⟩
  · have hlt' : ¬ (S.size : Int) < (m : Int) := by omega
    cases st with
    | some e =>
      obtain ⟨left, p, he, _⟩ := hE.e
      have qe : w.cell? ⟨be, 0, none⟩ = some (.iface 79 (.agg #[.int .i64 left, .iface 64 (.pointer (some ⟨p, 0, none⟩))])) := blk_cell he 0
      clear hE hH he
      go_enter Tryd.func33, Tryd.ntmps33
      go_wp2
      refine bodyPost_ret (results_tmp rfl _ _ _) rfl ?_
      exact ⟨rfl, HE.out, Turn.refl _ _ _⟩
    | none =>
      have he : w.heap[be]? = some (.cells #[.nilIface] 61 (0, 0)) := hE.e
      have qe : w.cell? ⟨be, 0, none⟩ = some .nilIface := blk_cell he 0
      have fs : w.frozen? ⟨bs, 0, none⟩ = false := blk_frozen hE.s 0
      have ht : takeF m none S = (numF (S.extract 0 m).data.toList 0, none, S.extract m S.size) := by
        unfold takeF
        dsimp only
        rw [if_neg hlt]
      rw [ht]
      have h0 : (0 : Int) ≤ (m : Int) := by omega
      have h1 : (m : Int) ≤ (S.size : Int) := by omega
      obtain ⟨v, hv⟩ : ∃ v, v = numF (S.extract 0 m).data.toList 0 := ⟨_, rfl⟩
      rw [← hv] at HN
      rw [← hv]
      clear hE hH he ht hv
      go_enter Tryd.func33, Tryd.ntmps33
      go_wp2_with ((go_at_call 20); (with_reducible refine (HN.out _).mono ?_); (rintro ev w1 ⟨rfl, rfl⟩))
      refine bodyPost_ret (results_tmp rfl _ _ _) rfl ?_
      have hne := HE.out.ne
      exact ⟨rfl, ⟨(Below.heap_setCell _ ⟨bs, 0, none⟩ _ be hne).trans HE.out.e, set1 HE.out.s⟩, Turn.set (Turn.refl _ _ _) (.inr rfl)⟩
end Go.Proofs.YtanjahakoadecaaDoor.Hand
