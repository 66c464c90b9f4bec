/- Texts joined into one: each with its own sentence of what is proved, and under which conditions. -/
import Derived.Test.YtanjahakoadecaaDoorHCrcD
import Derived.Test.YtanjahakoadecaaDoorHCrcB
/- crc.parts's inner functions by hand: odd, take. -/
namespace Go.Proofs.YtanjahakoadecaaDoor.Hand
open Go.RowKit Go.Proofs.YtanjahakoadecaaDoorW.PrintWords Go.Proofs.YtanjahakoadecaaDoorW.PrintMore
set_option linter.unusedVariables false
set_option linter.unusedSimpArgs false

/-- The error's variable: nil, or an 'at' over a 'bad' with the number e. -/
def ErrAt (w : World) (be : Nat) : Option Int → Prop
  | none => w.heap[be]? = some (.cells #[.nilIface] 61 (0, 0))
  | some e => ∃ (left : Int) (p : Nat), w.heap[be]? = some (.cells #[.iface 79 (.agg #[.int .i64 left, .iface 64 (.pointer (some ⟨p, 0, none⟩))])] 61 (0, 0)) ∧ w.heap[p]? = some (.cells #[.int .i64 e] 68 (0, 0))
/-- What the inner functions find: the error, and the bytes left. -/
structure Env (w : World) (be bs : Nat) (st : Option Int) (S : ByteArray) : Prop where
  e : ErrAt w be st
  s : w.heap[bs]? = some (.cells #[.string S] 9 (0, 0))
/-- Two blocks may have turned; new ones may lie behind. -/
structure Turn (be bs : Nat) (w w' : World) : Prop where
  a : w'.os = w.os
  b : w'.tape = w.tape
  c : w'.output = w.output
  size : w.heap.size ≤ w'.heap.size
  block : ∀ k, k < w.heap.size → k ≠ be → k ≠ bs → w'.heap[k]? = w.heap[k]?
theorem Turn.refl (be bs : Nat) (w : World) : Turn be bs w w := ⟨rfl, rfl, rfl, Nat.le_refl _, fun _ _ _ _ => rfl⟩
theorem Turn.trans {be bs : Nat} {w w1 w2 : World} (h : Turn be bs w w1) (k : Turn be bs w1 w2) : Turn be bs w w2 :=
  ⟨k.a.trans h.a, k.b.trans h.b, k.c.trans h.c, Nat.le_trans h.size k.size, fun j hj h1 h2 => (k.block j (Nat.lt_of_lt_of_le hj h.size) h1 h2).trans (h.block j hj h1 h2)⟩
theorem Turn.of_below {be bs : Nat} {w w1 : World} (h : Below w.heap.size w w1) : Turn be bs w w1 := ⟨h.os, h.tape, h.output, h.size, fun j hj _ _ => h.block j hj⟩
theorem Turn.set {be bs g : Nat} {w w1 : World} {v : Value} (h : Turn be bs w w1) (hg : g = be ∨ g = bs) : Turn be bs w (w1.setCell ⟨g, 0, none⟩ v) := by
  have hb : Below 0 w1 (w1.setCell ⟨g, 0, none⟩ v) := (Below.refl 0 w1).setCell (p := ⟨g, 0, none⟩) (Nat.zero_le _) _
  refine ⟨hb.os.trans h.a, hb.tape.trans h.b, hb.output.trans h.c, Nat.le_trans h.size hb.size, fun j hj h1 h2 => ?_⟩
  have hne : j ≠ g := by rcases hg with e | e <;> omega
  exact (Below.heap_setCell w1 ⟨g, 0, none⟩ v j hne).trans (h.block j hj h1 h2)
/-- Below a bound that lies under both blocks nothing has turned. -/
theorem Turn.below {be bs B : Nat} {w w1 : World} (h : Turn be bs w w1) (h1 : B ≤ be) (h2 : B ≤ bs) (hB : B ≤ w.heap.size) : Below B w w1 := ⟨h.a, h.b, h.c, h.size, fun j hj => h.block j (by omega) (by omega) (by omega)⟩
theorem set1 {w : World} {g : Nat} {T : TypeId} {a x : Value} (h : w.heap[g]? = some (.cells #[a] T (0, 0))) : (w.setCell ⟨g, 0, none⟩ x).heap[g]? = some (.cells #[x] T (0, 0)) := by
  rw [setCell_eq_setRow w g 0 _ _ _ _ h, setRow_heap w g _ _ _ _ h]
  rfl
theorem Env.later {w w' : World} {be bs : Nat} {st : Option Int} {S : ByteArray} (h : Env w be bs st S) (hb : Below w.heap.size w w') : Env w' be bs st S := by
  refine ⟨?_, blk_below h.s hb⟩
  cases st with
  | none => exact blk_below h.e hb
  | some e =>
    obtain ⟨left, p, h1, h2⟩ := h.e
    exact ⟨left, p, blk_below h1 hb, blk_below h2 hb⟩
theorem Env.ne {w : World} {be bs : Nat} {st : Option Int} {S : ByteArray} (h : Env w be bs st S) : be ≠ bs := by
  rintro rfl
  have h1 := h.s
  cases st with
  | none =>
    have h2 : w.heap[be]? = _ := h.e
    rw [h1] at h2
    cases h2
  | some e =>
    obtain ⟨left, p, h2, _⟩ := h.e
    rw [h1] at h2
    cases h2
set_option maxRecDepth 100000 in
theorem crc_oddF (e : Int) (be bs : Nat) (st : Option Int) (S : ByteArray) (w : World) (hE : Env w be bs st S) :
    Calls Tryd.prog 32 #[.int .i64 e, .pointer (some ⟨be, 0, none⟩), .pointer (some ⟨bs, 0, none⟩)] w fun ev w' => ev = .returned (.tuple #[]) ∧ Env w' be bs (st.or (some e)) S ∧ Turn be bs w w' := by
  have qs : w.cell? ⟨bs, 0, none⟩ = some (.string S) := blk_cell hE.s 0
  cases st with
  | some e0 =>
    obtain ⟨left, p, he, hp⟩ := hE.e
    have qe : w.cell? ⟨be, 0, none⟩ = some (.iface 79 (.agg #[.int .i64 left, .iface 64 (.pointer (some ⟨p, 0, none⟩))])) := blk_cell he 0
    have HE := Aside0.mk hE
    clear hE he hp
    go_enter Tryd.func32, Tryd.ntmps32
    go_wp2
    refine bodyPost_end (results_none rfl _ _ _) rfl ?_
    exact ⟨rfl, HE.out, Turn.refl _ _ _⟩
  | none =>
    have he : w.heap[be]? = some (.cells #[.nilIface] 61 (0, 0)) := hE.e
    have qe : w.cell? ⟨be, 0, none⟩ = some .nilIface := blk_cell he 0
    have hb1 : Below w.heap.size w (w.alloc (.cells #[.int .i64 e] 68)) := below_alloc (Below.refl _ _) _
    have qe1 : (w.alloc (.cells #[.int .i64 e] 68)).cell? ⟨be, 0, none⟩ = some .nilIface := blk_cell (blk_below he hb1) 0
    have fe1 : (w.alloc (.cells #[.int .i64 e] 68)).frozen? ⟨be, 0, none⟩ = false := blk_frozen (blk_below he hb1) 0
    have HE := Aside0.mk hE
    have HX := Aside0.mk he
    clear hE he hb1
    go_enter Tryd.func32, Tryd.ntmps32
    go_wp2
    refine bodyPost_end (results_none rfl _ _ _) rfl ?_
    have hb1 : Below w.heap.size w (w.alloc (.cells #[.int .i64 e] 68)) := below_alloc (Below.refl _ _) _
    have hbe := blk_below HX.out hb1
    have hnew : (w.alloc (.cells #[.int .i64 e] 68)).heap[w.heap.size]? = some (.cells #[.int .i64 e] 68 (0, 0)) := blk_new _ _
    have hlt := blk_lt HX.out
    have hne := HE.out.ne
    refine ⟨rfl, ⟨⟨_, w.heap.size, set1 hbe, ?_⟩, ?_⟩, Turn.set (Turn.of_below hb1) (.inl rfl)⟩
    · exact (Below.heap_setCell _ ⟨be, 0, none⟩ _ w.heap.size (by show w.heap.size ≠ be; omega)).trans hnew
    · exact (Below.heap_setCell _ ⟨be, 0, none⟩ _ bs (Ne.symm hne)).trans (blk_below HE.out.s hb1)
set_option maxRecDepth 100000 in
theorem crc_number8 (s : ByteArray) (w : World) (hs : s.size ≤ 8) :
    Calls Tryd.prog 20 #[.string s] w fun e w' => e = .returned (.int .u64 ((numF s.data.toList 0 : Nat) : Int)) ∧ w' = w := by
  go_enter Tryd.func20, Tryd.ntmps20
  go_wp2
  go_loopw [3, 7] (fun v3 v7 wr => ∃ (v i : Nat), v3 = .int .u64 (v : Int) ∧ v7 = .int .i64 (i : Int) ∧ i ≤ s.size ∧ v < 256 ^ i ∧ wr = w ∧ Aside0 (numF (s.data.toList.drop i) v = numF s.data.toList 0)) (fun _ v7 _ => s.size - (intOf v7).toNat)
  case atStart => exact ⟨0, 0, rfl, rfl, Nat.zero_le _, by decide, rfl, ⟨rfl⟩⟩
  case round =>
    obtain ⟨v, i, rfl, rfl, hi, hv, rfl, HF⟩ := hrel
    by_cases hlt : i < s.size
    · have hb : s[i].toNat < 256 := s[i].toNat_lt
      have hv2 : v < 72057594037927936 := Nat.lt_of_lt_of_le hv (Nat.le_trans (Nat.pow_le_pow_right (by decide) (show i ≤ 7 by omega)) (by decide))
      have HV := Aside0.mk hv
      clear hv
      go_wp2
      have e1 : bits .or .u64 ((v : Int) * 256) (s[i].toNat : Int) = ((v * 256 + s[i].toNat : Nat) : Int) := by
        have h := u64_or_nat (v * 256) s[i].toNat (by omega) (by omega)
        rw [or_byte v _ hb] at h
        rw [← h]; rfl
      rw [e1]
      refine ⟨⟨v * 256 + s[i].toNat, i + 1, rfl, rfl, hlt, ?_, trivial, ⟨?_⟩⟩, by simp only [intOf]; omega⟩
      · have := HV.out
        rw [Nat.pow_succ]
        omega
      · rw [← HF.out, List.drop_eq_getElem_cons (show i < s.data.toList.length from hlt)]
        rfl
    · go_wp2
      refine bodyPost_ret (results_tmp rfl _ _ _) rfl ?_
      have h := HF.out
      rw [List.drop_eq_nil_of_le (by show s.size ≤ i; omega)] at h
      exact ⟨by rw [← h]; rfl, rfl⟩
/-- What take does: an error sticks; else so many bytes are taken off. -/
def takeF (m : Nat) (st : Option Int) (S : ByteArray) : Nat × Option Int × ByteArray :=
  match st with
  | some e => (0, some e, S)
  | none => if S.size < m then (0, some 5, S) else (numF (S.extract 0 m).data.toList 0, none, S.extract m S.size)
/-- The held functions' own variables. -/
structure Held (w : World) (be bs bo bt : Nat) : Prop where
  o : w.cell? ⟨bo, 0, none⟩ = some (.func (.func 32) #[] #[.pointer (some ⟨be, 0, none⟩), .pointer (some ⟨bs, 0, none⟩)])
  t : w.cell? ⟨bt, 0, none⟩ = some (.func (.func 33) #[] #[.pointer (some ⟨bs, 0, none⟩), .pointer (some ⟨bo, 0, none⟩), .pointer (some ⟨be, 0, none⟩)])
  ne : bo ≠ be ∧ bo ≠ bs ∧ bt ≠ be ∧ bt ≠ bs
theorem cell_turn {be bs : Nat} {w w1 : World} {p : Addr} {v : Value} (h : w.cell? p = some v) (k : Turn be bs w w1) (h1 : p.block ≠ be) (h2 : p.block ≠ bs) : w1.cell? p = some v := by
  have hl := World.block_lt_of_cell? w p h
  have hb := k.block p.block hl h1 h2
  unfold World.cell? at h ⊢
  rwa [hb]
theorem Held.turn {w w1 : World} {be bs bo bt : Nat} (h : Held w be bs bo bt) (k : Turn be bs w w1) : Held w1 be bs bo bt :=
  ⟨cell_turn h.o k h.ne.1 h.ne.2.1, cell_turn h.t k h.ne.2.2.1 h.ne.2.2.2, h.ne⟩
set_option maxRecDepth 100000 in
theorem crc_takeF (m : Nat) (hm : m ≤ 8) (be bs bo bt : Nat) (st : Option Int) (S : ByteArray) (w : World) (hE : Env w be bs st S) (hH : Held w be bs bo bt) (hS : S.size ≤ 4611686018427387904) :
    Calls Tryd.prog 33 #[.int .i64 (m : Int), .pointer (some ⟨bs, 0, none⟩), .pointer (some ⟨bo, 0, none⟩), .pointer (some ⟨be, 0, none⟩)] w fun ev w' => ev = .returned (.int .u64 (((takeF m st S).1 : Nat) : Int)) ∧ Env w' be bs (takeF m st S).2.1 (takeF m st S).2.2 ∧ Turn be bs w w' := by
  have qs : w.cell? ⟨bs, 0, none⟩ = some (.string S) := blk_cell hE.s 0
  have qo := hH.o
  have HO := Aside0.mk (crc_oddF 5 be bs st S w hE)
  have HN := Aside0.mk (fun W => crc_number8 (S.extract 0 m) W (by rw [ByteArray.size_extract]; omega))
  have HE := Aside0.mk hE
  by_cases hlt : S.size < m
  · have hlt' : (S.size : Int) < (m : Int) := by omega
    have ht : takeF m st S = (0, st.or (some 5), S) := by
      unfold takeF
      cases st with
      | some e => rfl
      | none => rw [if_pos hlt]; rfl
    obtain ⟨e, he⟩ : ∃ e, st.or (some 5) = some e := by cases st <;> exact ⟨_, rfl⟩
    rw [he] at HO ht
    rw [ht]
    clear hE hH ht he
    go_enter Tryd.func33, Tryd.ntmps33
    go_wp2_with ((go_at_call 32); (with_reducible refine HO.out.mono ?_); (rintro ev w1 ⟨rfl, hE1, hT1⟩); (obtain ⟨left, p, he1, _⟩ := hE1.e); (have qe1 := blk_cell he1 0); (have HE1 := Aside0.mk hE1); (have HT1 := Aside0.mk hT1); (clear hE1 hT1 he1))
    refine bodyPost_ret (results_tmp rfl _ _ _) rfl ?_
    exact ⟨rfl, HE1.out, HT1.out⟩
  · have hlt' : ¬ (S.size : Int) < (m : Int) := by omega
    cases st with
    | some e =>
      obtain ⟨left, p, he, _⟩ := hE.e
      have qe : w.cell? ⟨be, 0, none⟩ = some (.iface 79 (.agg #[.int .i64 left, .iface 64 (.pointer (some ⟨p, 0, none⟩))])) := blk_cell he 0
      clear hE hH he
      go_enter Tryd.func33, Tryd.ntmps33
      go_wp2
      refine bodyPost_ret (results_tmp rfl _ _ _) rfl ?_
      exact ⟨rfl, HE.out, Turn.refl _ _ _⟩
    | none =>
      have he : w.heap[be]? = some (.cells #[.nilIface] 61 (0, 0)) := hE.e
      have qe : w.cell? ⟨be, 0, none⟩ = some .nilIface := blk_cell he 0
      have fs : w.frozen? ⟨bs, 0, none⟩ = false := blk_frozen hE.s 0
      have ht : takeF m none S = (numF (S.extract 0 m).data.toList 0, none, S.extract m S.size) := by
        unfold takeF
        dsimp only
        rw [if_neg hlt]
      rw [ht]
      have h0 : (0 : Int) ≤ (m : Int) := by omega
      have h1 : (m : Int) ≤ (S.size : Int) := by omega
      obtain ⟨v, hv⟩ : ∃ v, v = numF (S.extract 0 m).data.toList 0 := ⟨_, rfl⟩
      rw [← hv] at HN
      rw [← hv]
      clear hE hH he ht hv
      go_enter Tryd.func33, Tryd.ntmps33
      go_wp2_with ((go_at_call 20); (with_reducible refine (HN.out _).mono ?_); (rintro ev w1 ⟨rfl, rfl⟩))
      refine bodyPost_ret (results_tmp rfl _ _ _) rfl ?_
      have hne := HE.out.ne
      exact ⟨rfl, ⟨(Below.heap_setCell _ ⟨bs, 0, none⟩ _ be hne).trans HE.out.e, set1 HE.out.s⟩, Turn.set (Turn.refl _ _ _) (.inr rfl)⟩
end Go.Proofs.YtanjahakoadecaaDoor.Hand

/- crc.parts's inner function row by hand. -/
namespace Go.Proofs.YtanjahakoadecaaDoor.Hand
open Go.RowKit Go.Proofs.YtanjahakoadecaaDoorW.PrintWords Go.Proofs.YtanjahakoadecaaDoorW.PrintMore Go.Proofs.YtanjahakoadecaaDoor.Num
set_option linter.unusedVariables false
set_option linter.unusedSimpArgs false

theorem numF_lt : ∀ (l : List UInt8) (v k : Nat), v < 256 ^ k → numF l v < 256 ^ (k + l.length)
  | [], v, k, h => h
  | b :: l, v, k, h => by
    have hb := b.toNat_lt
    have h1 := numF_lt l (v * 256 + b.toNat) (k + 1) (by rw [Nat.pow_succ]; omega)
    rwa [show k + 1 + l.length = k + (b :: l).length by rw [List.length_cons]; omega] at h1
theorem take_num_lt (m : Nat) (st : Option Int) (S : ByteArray) : (takeF m st S).1 < 256 ^ m := by
  have hp : 0 < 256 ^ m := Nat.pow_pos (by decide)
  unfold takeF
  cases st with
  | some e => exact hp
  | none =>
    dsimp only
    split
    · exact hp
    · have h := numF_lt (S.extract 0 m).data.toList 0 0 (by decide)
      have hl : (S.extract 0 m).data.toList.length = m := by
        show (S.extract 0 m).size = m
        rw [ByteArray.size_extract]
        omega
      rw [hl, Nat.zero_add] at h
      exact h
theorem take_size_le (m : Nat) (st : Option Int) (S : ByteArray) : (takeF m st S).2.2.size ≤ S.size := by
  unfold takeF
  cases st with
  | some e => exact Nat.le_refl _
  | none =>
    dsimp only
    split
    · exact Nat.le_refl _
    · rw [ByteArray.size_extract]
      omega
/-- Words are taken till there are n, or an error. -/
def wordsF : Nat → Option Int → ByteArray → List Int → List Int × Option Int × ByteArray
  | 0, st, S, out => (out, st, S)
  | n + 1, some e, S, out => (out, some e, S)
  | n + 1, none, S, out => wordsF n (takeF 8 none S).2.1 (takeF 8 none S).2.2 (out ++ [(((takeF 8 none S).1 : Nat) : Int)])
theorem wordsF_err (n : Nat) (e : Int) (S : ByteArray) (out : List Int) : wordsF n (some e) S out = (out, some e, S) := by cases n <;> rfl
theorem wordsF_size : ∀ (n : Nat) (st : Option Int) (S : ByteArray) (out : List Int), (wordsF n st S out).2.2.size ≤ S.size
  | 0, _, _, _ => Nat.le_refl _
  | n + 1, some e, S, out => Nat.le_refl _
  | n + 1, none, S, out => Nat.le_trans (wordsF_size n _ _ _) (take_size_le 8 none S)
theorem wordsF_inB : ∀ (n : Nat) (st : Option Int) (S : ByteArray) (out : List Int), InB W out → InB W (wordsF n st S out).1
  | 0, _, _, _, h => h
  | n + 1, some e, S, out, h => h
  | n + 1, none, S, out, h => wordsF_inB n _ _ _ (inB_append.2 ⟨h, inB_cons.2 ⟨⟨Int.natCast_nonneg _, by have := take_num_lt 8 none S; rw [W_eq]; omega⟩, inB_nil _⟩⟩)
/-- What row does. -/
def rowF (st : Option Int) (S : ByteArray) : List Int × Option Int × ByteArray :=
  let t := takeF 4 st S
  let w := wordsF t.1 (if 4096 < t.1 then t.2.1.or (some 4) else t.2.1) t.2.2 []
  (w.1, if (dig W (val W w.1)).length < w.1.length then w.2.1.or (some 6) else w.2.1, w.2.2)
theorem R_turn {α : Type} {d : Kd α} {e be bs base : Nat} {w w1 : World} {v : Value} {xs : List α} (h : d.R e w base (fun _ => True) v xs) (k : Turn be bs w w1) (h1 : be < base) (h2 : bs < base) : d.R e w1 base (fun _ => True) v xs :=
  Kd.R_mono (Kd.R_move (Kd.R_bound h) (fun j hj => k.block j hj.2.2.1 (by have := hj.2.1; omega) (by have := hj.2.1; omega))) (fun _ _ => trivial)
theorem Env.lt {w : World} {be bs : Nat} {st : Option Int} {S : ByteArray} (h : Env w be bs st S) : be < w.heap.size ∧ bs < w.heap.size := by
  refine ⟨?_, blk_lt h.s⟩
  cases st with
  | none => exact blk_lt h.e
  | some e =>
    obtain ⟨left, p, h1, _⟩ := h.e
    exact blk_lt h1
theorem Env.err {w : World} {be bs : Nat} {st : Option Int} {S : ByteArray} (h : Env w be bs st S) : ∃ v, w.cell? ⟨be, 0, none⟩ = some v ∧ (st = none → v = .nilIface) ∧ (∀ e, st = some e → ∃ T u, v = .iface T u) := by
  cases st with
  | none => exact ⟨_, blk_cell h.e 0, fun _ => rfl, fun e he => by cases he⟩
  | some e =>
    obtain ⟨left, p, h1, _⟩ := h.e
    refine ⟨_, blk_cell h1 0, ?_, ?_⟩
    · intro he
      cases he
    · exact fun _ _ => ⟨_, _, rfl⟩
theorem crc_take_1 (be bs bo bt : Nat) (st : Option Int) (S : ByteArray) (w : World) (hE : Env w be bs st S) (hH : Held w be bs bo bt) (hS : S.size ≤ 4611686018427387904) :
    Calls Tryd.prog 33 #[.int .i64 1, .pointer (some ⟨bs, 0, none⟩), .pointer (some ⟨bo, 0, none⟩), .pointer (some ⟨be, 0, none⟩)] w fun ev w' => ev = .returned (.int .u64 (((takeF 1 st S).1 : Nat) : Int)) ∧ Env w' be bs (takeF 1 st S).2.1 (takeF 1 st S).2.2 ∧ Turn be bs w w' := crc_takeF 1 (by decide) be bs bo bt st S w hE hH hS
theorem crc_take_4 (be bs bo bt : Nat) (st : Option Int) (S : ByteArray) (w : World) (hE : Env w be bs st S) (hH : Held w be bs bo bt) (hS : S.size ≤ 4611686018427387904) :
    Calls Tryd.prog 33 #[.int .i64 4, .pointer (some ⟨bs, 0, none⟩), .pointer (some ⟨bo, 0, none⟩), .pointer (some ⟨be, 0, none⟩)] w fun ev w' => ev = .returned (.int .u64 (((takeF 4 st S).1 : Nat) : Int)) ∧ Env w' be bs (takeF 4 st S).2.1 (takeF 4 st S).2.2 ∧ Turn be bs w w' := crc_takeF 4 (by decide) be bs bo bt st S w hE hH hS
theorem crc_take_8 (be bs bo bt : Nat) (st : Option Int) (S : ByteArray) (w : World) (hE : Env w be bs st S) (hH : Held w be bs bo bt) (hS : S.size ≤ 4611686018427387904) :
    Calls Tryd.prog 33 #[.int .i64 8, .pointer (some ⟨bs, 0, none⟩), .pointer (some ⟨bo, 0, none⟩), .pointer (some ⟨be, 0, none⟩)] w fun ev w' => ev = .returned (.int .u64 (((takeF 8 st S).1 : Nat) : Int)) ∧ Env w' be bs (takeF 8 st S).2.1 (takeF 8 st S).2.2 ∧ Turn be bs w w' := crc_takeF 8 (by decide) be bs bo bt st S w hE hH hS
theorem Turn.after {be bs : Nat} {w w1 w2 : World} (h : Turn be bs w w1) (k : Below w.heap.size w1 w2) : Turn be bs w w2 :=
  ⟨k.os.trans h.a, k.tape.trans h.b, k.output.trans h.c, Nat.le_trans h.size k.size, fun j hj h1 h2 => (k.block j hj).trans (h.block j hj h1 h2)⟩
/-- The row has grown: what the inner functions find is as it was. -/
theorem Env.grown {w w1 : World} {be bs base : Nat} {st : Option Int} {S : ByteArray} {v : Value} {out : List Int} (h : Env w be bs st S) (hR : Kd.R (Kd.int .u64) 58 w base (fun _ => True) v out) (hg : w.grownBy w1 v.ownBlock) : Env w1 be bs st S := by
  have key : ∀ {g : Nat} {cells : Array Value} {T : TypeId}, w.heap[g]? = some (.cells cells T (0, 0)) → 58 ≠ T → w1.heap[g]? = some (.cells cells T (0, 0)) := fun {g cells T} hb ht => (hg.block g (blk_lt hb) (Kd.R_ne hR hb ht)).trans hb
  refine ⟨?_, key h.s (by decide)⟩
  cases st with
  | none => exact key h.e (by decide)
  | some e =>
    obtain ⟨left, p, h1, h2⟩ := h.e
    exact ⟨left, p, key h1 (by decide), key h2 (by decide)⟩
theorem info64w : (Tryd.prog.info? 58).map (fun i => (i.zero, i.size, i.bytes)) = some (some (.int .u64 0), 1, 8) := by kernel_rfl
set_option maxRecDepth 100000 in
set_option maxHeartbeats 4000000 in
theorem crc_rowF (be bs bo bt : Nat) (st : Option Int) (S : ByteArray) (w : World) (hE : Env w be bs st S) (hH : Held w be bs bo bt) (hS : S.size ≤ 4611686018427387904) :
    Calls Tryd.prog 34 #[.pointer (some ⟨bt, 0, none⟩), .pointer (some ⟨bo, 0, none⟩), .pointer (some ⟨be, 0, none⟩)] w fun ev w' => ∃ v, ev = .returned v ∧ Kd.R (Kd.int .u64) 58 w' w.heap.size (fun _ => True) v (rowF st S).1 ∧ Env w' be bs (rowF st S).2.1 (rowF st S).2.2 ∧ Turn be bs w w' := by
  have qt := hH.t
  have HT := Aside0.mk (crc_take_4 be bs bo bt st S w hE hH hS)
  have HTK := Aside0.mk (fun st S W hE hH hS => crc_take_8 be bs bo bt st S W hE hH hS)
  have HOD := Aside0.mk (fun e st S W hE => crc_oddF e be bs st S W hE)
  have hnl := take_num_lt 4 st S
  have hsl := take_size_le 4 st S
  unfold rowF
  generalize takeF 4 st S = t at *
  obtain ⟨n, st1, S1⟩ := t
  dsimp only at HT hnl hsl ⊢
  have HS1 : Aside0 (S1.size ≤ 4611686018427387904) := ⟨by omega⟩
  have HH := Aside0.mk hH
  have hlt := hE.lt
  clear hE hH hS hsl
  have hnm := fun W => nat_norm_at none 0 0 [] W ⟨rfl, by decide, fun h => absurd h (by decide)⟩ (Nat.le_refl _) (inB_nil _)
  have hz : (dig W (val W ([] : List Int))).length = 0 := by simp [val, dig]
  by_cases hbig : 4096 < n
  · have hbig' : (4096 : Int) < (n : Int) := by omega
    obtain ⟨e, he⟩ : ∃ e, st1.or (some 4) = some e := by cases st1 <;> exact ⟨_, rfl⟩
    rw [if_pos hbig, he, wordsF_err]
    dsimp only
    rw [hz, List.length_nil, if_neg (by decide)]
    rw [hz] at hnm
    have HNM := Aside0.mk hnm
    clear hnm hz
    go_enter Tryd.func34, Tryd.ntmps34
    go_wp2_with (first
      | ((go_at_call 33); (with_reducible refine HT.out.mono ?_); (rintro ev w1 ⟨rfl, hE1, hT1⟩); (have HE1 := Aside0.mk hE1); (have HT1 := Aside0.mk hT1); (have qo1 := (HH.out.turn hT1).o); (clear hE1 hT1))
      | ((go_at_call 32); (with_reducible refine (HOD.out _ _ _ _ HE1.out).mono ?_); (rintro ev w2 ⟨rfl, hE2, hT2⟩); (rw [he] at hE2); (obtain ⟨left, p, he2, _⟩ := hE2.e); (have qe2 := blk_cell he2 0); (have HE2 := Aside0.mk hE2); (have HT2 := Aside0.mk (HT1.out.trans hT2)); (clear hE2 hT2 he2)))
    refine wp_loop_rounds 1 ?_
    rw [rounds_succ]
    go_wp2_with ((go_at_call 35); (with_reducible refine (HNM.out _).mono ?_); (rintro ev w3 ⟨rfl, rfl⟩))
    refine bodyPost_ret (results_tmp rfl _ _ _) rfl ?_
    exact ⟨_, rfl, Kd.R_nil _ _ _ _ _, HE2.out, HT2.out⟩
  · have hbig' : ¬ (4096 : Int) < (n : Int) := by omega
    rw [if_neg hbig]
    obtain ⟨R, hR⟩ : ∃ R, R = wordsF n st1 S1 [] := ⟨_, rfl⟩
    rw [← hR]
    have HR := Aside0.mk hR.symm
    obtain ⟨fin, hfin⟩ : ∃ fin, fin = (if (dig W (val W R.1)).length < R.1.length then R.2.1.or (some 6) else R.2.1) := ⟨_, rfl⟩
    rw [← hfin]
    have HFI := Aside0.mk hfin
    clear hnm hz hR hfin
    go_enter Tryd.func34, Tryd.ntmps34
    go_wp2_with ((go_at_call 33); (with_reducible refine HT.out.mono ?_); (rintro ev w1 ⟨rfl, hE1, hT1⟩); (have HE1 := Aside0.mk hE1); (have HT1 := Aside0.mk hT1); (clear hE1 hT1))
    go_loopw [5, 6] (fun v5 v6 wr => ∃ (i : Nat) (st' : Option Int) (S' : ByteArray) (out : List Int), v6 = .int .u64 (i : Int) ∧ i ≤ n ∧ Aside0 (out.length = i ∧ InB W out ∧ S'.size ≤ 4611686018427387904) ∧ Aside0 (wordsF (n - i) st' S' out = R) ∧ Aside0 (Env wr be bs st' S') ∧ Aside0 (Turn be bs w wr) ∧ Aside0 (Kd.R (Kd.int .u64) 58 wr w.heap.size (fun _ => True) v5 out)) (fun _ v6 _ => n - (intOf v6).toNat)
    case atStart => exact ⟨0, st1, S1, [], rfl, Nat.zero_le _, ⟨rfl, inB_nil _, HS1.out⟩, HR, HE1, HT1, ⟨Kd.R_nil _ _ _ _ _⟩⟩
    case round =>
      obtain ⟨i, st', S', out, rfl, hi, HF, HW, HEV, HTW, HO⟩ := hrel
      by_cases hin : i < n
      · have hin' : (i : Int) < (n : Int) := by omega
        cases st' with
        | some e =>
          obtain ⟨left, p, he, _⟩ := HEV.out.e
          have qe := blk_cell he 0
          have HRR : Aside0 (R = (out, some e, S')) := ⟨by rw [← HW.out, wordsF_err]⟩
          clear he
          obtain ⟨A5, c5, e5, hl5, hc5⟩ := Kd.R_reads HO.out
          subst e5
          have HNM := Aside0.mk (fun W (hW : W = wr) => nat_norm_at A5 out.length c5 out W (by rw [hW]; exact Kd.reads_of_C (enc := Value.int .u64) (d := (0 : Int)) (h1 := fun _ => rfl) hc5) hl5 HF.out.2.1)
          obtain ⟨dl, hdl⟩ : ∃ dl, dl = (dig W (val W out)).length := ⟨_, rfl⟩
          obtain ⟨ol, hol⟩ : ∃ ol, ol = out.length := ⟨_, rfl⟩
          rw [← hdl, ← hol] at HNM
          rw [← hol] at HO
          have HDL := Aside0.mk hdl
          have HOL := Aside0.mk hol
          have qo := (HH.out.turn HTW.out).o
          clear hdl hc5 hl5
          rw [← hol]
          clear hol
          by_cases hsh : dl < ol
          · have hsh' : (dl : Int) < (ol : Int) := by omega
            go_wp2_with (first
              | ((go_at_call 35); (with_reducible refine (HNM.out _ rfl).mono ?_); (rintro ev w3 ⟨rfl, rfl⟩))
              | ((go_at_call 32); (with_reducible refine (HOD.out _ _ _ _ HEV.out).mono ?_); (rintro ev w4 ⟨rfl, hE4, hT4⟩); (have HE4 := Aside0.mk hE4); (have HT4 := Aside0.mk hT4); (clear hE4 hT4)))
            refine bodyPost_ret (results_tmp rfl _ _ _) rfl ?_
            refine ⟨_, rfl, ?_, ?_, HTW.out.trans (HT4.out)⟩
            · rw [HRR.out]
              exact R_turn HO.out HT4.out hlt.1 hlt.2
            · rw [HFI.out, HRR.out]
              dsimp only
              rw [← HDL.out, ← HOL.out, if_pos hsh]
              exact HE4.out
          · have hsh' : ¬ (dl : Int) < (ol : Int) := by omega
            go_wp2_with ((go_at_call 35); (with_reducible refine (HNM.out _ rfl).mono ?_); (rintro ev w3 ⟨rfl, rfl⟩))
            refine bodyPost_ret (results_tmp rfl _ _ _) rfl ?_
            refine ⟨_, rfl, ?_, ?_, HTW.out⟩
            · rw [HRR.out]
              exact HO.out
            · rw [HFI.out, HRR.out]
              dsimp only
              rw [← HDL.out, ← HOL.out, if_neg hsh]
              exact HEV.out
        | none =>
          have qe : wr.cell? ⟨be, 0, none⟩ = some .nilIface := blk_cell HEV.out.e 0
          have qt := (HH.out.turn HTW.out).t
          have HT8 := Aside0.mk (HTK.out none S' wr HEV.out (HH.out.turn HTW.out) HF.out.2.2)
          have hw8 : wordsF (n - i) none S' out = wordsF (n - (i + 1)) (takeF 8 none S').2.1 (takeF 8 none S').2.2 (out ++ [(((takeF 8 none S').1 : Nat) : Int)]) := by
            rw [show n - i = (n - (i + 1)) + 1 by omega]
            rfl
          have hl8 := take_num_lt 8 none S'
          have hs8 := take_size_le 8 none S'
          have HW8 := Aside0.mk (hw8.symm.trans HW.out)
          clear hw8
          generalize takeF 8 none S' = t8 at *
          obtain ⟨x, st8, S8⟩ := t8
          dsimp only at HT8 HW8 hl8 hs8
          have hu : IntKind.u64.wrap ((i : Int) + 1) = ((i + 1 : Nat) : Int) := by rw [IntKind.wrap_u64]; omega
          go_wp2_with (first
            | ((go_at_call 33); (with_reducible refine HT8.out.mono ?_); (rintro ev w2 ⟨rfl, hE2, hT2⟩); (have HE2 := Aside0.mk hE2); (have HT2 := Aside0.mk (HTW.out.trans hT2)); (have HO2 := Aside0.mk (R_turn HO.out hT2 hlt.1 hlt.2)); (clear hE2 hT2))
            | ((with_reducible refine gate_builtin (b := .append) (xs := #[.tmp 22, .tmp 25]) rfl ?_); at_builtin; refine Kd.R_append (Kd.int .u64) (w0 := w2) w.heap.size rfl (.tmp 22) (.tmp 25) 27 58 (.int .u64 0) 8 rfl Tryd.underlying27 info64w rfl (by decide) (by omega) _ out (x : Int) [.int .u64 (x : Int)] (fun _ => True) (fun _ => False) rfl rfl ?aP (fun _ hk => hk.elim) ?aF ?aO ?aB ?aS ?aL ?_; (case aP => exact rfl); (case aB => exact Below.refl _ _); (case aF => exact (fun _ _ => trivial)); (case aO => exact HO2.out); (case aS => exact HT2.out.size); (case aL => have := HF.out.1; omega); intro v1 w3 ho hb hg hat; have HO3 := Aside0.mk ho; have HT3 := Aside0.mk (HT2.out.after hb); have HE3 := Aside0.mk (HE2.out.grown HO2.out hg); clear ho hb hg hat))
          refine ⟨⟨i + 1, st8, S8, out ++ [(x : Int)], by congr 1, hin, ⟨by rw [List.length_append, HF.out.1]; rfl, inB_append.2 ⟨HF.out.2.1, inB_cons.2 ⟨⟨Int.natCast_nonneg _, by rw [W_eq]; omega⟩, inB_nil _⟩⟩, Nat.le_trans hs8 HF.out.2.2⟩, HW8, HE3, HT3, HO3⟩, by simp only [intOf]; omega⟩
      · have hin' : ¬ (i : Int) < (n : Int) := by omega
        have HRR : Aside0 (R = (out, st', S')) := ⟨by rw [← HW.out, show n - i = 0 by omega]; rfl⟩
        obtain ⟨A5, c5, e5, hl5, hc5⟩ := Kd.R_reads HO.out
        subst e5
        have HNM := Aside0.mk (fun W (hW : W = wr) => nat_norm_at A5 out.length c5 out W (by rw [hW]; exact Kd.reads_of_C (enc := Value.int .u64) (d := (0 : Int)) (h1 := fun _ => rfl) hc5) hl5 HF.out.2.1)
        obtain ⟨dl, hdl⟩ : ∃ dl, dl = (dig W (val W out)).length := ⟨_, rfl⟩
        obtain ⟨ol, hol⟩ : ∃ ol, ol = out.length := ⟨_, rfl⟩
        rw [← hdl, ← hol] at HNM
        rw [← hol] at HO
        have HDL := Aside0.mk hdl
        have HOL := Aside0.mk hol
        have qo := (HH.out.turn HTW.out).o
        clear hdl hc5 hl5
        rw [← hol]
        clear hol
        by_cases hsh : dl < ol
        · have hsh' : (dl : Int) < (ol : Int) := by omega
          go_wp2_with (first
            | ((go_at_call 35); (with_reducible refine (HNM.out _ rfl).mono ?_); (rintro ev w3 ⟨rfl, rfl⟩))
            | ((go_at_call 32); (with_reducible refine (HOD.out _ _ _ _ HEV.out).mono ?_); (rintro ev w4 ⟨rfl, hE4, hT4⟩); (have HE4 := Aside0.mk hE4); (have HT4 := Aside0.mk hT4); (clear hE4 hT4)))
          refine bodyPost_ret (results_tmp rfl _ _ _) rfl ?_
          refine ⟨_, rfl, ?_, ?_, HTW.out.trans (HT4.out)⟩
          · rw [HRR.out]
            exact R_turn HO.out HT4.out hlt.1 hlt.2
          · rw [HFI.out, HRR.out]
            dsimp only
            rw [← HDL.out, ← HOL.out, if_pos hsh]
            exact HE4.out
        · have hsh' : ¬ (dl : Int) < (ol : Int) := by omega
          go_wp2_with ((go_at_call 35); (with_reducible refine (HNM.out _ rfl).mono ?_); (rintro ev w3 ⟨rfl, rfl⟩))
          refine bodyPost_ret (results_tmp rfl _ _ _) rfl ?_
          refine ⟨_, rfl, ?_, ?_, HTW.out⟩
          · rw [HRR.out]
            exact HO.out
          · rw [HFI.out, HRR.out]
            dsimp only
            rw [← HDL.out, ← HOL.out, if_neg hsh]
            exact HEV.out
end Go.Proofs.YtanjahakoadecaaDoor.Hand
