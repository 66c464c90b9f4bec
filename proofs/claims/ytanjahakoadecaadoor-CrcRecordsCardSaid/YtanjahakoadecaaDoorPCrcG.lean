/- Texts joined into one: each with its own sentence of what is proved, and under which conditions. -/
import Derived.Test.YtanjahakoadecaaDoorHCrcL
import Derived.Laws.Strings
import Derived.OpenShut
import Derived.Test.YtanjahakoadecaaDoorPc4
import Derived.IntWalk
import Derived.Test.YtanjahakoadecaaDoorPc5
/- Law 14, plain: the bytes of a number, of a row, of a record; taken again they are what they were, and what is taken has just the bytes it was taken from. No program in sight. -/
namespace Go.Proofs.YtanjahakoadecaaDoor.Pure
open Go.RowKit Go.Proofs.YtanjahakoadecaaDoorW.PrintWords Go.Proofs.YtanjahakoadecaaDoorW.PrintLast Go.Proofs.YtanjahakoadecaaDoorW.PrintMore Go.Proofs.YtanjahakoadecaaDoor.Hand Go.Proofs.YtanjahakoadecaaDoor.Num
set_option linter.unusedVariables false
set_option linter.unusedSimpArgs false

/-- The bytes of a text. -/
abbrev bl (S : ByteArray) : List UInt8 := S.data.toList
theorem bl_len (S : ByteArray) : (bl S).length = S.size := rfl
theorem bl_extract (S : ByteArray) (i j : Nat) : bl (S.extract i j) = ((bl S).drop i).take (j - i) := by
  simp [bl, ByteArray.data_extract, Array.toList_extract]
theorem bl_first (S : ByteArray) (m : Nat) : bl (S.extract 0 m) = (bl S).take m := by rw [bl_extract]; simp
theorem bl_behind (S : ByteArray) (m : Nat) : bl (S.extract m S.size) = (bl S).drop m := by
  rw [bl_extract, List.take_of_length_le (by rw [List.length_drop, bl_len]; exact Nat.le_refl _)]
theorem bl_inj {S T : ByteArray} (h : bl S = bl T) : S = T := ByteArray.ext (Array.toList_inj.1 h)
/-- A number's bytes, so many, the highest one first. -/
def nb : Nat → Nat → List UInt8
  | 0, _ => []
  | m + 1, v => UInt8.ofNat (v / 256 ^ m % 256) :: nb m v
theorem nb_length : ∀ m v, (nb m v).length = m
  | 0, _ => rfl
  | m + 1, v => by unfold nb; rw [List.length_cons, nb_length m v]
theorem numF_nb : ∀ (m v a : Nat), numF (nb m v) a = a * 256 ^ m + v % 256 ^ m
  | 0, v, a => by simp [nb, numF, Nat.mod_one]
  | m + 1, v, a => by
    unfold nb
    simp only [numF]
    rw [numF_nb m v, UInt8.toNat_ofNat', Nat.mod_eq_of_lt (show v / 256 ^ m % 256 < 2 ^ 8 by omega)]
    rw [Nat.pow_succ, Nat.mod_mul, Nat.add_mul, Nat.mul_comm (256 ^ m) (v / 256 ^ m % 256), Nat.mul_comm (256 ^ m) 256, ← Nat.mul_assoc]
    omega
theorem numF_at : ∀ (l : List UInt8) (a : Nat), numF l a = a * 256 ^ l.length + numF l 0
  | [], a => by simp [numF]
  | b :: l, a => by
    simp only [numF]
    rw [numF_at l (a * 256 + b.toNat), numF_at l (0 * 256 + b.toNat), List.length_cons, Nat.pow_succ, Nat.zero_mul, Nat.zero_add, Nat.add_mul, Nat.mul_comm (256 ^ l.length) 256, ← Nat.mul_assoc]
    omega
theorem numF_lt : ∀ l : List UInt8, numF l 0 < 256 ^ l.length
  | [] => by simp [numF]
  | b :: l => by
    simp only [numF]
    rw [numF_at l, List.length_cons, Nat.pow_succ, Nat.zero_mul, Nat.zero_add]
    have h1 := numF_lt l
    have h2 : b.toNat < 256 := b.toNat_lt
    have h3 : (b.toNat + 1) * 256 ^ l.length ≤ 256 * 256 ^ l.length := Nat.mul_le_mul_right _ (by omega)
    rw [Nat.add_mul, Nat.one_mul] at h3
    rw [Nat.mul_comm (256 ^ l.length) 256]
    omega
theorem nb_numF : ∀ (l : List UInt8) (a : Nat), nb l.length (numF l a) = l
  | [], _ => rfl
  | b :: l, a => by
    rw [List.length_cons]
    unfold nb
    simp only [numF]
    rw [nb_numF l]
    have h1 := numF_lt l
    have h2 : b.toNat < 256 := b.toNat_lt
    have hd : numF l (a * 256 + b.toNat) / 256 ^ l.length = a * 256 + b.toNat := by
      rw [numF_at l, Nat.mul_comm, Nat.mul_add_div (Nat.pow_pos (by omega)), Nat.div_eq_of_lt h1, Nat.add_zero]
    rw [hd, show (a * 256 + b.toNat) % 256 = b.toNat by omega, UInt8.ofNat_toNat]
theorem nb_one (c : Nat) : nb 1 c = [UInt8.ofNat (c % 256)] := by simp [nb]

/-- Taking, forth: the number's bytes stand ahead. -/
theorem take_fwd {S : ByteArray} {m v : Nat} {R : List UInt8} (h : bl S = nb m v ++ R) (hv : v < 256 ^ m) : ∃ S', takeF m none S = (v, none, S') ∧ bl S' = R := by
  have hl : ¬ S.size < m := by rw [← bl_len, h, List.length_append, nb_length]; omega
  refine ⟨S.extract m S.size, ?_, ?_⟩
  · unfold takeF
    simp only
    rw [if_neg hl]
    have e : numF (S.extract 0 m).data.toList 0 = v := by
      show numF (bl (S.extract 0 m)) 0 = v
      rw [bl_first, h, List.take_append_of_le_length (by rw [nb_length]; exact Nat.le_refl _), List.take_of_length_le (by rw [nb_length]; exact Nat.le_refl _), numF_nb, Nat.mod_eq_of_lt hv]
      omega
    rw [e]
  · rw [bl_behind, h, List.drop_append_of_le_length (by rw [nb_length]; exact Nat.le_refl _), List.drop_of_length_le (by rw [nb_length]; exact Nat.le_refl _), List.nil_append]
/-- Taking, back: nothing is wrong behind it, so nothing was, and the bytes are the number's and those left. -/
theorem take_bwd {S : ByteArray} {m : Nat} {st : Option Int} (h : (takeF m st S).2.1 = none) : st = none ∧ (takeF m st S).1 < 256 ^ m ∧ bl S = nb m (takeF m st S).1 ++ bl (takeF m st S).2.2 := by
  cases st with
  | some e => unfold takeF at h; cases h
  | none =>
    unfold takeF at h ⊢
    simp only at h ⊢
    by_cases hm : S.size < m
    · rw [if_pos hm] at h; cases h
    · rw [if_neg hm]
      have hl : (bl (S.extract 0 m)).length = m := by rw [bl_first, List.length_take, bl_len]; omega
      refine ⟨by simp, ?_, ?_⟩
      · have := numF_lt (bl (S.extract 0 m))
        rwa [hl] at this
      · show bl S = nb m (numF (bl (S.extract 0 m)) 0) ++ bl (S.extract m S.size)
        have e := nb_numF (bl (S.extract 0 m)) 0
        rw [hl] at e
        rw [e, bl_first, bl_behind, List.take_append_drop]
/-- The bytes of words. -/
def wordsL (l : List Int) : List UInt8 := l.flatMap fun x => nb 8 x.toNat
theorem words_fwd : ∀ (l : List Int) (S : ByteArray) (R : List UInt8) (out : List Int), bl S = wordsL l ++ R → InB W l → ∃ S', wordsF l.length none S out = (out ++ l, none, S') ∧ bl S' = R
  | [], S, R, out, h, _ => ⟨S, by simp [wordsF], by rw [h]; rfl⟩
  | x :: l, S, R, out, h, hi => by
    have hx := hi x (List.mem_cons_self ..)
    rw [W_eq] at hx
    obtain ⟨S1, e1, h1⟩ := take_fwd (S := S) (m := 8) (v := x.toNat) (R := wordsL l ++ R) (by rw [h]; simp [wordsL, List.append_assoc]) (by omega)
    obtain ⟨S2, e2, h2⟩ := words_fwd l S1 R (out ++ [x]) h1 (fun y hy => hi y (List.mem_cons_of_mem _ hy))
    refine ⟨S2, ?_, h2⟩
    rw [List.length_cons]
    unfold wordsF
    rw [e1]
    simp only
    rw [show ((x.toNat : Nat) : Int) = x by omega, e2]
    simp
theorem words_bwd : ∀ (n : Nat) (st : Option Int) (S : ByteArray) (out : List Int), (wordsF n st S out).2.1 = none → st = none ∧ ∃ l : List Int, l.length = n ∧ InB W l ∧ (wordsF n st S out).1 = out ++ l ∧ bl S = wordsL l ++ bl (wordsF n st S out).2.2
  | 0, st, S, out, h => by
    have hs : st = none := by cases st <;> first | rfl | (unfold wordsF at h; exact h)
    exact ⟨hs, [], rfl, fun x hx => absurd hx (by simp), by simp [wordsF], by simp [wordsF, wordsL]⟩
  | n + 1, some e, S, out, h => by unfold wordsF at h; cases h
  | n + 1, none, S, out, h => by
    unfold wordsF at h ⊢
    obtain ⟨hs, l, hl, hi, e1, e2⟩ := words_bwd n (takeF 8 none S).2.1 (takeF 8 none S).2.2 (out ++ [(((takeF 8 none S).1 : Nat) : Int)]) h
    obtain ⟨_, hv, e3⟩ := take_bwd hs
    refine ⟨rfl, (((takeF 8 none S).1 : Nat) : Int) :: l, by rw [List.length_cons, hl], ?_, ?_, ?_⟩
    · intro x hx
      rcases List.mem_cons.1 hx with rfl | hx
      · rw [W_eq]
        omega
      · exact hi x hx
    · rw [e1]; simp
    · rw [e3, e2]
      simp [wordsL, List.append_assoc]
/-- The bytes of a row. -/
def rowL (l : List Int) : List UInt8 := nb 4 l.length ++ wordsL l
theorem row_fwd {l : List Int} {S : ByteArray} {R : List UInt8} (h : bl S = rowL l ++ R) (hi : InB W l) (ho : ordV l = true) : ∃ S', rowF none S = (l, none, S') ∧ bl S' = R := by
  unfold ordV at ho
  rw [Bool.and_eq_true, decide_eq_true_eq, decide_eq_true_eq] at ho
  obtain ⟨S1, e1, h1⟩ := take_fwd (S := S) (m := 4) (v := l.length) (R := wordsL l ++ R) (by rw [h]; simp [rowL, List.append_assoc]) (by omega)
  obtain ⟨S2, e2, h2⟩ := words_fwd l S1 R [] h1 hi
  refine ⟨S2, ?_, h2⟩
  unfold rowF
  rw [e1]
  simp only
  rw [if_neg (by omega), e2, List.nil_append]
  simp only
  rw [if_neg (by omega)]
theorem or_none {a : Option Int} {e : Int} (h : a.or (some e) = none) : False := by cases a <;> cases h
theorem row_bwd {st : Option Int} {S : ByteArray} (h : (rowF st S).2.1 = none) : st = none ∧ InB W (rowF st S).1 ∧ ordV (rowF st S).1 = true ∧ bl S = rowL (rowF st S).1 ++ bl (rowF st S).2.2 := by
  unfold rowF at h ⊢
  simp only at h ⊢
  by_cases hn : 4096 < (takeF 4 st S).1
  · rw [if_pos hn] at h
    split at h
    · exact (or_none h).elim
    · exact (or_none (words_bwd _ _ _ _ h).1).elim
  · rw [if_neg hn] at h ⊢
    split at h
    · exact (or_none h).elim
    · rename_i hd
      obtain ⟨hs, l, hl, hi, e1, e2⟩ := words_bwd _ _ _ _ h
      obtain ⟨h0, hv, e3⟩ := take_bwd hs
      rw [List.nil_append] at e1
      rw [e1] at hd ⊢
      refine ⟨h0, hi, ?_, ?_⟩
      · unfold ordV
        rw [Bool.and_eq_true, decide_eq_true_eq, decide_eq_true_eq]
        have := (norm_facts hi).1
        omega
      · rw [e3, e2, rowL, hl, List.append_assoc]
/-- What is told is never 0. -/
def NZ (st : Option Int) : Prop := ∀ e, st = some e → e ≠ 0
theorem nz_none : NZ none := fun _ h => by cases h
theorem nz_or {a : Option Int} {e : Int} (ha : NZ a) (he : e ≠ 0) : NZ (a.or (some e)) := by
  intro x hx
  cases a with
  | none => cases hx; exact he
  | some y => cases hx; exact ha _ rfl
theorem nz_take {m : Nat} {st : Option Int} {S : ByteArray} (h : NZ st) : NZ (takeF m st S).2.1 := by
  cases st with
  | some e => exact h
  | none =>
    unfold takeF
    simp only
    split
    · intro x hx; cases hx; decide
    · exact nz_none
theorem nz_words : ∀ (n : Nat) {st : Option Int} {S : ByteArray} {out : List Int}, NZ st → NZ (wordsF n st S out).2.1
  | 0, st, S, out, h => by unfold wordsF; exact h
  | n + 1, some e, S, out, h => by unfold wordsF; exact h
  | n + 1, none, S, out, h => by unfold wordsF; exact nz_words n (nz_take h)
theorem nz_if {c : Prop} [Decidable c] {a b : Option Int} (ha : NZ a) (hb : NZ b) : NZ (if c then a else b) := by split <;> assumption
theorem nz_row {st : Option Int} {S : ByteArray} (h : NZ st) : NZ (rowF st S).2.1 := by
  unfold rowF
  simp only
  have h4 : NZ (if 4096 < (takeF 4 st S).1 then (takeF 4 st S).2.1.or (some 4) else (takeF 4 st S).2.1) := nz_if (nz_or (nz_take h) (by decide)) (nz_take h)
  exact nz_if (nz_or (nz_words _ h4) (by decide)) (nz_words _ h4)
theorem nz_parts (S : ByteArray) : NZ (partsF S).2.2.2 := by
  unfold partsF
  simp only
  repeat' first
    | with_reducible exact nz_none
    | with_reducible refine nz_if ?_ ?_
    | with_reducible refine nz_or ?_ (by decide)
    | with_reducible refine nz_row ?_
    | with_reducible refine nz_take ?_
/-- A record's bytes without ends. -/
def bodyL (R : RecF) : List UInt8 := nb 1 R.1.1 ++ (nb 4 R.1.2.1 ++ (nb 4 R.1.2.2.1 ++ (nb 4 R.1.2.2.2.1 ++ (nb 4 R.1.2.2.2.2 ++ (nb 1 (if R.2.2 = true then 1 else 0) ++ (rowL R.2.1.1 ++ (rowL R.2.1.2.1 ++ rowL R.2.1.2.2)))))))
/-- The sum. -/
def crcL (l : List UInt8) : Nat := 4294967295 ^^^ crcFold l 4294967295
def recL (R : RecF) : List UInt8 := [84, 65, 76, 89] ++ bodyL R
def bytesL (R : RecF) : List UInt8 := recL R ++ nb 4 (crcL (recL R))
def mayR (R : RecF) : Bool := mayV R.1.1 R.1.2.1 R.1.2.2.1 R.1.2.2.2.1 R.1.2.2.2.2 R.2.1.1 R.2.1.2.1 R.2.1.2.2
def okR (R : RecF) : Prop := mayR R = true ∧ InB W R.2.1.1 ∧ InB W R.2.1.2.1 ∧ InB W R.2.1.2.2
theorem may_facts {c d g f t : Int} {p q r : List Int} (h : mayV c d g f t p q r = true) : 0 ≤ c ∧ c ≤ 255 ∧ (0 ≤ d ∧ d ≤ 2147483647) ∧ (0 ≤ g ∧ g ≤ 2147483647) ∧ (0 ≤ f ∧ f ≤ 2147483647) ∧ (0 ≤ t ∧ t ≤ 2147483647) ∧ ordV p = true ∧ ordV q = true ∧ ordV r = true := by
  unfold mayV at h
  simp only [Bool.and_eq_true, decide_eq_true_eq, Bool.not_eq_true', List.any_cons, List.any_nil, Bool.or_false, Bool.or_eq_false_iff, oddV, decide_eq_false_iff_not] at h
  obtain ⟨⟨⟨⟨⟨hc, hc2⟩, ho⟩, hp⟩, hq⟩, hr⟩ := h
  exact ⟨hc, hc2, by omega, by omega, by omega, by omega, hp, hq, hr⟩
theorem parts_fwd {R : RecF} {S : ByteArray} (ho : okR R) (h : bl S = bodyL R) : partsF S = (R.1, R.2.1, R.2.2, none) := by
  obtain ⟨⟨c, d, g, f, u⟩, ⟨p, q, r⟩, mi⟩ := R
  obtain ⟨hm, hp, hq, hr⟩ := ho
  have hm' : mayV (c : Int) d g f u p q r = true := hm
  obtain ⟨_, b1, b2, b3, b4, b5, op, oq, or_⟩ := may_facts hm'
  have h : bl S = nb 1 c ++ (nb 4 d ++ (nb 4 g ++ (nb 4 f ++ (nb 4 u ++ (nb 1 (if mi = true then 1 else 0) ++ (rowL p ++ (rowL q ++ rowL r))))))) := h
  obtain ⟨S1, e1, h1⟩ := take_fwd (m := 1) h (by show c < 256 ^ 1; omega)
  obtain ⟨S2, e2, h2⟩ := take_fwd (m := 4) h1 (by show d < 256 ^ 4; omega)
  obtain ⟨S3, e3, h3⟩ := take_fwd (m := 4) h2 (by show g < 256 ^ 4; omega)
  obtain ⟨S4, e4, h4⟩ := take_fwd (m := 4) h3 (by show f < 256 ^ 4; omega)
  obtain ⟨S5, e5, h5⟩ := take_fwd (m := 4) h4 (by show u < 256 ^ 4; omega)
  obtain ⟨S6, e6, h6⟩ := take_fwd (m := 1) h5 (by show (if mi = true then 1 else 0) < 256 ^ 1; split <;> omega)
  obtain ⟨S7, e7, h7⟩ := row_fwd (l := p) h6 hp op
  obtain ⟨S8, e8, h8⟩ := row_fwd (l := q) h7 hq oq
  obtain ⟨S9, e9, h9⟩ := row_fwd (l := r) (R := []) (by rw [List.append_nil]; exact h8) hr or_
  have hmi : ¬ 1 < (if mi = true then 1 else 0) := by split <;> omega
  have hE : S9.toList.isEmpty = true := by rw [Go.ByteArray.toList_eq]; show (bl S9).isEmpty = true; rw [h9]; rfl
  unfold partsF
  simp only [e1, e2, e3, e4, e5, e6]
  simp only [if_neg hmi]
  simp only [e7, e8, e9]
  simp only [hE, hm', if_true]
  have : ((((if mi = true then 1 else 0 : Nat) : Nat) : Int) == 1) = mi := by cases mi <;> rfl
  rw [this]
theorem if_none {c : Prop} [Decidable c] {a : Option Int} {e : Int} (h : (if c then a else a.or (some e)) = none) : c ∧ a = none := by
  by_cases hc : c
  · rw [if_pos hc] at h; exact ⟨hc, h⟩
  · rw [if_neg hc] at h; exact (or_none h).elim
theorem if_none' {c : Prop} [Decidable c] {a : Option Int} {e : Int} (h : (if c then a.or (some e) else a) = none) : ¬ c ∧ a = none := by
  by_cases hc : c
  · rw [if_pos hc] at h; exact (or_none h).elim
  · rw [if_neg hc] at h; exact ⟨hc, h⟩
theorem take_bwd' {S : ByteArray} {m : Nat} {st : Option Int} {x : Nat × Option Int × ByteArray} (hx : takeF m st S = x) (h : x.2.1 = none) : st = none ∧ x.1 < 256 ^ m ∧ bl S = nb m x.1 ++ bl x.2.2 := by
  subst hx
  exact take_bwd h
theorem row_bwd' {S : ByteArray} {st : Option Int} {x : List Int × Option Int × ByteArray} (hx : rowF st S = x) (h : x.2.1 = none) : st = none ∧ InB W x.1 ∧ ordV x.1 = true ∧ bl S = rowL x.1 ++ bl x.2.2 := by
  subst hx
  exact row_bwd h
theorem parts_eq (S : ByteArray) : ∃ (t1 t2 t3 t4 t5 t6 : Nat × Option Int × ByteArray) (r1 r2 r3 : List Int × Option Int × ByteArray), takeF 1 none S = t1 ∧ takeF 4 t1.2.1 t1.2.2 = t2 ∧ takeF 4 t2.2.1 t2.2.2 = t3 ∧ takeF 4 t3.2.1 t3.2.2 = t4 ∧ takeF 4 t4.2.1 t4.2.2 = t5 ∧ takeF 1 t5.2.1 t5.2.2 = t6 ∧
    rowF (if 1 < t6.1 then t6.2.1.or (some 6) else t6.2.1) t6.2.2 = r1 ∧ rowF r1.2.1 r1.2.2 = r2 ∧ rowF r2.2.1 r2.2.2 = r3 ∧
    partsF S = ((t1.1, t2.1, t3.1, t4.1, t5.1), (r1.1, r2.1, r3.1), (((t6.1 : Nat) : Int) == 1), if mayV (t1.1 : Int) (t2.1 : Int) (t3.1 : Int) (t4.1 : Int) (t5.1 : Int) r1.1 r2.1 r3.1 = true then (if r3.2.2.toList.isEmpty = true then r3.2.1 else r3.2.1.or (some 6)) else (if r3.2.2.toList.isEmpty = true then r3.2.1 else r3.2.1.or (some 6)).or (some 1)) :=
  ⟨_, _, _, _, _, _, _, _, _, rfl, rfl, rfl, rfl, rfl, rfl, rfl, rfl, rfl, rfl⟩
theorem parts_bwd {S : ByteArray} (h : (partsF S).2.2.2 = none) : okR ((partsF S).1, (partsF S).2.1, (partsF S).2.2.1) ∧ bl S = bodyL ((partsF S).1, (partsF S).2.1, (partsF S).2.2.1) := by
  obtain ⟨t1, t2, t3, t4, t5, t6, r1, r2, r3, q1, q2, q3, q4, q5, q6, q7, q8, q9, e⟩ := parts_eq S
  rw [e] at h ⊢
  simp only at h ⊢
  obtain ⟨hm, h⟩ := if_none h
  obtain ⟨hE, h⟩ := if_none h
  obtain ⟨h, i9, o9, e9⟩ := row_bwd' q9 h
  obtain ⟨h, i8, o8, e8⟩ := row_bwd' q8 h
  obtain ⟨h, i7, o7, e7⟩ := row_bwd' q7 h
  obtain ⟨hmi, h⟩ := if_none' h
  obtain ⟨h, b6, e6⟩ := take_bwd' q6 h
  obtain ⟨h, b5, e5⟩ := take_bwd' q5 h
  obtain ⟨h, b4, e4⟩ := take_bwd' q4 h
  obtain ⟨h, b3, e3⟩ := take_bwd' q3 h
  obtain ⟨h, b2, e2⟩ := take_bwd' q2 h
  obtain ⟨h, b1, e1⟩ := take_bwd' q1 h
  refine ⟨⟨hm, i7, i8, i9⟩, ?_⟩
  rw [Go.ByteArray.toList_eq, List.isEmpty_iff] at hE
  have hE' : bl r3.2.2 = [] := hE
  rw [hE', List.append_nil] at e9
  have hv : (if (((t6.1 : Nat) : Int) == 1) = true then 1 else 0) = t6.1 := by
    rcases (by omega : t6.1 = 0 ∨ t6.1 = 1) with h0 | h0 <;> rw [h0] <;> rfl
  unfold bodyL
  simp only
  rw [hv, e1, e2, e3, e4, e5, e6, e7, e8, e9]
theorem crcL_lt (l : List UInt8) : crcL l < 4294967296 := by
  have h := crcFold_lt l (v := 4294967295) (by decide)
  unfold crcL
  exact Nat.xor_lt_two_pow (n := 32) (by decide) h
/-- A record's bytes are taken as the record. -/
theorem take_of {R : RecF} {s : ByteArray} (ho : okR R) (h : bl s = bytesL R) : takeE s = 0 ∧ takeR s = R := by
  have hl : s.size = (recL R).length + 4 := by rw [← bl_len, h, bytesL, List.length_append, nb_length]
  have hr : (recL R).length = 4 + (bodyL R).length := by simp [recL]; omega
  have hb : 18 ≤ (bodyL R).length := by simp [bodyL, nb_length]; omega
  have h1 : bl (s.extract (s.size - 4) s.size) = nb 4 (crcL (recL R)) := by
    rw [bl_behind, h, bytesL, hl, Nat.add_sub_cancel, List.drop_append_of_le_length (Nat.le_refl _), List.drop_of_length_le (Nat.le_refl _), List.nil_append]
  have h2 : bl (s.extract 0 (s.size - 4)) = recL R := by
    rw [bl_first, h, bytesL, hl, Nat.add_sub_cancel, List.take_append_of_le_length (Nat.le_refl _), List.take_of_length_le (Nat.le_refl _)]
  have h3 : bl (s.extract 4 (s.size - 4)) = bodyL R := by
    rw [bl_extract, h, bytesL, recL, List.append_assoc, List.drop_append_of_le_length (by simp), List.drop_of_length_le (by simp), List.nil_append, List.take_append_of_le_length (by omega), List.take_of_length_le (by omega)]
  have h4 : ((s.extract 0 4).toList == [84, 65, 76, 89]) = true := by
    rw [Go.ByteArray.toList_eq, beq_iff_eq]
    show bl (s.extract 0 4) = _
    rw [bl_first, h, bytesL, recL, List.append_assoc, List.take_append_of_le_length (by simp)]
    rfl
  have hsum : ((numF (s.extract (s.size - 4) s.size).data.toList 0 : Nat) : Int) = ((4294967295 ^^^ crcFold (s.extract 0 (s.size - 4)).data.toList 4294967295 : Nat) : Int) := by
    show ((numF (bl (s.extract (s.size - 4) s.size)) 0 : Nat) : Int) = ((crcL (bl (s.extract 0 (s.size - 4))) : Nat) : Int)
    rw [h1, h2, numF_nb, Nat.mod_eq_of_lt (crcL_lt _)]
    omega
  have hp := parts_fwd ho h3
  have h8 : ¬ s.size < 8 := by omega
  unfold takeE takeR
  rw [if_neg h8, if_neg h8, if_pos hsum, if_pos hsum, if_pos h4, if_pos h4, hp]
  exact ⟨rfl, rfl⟩
/-- What is taken may be, and its bytes are those it was taken from. -/
theorem of_take {s : ByteArray} (h : takeE s = 0) : okR (takeR s) ∧ bl s = bytesL (takeR s) := by
  unfold takeE at h
  unfold takeR
  by_cases h8 : s.size < 8
  · rw [if_pos h8] at h; cases h
  rw [if_neg h8] at h ⊢
  by_cases hs : ((numF (s.extract (s.size - 4) s.size).data.toList 0 : Nat) : Int) = ((4294967295 ^^^ crcFold (s.extract 0 (s.size - 4)).data.toList 4294967295 : Nat) : Int)
  · rw [if_pos hs] at h ⊢
    by_cases h4 : ((s.extract 0 4).toList == [84, 65, 76, 89]) = true
    · rw [if_pos h4] at h ⊢
      have hz := nz_parts (s.extract 4 (s.size - 4))
      cases hp : (partsF (s.extract 4 (s.size - 4))).2.2.2 with
      | some e => rw [hp] at h; exact (hz e hp h).elim
      | none =>
        obtain ⟨ho, hb⟩ := parts_bwd hp
        refine ⟨ho, ?_⟩
        simp only
        generalize hR : (((partsF (s.extract 4 (s.size - 4))).1, (partsF (s.extract 4 (s.size - 4))).2.1, (partsF (s.extract 4 (s.size - 4))).2.2.1) : RecF) = R at *
        have h4' : bl (s.extract 0 4) = [84, 65, 76, 89] := by
          rw [Go.ByteArray.toList_eq, beq_iff_eq] at h4
          exact h4
        have e2 : bl (s.extract 0 (s.size - 4)) = recL R := by
          rw [recL, ← h4', ← hb, bl_first, bl_first, bl_extract]
          have := List.take_append_drop 4 ((bl s).take (s.size - 4))
          rw [List.take_take, List.drop_take, Nat.min_eq_left (by omega)] at this
          exact this.symm
        have hs' : numF (bl (s.extract (s.size - 4) s.size)) 0 = crcL (bl (s.extract 0 (s.size - 4))) := Int.ofNat.inj hs
        have hl4 : (bl (s.extract (s.size - 4) s.size)).length = 4 := by rw [bl_behind, List.length_drop, bl_len]; omega
        have e3 := nb_numF (bl (s.extract (s.size - 4) s.size)) 0
        rw [hl4, hs', e2] at e3
        rw [bytesL, e3, ← e2, bl_first, bl_behind, List.take_append_drop]
    · rw [if_neg h4] at h; cases h
  · rw [if_neg hs] at h; cases h
end Go.Proofs.YtanjahakoadecaaDoor.Pure

/- Law 14: what crc.Bytes tells with enough rounds: just a record's bytes. -/
namespace Go.Proofs.YtanjahakoadecaaDoor.Pure
open Go.RowKit Go.Proofs.YtanjahakoadecaaDoor.Pc Go.Proofs.YtanjahakoadecaaDoorW.PrintWords Go.Proofs.YtanjahakoadecaaDoorW.PrintLast Go.Proofs.YtanjahakoadecaaDoorW.PrintMore Go.Proofs.YtanjahakoadecaaDoor.Hand Go.Proofs.YtanjahakoadecaaDoor.Num
set_option linter.unusedVariables false
set_option linter.unusedSimpArgs false

/-- With enough fuel F answers r. -/
def Ev {α : Type} (F : Nat → Option α) (r : α) : Prop := ∃ K, ∀ k, K ≤ k → F k = some r
theorem Ev.succ {α : Type} {F : Nat → Option α} {r : α} (h : Ev (fun k => F (k + 1)) r) : Ev F r := by
  obtain ⟨K, h⟩ := h
  refine ⟨K + 1, fun k hk => ?_⟩
  obtain ⟨j, rfl⟩ : ∃ j, k = j + 1 := ⟨k - 1, by omega⟩
  exact h j (by omega)
theorem Ev.const {α : Type} {x : Option α} {r : α} (h : x = some r) : Ev (fun _ => x) r := ⟨0, fun _ _ => h⟩
theorem Ev.congr {α : Type} {F G : Nat → Option α} {r : α} (h : ∀ k, F k = G k) (hg : Ev G r) : Ev F r := by
  obtain ⟨K, hg⟩ := hg
  exact ⟨K, fun k hk => (h k).trans (hg k hk)⟩
theorem Ev.bind {α β : Type} {f : Nat → Option α} {g : Nat → α → Option β} {a : α} {r : β} (h : Ev f a) (h2 : Ev (fun k => g k a) r) : Ev (fun k => (f k).bind (g k)) r := by
  obtain ⟨K, h⟩ := h
  obtain ⟨K2, h2⟩ := h2
  refine ⟨max K K2, fun k hk => ?_⟩
  show (f k).bind (g k) = some r
  rw [h k (by omega)]
  exact h2 k (by omega)
theorem Ev.get {α : Type} {F : Nat → Option α} {r : α} (h : Ev F r) : ∃ k, F k = some r := by
  obtain ⟨K, h⟩ := h
  exact ⟨K, h K (Nat.le_refl _)⟩
theorem Ev.yes {α : Type} {c : Prop} [Decidable c] {A B : Nat → Option α} {r : α} (h : c) (hA : Ev A r) : Ev (fun k => if c then A k else B k) r := Ev.congr (fun k => if_pos h) hA
theorem Ev.no {α : Type} {c : Prop} [Decidable c] {A B : Nat → Option α} {r : α} (h : ¬ c) (hB : Ev B r) : Ev (fun k => if c then A k else B k) r := Ev.congr (fun k => if_neg h) hB
theorem w_less (j : Nat) (h : j ≤ 17592186044416) : wrap64 ((j : Int) - 1) = (j : Int) - 1 := IntWalk.wrap64_in _ (by omega)
theorem w_more (j : Nat) (h : j ≤ 17592186044416) : wrap64 ((j : Int) + 1) = ((j + 1 : Nat) : Int) := IntWalk.wrap64_in _ (by omega)
theorem w_eight (j : Nat) (h : j ≤ 1000) : wrap64 (8 * (j : Int)) = 8 * (j : Int) := IntWalk.wrap64_in _ (by omega)
/-- What num lays. -/
def numT (v : Int) : Nat → List Int
  | 0 => []
  | j + 1 => [(shr .u64 v (wrap64 (8 * (j : Int)))) % 256] ++ numT v j
theorem numT_length (v : Int) : ∀ j, (numT v j).length = j
  | 0 => rfl
  | j + 1 => by unfold numT; rw [List.length_append, numT_length v j]; simp; omega
theorem num_loop (v : Int) : ∀ (j : Nat) (b : List Int), j ≤ 8 → b.length + j ≤ 1000000 → Ev (fun k => crc_num.l0 k b v ((j : Int) - 1)) (b ++ numT v j)
  | 0, b, _, _ => by
    refine Ev.succ ?_
    simp only [crc_num.l0]
    exact Ev.no (by omega) (Ev.const (by unfold numT; rw [List.append_nil]))
  | j + 1, b, hj, hb => by
    have he := num_loop v j (b ++ [(shr .u64 v (wrap64 (8 * (j : Int)))) % 256]) (by omega) (by rw [List.length_append]; simp; omega)
    unfold numT
    rw [show ((j + 1 : Nat) : Int) - 1 = (j : Int) by omega]
    refine Ev.succ ?_
    simp only [crc_num.l0]
    refine Ev.yes (by omega) (Ev.yes (by rw [w_eight j (by omega)]; omega) (Ev.yes (by omega) ?_))
    rw [w_less j (by omega)]
    rw [← List.append_assoc]
    exact he
theorem num_at (b : List Int) (v : Int) (n : Nat) (hn : n ≤ 8) (hb : b.length + n ≤ 1000000) : Ev (fun k => crc_num.f k b v (n : Int)) (b ++ numT v n) := by
  have he := num_loop v n b hn hb
  unfold crc_num.f
  rw [w_less n (by omega)]
  exact he
/-- The bytes of a row of numbers. -/
abbrev by8 (l : List Int) : List UInt8 := l.map fun n => UInt8.ofNat n.toNat
theorem by8_app (a b : List Int) : by8 (a ++ b) = by8 a ++ by8 b := List.map_append
theorem shr_at (V j : Nat) (hj : j ≤ 7) : (shr .u64 (V : Int) (wrap64 (8 * (j : Int)))) % 256 = ((V / 256 ^ j % 256 : Nat) : Int) := by
  rw [w_eight j (by omega)]
  unfold shr
  rw [show min (8 * (j : Int)).toNat IntKind.u64.bits = 8 * j by show min (8 * (j : Int)).toNat 64 = 8 * j; omega]
  have e : ((2 ^ (8 * j) : Nat) : Int) = (2 : Int) ^ (8 * j) := Int.natCast_pow 2 (8 * j)
  rw [← e, Nat.pow_mul]
  rfl
theorem by8_num : ∀ (m v : Nat), m ≤ 8 → by8 (numT (v : Int) m) = nb m v
  | 0, v, _ => rfl
  | m + 1, v, h => by
    unfold numT nb
    rw [shr_at v m (by omega), by8_app, by8_num m v (by omega)]
    show UInt8.ofNat (((v / 256 ^ m % 256 : Nat) : Int)).toNat :: nb m v = _
    rw [Int.toNat_natCast]
theorem wrap_id (a : Int) (h0 : 0 ≤ a) (h1 : a < 18446744073709551616) : IntKind.u64.wrap a = a := by
  show a % 18446744073709551616 = a
  omega
/-- The words of a row. -/
def wordsT (l : List Int) : List Int := l.flatMap fun x => numT x 8
theorem wordsT_length : ∀ l : List Int, (wordsT l).length = 8 * l.length
  | [] => rfl
  | x :: l => by
    show ((numT x 8) ++ wordsT l).length = _
    rw [List.length_append, numT_length, wordsT_length l, List.length_cons]
    omega
theorem by8_words : ∀ {l : List Int}, InB W l → by8 (wordsT l) = wordsL l
  | [], _ => rfl
  | x :: l, h => by
    show by8 (numT x 8 ++ wordsT l) = nb 8 x.toNat ++ wordsL l
    have hx := h x (List.mem_cons_self ..)
    rw [W_eq] at hx
    rw [by8_app, by8_words (fun y hy => h y (List.mem_cons_of_mem _ hy)), ← by8_num 8 x.toNat (by omega), show ((x.toNat : Nat) : Int) = x by omega]
/-- A row. -/
def rowT (l : List Int) : List Int := numT (l.length : Int) 4 ++ wordsT l
theorem by8_row {l : List Int} (h : InB W l) : by8 (rowT l) = rowL l := by
  unfold rowT rowL
  rw [by8_app, by8_words h, by8_num 4 l.length (by omega)]
theorem rd_at (l : List Int) (i : Nat) (h : i < l.length) : rd l (i : Int) = l[i] := by
  unfold rd
  simp [h]
/-- The words of a row, told. -/
theorem row_loop (rows : List (List Int)) (row : List Int) (m : Nat) (hr : row.length ≤ 4096) (res : ByteArray × Int) : ∀ (d i : Nat) (b : List Int), i + d = row.length → b.length + 8 * d ≤ 500000 →
    Ev (fun k => crc_Bytes.l1 k (b ++ wordsT (row.drop i)) rows 3 (wrap64 ((m : Int) + 1))) res → Ev (fun k => crc_Bytes.l2 k b rows 3 (m : Int) row (row.length : Int) (i : Int)) res
  | 0, i, b, hi, _, h => by
    refine Ev.succ ?_
    simp only [crc_Bytes.l2]
    rw [List.drop_of_length_le (by omega)] at h
    rw [show b ++ wordsT [] = b by simp [wordsT]] at h
    exact Ev.no (by omega) h
  | d + 1, i, b, hi, hb, h => by
    have hil : i < row.length := by omega
    refine Ev.succ ?_
    simp only [crc_Bytes.l2]
    have e1 := num_at b (rd row (i : Int)) 8 (by omega) (by omega)
    refine Ev.yes (by omega) (Ev.yes (by omega) (Ev.yes (by omega) (Ev.bind e1 ?_)))
    rw [w_more i (by omega)]
    refine row_loop rows row m hr res d (i + 1) (b ++ numT (rd row (i : Int)) 8) (by omega) (by rw [List.length_append, numT_length]; omega) ?_
    rw [List.drop_eq_getElem_cons hil] at h
    rw [rd_at row i hil, List.append_assoc]
    exact h
/-- A text's sum, as num is handed it. -/
def sumOf (b : List Int) : Int := IntKind.u64.wrap ((4294967295 ^^^ crcFold (strOfNums b).data.toList 4294967295 : Nat) : Int)
/-- All rows from the one of number m on, and the sum. -/
theorem rows_loop (rows : List (List Int)) (h3 : rows.length = 3) (hw : ∀ x ∈ rows, x.length ≤ 4096) : ∀ (d m : Nat) (b : List Int), m + d = 3 → b.length + d * 40000 ≤ 300000 →
    Ev (fun k => crc_Bytes.l1 k b rows 3 (m : Int)) (strOfNums (b ++ (rows.drop m).flatMap rowT ++ numT (sumOf (b ++ (rows.drop m).flatMap rowT)) 4), 0)
  | 0, m, b, hm, hb => by
    have hs : crc_Sum.f (strOfNums b) = some ((4294967295 ^^^ crcFold (strOfNums b).data.toList 4294967295 : Nat) : Int) := by
      unfold crc_Sum.f
      rw [if_pos (by rw [strOfNums_size]; omega)]
    have he := num_at b (sumOf b) 4 (by omega) (by omega)
    rw [List.drop_eq_nil_of_le (by omega), List.flatMap_nil, List.append_nil]
    refine Ev.succ ?_
    simp only [crc_Bytes.l1]
    exact Ev.no (by omega) (Ev.bind (Ev.const hs) (Ev.bind he (Ev.const rfl)))
  | d + 1, m, b, hm, hb => by
    have hml : m < rows.length := by omega
    have hrow : rd_L2 rows (m : Int) = rows[m] := by
      unfold rd_L2
      simp [hml]
    have hx := hw rows[m] (List.getElem_mem hml)
    have hdrop : rows.drop m = rows[m] :: rows.drop (m + 1) := List.drop_eq_getElem_cons hml
    rw [hdrop, List.flatMap_cons]
    refine Ev.succ ?_
    simp only [crc_Bytes.l1]
    rw [hrow]
    have e1 := num_at b (IntKind.u64.wrap (rows[m].length : Int)) 4 (by omega) (by omega)
    refine Ev.yes (by omega) (Ev.yes (by omega) (Ev.yes (by omega) (Ev.bind e1 ?_)))
    rw [wrap_id _ (by omega) (by omega)]
    refine row_loop rows rows[m] m hx _ rows[m].length 0 _ (by omega) (by rw [List.length_append, numT_length]; omega) ?_
    rw [List.drop_zero, w_more m (by omega)]
    have hl : (b ++ numT (rows[m].length : Int) 4 ++ wordsT rows[m]).length = b.length + 4 + 8 * rows[m].length := by rw [List.length_append, List.length_append, numT_length, wordsT_length]
    have e3 := rows_loop rows h3 hw d (m + 1) (b ++ numT (rows[m].length : Int) 4 ++ wordsT rows[m]) (by omega) (by rw [hl]; omega)
    rw [show b ++ (rowT rows[m] ++ (rows.drop (m + 1)).flatMap rowT) = b ++ numT (rows[m].length : Int) 4 ++ wordsT rows[m] ++ (rows.drop (m + 1)).flatMap rowT by simp [rowT, List.append_assoc]]
    exact e3
/-- The four numbers of four bytes, then the sign. -/
theorem nums_loop (a0 a1 a2 a3 a4 : Int) (h1 : 0 ≤ a1 ∧ a1 ≤ 2147483647) (h2 : 0 ≤ a2 ∧ a2 ≤ 2147483647) (h3 : 0 ≤ a3 ∧ a3 ≤ 2147483647) (h4 : 0 ≤ a4 ∧ a4 ≤ 2147483647) (p q r : List Int) (mi : Bool) (res : ByteArray × Int) : ∀ (d i : Nat) (b : List Int), i + d = 4 → b.length + 4 * d ≤ 1000 →
    Ev (fun k => crc_Bytes.j1 k (b ++ (([a1, a2, a3, a4] : List Int).drop i).flatMap fun x => numT x 4) (if mi = true then 1 else 0) a0 a1 a2 a3 a4 p q r mi) res → Ev (fun k => crc_Bytes.l0 k b [a1, a2, a3, a4] 4 (i : Int) a0 a1 a2 a3 a4 p q r mi) res
  | 0, i, b, hi, _, h => by
    refine Ev.succ ?_
    simp only [crc_Bytes.l0]
    rw [List.drop_of_length_le (by simp; omega), List.flatMap_nil, List.append_nil] at h
    refine Ev.no (by omega) ?_
    cases mi with
    | true => exact Ev.yes rfl h
    | false => exact Ev.no (by decide) h
  | d + 1, i, b, hi, hb, h => by
    have hil : i < ([a1, a2, a3, a4] : List Int).length := by show i < 4; omega
    have hrd : rd [a1, a2, a3, a4] (i : Int) = ([a1, a2, a3, a4] : List Int)[i] := rd_at _ i hil
    have hmem : ([a1, a2, a3, a4] : List Int)[i] ∈ [a1, a2, a3, a4] := List.getElem_mem hil
    have hbd : 0 ≤ ([a1, a2, a3, a4] : List Int)[i] ∧ ([a1, a2, a3, a4] : List Int)[i] ≤ 2147483647 := by
      have key : ∀ x ∈ [a1, a2, a3, a4], 0 ≤ x ∧ x ≤ 2147483647 := by
        intro x hx
        simp only [List.mem_cons, List.not_mem_nil, or_false] at hx
        rcases hx with rfl | rfl | rfl | rfl <;> assumption
      exact key _ hmem
    refine Ev.succ ?_
    simp only [crc_Bytes.l0]
    rw [hrd, wrap_id _ hbd.1 (by omega)]
    have e1 := num_at b (([a1, a2, a3, a4] : List Int)[i]) 4 (by omega) (by omega)
    refine Ev.yes (by omega) (Ev.yes (by omega) (Ev.yes (by show (i : Int) < 4; omega) (Ev.bind e1 ?_)))
    rw [w_more i (by omega)]
    refine nums_loop a0 a1 a2 a3 a4 h1 h2 h3 h4 p q r mi res d (i + 1) _ (by omega) (by rw [List.length_append, numT_length]; omega) ?_
    rw [List.drop_eq_getElem_cons hil, List.flatMap_cons, ← List.append_assoc] at h
    exact h
/-- A record's bytes, if it may be. -/
theorem bytes_ev {R : RecF} (ho : okR R) : Ev (fun k => crc_Bytes.f k (R.1.1 : Int) (R.1.2.1 : Int) (R.1.2.2.1 : Int) (R.1.2.2.2.1 : Int) (R.1.2.2.2.2 : Int) R.2.1.1 R.2.1.2.1 R.2.1.2.2 R.2.2) (⟨(bytesL R).toArray⟩, 0) := by
  obtain ⟨⟨c, d, g, f, u⟩, ⟨p, q, r⟩, mi⟩ := R
  obtain ⟨hm, ip, iq, ir⟩ := ho
  have hm' : mayV (c : Int) d g f u p q r = true := hm
  obtain ⟨_, b1, b2, b3, b4, b5, op, oq, or_⟩ := may_facts hm'
  have lp : p.length ≤ 4096 := by unfold ordV at op; rw [Bool.and_eq_true, decide_eq_true_eq] at op; exact op.1
  have lq : q.length ≤ 4096 := by unfold ordV at oq; rw [Bool.and_eq_true, decide_eq_true_eq] at oq; exact oq.1
  have lr : r.length ≤ 4096 := by unfold ordV at or_; rw [Bool.and_eq_true, decide_eq_true_eq] at or_; exact or_.1
  have hmf : crc_may.f (c : Int) d g f u p q r mi = some true := by
    unfold crc_may.f
    rw [if_pos ⟨inb_iff.2 ip, inb_iff.2 iq, inb_iff.2 ir⟩, hm']
  show Ev (fun k => crc_Bytes.f k (c : Int) (d : Int) (g : Int) (f : Int) (u : Int) p q r mi) (⟨(bytesL ((c, d, g, f, u), (p, q, r), mi)).toArray⟩, 0)
  have hT : ∃ T : List Int, T = [84, 65, 76, 89] ++ [(c : Int) % 256] ++ ([(d : Int), (g : Int), (f : Int), (u : Int)].flatMap fun x => numT x 4) ++ [if mi = true then 1 else 0] ++ ([p, q, r].flatMap rowT) := ⟨_, rfl⟩
  obtain ⟨T, hT⟩ := hT
  have hb : by8 T = recL ((c, d, g, f, u), (p, q, r), mi) := by
    rw [hT]
    simp only [List.flatMap_cons, List.flatMap_nil, List.append_nil, by8_app, by8_row ip, by8_row iq, by8_row ir, by8_num 4 d (by omega), by8_num 4 g (by omega), by8_num 4 f (by omega), by8_num 4 u (by omega)]
    unfold recL bodyL
    simp only [nb_one]
    have e1 : by8 [(c : Int) % 256] = [UInt8.ofNat (c % 256)] := by
      simp only [by8, List.map_cons, List.map_nil]
      rw [show ((c : Int) % 256).toNat = c % 256 by omega]
    have e2 : by8 [if mi = true then 1 else 0] = [UInt8.ofNat ((if mi = true then 1 else 0) % 256)] := by cases mi <;> rfl
    rw [e1, e2]
    simp only [List.append_assoc]
    rfl
  have hsum : sumOf T = ((crcL (recL ((c, d, g, f, u), (p, q, r), mi)) : Nat) : Int) := by
    unfold sumOf
    rw [strOfNums_data]
    show IntKind.u64.wrap ((crcL (by8 T) : Nat) : Int) = _
    rw [hb]
    have := crcL_lt (recL ((c, d, g, f, u), (p, q, r), mi))
    exact wrap_id _ (by omega) (by omega)
  have hres : (⟨(bytesL ((c, d, g, f, u), (p, q, r), mi)).toArray⟩ : ByteArray) = strOfNums (T ++ numT (sumOf T) 4) := by
    apply bl_inj
    show bytesL _ = by8 (T ++ numT (sumOf T) 4)
    rw [by8_app, hb, hsum, by8_num 4 _ (by omega)]
    rfl
  rw [hres]
  have hl : ([84, 65, 76, 89] ++ [(c : Int) % 256] ++ ([(d : Int), (g : Int), (f : Int), (u : Int)].flatMap fun x => numT x 4) ++ [if mi = true then 1 else 0]).length = 22 := by
    simp [numT_length]
  have e2 := rows_loop [p, q, r] rfl (by intro x hx; simp at hx; rcases hx with rfl | rfl | rfl <;> assumption) 3 0 ([84, 65, 76, 89] ++ [(c : Int) % 256] ++ ([(d : Int), (g : Int), (f : Int), (u : Int)].flatMap fun x => numT x 4) ++ [if mi = true then 1 else 0]) (by omega) (by rw [hl]; omega)
  rw [List.drop_zero, ← hT] at e2
  unfold crc_Bytes.f
  refine Ev.bind (Ev.const hmf) (Ev.yes (by first | rfl | trivial) ?_)
  refine Ev.bind (Ev.const (rfl : some [84, 65, 76, 89] = some ([84, 65, 76, 89] : List Int))) ?_
  refine Ev.yes (by decide) (Ev.bind (Ev.const (rfl : some [(d : Int), (g : Int), (f : Int), (u : Int)] = some ([(d : Int), (g : Int), (f : Int), (u : Int)] : List Int))) ?_)
  refine nums_loop (c : Int) d g f u (by omega) (by omega) (by omega) (by omega) p q r mi _ 4 0 ([84, 65, 76, 89] ++ [(c : Int) % 256]) (by omega) (by simp) ?_
  refine Ev.succ ?_
  simp only [crc_Bytes.j1]
  refine Ev.yes (by simp [numT_length]) (Ev.bind (Ev.const (rfl : some [p, q, r] = some ([p, q, r] : List (List Int)))) ?_)
  exact e2
/-- A record that may not be has no bytes. -/
theorem bytes_no (a0 a1 a2 a3 a4 : Int) {p q r : List Int} (mi : Bool) (ip : InB W p) (iq : InB W q) (ir : InB W r) (hm : mayV a0 a1 a2 a3 a4 p q r = false) : Ev (fun k => crc_Bytes.f k a0 a1 a2 a3 a4 p q r mi) (⟨#[]⟩, 1) := by
  have hmf : crc_may.f a0 a1 a2 a3 a4 p q r mi = some false := by
    unfold crc_may.f
    rw [if_pos ⟨inb_iff.2 ip, inb_iff.2 iq, inb_iff.2 ir⟩, hm]
  unfold crc_Bytes.f
  exact Ev.bind (Ev.const hmf) (Ev.no (by decide) (Ev.const rfl))
end Go.Proofs.YtanjahakoadecaaDoor.Pure

/- Law 14: what slices.Equal, crc.Same and the document's SamePart tell with enough rounds: whether all is equal. -/
namespace Go.Proofs.YtanjahakoadecaaDoor.Pure
open Go.RowKit Go.Proofs.YtanjahakoadecaaDoor.Pc Go.Proofs.YtanjahakoadecaaDoorW.PrintWords Go.Proofs.YtanjahakoadecaaDoorW.PrintLast Go.Proofs.YtanjahakoadecaaDoorW.PrintMore Go.Proofs.YtanjahakoadecaaDoor.Hand Go.Proofs.YtanjahakoadecaaDoor.Num
set_option linter.unusedVariables false
set_option linter.unusedSimpArgs false

theorem w_next (j : Nat) (h : j < 9223372036854775807) : wrap64 ((j : Int) + 1) = ((j + 1 : Nat) : Int) := IntWalk.wrap64_in _ (by omega)
theorem drop_step {a b : List Int} (i : Nat) (ha : i < a.length) (hb : i < b.length) : (a.drop i = b.drop i) ↔ (a[i] = b[i] ∧ a.drop (i + 1) = b.drop (i + 1)) := by
  rw [List.drop_eq_getElem_cons ha, List.drop_eq_getElem_cons hb, List.cons.injEq]
theorem eq_loop (a b : List Int) (hl : a.length = b.length) (hm : a.length ≤ maxLen) : ∀ (d i : Nat), i + d = a.length → Ev (fun k => slices_Equal_uint64_uint64.l0 k a b (a.length : Int) (i : Int)) (decide (a.drop i = b.drop i))
  | 0, i, hi => by
    refine Ev.succ ?_
    simp only [slices_Equal_uint64_uint64.l0]
    refine Ev.no (by omega) (Ev.const ?_)
    rw [List.drop_of_length_le (by omega), List.drop_of_length_le (by omega)]
    simp
  | d + 1, i, hi => by
    have ha : i < a.length := by omega
    have hb : i < b.length := by omega
    have hmx : maxLen = 9223372036854775807 := rfl
    refine Ev.succ ?_
    simp only [slices_Equal_uint64_uint64.l0]
    refine Ev.yes (by omega) (Ev.yes (by omega) (Ev.yes (by omega) (Ev.yes (by omega) ?_)))
    rw [rd_at a i ha, rd_at b i hb]
    by_cases he : a[i] = b[i]
    · refine Ev.yes he ?_
      rw [w_next i (by omega)]
      have e := eq_loop a b hl hm d (i + 1) (by omega)
      rw [show decide (a.drop i = b.drop i) = decide (a.drop (i + 1) = b.drop (i + 1)) by
        rw [decide_eq_decide, drop_step i ha hb]; exact ⟨fun h => h.2, fun h => ⟨he, h⟩⟩]
      exact e
    · refine Ev.no he (Ev.const ?_)
      rw [show decide (a.drop i = b.drop i) = false by
        rw [decide_eq_false_iff_not, drop_step i ha hb]; exact fun h => he h.1]
theorem equal_ev (a b : List Int) (hm : a.length ≤ maxLen) : Ev (fun k => slices_Equal_uint64_uint64.f k a b) (decide (a = b)) := by
  unfold slices_Equal_uint64_uint64.f
  by_cases hl : a.length = b.length
  · refine Ev.yes (by omega) ?_
    have e := eq_loop a b hl hm a.length 0 (by omega)
    exact e
  · refine Ev.no (by omega) (Ev.const ?_)
    rw [show decide (a = b) = false by rw [decide_eq_false_iff_not]; intro h; exact hl (by rw [h])]
theorem ref_loop (a b : List Int) (hl : a.length = b.length) (hm : a.length ≤ maxLen) : ∀ (d i : Nat), i + d = a.length → Ev (fun k => tallystickref04_Same.l0 k a b (i : Int)) (decide (a.drop i = b.drop i))
  | 0, i, hi => by
    refine Ev.succ ?_
    simp only [tallystickref04_Same.l0]
    refine Ev.no (by omega) (Ev.const ?_)
    rw [List.drop_of_length_le (by omega), List.drop_of_length_le (by omega)]
    simp
  | d + 1, i, hi => by
    have ha : i < a.length := by omega
    have hb : i < b.length := by omega
    have hmx : maxLen = 9223372036854775807 := rfl
    refine Ev.succ ?_
    simp only [tallystickref04_Same.l0]
    refine Ev.yes (by omega) (Ev.yes (by omega) (Ev.yes (by omega) ?_))
    rw [rd_at a i ha, rd_at b i hb]
    by_cases he : a[i] = b[i]
    · refine Ev.yes he ?_
      rw [w_next i (by omega)]
      have e := ref_loop a b hl hm d (i + 1) (by omega)
      rw [show decide (a.drop i = b.drop i) = decide (a.drop (i + 1) = b.drop (i + 1)) by
        rw [decide_eq_decide, drop_step i ha hb]; exact ⟨fun h => h.2, fun h => ⟨he, h⟩⟩]
      exact e
    · refine Ev.no he (Ev.const ?_)
      rw [show decide (a.drop i = b.drop i) = false by
        rw [decide_eq_false_iff_not, drop_step i ha hb]; exact fun h => he h.1]
theorem ref_equal_ev (a b : List Int) (hm : a.length ≤ maxLen) : Ev (fun k => tallystickref04_Same.f k a b) (decide (a = b)) := by
  unfold tallystickref04_Same.f
  by_cases hl : a.length = b.length
  · refine Ev.yes (by omega) ?_
    have e := ref_loop a b hl hm a.length 0 (by omega)
    exact e
  · refine Ev.no (by omega) (Ev.const ?_)
    rw [show decide (a = b) = false by rw [decide_eq_false_iff_not]; intro h; exact hl (by rw [h])]
/-- Are the rows, the job, the range, the sign the same? -/
def sameV (a0 a1 a2 a3 a4 : Int) (p q r : List Int) (mi : Bool) (b0 b1 b2 b3 b4 : Int) (p' q' r' : List Int) (mi' : Bool) : Bool :=
  decide (p = p' ∧ q = q' ∧ r = r' ∧ (a0 = b0 ∧ a1 = b1 ∧ a2 = b2) ∧ (a3 = b3 ∧ a4 = b4) ∧ mi = mi')
theorem same_ev (a0 a1 a2 a3 a4 : Int) (p q r : List Int) (mi : Bool) (b0 b1 b2 b3 b4 : Int) (p' q' r' : List Int) (mi' : Bool) (hp : p.length ≤ maxLen) (hq : q.length ≤ maxLen) (hr : r.length ≤ maxLen) :
    Ev (fun k => crc_Same.f k a0 a1 a2 a3 a4 p q r mi b0 b1 b2 b3 b4 p' q' r' mi') (sameV a0 a1 a2 a3 a4 p q r mi b0 b1 b2 b3 b4 p' q' r' mi') := by
  unfold crc_Same.f sameV
  refine Ev.bind (equal_ev p p' hp) ?_
  by_cases h1 : p = p'
  case neg => exact Ev.no (by simpa using h1) (Ev.const (by simp [h1]))
  refine Ev.yes (by simpa using h1) (Ev.bind (equal_ev q q' hq) ?_)
  by_cases h2 : q = q'
  case neg => exact Ev.no (by simpa using h2) (Ev.const (by simp [h2]))
  refine Ev.yes (by simpa using h2) (Ev.bind (equal_ev r r' hr) ?_)
  by_cases h3 : r = r'
  case neg => exact Ev.no (by simpa using h3) (Ev.const (by simp [h3]))
  refine Ev.yes (by simpa using h3) ?_
  by_cases h4 : (a0 = b0 ∧ a1 = b1 ∧ a2 = b2)
  case neg => exact Ev.no (by simpa using h4) (Ev.const (by simp [h4]))
  refine Ev.yes (by simpa using h4) ?_
  by_cases h5 : (a3 = b3 ∧ a4 = b4)
  case neg => exact Ev.no (by simpa using h5) (Ev.const (by simp [h5]))
  refine Ev.yes (by simpa using h5) (Ev.const ?_)
  simp only [h1, h2, h3, h4, h5, true_and, and_self]
  cases mi <;> cases mi' <;> rfl
def samePV (a3 a4 : Int) (p q r : List Int) (mi : Bool) (b3 b4 : Int) (p' q' r' : List Int) (mi' : Bool) : Bool :=
  decide (p = p' ∧ q = q' ∧ r = r' ∧ (a3 = b3 ∧ a4 = b4) ∧ mi = mi')
theorem samePart_ev (a3 a4 : Int) (p q r : List Int) (mi : Bool) (b3 b4 : Int) (p' q' r' : List Int) (mi' : Bool) (hp : p.length ≤ maxLen) (hq : q.length ≤ maxLen) (hr : r.length ≤ maxLen) :
    Ev (fun k => tallystickref14_SamePart.f k a3 a4 p q r mi b3 b4 p' q' r' mi') (samePV a3 a4 p q r mi b3 b4 p' q' r' mi') := by
  unfold tallystickref14_SamePart.f samePV
  refine Ev.bind (ref_equal_ev p p' hp) ?_
  by_cases h1 : p = p'
  case neg => exact Ev.no (by simpa using h1) (Ev.const (by simp [h1]))
  refine Ev.yes (by simpa using h1) (Ev.bind (ref_equal_ev q q' hq) ?_)
  by_cases h2 : q = q'
  case neg => exact Ev.no (by simpa using h2) (Ev.const (by simp [h2]))
  refine Ev.yes (by simpa using h2) (Ev.bind (ref_equal_ev r r' hr) ?_)
  by_cases h3 : r = r'
  case neg => exact Ev.no (by simpa using h3) (Ev.const (by simp [h3]))
  refine Ev.yes (by simpa using h3) ?_
  by_cases h5 : (a3 = b3 ∧ a4 = b4)
  case neg => exact Ev.no (by simpa using h5) (Ev.const (by simp [h5]))
  refine Ev.yes (by simpa using h5) (Ev.const ?_)
  simp only [h1, h2, h3, h5, true_and, and_self]
  cases mi <;> cases mi' <;> rfl
/-- The document's example. -/
theorem shown_true : tallysticklaw14_shown.f = some true := by decide +kernel
theorem inB_wf {l : List Int} (h : ∀ x ∈ l, (Lit.int .u64 x).wf = true) : InB W l := fun x hx => by
  have h1 := bounds_u64 (h x hx)
  rw [W_eq]
  omega
theorem rec_of {a0 a1 a2 a3 a4 : Int} {p q r : List Int} (mi : Bool) (h : mayV a0 a1 a2 a3 a4 p q r = true) (ip : InB W p) (iq : InB W q) (ir : InB W r) :
    ∃ R : RecF, okR R ∧ a0 = (R.1.1 : Int) ∧ a1 = (R.1.2.1 : Int) ∧ a2 = (R.1.2.2.1 : Int) ∧ a3 = (R.1.2.2.2.1 : Int) ∧ a4 = (R.1.2.2.2.2 : Int) ∧ p = R.2.1.1 ∧ q = R.2.1.2.1 ∧ r = R.2.1.2.2 ∧ mi = R.2.2 := by
  obtain ⟨c0, _, b1, b2, b3, b4, _⟩ := may_facts h
  have e0 : a0 = ((a0.toNat : Nat) : Int) := by omega
  have e1 : a1 = ((a1.toNat : Nat) : Int) := by omega
  have e2 : a2 = ((a2.toNat : Nat) : Int) := by omega
  have e3 : a3 = ((a3.toNat : Nat) : Int) := by omega
  have e4 : a4 = ((a4.toNat : Nat) : Int) := by omega
  refine ⟨((a0.toNat, a1.toNat, a2.toNat, a3.toNat, a4.toNat), (p, q, r), mi), ⟨?_, ip, iq, ir⟩, e0, e1, e2, e3, e4, rfl, rfl, rfl, rfl⟩
  show mayV (a0.toNat : Int) (a1.toNat : Int) (a2.toNat : Int) (a3.toNat : Int) (a4.toNat : Int) p q r = true
  rw [← e0, ← e1, ← e2, ← e3, ← e4]
  exact h
theorem ok_len {R : RecF} (h : okR R) : R.2.1.1.length ≤ maxLen ∧ R.2.1.2.1.length ≤ maxLen ∧ R.2.1.2.2.length ≤ maxLen := by
  obtain ⟨_, _, _, _, _, _, op, oq, or_⟩ := may_facts h.1
  have hmx : maxLen = 9223372036854775807 := rfl
  unfold ordV at op oq or_
  rw [Bool.and_eq_true, decide_eq_true_eq] at op oq or_
  omega
theorem ok_len' {R : RecF} (h : okR R) : R.2.1.1.length ≤ 4096 ∧ R.2.1.2.1.length ≤ 4096 ∧ R.2.1.2.2.length ≤ 4096 := by
  obtain ⟨_, _, _, _, _, _, op, oq, or_⟩ := may_facts h.1
  unfold ordV at op oq or_
  rw [Bool.and_eq_true, decide_eq_true_eq] at op oq or_
  exact ⟨op.1, oq.1, or_.1⟩
theorem wordsL_length : ∀ l : List Int, (wordsL l).length = 8 * l.length
  | [] => rfl
  | x :: l => by
    show (nb 8 x.toNat ++ wordsL l).length = _
    rw [List.length_append, nb_length, wordsL_length l, List.length_cons]
    omega
theorem bytesL_len {R : RecF} (h : okR R) : (bytesL R).length ≤ 200000 := by
  obtain ⟨h1, h2, h3⟩ := ok_len' h
  simp only [bytesL, recL, bodyL, rowL, List.length_append, nb_length, wordsL_length, List.length_cons, List.length_nil]
  omega
/-- Whether two records are the same. -/
def sameR (R T : RecF) : Bool := sameV (R.1.1 : Int) (R.1.2.1 : Int) (R.1.2.2.1 : Int) (R.1.2.2.2.1 : Int) (R.1.2.2.2.2 : Int) R.2.1.1 R.2.1.2.1 R.2.1.2.2 R.2.2 (T.1.1 : Int) (T.1.2.1 : Int) (T.1.2.2.1 : Int) (T.1.2.2.2.1 : Int) (T.1.2.2.2.2 : Int) T.2.1.1 T.2.1.2.1 T.2.1.2.2 T.2.2
theorem take_f {s : ByteArray} (h : s.size ≤ 4611686018427387904) : crc_Take.f s = some ((((takeR s).1.1 : Nat) : Int), (((takeR s).1.2.1 : Nat) : Int), (((takeR s).1.2.2.1 : Nat) : Int), (((takeR s).1.2.2.2.1 : Nat) : Int), (((takeR s).1.2.2.2.2 : Nat) : Int), (takeR s).2.1.1, (takeR s).2.1.2.1, (takeR s).2.1.2.2, (takeR s).2.2, takeE s) := by
  unfold crc_Take.f
  rw [if_pos h]
end Go.Proofs.YtanjahakoadecaaDoor.Pure
