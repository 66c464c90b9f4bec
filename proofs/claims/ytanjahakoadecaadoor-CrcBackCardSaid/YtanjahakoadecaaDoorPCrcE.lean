/- Law 14, plain: the bytes of a number, of a row, of a record; taken again they are what they were, and what is taken has just the bytes it was taken from. No program in sight. -/
import Derived.Test.YtanjahakoadecaaDoorHCrcK
import Derived.Laws.Strings
import Derived.OpenShut
namespace Go.Proofs.YtanjahakoadecaaDoor.Pure
open Go.RowKit Go.Proofs.YtanjahakoadecaaDoorW.PrintWords Go.Proofs.YtanjahakoadecaaDoorW.PrintLast Go.Proofs.YtanjahakoadecaaDoorW.PrintMore Go.Proofs.YtanjahakoadecaaDoor.Hand Go.Proofs.YtanjahakoadecaaDoor.Num
set_option linter.unusedVariables false
set_option linter.unusedSimpArgs false

/-- The bytes of a text. -/
abbrev bl (S : ByteArray) : List UInt8 := S.data.toList
theorem bl_len (S : ByteArray) : (bl S).length = S.size := rfl
theorem bl_extract (S : ByteArray) (i j : Nat) : bl (S.extract i j) = ((bl S).drop i).take (j - i) := by
  simp [bl, ByteArray.data_extract, Array.toList_extract]
theorem bl_first (S : ByteArray) (m : Nat) : bl (S.extract 0 m) = (bl S).take m := by rw [bl_extract]; simp
theorem bl_behind (S : ByteArray) (m : Nat) : bl (S.extract m S.size) = (bl S).drop m := by
  rw [bl_extract, List.take_of_length_le (by rw [List.length_drop, bl_len]; exact Nat.le_refl _)]
theorem bl_inj {S T : ByteArray} (h : bl S = bl T) : S = T := ByteArray.ext (Array.toList_inj.1 h)
/-- A number's bytes, so many, the highest one first. -/
def nb : Nat → Nat → List UInt8
  | 0, _ => []
  | m + 1, v => UInt8.ofNat (v / 256 ^ m % 256) :: nb m v
theorem nb_length : ∀ m v, (nb m v).length = m
  | 0, _ => rfl
  | m + 1, v => by unfold nb; rw [List.length_cons, nb_length m v]
theorem numF_nb : ∀ (m v a : Nat), numF (nb m v) a = a * 256 ^ m + v % 256 ^ m
  | 0, v, a => by simp [nb, numF, Nat.mod_one]
  | m + 1, v, a => by
    unfold nb
    simp only [numF]
    rw [numF_nb m v, UInt8.toNat_ofNat', Nat.mod_eq_of_lt (show v / 256 ^ m % 256 < 2 ^ 8 by omega)]
    rw [Nat.pow_succ, Nat.mod_mul, Nat.add_mul, Nat.mul_comm (256 ^ m) (v / 256 ^ m % 256), Nat.mul_comm (256 ^ m) 256, ← Nat.mul_assoc]
    omega
theorem numF_at : ∀ (l : List UInt8) (a : Nat), numF l a = a * 256 ^ l.length + numF l 0
  | [], a => by simp [numF]
  | b :: l, a => by
    simp only [numF]
    rw [numF_at l (a * 256 + b.toNat), numF_at l (0 * 256 + b.toNat), List.length_cons, Nat.pow_succ, Nat.zero_mul, Nat.zero_add, Nat.add_mul, Nat.mul_comm (256 ^ l.length) 256, ← Nat.mul_assoc]
    omega
theorem numF_lt : ∀ l : List UInt8, numF l 0 < 256 ^ l.length
  | [] => by simp [numF]
  | b :: l => by
    simp only [numF]
    rw [numF_at l, List.length_cons, Nat.pow_succ, Nat.zero_mul, Nat.zero_add]
    have h1 := numF_lt l
    have h2 : b.toNat < 256 := b.toNat_lt
    have h3 : (b.toNat + 1) * 256 ^ l.length ≤ 256 * 256 ^ l.length := Nat.mul_le_mul_right _ (by omega)
    rw [Nat.add_mul, Nat.one_mul] at h3
    rw [Nat.mul_comm (256 ^ l.length) 256]
    omega
theorem nb_numF : ∀ (l : List UInt8) (a : Nat), nb l.length (numF l a) = l
  | [], _ => rfl
  | b :: l, a => by
    rw [List.length_cons]
    unfold nb
    simp only [numF]
    rw [nb_numF l]
    have h1 := numF_lt l
    have h2 : b.toNat < 256 := b.toNat_lt
    have hd : numF l (a * 256 + b.toNat) / 256 ^ l.length = a * 256 + b.toNat := by
      rw [numF_at l, Nat.mul_comm, Nat.mul_add_div (Nat.pow_pos (by omega)), Nat.div_eq_of_lt h1, Nat.add_zero]
    rw [hd, show (a * 256 + b.toNat) % 256 = b.toNat by omega, UInt8.ofNat_toNat]
theorem nb_one (c : Nat) : nb 1 c = [UInt8.ofNat (c % 256)] := by simp [nb]

/-- Taking, forth: the number's bytes stand ahead. -/
theorem take_fwd {S : ByteArray} {m v : Nat} {R : List UInt8} (h : bl S = nb m v ++ R) (hv : v < 256 ^ m) : ∃ S', takeF m none S = (v, none, S') ∧ bl S' = R := by
  have hl : ¬ S.size < m := by rw [← bl_len, h, List.length_append, nb_length]; omega
  refine ⟨S.extract m S.size, ?_, ?_⟩
  · unfold takeF
    simp only
    rw [if_neg hl]
    have e : numF (S.extract 0 m).data.toList 0 = v := by
      show numF (bl (S.extract 0 m)) 0 = v
      rw [bl_first, h, List.take_append_of_le_length (by rw [nb_length]; exact Nat.le_refl _), List.take_of_length_le (by rw [nb_length]; exact Nat.le_refl _), numF_nb, Nat.mod_eq_of_lt hv]
      omega
    rw [e]
  · rw [bl_behind, h, List.drop_append_of_le_length (by rw [nb_length]; exact Nat.le_refl _), List.drop_of_length_le (by rw [nb_length]; exact Nat.le_refl _), List.nil_append]
/-- Taking, back: nothing is wrong behind it, so nothing was, and the bytes are the number's and those left. -/
theorem take_bwd {S : ByteArray} {m : Nat} {st : Option Int} (h : (takeF m st S).2.1 = none) : st = none ∧ (takeF m st S).1 < 256 ^ m ∧ bl S = nb m (takeF m st S).1 ++ bl (takeF m st S).2.2 := by
  cases st with
  | some e => unfold takeF at h; cases h
  | none =>
    unfold takeF at h ⊢
    simp only at h ⊢
    by_cases hm : S.size < m
    · rw [if_pos hm] at h; cases h
    · rw [if_neg hm]
      have hl : (bl (S.extract 0 m)).length = m := by rw [bl_first, List.length_take, bl_len]; omega
      refine ⟨by simp, ?_, ?_⟩
      · have := numF_lt (bl (S.extract 0 m))
        rwa [hl] at this
      · show bl S = nb m (numF (bl (S.extract 0 m)) 0) ++ bl (S.extract m S.size)
        have e := nb_numF (bl (S.extract 0 m)) 0
        rw [hl] at e
        rw [e, bl_first, bl_behind, List.take_append_drop]
/-- The bytes of words. -/
def wordsL (l : List Int) : List UInt8 := l.flatMap fun x => nb 8 x.toNat
theorem words_fwd : ∀ (l : List Int) (S : ByteArray) (R : List UInt8) (out : List Int), bl S = wordsL l ++ R → InB W l → ∃ S', wordsF l.length none S out = (out ++ l, none, S') ∧ bl S' = R
  | [], S, R, out, h, _ => ⟨S, by simp [wordsF], by rw [h]; rfl⟩
  | x :: l, S, R, out, h, hi => by
    have hx := hi x (List.mem_cons_self ..)
    rw [W_eq] at hx
    obtain ⟨S1, e1, h1⟩ := take_fwd (S := S) (m := 8) (v := x.toNat) (R := wordsL l ++ R) (by rw [h]; simp [wordsL, List.append_assoc]) (by omega)
    obtain ⟨S2, e2, h2⟩ := words_fwd l S1 R (out ++ [x]) h1 (fun y hy => hi y (List.mem_cons_of_mem _ hy))
    refine ⟨S2, ?_, h2⟩
    rw [List.length_cons]
    unfold wordsF
    rw [e1]
    simp only
    rw [show ((x.toNat : Nat) : Int) = x by omega, e2]
    simp
theorem words_bwd : ∀ (n : Nat) (st : Option Int) (S : ByteArray) (out : List Int), (wordsF n st S out).2.1 = none → st = none ∧ ∃ l : List Int, l.length = n ∧ InB W l ∧ (wordsF n st S out).1 = out ++ l ∧ bl S = wordsL l ++ bl (wordsF n st S out).2.2
  | 0, st, S, out, h => by
    have hs : st = none := by cases st <;> first | rfl | (unfold wordsF at h; exact h)
    exact ⟨hs, [], rfl, fun x hx => absurd hx (by simp), by simp [wordsF], by simp [wordsF, wordsL]⟩
  | n + 1, some e, S, out, h => by unfold wordsF at h; cases h
  | n + 1, none, S, out, h => by
    unfold wordsF at h ⊢
    obtain ⟨hs, l, hl, hi, e1, e2⟩ := words_bwd n (takeF 8 none S).2.1 (takeF 8 none S).2.2 (out ++ [(((takeF 8 none S).1 : Nat) : Int)]) h
    obtain ⟨_, hv, e3⟩ := take_bwd hs
    refine ⟨rfl, (((takeF 8 none S).1 : Nat) : Int) :: l, by rw [List.length_cons, hl], ?_, ?_, ?_⟩
    · intro x hx
      rcases List.mem_cons.1 hx with rfl | hx
      · rw [W_eq]
        omega
      · exact hi x hx
    · rw [e1]; simp
    · rw [e3, e2]
      simp [wordsL, List.append_assoc]
/-- The bytes of a row. -/
def rowL (l : List Int) : List UInt8 := nb 4 l.length ++ wordsL l
theorem row_fwd {l : List Int} {S : ByteArray} {R : List UInt8} (h : bl S = rowL l ++ R) (hi : InB W l) (ho : ordV l = true) : ∃ S', rowF none S = (l, none, S') ∧ bl S' = R := by
  unfold ordV at ho
  rw [Bool.and_eq_true, decide_eq_true_eq, decide_eq_true_eq] at ho
  obtain ⟨S1, e1, h1⟩ := take_fwd (S := S) (m := 4) (v := l.length) (R := wordsL l ++ R) (by rw [h]; simp [rowL, List.append_assoc]) (by omega)
  obtain ⟨S2, e2, h2⟩ := words_fwd l S1 R [] h1 hi
  refine ⟨S2, ?_, h2⟩
  unfold rowF
  rw [e1]
  simp only
  rw [if_neg (by omega), e2, List.nil_append]
  simp only
  rw [if_neg (by omega)]
theorem or_none {a : Option Int} {e : Int} (h : a.or (some e) = none) : False := by cases a <;> cases h
theorem row_bwd {st : Option Int} {S : ByteArray} (h : (rowF st S).2.1 = none) : st = none ∧ InB W (rowF st S).1 ∧ ordV (rowF st S).1 = true ∧ bl S = rowL (rowF st S).1 ++ bl (rowF st S).2.2 := by
  unfold rowF at h ⊢
  simp only at h ⊢
  by_cases hn : 4096 < (takeF 4 st S).1
  · rw [if_pos hn] at h
    split at h
    · exact (or_none h).elim
    · exact (or_none (words_bwd _ _ _ _ h).1).elim
  · rw [if_neg hn] at h ⊢
    split at h
    · exact (or_none h).elim
    · rename_i hd
      obtain ⟨hs, l, hl, hi, e1, e2⟩ := words_bwd _ _ _ _ h
      obtain ⟨h0, hv, e3⟩ := take_bwd hs
      rw [List.nil_append] at e1
      rw [e1] at hd ⊢
      refine ⟨h0, hi, ?_, ?_⟩
      · unfold ordV
        rw [Bool.and_eq_true, decide_eq_true_eq, decide_eq_true_eq]
        have := (norm_facts hi).1
        omega
      · rw [e3, e2, rowL, hl, List.append_assoc]
/-- What is told is never 0. -/
def NZ (st : Option Int) : Prop := ∀ e, st = some e → e ≠ 0
theorem nz_none : NZ none := fun _ h => by cases h
theorem nz_or {a : Option Int} {e : Int} (ha : NZ a) (he : e ≠ 0) : NZ (a.or (some e)) := by
  intro x hx
  cases a with
  | none => cases hx; exact he
  | some y => cases hx; exact ha _ rfl
theorem nz_take {m : Nat} {st : Option Int} {S : ByteArray} (h : NZ st) : NZ (takeF m st S).2.1 := by
  cases st with
  | some e => exact h
  | none =>
    unfold takeF
    simp only
    split
    · intro x hx; cases hx; decide
    · exact nz_none
theorem nz_words : ∀ (n : Nat) {st : Option Int} {S : ByteArray} {out : List Int}, NZ st → NZ (wordsF n st S out).2.1
  | 0, st, S, out, h => by unfold wordsF; exact h
  | n + 1, some e, S, out, h => by unfold wordsF; exact h
  | n + 1, none, S, out, h => by unfold wordsF; exact nz_words n (nz_take h)
theorem nz_if {c : Prop} [Decidable c] {a b : Option Int} (ha : NZ a) (hb : NZ b) : NZ (if c then a else b) := by split <;> assumption
theorem nz_row {st : Option Int} {S : ByteArray} (h : NZ st) : NZ (rowF st S).2.1 := by
  unfold rowF
  simp only
  have h4 : NZ (if 4096 < (takeF 4 st S).1 then (takeF 4 st S).2.1.or (some 4) else (takeF 4 st S).2.1) := nz_if (nz_or (nz_take h) (by decide)) (nz_take h)
  exact nz_if (nz_or (nz_words _ h4) (by decide)) (nz_words _ h4)
theorem nz_parts (S : ByteArray) : NZ (partsF S).2.2.2 := by
  unfold partsF
  simp only
  repeat' first
    | with_reducible exact nz_none
    | with_reducible refine nz_if ?_ ?_
    | with_reducible refine nz_or ?_ (by decide)
    | with_reducible refine nz_row ?_
    | with_reducible refine nz_take ?_
/-- A record's bytes without ends. -/
def bodyL (R : RecF) : List UInt8 := nb 1 R.1.1 ++ (nb 4 R.1.2.1 ++ (nb 4 R.1.2.2.1 ++ (nb 4 R.1.2.2.2.1 ++ (nb 4 R.1.2.2.2.2 ++ (nb 1 (if R.2.2 = true then 1 else 0) ++ (rowL R.2.1.1 ++ (rowL R.2.1.2.1 ++ rowL R.2.1.2.2)))))))
/-- The sum. -/
def crcL (l : List UInt8) : Nat := 4294967295 ^^^ crcFold l 4294967295
def recL (R : RecF) : List UInt8 := [84, 65, 76, 89] ++ bodyL R
def bytesL (R : RecF) : List UInt8 := recL R ++ nb 4 (crcL (recL R))
def mayR (R : RecF) : Bool := mayV R.1.1 R.1.2.1 R.1.2.2.1 R.1.2.2.2.1 R.1.2.2.2.2 R.2.1.1 R.2.1.2.1 R.2.1.2.2
def okR (R : RecF) : Prop := mayR R = true ∧ InB W R.2.1.1 ∧ InB W R.2.1.2.1 ∧ InB W R.2.1.2.2
theorem may_facts {c d g f t : Int} {p q r : List Int} (h : mayV c d g f t p q r = true) : 0 ≤ c ∧ c ≤ 255 ∧ (0 ≤ d ∧ d ≤ 2147483647) ∧ (0 ≤ g ∧ g ≤ 2147483647) ∧ (0 ≤ f ∧ f ≤ 2147483647) ∧ (0 ≤ t ∧ t ≤ 2147483647) ∧ ordV p = true ∧ ordV q = true ∧ ordV r = true := by
  unfold mayV at h
  simp only [Bool.and_eq_true, decide_eq_true_eq, Bool.not_eq_true', List.any_cons, List.any_nil, Bool.or_false, Bool.or_eq_false_iff, oddV, decide_eq_false_iff_not] at h
  obtain ⟨⟨⟨⟨⟨hc, hc2⟩, ho⟩, hp⟩, hq⟩, hr⟩ := h
  exact ⟨hc, hc2, by omega, by omega, by omega, by omega, hp, hq, hr⟩
theorem parts_fwd {R : RecF} {S : ByteArray} (ho : okR R) (h : bl S = bodyL R) : partsF S = (R.1, R.2.1, R.2.2, none) := by
  obtain ⟨⟨c, d, g, f, u⟩, ⟨p, q, r⟩, mi⟩ := R
  obtain ⟨hm, hp, hq, hr⟩ := ho
  have hm' : mayV (c : Int) d g f u p q r = true := hm
  obtain ⟨_, b1, b2, b3, b4, b5, op, oq, or_⟩ := may_facts hm'
  have h : bl S = nb 1 c ++ (nb 4 d ++ (nb 4 g ++ (nb 4 f ++ (nb 4 u ++ (nb 1 (if mi = true then 1 else 0) ++ (rowL p ++ (rowL q ++ rowL r))))))) := h
  obtain ⟨S1, e1, h1⟩ := take_fwd (m := 1) h (by show c < 256 ^ 1; omega)
  obtain ⟨S2, e2, h2⟩ := take_fwd (m := 4) h1 (by show d < 256 ^ 4; omega)
  obtain ⟨S3, e3, h3⟩ := take_fwd (m := 4) h2 (by show g < 256 ^ 4; omega)
  obtain ⟨S4, e4, h4⟩ := take_fwd (m := 4) h3 (by show f < 256 ^ 4; omega)
  obtain ⟨S5, e5, h5⟩ := take_fwd (m := 4) h4 (by show u < 256 ^ 4; omega)
  obtain ⟨S6, e6, h6⟩ := take_fwd (m := 1) h5 (by show (if mi = true then 1 else 0) < 256 ^ 1; split <;> omega)
  obtain ⟨S7, e7, h7⟩ := row_fwd (l := p) h6 hp op
  obtain ⟨S8, e8, h8⟩ := row_fwd (l := q) h7 hq oq
  obtain ⟨S9, e9, h9⟩ := row_fwd (l := r) (R := []) (by rw [List.append_nil]; exact h8) hr or_
  have hmi : ¬ 1 < (if mi = true then 1 else 0) := by split <;> omega
  have hE : S9.toList.isEmpty = true := by rw [Go.ByteArray.toList_eq]; show (bl S9).isEmpty = true; rw [h9]; rfl
  unfold partsF
  simp only [e1, e2, e3, e4, e5, e6]
  simp only [if_neg hmi]
  simp only [e7, e8, e9]
  simp only [hE, hm', if_true]
  have : ((((if mi = true then 1 else 0 : Nat) : Nat) : Int) == 1) = mi := by cases mi <;> rfl
  rw [this]
theorem if_none {c : Prop} [Decidable c] {a : Option Int} {e : Int} (h : (if c then a else a.or (some e)) = none) : c ∧ a = none := by
  by_cases hc : c
  · rw [if_pos hc] at h; exact ⟨hc, h⟩
  · rw [if_neg hc] at h; exact (or_none h).elim
theorem if_none' {c : Prop} [Decidable c] {a : Option Int} {e : Int} (h : (if c then a.or (some e) else a) = none) : ¬ c ∧ a = none := by
  by_cases hc : c
  · rw [if_pos hc] at h; exact (or_none h).elim
  · rw [if_neg hc] at h; exact ⟨hc, h⟩
theorem take_bwd' {S : ByteArray} {m : Nat} {st : Option Int} {x : Nat × Option Int × ByteArray} (hx : takeF m st S = x) (h : x.2.1 = none) : st = none ∧ x.1 < 256 ^ m ∧ bl S = nb m x.1 ++ bl x.2.2 := by
  subst hx
  exact take_bwd h
theorem row_bwd' {S : ByteArray} {st : Option Int} {x : List Int × Option Int × ByteArray} (hx : rowF st S = x) (h : x.2.1 = none) : st = none ∧ InB W x.1 ∧ ordV x.1 = true ∧ bl S = rowL x.1 ++ bl x.2.2 := by
  subst hx
  exact row_bwd h
theorem parts_eq (S : ByteArray) : ∃ (t1 t2 t3 t4 t5 t6 : Nat × Option Int × ByteArray) (r1 r2 r3 : List Int × Option Int × ByteArray), takeF 1 none S = t1 ∧ takeF 4 t1.2.1 t1.2.2 = t2 ∧ takeF 4 t2.2.1 t2.2.2 = t3 ∧ takeF 4 t3.2.1 t3.2.2 = t4 ∧ takeF 4 t4.2.1 t4.2.2 = t5 ∧ takeF 1 t5.2.1 t5.2.2 = t6 ∧
    rowF (if 1 < t6.1 then t6.2.1.or (some 6) else t6.2.1) t6.2.2 = r1 ∧ rowF r1.2.1 r1.2.2 = r2 ∧ rowF r2.2.1 r2.2.2 = r3 ∧
    partsF S = ((t1.1, t2.1, t3.1, t4.1, t5.1), (r1.1, r2.1, r3.1), (((t6.1 : Nat) : Int) == 1), if mayV (t1.1 : Int) (t2.1 : Int) (t3.1 : Int) (t4.1 : Int) (t5.1 : Int) r1.1 r2.1 r3.1 = true then (if r3.2.2.toList.isEmpty = true then r3.2.1 else r3.2.1.or (some 6)) else (if r3.2.2.toList.isEmpty = true then r3.2.1 else r3.2.1.or (some 6)).or (some 1)) :=
  ⟨_, _, _, _, _, _, _, _, _, rfl, rfl, rfl, rfl, rfl, rfl, rfl, rfl, rfl, rfl⟩
theorem parts_bwd {S : ByteArray} (h : (partsF S).2.2.2 = none) : okR ((partsF S).1, (partsF S).2.1, (partsF S).2.2.1) ∧ bl S = bodyL ((partsF S).1, (partsF S).2.1, (partsF S).2.2.1) := by
  obtain ⟨t1, t2, t3, t4, t5, t6, r1, r2, r3, q1, q2, q3, q4, q5, q6, q7, q8, q9, e⟩ := parts_eq S
  rw [e] at h ⊢
  simp only at h ⊢
  obtain ⟨hm, h⟩ := if_none h
  obtain ⟨hE, h⟩ := if_none h
  obtain ⟨h, i9, o9, e9⟩ := row_bwd' q9 h
  obtain ⟨h, i8, o8, e8⟩ := row_bwd' q8 h
  obtain ⟨h, i7, o7, e7⟩ := row_bwd' q7 h
  obtain ⟨hmi, h⟩ := if_none' h
  obtain ⟨h, b6, e6⟩ := take_bwd' q6 h
  obtain ⟨h, b5, e5⟩ := take_bwd' q5 h
  obtain ⟨h, b4, e4⟩ := take_bwd' q4 h
  obtain ⟨h, b3, e3⟩ := take_bwd' q3 h
  obtain ⟨h, b2, e2⟩ := take_bwd' q2 h
  obtain ⟨h, b1, e1⟩ := take_bwd' q1 h
  refine ⟨⟨hm, i7, i8, i9⟩, ?_⟩
  rw [Go.ByteArray.toList_eq, List.isEmpty_iff] at hE
  have hE' : bl r3.2.2 = [] := hE
  rw [hE', List.append_nil] at e9
  have hv : (if (((t6.1 : Nat) : Int) == 1) = true then 1 else 0) = t6.1 := by
    rcases (by omega : t6.1 = 0 ∨ t6.1 = 1) with h0 | h0 <;> rw [h0] <;> rfl
  unfold bodyL
  simp only
  rw [hv, e1, e2, e3, e4, e5, e6, e7, e8, e9]
theorem crcL_lt (l : List UInt8) : crcL l < 4294967296 := by
  have h := crcFold_lt l (v := 4294967295) (by decide)
  unfold crcL
  exact Nat.xor_lt_two_pow (n := 32) (by decide) h
/-- A record's bytes are taken as the record. -/
theorem take_of {R : RecF} {s : ByteArray} (ho : okR R) (h : bl s = bytesL R) : takeE s = 0 ∧ takeR s = R := by
  have hl : s.size = (recL R).length + 4 := by rw [← bl_len, h, bytesL, List.length_append, nb_length]
  have hr : (recL R).length = 4 + (bodyL R).length := by simp [recL]; omega
  have hb : 18 ≤ (bodyL R).length := by simp [bodyL, nb_length]; omega
  have h1 : bl (s.extract (s.size - 4) s.size) = nb 4 (crcL (recL R)) := by
    rw [bl_behind, h, bytesL, hl, Nat.add_sub_cancel, List.drop_append_of_le_length (Nat.le_refl _), List.drop_of_length_le (Nat.le_refl _), List.nil_append]
  have h2 : bl (s.extract 0 (s.size - 4)) = recL R := by
    rw [bl_first, h, bytesL, hl, Nat.add_sub_cancel, List.take_append_of_le_length (Nat.le_refl _), List.take_of_length_le (Nat.le_refl _)]
  have h3 : bl (s.extract 4 (s.size - 4)) = bodyL R := by
    rw [bl_extract, h, bytesL, recL, List.append_assoc, List.drop_append_of_le_length (by simp), List.drop_of_length_le (by simp), List.nil_append, List.take_append_of_le_length (by omega), List.take_of_length_le (by omega)]
  have h4 : ((s.extract 0 4).toList == [84, 65, 76, 89]) = true := by
    rw [Go.ByteArray.toList_eq, beq_iff_eq]
    show bl (s.extract 0 4) = _
    rw [bl_first, h, bytesL, recL, List.append_assoc, List.take_append_of_le_length (by simp)]
    rfl
  have hsum : ((numF (s.extract (s.size - 4) s.size).data.toList 0 : Nat) : Int) = ((4294967295 ^^^ crcFold (s.extract 0 (s.size - 4)).data.toList 4294967295 : Nat) : Int) := by
    show ((numF (bl (s.extract (s.size - 4) s.size)) 0 : Nat) : Int) = ((crcL (bl (s.extract 0 (s.size - 4))) : Nat) : Int)
    rw [h1, h2, numF_nb, Nat.mod_eq_of_lt (crcL_lt _)]
    omega
  have hp := parts_fwd ho h3
  have h8 : ¬ s.size < 8 := by omega
  unfold takeE takeR
  rw [if_neg h8, if_neg h8, if_pos hsum, if_pos hsum, if_pos h4, if_pos h4, hp]
  exact ⟨rfl, rfl⟩
/-- What is taken may be, and its bytes are those it was taken from. -/
theorem of_take {s : ByteArray} (h : takeE s = 0) : okR (takeR s) ∧ bl s = bytesL (takeR s) := by
  unfold takeE at h
  unfold takeR
  by_cases h8 : s.size < 8
  · rw [if_pos h8] at h; cases h
  rw [if_neg h8] at h ⊢
  by_cases hs : ((numF (s.extract (s.size - 4) s.size).data.toList 0 : Nat) : Int) = ((4294967295 ^^^ crcFold (s.extract 0 (s.size - 4)).data.toList 4294967295 : Nat) : Int)
  · rw [if_pos hs] at h ⊢
    by_cases h4 : ((s.extract 0 4).toList == [84, 65, 76, 89]) = true
    · rw [if_pos h4] at h ⊢
      have hz := nz_parts (s.extract 4 (s.size - 4))
      cases hp : (partsF (s.extract 4 (s.size - 4))).2.2.2 with
      | some e => rw [hp] at h; exact (hz e hp h).elim
      | none =>
        obtain ⟨ho, hb⟩ := parts_bwd hp
        refine ⟨ho, ?_⟩
        simp only
        generalize hR : (((partsF (s.extract 4 (s.size - 4))).1, (partsF (s.extract 4 (s.size - 4))).2.1, (partsF (s.extract 4 (s.size - 4))).2.2.1) : RecF) = R at *
        have h4' : bl (s.extract 0 4) = [84, 65, 76, 89] := by
          rw [Go.ByteArray.toList_eq, beq_iff_eq] at h4
          exact h4
        have e2 : bl (s.extract 0 (s.size - 4)) = recL R := by
          rw [recL, ← h4', ← hb, bl_first, bl_first, bl_extract]
          have := List.take_append_drop 4 ((bl s).take (s.size - 4))
          rw [List.take_take, List.drop_take, Nat.min_eq_left (by omega)] at this
          exact this.symm
        have hs' : numF (bl (s.extract (s.size - 4) s.size)) 0 = crcL (bl (s.extract 0 (s.size - 4))) := Int.ofNat.inj hs
        have hl4 : (bl (s.extract (s.size - 4) s.size)).length = 4 := by rw [bl_behind, List.length_drop, bl_len]; omega
        have e3 := nb_numF (bl (s.extract (s.size - 4) s.size)) 0
        rw [hl4, hs', e2] at e3
        rw [bytesL, e3, ← e2, bl_first, bl_behind, List.take_append_drop]
    · rw [if_neg h4] at h; cases h
  · rw [if_neg hs] at h; cases h
/-- Two records that may be with the same bytes are the same. -/
theorem bytes_inj_R {R R' : RecF} (h : okR R) (h' : okR R') (e : bytesL R = bytesL R') : R = R' := by
  have h1 := take_of (s := ⟨(bytesL R).toArray⟩) h rfl
  have h2 := take_of (s := ⟨(bytesL R).toArray⟩) h' e
  exact h1.2.symm.trans h2.2
end Go.Proofs.YtanjahakoadecaaDoor.Pure
