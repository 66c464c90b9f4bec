/- Law 14, plain: the document's way to take a record tells what the program's tells. -/
import Derived.Test.YtanjahakoadecaaDoorHCrcM
namespace Go.Proofs.YtanjahakoadecaaDoor.Pure
open Go.RowKit Go.Proofs.YtanjahakoadecaaDoorW.PrintWords Go.Proofs.YtanjahakoadecaaDoorW.PrintLast Go.Proofs.YtanjahakoadecaaDoorW.PrintMore Go.Proofs.YtanjahakoadecaaDoor.Hand Go.Proofs.YtanjahakoadecaaDoor.Num
set_option linter.unusedVariables false
set_option linter.unusedSimpArgs false

theorem ext_first (S : ByteArray) (a m : Nat) (h : a + m ≤ S.size) : (S.extract a S.size).extract 0 m = S.extract a (a + m) := by
  apply bl_inj
  rw [bl_first, bl_behind, bl_extract]
  congr 1
  omega
theorem ext_rest (S : ByteArray) (a m : Nat) : (S.extract a S.size).extract m (S.extract a S.size).size = S.extract (a + m) S.size := by
  apply bl_inj
  rw [bl_behind, bl_behind, bl_behind, List.drop_drop]
theorem ext_all (S : ByteArray) : S.extract 0 S.size = S := by
  apply bl_inj
  rw [bl_behind, List.drop_zero]
theorem take_at {B : ByteArray} (a m : Nat) (h : a + m ≤ B.size) : takeF m none (B.extract a B.size) = (numF (bl (B.extract a (a + m))) 0, none, B.extract (a + m) B.size) := by
  have hz : (B.extract a B.size).size = B.size - a := by rw [ByteArray.size_extract, Nat.min_self]
  unfold takeF
  simp only
  rw [if_neg (by omega), ext_first B a m h, ext_rest]
theorem take_few {B : ByteArray} (a m : Nat) (h : B.size < a + m) (ha : a ≤ B.size) : takeF m none (B.extract a B.size) = (0, some 5, B.extract a B.size) := by
  have hz : (B.extract a B.size).size = B.size - a := by rw [ByteArray.size_extract, Nat.min_self]
  unfold takeF
  simp only
  rw [if_pos (by omega)]
theorem row_stuck (e : Int) (S : ByteArray) : rowF (some e) S = ([], some e, S) := by
  unfold rowF
  have h : takeF 4 (some e) S = (0, some e, S) := rfl
  rw [h]
  simp only
  rw [if_neg (by omega), wordsF_err]
  simp
theorem fin_some (c c' : Prop) [Decidable c] [Decidable c'] (e : Int) : (if c then (if c' then some e else (some e).or (some 6)) else (if c' then some e else (some e).or (some 6)).or (some 1)) = some e := by
  split <;> split <;> rfl
theorem byte_num (B : ByteArray) (i : Nat) (h : i < B.size) : ((numF (bl (B.extract i (i + 1))) 0 : Nat) : Int) = bt B (i : Int) := by
  have hl : i < (bl B).length := h
  rw [bt_at' B i hl, bl_extract, List.drop_eq_getElem_cons hl, show i + 1 - i = 1 by omega, List.take_succ_cons, List.take_zero]
  simp [numF]
/-- The error of the parts of bytes, once something is wrong ahead of the rows. -/
theorem parts_few {B : ByteArray} (h : B.size < 18) : (partsF B).2.2.2 = some 5 := by
  obtain ⟨t1, t2, t3, t4, t5, t6, r1, r2, r3, q1, q2, q3, q4, q5, q6, q7, q8, q9, e⟩ := parts_eq B
  have key : t6.2.1 = some 5 ∧ t6.1 = 0 → (partsF B).2.2.2 = some 5 := by
    rintro ⟨h6, h0⟩
    rw [h6, h0, if_neg (by omega), row_stuck] at q7
    subst q7
    rw [row_stuck] at q8
    subst q8
    rw [row_stuck] at q9
    subst q9
    rw [e]
    exact fin_some _ _ 5
  have g6 : t5.2.1 = some 5 → (partsF B).2.2.2 = some 5 := fun h5 => key (by rw [h5] at q6; rw [← q6]; exact ⟨rfl, rfl⟩)
  have g5 : t4.2.1 = some 5 → (partsF B).2.2.2 = some 5 := fun h4 => g6 (by rw [h4] at q5; rw [← q5]; rfl)
  have g4 : t3.2.1 = some 5 → (partsF B).2.2.2 = some 5 := fun h3 => g5 (by rw [h3] at q4; rw [← q4]; rfl)
  have g3 : t2.2.1 = some 5 → (partsF B).2.2.2 = some 5 := fun h2 => g4 (by rw [h2] at q3; rw [← q3]; rfl)
  have g2 : t1.2.1 = some 5 → (partsF B).2.2.2 = some 5 := fun h1 => g3 (by rw [h1] at q2; rw [← q2]; rfl)
  rw [← ext_all B] at q1
  by_cases c1 : B.size < 0 + 1
  · exact g2 (by rw [← q1, take_few 0 1 c1 (by omega)])
  rw [take_at 0 1 (by omega)] at q1
  rw [← q1] at q2
  dsimp only at q2
  by_cases c2 : B.size < 0 + 1 + 4
  · exact g3 (by rw [← q2, take_few (0 + 1) 4 c2 (by omega)])
  rw [take_at (0 + 1) 4 (by omega)] at q2
  rw [← q2] at q3
  dsimp only at q3
  by_cases c3 : B.size < 0 + 1 + 4 + 4
  · exact g4 (by rw [← q3, take_few (0 + 1 + 4) 4 c3 (by omega)])
  rw [take_at (0 + 1 + 4) 4 (by omega)] at q3
  rw [← q3] at q4
  dsimp only at q4
  by_cases c4 : B.size < 0 + 1 + 4 + 4 + 4
  · exact g5 (by rw [← q4, take_few (0 + 1 + 4 + 4) 4 c4 (by omega)])
  rw [take_at (0 + 1 + 4 + 4) 4 (by omega)] at q4
  rw [← q4] at q5
  dsimp only at q5
  by_cases c5 : B.size < 0 + 1 + 4 + 4 + 4 + 4
  · exact g6 (by rw [← q5, take_few (0 + 1 + 4 + 4 + 4) 4 c5 (by omega)])
  rw [take_at (0 + 1 + 4 + 4 + 4) 4 (by omega)] at q5
  rw [← q5] at q6
  dsimp only at q6
  exact key (by rw [← q6, take_few (0 + 1 + 4 + 4 + 4 + 4) 1 (by omega) (by omega)]; exact ⟨rfl, rfl⟩)
theorem rowRef_err {S S1 : ByteArray} {P : List Int} {e : Int} (h : rowRef S = (P, S1, e)) (he : e ≠ 0) : (rowF none S).2.1 = some e := by
  unfold rowRef at h
  cases hw : (rowF none S).2.1 with
  | some e' =>
    rw [hw] at h
    simp only [Prod.mk.injEq] at h
    rw [h.2.2]
  | none =>
    rw [hw] at h
    simp only [Prod.mk.injEq] at h
    exact (he h.2.2.symm).elim
/-- What the program's way tells of the bytes between the ends. -/
def partsT (B : ByteArray) : RecF × Int := match (partsF B).2.2.2 with | some e => (noneR, e) | none => (((partsF B).1, (partsF B).2.1, (partsF B).2.2.1), 0)
theorem partsT_some {B : ByteArray} {e : Int} (h : (partsF B).2.2.2 = some e) : partsT B = (noneR, e) := by unfold partsT; rw [h]
theorem parts_tkB (B : ByteArray) : partsT B = tkB B := by
  by_cases h18 : B.size < 18
  · rw [partsT_some (parts_few h18), tkB_few h18]
  obtain ⟨t1, t2, t3, t4, t5, t6, r1, r2, r3, q1, q2, q3, q4, q5, q6, q7, q8, q9, e⟩ := parts_eq B
  rw [← ext_all B, take_at 0 1 (by omega)] at q1
  rw [← q1] at q2
  dsimp only at q2
  rw [take_at (0 + 1) 4 (by omega)] at q2
  rw [← q2] at q3
  dsimp only at q3
  rw [take_at (0 + 1 + 4) 4 (by omega)] at q3
  rw [← q3] at q4
  dsimp only at q4
  rw [take_at (0 + 1 + 4 + 4) 4 (by omega)] at q4
  rw [← q4] at q5
  dsimp only at q5
  rw [take_at (0 + 1 + 4 + 4 + 4) 4 (by omega)] at q5
  rw [← q5] at q6
  dsimp only at q6
  rw [take_at (0 + 1 + 4 + 4 + 4 + 4) 1 (by omega)] at q6
  have b0 : (((t1.1 : Nat)) : Int) = bt B 0 := by rw [← q1]; exact byte_num B 0 (by omega)
  have b17 : (((t6.1 : Nat)) : Int) = bt B 17 := by rw [← q6]; exact byte_num B 17 (by omega)
  have e2 : numF (bl (B.extract 1 5)) 0 = t2.1 := by rw [← q2]
  have e3 : numF (bl (B.extract 5 9)) 0 = t3.1 := by rw [← q3]
  have e4 : numF (bl (B.extract 9 13)) 0 = t4.1 := by rw [← q4]
  have e5 : numF (bl (B.extract 13 17)) 0 = t5.1 := by rw [← q5]
  have s6 : t6.2.1 = none := by rw [← q6]
  have s6' : t6.2.2 = B.extract 18 B.size := by rw [← q6]
  rw [s6, s6'] at q7
  by_cases hm : 1 < bt B 17
  · rw [if_pos (by omega), show (none : Option Int).or (some 6) = some 6 from rfl, row_stuck] at q7
    rw [← q7] at q8
    rw [row_stuck] at q8
    rw [← q8] at q9
    rw [row_stuck] at q9
    rw [tkB_sign h18 hm]
    refine partsT_some ?_
    rw [e, ← q9]
    exact fin_some _ _ 6
  rw [if_neg (by omega)] at q7
  rcases h1 : rowRef (B.extract 18 B.size) with ⟨P, S1, e1⟩
  by_cases he1 : e1 = 0
  case neg =>
    have w := rowRef_err h1 he1
    rw [q7] at w
    rw [w, row_stuck] at q8
    rw [← q8] at q9
    rw [row_stuck] at q9
    rw [tkB_1 h18 hm h1 he1]
    refine partsT_some ?_
    rw [e, ← q9]
    exact fin_some _ _ e1
  subst he1
  have w1 := (rowRef_ok h1).2.2
  rw [w1] at q7
  rw [← q7] at q8
  dsimp only at q8
  rcases h2 : rowRef S1 with ⟨Q, S2, e2'⟩
  by_cases he2 : e2' = 0
  case neg =>
    have w := rowRef_err h2 he2
    rw [q8] at w
    rw [w, row_stuck] at q9
    rw [tkB_2 h18 hm h1 h2 he2]
    refine partsT_some ?_
    rw [e, ← q9]
    exact fin_some _ _ e2'
  subst he2
  have w2 := (rowRef_ok h2).2.2
  rw [w2] at q8
  rw [← q8] at q9
  dsimp only at q9
  rcases h3 : rowRef S2 with ⟨R, S3, e3'⟩
  by_cases he3 : e3' = 0
  case neg =>
    have w := rowRef_err h3 he3
    rw [q9] at w
    rw [tkB_3 h18 hm h1 h2 h3 he3]
    refine partsT_some ?_
    rw [e, w]
    exact fin_some _ _ e3'
  subst he3
  have w3 := (rowRef_ok h3).2.2
  rw [w3] at q9
  by_cases hs : 0 < S3.size
  · rw [tkB_more h18 hm h1 h2 h3 hs]
    refine partsT_some ?_
    rw [e, ← q9]
    have hne : S3.toList.isEmpty = false := by
      rw [Go.ByteArray.toList_eq, ← Bool.not_eq_true, List.isEmpty_iff]
      intro h0
      have : (bl S3).length = 0 := by rw [show bl S3 = [] from h0]; rfl
      rw [bl_len] at this
      omega
    simp only [hne]
    split <;> rfl
  · have hE : S3.toList.isEmpty = true := by
      rw [Go.ByteArray.toList_eq, List.isEmpty_iff]
      exact List.eq_nil_of_length_eq_zero (show S3.size = 0 by omega)
    have hend := tkB_end h18 hm h1 h2 h3 hs e2 e3 e4 e5
    have hp : partsF B = ((t1.1, t2.1, t3.1, t4.1, t5.1), (P, Q, R), (((t6.1 : Nat) : Int) == 1), if mayV (t1.1 : Int) (t2.1 : Int) (t3.1 : Int) (t4.1 : Int) (t5.1 : Int) P Q R = true then none else some 1) := by
      rw [e, ← q7, ← q8, ← q9]
      dsimp only
      rw [hE]
      rfl
    rw [hend, ← b0, ← b17]
    unfold partsT
    rw [hp]
    by_cases hmay : mayV (t1.1 : Int) (t2.1 : Int) (t3.1 : Int) (t4.1 : Int) (t5.1 : Int) P Q R = true
    · rw [if_pos hmay, if_pos hmay]
      rfl
    · rw [if_neg hmay, if_neg hmay]
theorem take_parts {s : ByteArray} (h8 : 8 ≤ s.size) (heq : numF (bl (s.extract (s.size - 4) s.size)) 0 = crcL (bl (s.extract 0 (s.size - 4)))) (hfm : ((s.extract 0 4).toList == [84, 65, 76, 89]) = true) : (takeR s, takeE s) = tkB (s.extract 4 (s.size - 4)) := by
  rw [← parts_tkB]
  have hsum : ((numF (s.extract (s.size - 4) s.size).data.toList 0 : Nat) : Int) = ((4294967295 ^^^ crcFold (s.extract 0 (s.size - 4)).data.toList 4294967295 : Nat) : Int) := congrArg _ heq
  unfold takeE takeR partsT
  have h8' : ¬ s.size < 8 := by omega
  rw [if_neg h8', if_neg h8', if_pos hsum, if_pos hsum, if_pos hfm, if_pos hfm]
  cases (partsF (s.extract 4 (s.size - 4))).2.2.2 <;> rfl
end Go.Proofs.YtanjahakoadecaaDoor.Pure
