/- CrcBack, plain: what the walk told is true for every record, text and job. -/
import Derived.Test.YtanjahakoadecaaDoorPc12
import Derived.Test.YtanjahakoadecaaDoorPCrcG
namespace Go.Proofs.YtanjahakoadecaaDoor.Pure
open Go.RowKit Go.Proofs.YtanjahakoadecaaDoor.Pc Go.Proofs.YtanjahakoadecaaDoorW.PrintWords Go.Proofs.YtanjahakoadecaaDoorW.PrintLast Go.Proofs.YtanjahakoadecaaDoorW.PrintMore Go.Proofs.YtanjahakoadecaaDoor.Hand Go.Proofs.YtanjahakoadecaaDoor.Num
set_option linter.unusedVariables false
set_option linter.unusedSimpArgs false

theorem take_none {s : ByteArray} (h : takeE s ≠ 0) : takeR s = noneR := by
  unfold takeE at h
  unfold takeR
  by_cases h8 : s.size < 8
  · rw [if_pos h8]
  rw [if_neg h8] at h ⊢
  by_cases hs : ((numF (s.extract (s.size - 4) s.size).data.toList 0 : Nat) : Int) = ((4294967295 ^^^ crcFold (s.extract 0 (s.size - 4)).data.toList 4294967295 : Nat) : Int)
  · rw [if_pos hs] at h ⊢
    by_cases h4 : ((s.extract 0 4).toList == [84, 65, 76, 89]) = true
    · rw [if_pos h4] at h ⊢
      cases hp : (partsF (s.extract 4 (s.size - 4))).2.2.2 with
      | some e => rfl
      | none => rw [hp] at h; exact (h rfl).elim
    · rw [if_neg h4]
  · rw [if_neg hs]
theorem inB_nil : InB W [] := fun x hx => absurd hx (by simp)
theorem bytes_none : ∃ v, Ev (fun k => crc_Bytes.f k (noneR.1.1 : Int) (noneR.1.2.1 : Int) (noneR.1.2.2.1 : Int) (noneR.1.2.2.2.1 : Int) (noneR.1.2.2.2.2 : Int) noneR.2.1.1 noneR.2.1.2.1 noneR.2.1.2.2 noneR.2.2) v := by
  cases hm : mayR noneR with
  | true => exact ⟨_, bytes_ev ⟨hm, inB_nil, inB_nil, inB_nil⟩⟩
  | false => exact ⟨_, bytes_no _ _ _ _ _ _ inB_nil inB_nil inB_nil hm⟩
/-- What is taken is of the bytes that it was taken from. -/
theorem second (s : ByteArray) (hs : s.size ≤ 140737488351232) (P : Prop) [Decidable P] (hP : P) :
    Ev (fun k => (crc_Take.f s).bind fun b => (crc_Bytes.f k b.1 b.2.1 b.2.2.1 b.2.2.2.1 b.2.2.2.2.1 b.2.2.2.2.2.1 b.2.2.2.2.2.2.1 b.2.2.2.2.2.2.2.1 b.2.2.2.2.2.2.2.2.1).bind fun b2 => (if P then (if b.2.2.2.2.2.2.2.2.2 = 0 then (if b2.2 = 0 then (some (b2.1.toList == s.toList)) else (some false)) else (some true)) else (some false))) true := by
  refine Ev.bind (Ev.const (take_f (s := s) (by omega))) ?_
  by_cases he : takeE s = 0
  · obtain ⟨ho, hb⟩ := of_take he
    refine Ev.bind (bytes_ev ho) (Ev.yes hP (Ev.yes he (Ev.yes rfl (Ev.const ?_))))
    rw [Go.ByteArray.toList_eq, Go.ByteArray.toList_eq]
    show some (bytesL (takeR s) == bl s) = some true
    rw [hb, beq_self_eq_true]
  · obtain ⟨v, hv⟩ := bytes_none
    rw [← take_none he] at hv
    exact Ev.bind hv (Ev.yes hP (Ev.no he (Ev.const rfl)))
theorem of_f {s : ByteArray} (h : s.size ≤ 4611686018427387904) (a b c : Int) : crc_Of.f s a b c = some (ofR s a b c) := by
  unfold crc_Of.f
  rw [if_pos h]
theorem samePart_true (a3 a4 : Int) (p q r : List Int) (mi : Bool) (hp : p.length ≤ maxLen) (hq : q.length ≤ maxLen) (hr : r.length ≤ maxLen) : Ev (fun k => tallystickref14_SamePart.f k a3 a4 p q r mi a3 a4 p q r mi) true := by
  have h := samePart_ev a3 a4 p q r mi a3 a4 p q r mi hp hq hr
  rwa [show samePV a3 a4 p q r mi a3 a4 p q r mi = true from decide_eq_true ⟨rfl, rfl, rfl, ⟨rfl, rfl⟩, rfl⟩] at h
theorem CrcBack (a0 a1 a2 a3 a4 : Int) (p q r : List Int) (mi : Bool) (s : ByteArray) (j0 j1 j2 : Int) (_ : (Lit.int .i64 a0).wf = true) (_ : (Lit.int .i64 a1).wf = true) (_ : (Lit.int .i64 a2).wf = true) (_ : (Lit.int .i64 a3).wf = true) (_ : (Lit.int .i64 a4).wf = true)
    (_ : p.length ≤ maxLen) (hp : ∀ x ∈ p, (Lit.int .u64 x).wf = true) (_ : q.length ≤ maxLen) (hq : ∀ x ∈ q, (Lit.int .u64 x).wf = true) (_ : r.length ≤ maxLen) (hr : ∀ x ∈ r, (Lit.int .u64 x).wf = true) (hs : s.size ≤ 140737488351232) (_ : (Lit.int .i64 j0).wf = true) (_ : (Lit.int .i64 j1).wf = true) (_ : (Lit.int .i64 j2).wf = true) : ∃ k, tallysticklaw14_CrcBack.f k a0 a1 a2 a3 a4 p q r mi s j0 j1 j2 = some true := by
  have ip := inB_wf hp
  have iq := inB_wf hq
  have ir := inB_wf hr
  refine Ev.get ?_
  unfold tallysticklaw14_CrcBack.f
  refine Ev.bind (Ev.const shown_true) ?_
  cases hm : mayV a0 a1 a2 a3 a4 p q r with
  | false => exact Ev.bind (bytes_no a0 a1 a2 a3 a4 mi ip iq ir hm) (Ev.no (by decide) (second s hs _ (by first | rfl | trivial)))
  | true =>
    obtain ⟨R, ho, rfl, rfl, rfl, rfl, rfl, rfl, rfl, rfl, rfl⟩ := rec_of mi hm ip iq ir
    have hlen := bytesL_len ho
    obtain ⟨h1, h2, h3⟩ := ok_len ho
    obtain ⟨S, hS⟩ : ∃ S : ByteArray, S = ⟨(bytesL R).toArray⟩ := ⟨_, rfl⟩
    have hbS : bl S = bytesL R := by rw [hS]
    have hsz : S.size = (bytesL R).length := by rw [← bl_len, hbS]
    obtain ⟨hE, hR⟩ := take_of ho hbS
    have hb := bytes_ev ho
    rw [← hS] at hb
    have ht := take_f (s := S) (by omega)
    rw [hE, hR] at ht
    have hj : jobB (takeR S) (R.1.1 : Int) (R.1.2.1 : Int) (R.1.2.2.1 : Int) = true := by
      rw [hR]
      unfold jobB
      simp
    have ho1 := of_f (s := S) (by omega) (R.1.1 : Int) (R.1.2.1 : Int) (R.1.2.2.1 : Int)
    unfold ofR at ho1
    rw [if_pos hE, if_pos hj, hR] at ho1
    have ho2 := of_f (s := S) (by omega) j0 j1 j2
    have hsame := sameR_ev (T := R) ho
    rw [sameR_refl] at hsame
    refine Ev.bind hb (Ev.yes rfl (Ev.bind (Ev.const ht) (Ev.bind (Ev.const ho1) (Ev.bind (Ev.const ho2) (Ev.yes rfl (Ev.bind hsame (Ev.yes rfl (Ev.yes rfl (Ev.bind (samePart_true _ _ _ _ _ _ h1 h2 h3) (Ev.yes rfl ?_))))))))))
    have hx : (((ofR S j0 j1 j2).2.2.2.2.2.2 == 0) != (j0 == (R.1.1 : Int) && (j1 == (R.1.2.1 : Int) && (j2 == (R.1.2.2.1 : Int))))) = false := by
      unfold ofR
      rw [if_pos hE, hR]
      by_cases hjj : jobB R j0 j1 j2 = true
      · rw [if_pos hjj]
        unfold jobB at hjj
        simp only [Bool.and_eq_true, beq_iff_eq] at hjj
        obtain ⟨rfl, rfl, rfl⟩ := hjj
        simp
      · rw [if_neg hjj]
        have hc : (j0 == (R.1.1 : Int) && (j1 == (R.1.2.1 : Int) && (j2 == (R.1.2.2.1 : Int)))) = false := by
          rw [← Bool.not_eq_true]
          intro hc
          apply hjj
          unfold jobB
          simp only [Bool.and_eq_true, beq_iff_eq] at hc ⊢
          exact ⟨hc.1.symm, hc.2.1.symm, hc.2.2.symm⟩
        rw [hc]
        rfl
    rw [hx]
    refine Ev.succ ?_
    simp only [tallysticklaw14_CrcBack.j0]
    exact Ev.no (by decide) (second s hs _ (by first | rfl | trivial))
end Go.Proofs.YtanjahakoadecaaDoor.Pure
