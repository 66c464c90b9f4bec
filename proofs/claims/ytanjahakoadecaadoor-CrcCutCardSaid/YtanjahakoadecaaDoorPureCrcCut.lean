/- CrcCut, plain: what the walk told is true for every record, cut and text. -/
import Derived.Test.YtanjahakoadecaaDoorPc11
import Derived.Test.YtanjahakoadecaaDoorPCrcG
namespace Go.Proofs.YtanjahakoadecaaDoor.Pure
open Go.RowKit Go.Proofs.YtanjahakoadecaaDoor.Pc Go.Proofs.YtanjahakoadecaaDoorW.PrintWords Go.Proofs.YtanjahakoadecaaDoorW.PrintLast Go.Proofs.YtanjahakoadecaaDoorW.PrintMore Go.Proofs.YtanjahakoadecaaDoor.Hand Go.Proofs.YtanjahakoadecaaDoor.Num
set_option linter.unusedVariables false
set_option linter.unusedSimpArgs false

theorem other {R : RecF} {s : ByteArray} (ho : okR R) (he : takeE s = 0) (hl : s.size ≠ (bytesL R).length) : sameR (takeR s) R = false := by
  rw [← Bool.not_eq_true]
  intro h
  have h1 := (of_take he).2
  rw [sameR_eq h] at h1
  exact hl (by rw [← bl_len, h1])
theorem cut_main {R : RecF} (ho : okR R) (cut : Int) (more : ByteArray) (h0 : 0 ≤ cut) (h1 : cut < ((bytesL R).length : Int)) (hs : more.size ≤ 140737488351232) :
    Ev (fun k => tallysticklaw14_CrcCut.j0 k cut more true ⟨(bytesL R).toArray⟩ false (R.1.1 : Int) (R.1.2.1 : Int) (R.1.2.2.1 : Int) (R.1.2.2.2.1 : Int) (R.1.2.2.2.2 : Int) R.2.1.1 R.2.1.2.1 R.2.1.2.2 R.2.2) true := by
  have hlen := bytesL_len ho
  obtain ⟨S, hS⟩ : ∃ S : ByteArray, S = ⟨(bytesL R).toArray⟩ := ⟨_, rfl⟩
  have hbS : bl S = bytesL R := by rw [hS]
  have hsz : S.size = (bytesL R).length := by rw [← bl_len, hbS]
  rw [← hS]
  have hA : (S.extract 0 cut.toNat).size = cut.toNat := by rw [ByteArray.size_extract]; omega
  have hB : (S ++ more).size = S.size + more.size := ByteArray.size_append
  refine Ev.succ ?_
  simp only [tallysticklaw14_CrcCut.j0]
  refine Ev.no (by decide) (Ev.yes h0 (Ev.yes (by omega) (Ev.bind (Ev.const (take_f (s := S.extract 0 cut.toNat) (by omega))) (Ev.yes (by omega) (Ev.bind (Ev.const (take_f (s := S ++ more) (by omega))) (Ev.yes (by first | rfl | trivial) ?_))))))
  simp only
  have last : Ev (fun k => if more.toList = ([] : List UInt8) then some true else if takeE (S ++ more) = 0 then ((crc_Same.f k ((takeR (S ++ more)).1.1 : Int) ((takeR (S ++ more)).1.2.1 : Int) ((takeR (S ++ more)).1.2.2.1 : Int) ((takeR (S ++ more)).1.2.2.2.1 : Int) ((takeR (S ++ more)).1.2.2.2.2 : Int) (takeR (S ++ more)).2.1.1 (takeR (S ++ more)).2.1.2.1 (takeR (S ++ more)).2.1.2.2 (takeR (S ++ more)).2.2 (R.1.1 : Int) (R.1.2.1 : Int) (R.1.2.2.1 : Int) (R.1.2.2.2.1 : Int) (R.1.2.2.2.2 : Int) R.2.1.1 R.2.1.2.1 R.2.1.2.2 R.2.2).bind fun t => some (!t)) else some true) true := by
    by_cases hm : more.toList = []
    · exact Ev.yes hm (Ev.const rfl)
    refine Ev.no hm ?_
    by_cases he : takeE (S ++ more) = 0
    · refine Ev.yes he (Ev.bind (sameR_ev (of_take he).1) (Ev.const ?_))
      rw [other ho he ?_]
      · rfl
      · rw [hB, hsz]
        intro hc
        apply hm
        rw [Go.ByteArray.toList_eq]
        exact List.eq_nil_of_length_eq_zero (show more.size = 0 by omega)
    · exact Ev.no he (Ev.const rfl)
  by_cases he : takeE (S.extract 0 cut.toNat) = 0
  · refine Ev.yes he (Ev.bind (sameR_ev (of_take he).1) ?_)
    rw [other ho he (by omega)]
    exact Ev.no (by decide) last
  · exact Ev.no he last
theorem CrcCut (a0 a1 a2 a3 a4 : Int) (p q r : List Int) (mi : Bool) (cut : Int) (more : ByteArray) (_ : (Lit.int .i64 a0).wf = true) (_ : (Lit.int .i64 a1).wf = true) (_ : (Lit.int .i64 a2).wf = true) (_ : (Lit.int .i64 a3).wf = true) (_ : (Lit.int .i64 a4).wf = true)
    (_ : p.length ≤ maxLen) (hp : ∀ x ∈ p, (Lit.int .u64 x).wf = true) (_ : q.length ≤ maxLen) (hq : ∀ x ∈ q, (Lit.int .u64 x).wf = true) (_ : r.length ≤ maxLen) (hr : ∀ x ∈ r, (Lit.int .u64 x).wf = true) (_ : (Lit.int .i64 cut).wf = true) (hs : more.size ≤ 140737488351232) : ∃ k, tallysticklaw14_CrcCut.f k a0 a1 a2 a3 a4 p q r mi cut more = some true := by
  have ip := inB_wf hp
  have iq := inB_wf hq
  have ir := inB_wf hr
  have triv : ∀ x8 : ByteArray, Ev (fun k => tallysticklaw14_CrcCut.j0 k cut more true x8 true a0 a1 a2 a3 a4 p q r mi) true := by
    intro x8
    refine Ev.succ ?_
    simp only [tallysticklaw14_CrcCut.j0]
    exact Ev.yes trivial (Ev.const rfl)
  refine Ev.get ?_
  unfold tallysticklaw14_CrcCut.f
  refine Ev.bind (Ev.const shown_true) ?_
  cases hm : mayV a0 a1 a2 a3 a4 p q r with
  | false =>
    refine Ev.bind (bytes_no a0 a1 a2 a3 a4 mi ip iq ir hm) (Ev.no (by decide) (triv _))
  | true =>
    obtain ⟨R, ho, rfl, rfl, rfl, rfl, rfl, rfl, rfl, rfl, rfl⟩ := rec_of mi hm ip iq ir
    refine Ev.bind (bytes_ev ho) (Ev.yes rfl ?_)
    by_cases h0 : cut < 0
    · exact Ev.yes h0 (triv _)
    · refine Ev.no h0 ?_
      by_cases h1 : cut ≥ ((bytesL R).length : Int)
      · rw [show (decide (cut ≥ (((⟨(bytesL R).toArray⟩ : ByteArray), (0 : Int)).1.size : Int))) = true from decide_eq_true h1]
        exact triv _
      · rw [show (decide (cut ≥ (((⟨(bytesL R).toArray⟩ : ByteArray), (0 : Int)).1.size : Int))) = false from decide_eq_false h1]
        exact cut_main ho cut more (by omega) (by omega) hs
end Go.Proofs.YtanjahakoadecaaDoor.Pure
