/- crc.Take by one contract: the number that it tells and the record are plain functions of the bytes. -/
import Derived.Test.YtanjahakoadecaaDoorHCrcJ
namespace Go.Proofs.YtanjahakoadecaaDoor.Hand
open Go.RowKit Go.Proofs.YtanjahakoadecaaDoorW.PrintWords Go.Proofs.YtanjahakoadecaaDoorW.PrintMore Go.Proofs.YtanjahakoadecaaDoor.Num
set_option linter.unusedVariables false
set_option linter.unusedSimpArgs false

/-- A record's fields. -/
abbrev RecF : Type := (Nat × Nat × Nat × Nat × Nat) × (List Int × List Int × List Int) × Bool
def noneR : RecF := ((0, 0, 0, 0, 0), ([], [], []), false)
/-- The error that Take tells of bytes. -/
def takeE (s : ByteArray) : Int :=
  if s.size < 8 then 5 else if ((numF (s.extract (s.size - 4) s.size).data.toList 0 : Nat) : Int) = ((4294967295 ^^^ crcFold (s.extract 0 (s.size - 4)).data.toList 4294967295 : Nat) : Int) then
    (if ((s.extract 0 4).toList == [84, 65, 76, 89]) = true then (match (partsF (s.extract 4 (s.size - 4))).2.2.2 with | some e => e | none => 0) else 6) else 7
/-- The record that it tells. -/
def takeR (s : ByteArray) : RecF :=
  if s.size < 8 then noneR else if ((numF (s.extract (s.size - 4) s.size).data.toList 0 : Nat) : Int) = ((4294967295 ^^^ crcFold (s.extract 0 (s.size - 4)).data.toList 4294967295 : Nat) : Int) then
    (if ((s.extract 0 4).toList == [84, 65, 76, 89]) = true then (match (partsF (s.extract 4 (s.size - 4))).2.2.2 with | some _ => noneR | none => ((partsF (s.extract 4 (s.size - 4))).1, (partsF (s.extract 4 (s.size - 4))).2.1, (partsF (s.extract 4 (s.size - 4))).2.2.1)) else noneR) else noneR
/-- A record's value. -/
abbrev recV (r : RecF) (AP AQ AR : Option Addr) (cP cQ cR : Nat) : Value :=
  .agg #[.int .i64 (r.1.1 : Int), .int .i64 (r.1.2.1 : Int), .int .i64 (r.1.2.2.1 : Int), .int .i64 (r.1.2.2.2.1 : Int), .int .i64 (r.1.2.2.2.2 : Int), .slice AP r.2.1.1.length cP, .slice AQ r.2.1.2.1.length cQ, .slice AR r.2.1.2.2.length cR, .bool r.2.2]
/-- What Take answers. -/
def TakeTells (s : ByteArray) (w : World) (e : Ending) (w' : World) : Prop :=
  ∃ AP AQ AR cP cQ cR, e = .returned (.tuple #[recV (takeR s) AP AQ AR cP cQ cR, .int .i64 (takeE s)]) ∧ RW w w' AP AQ AR cP cQ cR (takeR s).2.1.1 (takeR s).2.1.2.1 (takeR s).2.1.2.2 ∧ Below w.heap.size w w'
theorem tells_none {s : ByteArray} {w w' : World} {e : Ending} {n : Int} (hr : takeR s = noneR) (hn : takeE s = n) (he : e = .returned (.tuple #[zeroRec, .int .i64 n])) (hb : Below w.heap.size w w') : TakeTells s w e w' := by
  unfold TakeTells
  rw [hr, hn]
  exact ⟨none, none, none, 0, 0, 0, he, ⟨Kd.R_nil _ _ _ _ _, Kd.R_nil _ _ _ _ _, Kd.R_nil _ _ _ _ _⟩, hb⟩
theorem crc_take (s : ByteArray) (w : World) (hg : w.cell? ⟨0, 0, none⟩ = some (.iface 104 (.agg #[.pointer (some ⟨1, 61, none⟩)]))) (hs : s.size ≤ 4611686018427387904) :
    Calls Tryd.prog 10 #[.string s] w (TakeTells s w) := by
  by_cases h8 : s.size < 8
  · refine (crc_take_short s w h8).mono ?_
    rintro e w' ⟨he, hb⟩
    exact tells_none (by unfold takeR; rw [if_pos h8]) (by unfold takeE; rw [if_pos h8]) he hb
  · by_cases hsum : ((numF (s.extract (s.size - 4) s.size).data.toList 0 : Nat) : Int) = ((4294967295 ^^^ crcFold (s.extract 0 (s.size - 4)).data.toList 4294967295 : Nat) : Int)
    · cases hf : ((s.extract 0 4).toList == [84, 65, 76, 89]) with
      | false =>
        refine (crc_take_form s w (by omega) hs hsum hf).mono ?_
        rintro e w' ⟨he, hb⟩
        exact tells_none (by unfold takeR; rw [if_neg h8, if_pos hsum, if_neg (by rw [hf]; decide)]) (by unfold takeE; rw [if_neg h8, if_pos hsum, if_neg (by rw [hf]; decide)]) he hb
      | true =>
        refine (crc_take_rest s w hg (by omega) hs hsum hf).mono ?_
        rintro e w' ⟨h1, h2, hb⟩
        cases hp : (partsF (s.extract 4 (s.size - 4))).2.2.2 with
        | some e0 =>
          exact tells_none (by unfold takeR; rw [if_neg h8, if_pos hsum, if_pos hf, hp]) (by unfold takeE; rw [if_neg h8, if_pos hsum, if_pos hf, hp]) (h1 e0 hp) hb
        | none =>
          obtain ⟨AP, cP, AQ, cQ, AR, cR, he, hrw⟩ := h2 hp
          unfold TakeTells
          rw [show takeR s = ((partsF (s.extract 4 (s.size - 4))).1, (partsF (s.extract 4 (s.size - 4))).2.1, (partsF (s.extract 4 (s.size - 4))).2.2.1) by unfold takeR; rw [if_neg h8, if_pos hsum, if_pos hf, hp], show takeE s = 0 by unfold takeE; rw [if_neg h8, if_pos hsum, if_pos hf, hp]]
          exact ⟨AP, AQ, AR, cP, cQ, cR, he, hrw, hb⟩
    · refine (crc_take_sum s w (by omega) hs hsum).mono ?_
      rintro e w' ⟨he, hb⟩
      exact tells_none (by unfold takeR; rw [if_neg h8, if_neg hsum]) (by unfold takeE; rw [if_neg h8, if_neg hsum]) he hb
end Go.Proofs.YtanjahakoadecaaDoor.Hand
