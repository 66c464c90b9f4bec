/- crc.Take and crc.Of in the form in which the print tells a contract; one premise more: the cell of errors.errorType. -/
import Derived.Test.YtanjahakoadecaaDoorHCrcL
namespace Go.Proofs.YtanjahakoadecaaDoor.Hand
open Go.RowKit Go.Proofs.YtanjahakoadecaaDoorW.PrintWords Go.Proofs.YtanjahakoadecaaDoorW.PrintLast Go.Proofs.YtanjahakoadecaaDoorW.PrintMore Go.Proofs.YtanjahakoadecaaDoor.Num
set_option linter.unusedVariables false
set_option linter.unusedSimpArgs false

/-- The cell of errors.errorType. -/
def ErrCell (w : World) : Prop := w.cell? ⟨0, 0, none⟩ = some (.iface 104 (.agg #[.pointer (some ⟨1, 61, none⟩)]))
theorem ErrCell.later {w w' : World} (h : ErrCell w) (hb : Below w.heap.size w w') : ErrCell w' := cell_later' h hb
def crc_Take.f (a0 : ByteArray) : Option (Int × Int × Int × Int × Int × List Int × List Int × List Int × Bool × Int) :=
  if a0.size ≤ 4611686018427387904 then some ((((takeR a0).1.1 : Nat) : Int), (((takeR a0).1.2.1 : Nat) : Int), (((takeR a0).1.2.2.1 : Nat) : Int), (((takeR a0).1.2.2.2.1 : Nat) : Int), (((takeR a0).1.2.2.2.2 : Nat) : Int), (takeR a0).2.1.1, (takeR a0).2.1.2.1, (takeR a0).2.1.2.2, (takeR a0).2.2, takeE a0) else none
/-- A row of the record in the print's form. -/
theorem row_V {w0 w : World} {v : Value} {l : List Int} (h : Kd.R (Kd.int .u64) 58 w (w0.heap.size + 1 + 1 + 1) (fun _ => True) v l) : Kd.V (Kd.int .u64) 58 w w0.heap.size (fun k_ => (w0.heap.size ≤ k_)) v l :=
  Kd.R_V (Kd.R_mono (Kd.R_bound h) (fun k hk => by have := hk.2.1; omega))
theorem crc_Take.calls (a0 : ByteArray) (r1 r2 r3 r4 r5 : Int) (r6 r7 r8 : List Int) (r9 : Bool) (r10 : Int) (w : World) (h : crc_Take.f a0 = some (r1, r2, r3, r4, r5, r6, r7, r8, r9, r10)) (hp : ErrCell w) :
    Calls Tryd.prog 10 #[.string a0] w fun e w' => ∃ v5_ v6_ v7_ : Value, e = .returned (.tuple #[.agg #[.int .i64 r1, .int .i64 r2, .int .i64 r3, .int .i64 r4, .int .i64 r5, v5_, v6_, v7_, .bool r9], .int .i64 r10]) ∧ Kd.V (Kd.int .u64) 58 w' w.heap.size (fun k_ => (w.heap.size ≤ k_)) v5_ r6 ∧ Kd.V (Kd.int .u64) 58 w' w.heap.size (fun k_ => (w.heap.size ≤ k_)) v6_ r7 ∧ Kd.V (Kd.int .u64) 58 w' w.heap.size (fun k_ => (w.heap.size ≤ k_)) v7_ r8 ∧ Below w.heap.size w w' := by
  unfold crc_Take.f at h
  split at h
  · rename_i hs
    simp only [Option.some.injEq, Prod.mk.injEq] at h
    obtain ⟨rfl, rfl, rfl, rfl, rfl, rfl, rfl, rfl, rfl, rfl⟩ := h
    refine (crc_take a0 w hp hs).mono ?_
    rintro e w' ⟨AP, AQ, AR, cP, cQ, cR, rfl, hrw, hb⟩
    exact ⟨_, _, _, rfl, row_V hrw.p, row_V hrw.q, row_V hrw.r, hb⟩
  · cases h
/-- Is the record's job this one? -/
abbrev jobB (r : RecF) (a b c : Int) : Bool := (r.1.1 : Int) == a && ((r.1.2.1 : Int) == b && ((r.1.2.2.1 : Int) == c))
def ofR (s : ByteArray) (a b c : Int) : Int × Int × List Int × List Int × List Int × Bool × Int :=
  if takeE s = 0 then (if jobB (takeR s) a b c = true then ((((takeR s).1.2.2.2.1 : Nat) : Int), (((takeR s).1.2.2.2.2 : Nat) : Int), (takeR s).2.1.1, (takeR s).2.1.2.1, (takeR s).2.1.2.2, (takeR s).2.2, 0) else (0, 0, [], [], [], false, 11)) else (0, 0, [], [], [], false, takeE s)
def crc_Of.f (a0 : ByteArray) (a1_0 a1_1 a1_2 : Int) : Option (Int × Int × List Int × List Int × List Int × Bool × Int) := if a0.size ≤ 4611686018427387904 then some (ofR a0 a1_0 a1_1 a1_2) else none
theorem crc_Of.calls (a0 : ByteArray) (a1_0 a1_1 a1_2 r1 r2 : Int) (r3 r4 r5 : List Int) (r6 : Bool) (r7 : Int) (w : World) (h : crc_Of.f a0 a1_0 a1_1 a1_2 = some (r1, r2, r3, r4, r5, r6, r7)) (hp : ErrCell w) :
    Calls Tryd.prog 9 #[.string a0, .agg #[.int .i64 a1_0, .int .i64 a1_1, .int .i64 a1_2]] w fun e w' => ∃ v2_ v3_ v4_ : Value, e = .returned (.tuple #[.agg #[.int .i64 r1, .int .i64 r2, v2_, v3_, v4_, .bool r6], .int .i64 r7]) ∧ Kd.V (Kd.int .u64) 58 w' w.heap.size (fun k_ => (w.heap.size ≤ k_)) v2_ r3 ∧ Kd.V (Kd.int .u64) 58 w' w.heap.size (fun k_ => (w.heap.size ≤ k_)) v3_ r4 ∧ Kd.V (Kd.int .u64) 58 w' w.heap.size (fun k_ => (w.heap.size ≤ k_)) v4_ r5 ∧ Below w.heap.size w w' := by
  unfold crc_Of.f at h
  split at h
  · rename_i hs
    have h := Option.some.inj h
    unfold ofR at h
    by_cases he : takeE a0 = 0
    · rw [if_pos he] at h
      cases hj : jobB (takeR a0) a1_0 a1_1 a1_2 with
      | false =>
        rw [hj, if_neg (by decide)] at h
        simp only [Prod.mk.injEq] at h
        obtain ⟨rfl, rfl, rfl, rfl, rfl, rfl, rfl⟩ := h
        refine (crc_of_alien a0 _ _ _ w hp hs he hj).mono ?_
        rintro e w' ⟨rfl, hb⟩
        exact ⟨_, _, _, rfl, Kd.V_nil _ _ _ _ _, Kd.V_nil _ _ _ _ _, Kd.V_nil _ _ _ _ _, hb⟩
      | true =>
        rw [hj, if_pos rfl] at h
        simp only [Prod.mk.injEq] at h
        obtain ⟨rfl, rfl, rfl, rfl, rfl, rfl, rfl⟩ := h
        refine (crc_of_ok a0 _ _ _ w hp hs he hj).mono ?_
        rintro e w' ⟨AP, AQ, AR, cP, cQ, cR, rfl, hrw, hb⟩
        exact ⟨_, _, _, rfl, row_V hrw.p, row_V hrw.q, row_V hrw.r, hb⟩
    · rw [if_neg he] at h
      simp only [Prod.mk.injEq] at h
      obtain ⟨rfl, rfl, rfl, rfl, rfl, rfl, rfl⟩ := h
      refine (crc_of_err a0 _ _ _ w hp hs he).mono ?_
      rintro e w' ⟨rfl, hb⟩
      exact ⟨_, _, _, rfl, Kd.V_nil _ _ _ _ _, Kd.V_nil _ _ _ _ _, Kd.V_nil _ _ _ _ _, hb⟩
  · cases h
end Go.Proofs.YtanjahakoadecaaDoor.Hand
