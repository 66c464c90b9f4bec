/- How a record's bytes begin: append([]byte("TALY"), x): the row of the constant bears the run-time's mark, the appended row is a new one. -/
import Derived.Test.YtanjahakoadecaaDoorHCrcB
import Derived.Test.YtanjahakoadecaaDoorWWords
import Derived.Test.YtanjahakoadecaaDoorWRepsOne
import Derived.Test.YtanjahakoadecaaDoorWMore
import Derived.Lib.SlBytesConst
import Derived.Laws.Append
import Derived.Lib.AppendZeros
namespace Go.Proofs.YtanjahakoadecaaDoor.Hand
open Go.RowKit Go.Proofs.YtanjahakoadecaaDoorW.PrintWords Go.Proofs.YtanjahakoadecaaDoorW.PrintMore Go.Proofs.YtanjahakoadecaaDoor.Num
set_option linter.unusedVariables false
set_option linter.unusedSimpArgs false

theorem info8 : (Tryd.prog.info? 5).map (fun i => (i.zero, i.size, i.bytes)) = some (some (.int .u8 0), 1, 1) := by kernel_rfl
/-- A conversion whose run is known, as one step of a region. -/
theorem wpList_convert_known {P : Program} {ops : Array Oper} {rest : List Oper} {o : Oper} {a : Act} {w : World} {Q : Exit → Act → World → Prop} (hgd : o.guard = none) (x : Operand) (t u : TypeId)
    (ho : o.op = .convert t u x) (v : Value) (hx : a.eval x = v) (v' : Value) (w' : World) (hr : (convert t u v).run P w = .ok v' w') (h : wpList P ops Q rest (a.put o.dst v') w') : wpList P ops Q (o :: rest) a w :=
  wpList_plain hgd fun _ hK => by
    unfold Oper.wp
    simp [execOp, ho, hx, hr, Result.andThen]
    exact hK _ _ h
theorem crc_begin (w7 : World) (x : Int) : ∃ vm v W0 W2,
    (convert 40 40 (.slice (some ⟨w7.heap.size, 0, none⟩) 4 4)).run Tryd.prog (w7.alloc (.cells #[.int .u8 84, .int .u8 65, .int .u8 76, .int .u8 89] 5)) = .ok vm W0 ∧
    Below w7.heap.size w7 W0 ∧
    (∀ ty, (Builtin.append_ #[40, 40] ty #[vm, .slice (some ⟨W0.heap.size, 0, none⟩) 1 1]).run Tryd.prog (W0.alloc (.cells #[.int .u8 x] 5)) = .ok v W2) ∧
    Kd.R (Kd.int .u8) 5 W2 w7.heap.size (fun k => w7.heap.size ≤ k) v [84, 65, 76, 89, x] ∧ Below w7.heap.size w7 W2 := by
  obtain ⟨i0, hi, hi2⟩ := Option.map_eq_some_iff.1 info8
  simp only [Prod.mk.injEq] at hi2
  obtain ⟨hz0, hz1, hz2⟩ := hi2
  obtain ⟨W0, hW0⟩ : ∃ W0, W0 = w7.alloc (.cells #[.int .u8 84, .int .u8 65, .int .u8 76, .int .u8 89] 5 (4, 5)) := ⟨_, rfl⟩
  obtain ⟨W1, hW1⟩ : ∃ W1, W1 = W0.alloc (.cells #[.int .u8 x] 5) := ⟨_, rfl⟩
  have s0 : W0.heap.size = w7.heap.size + 1 := by rw [hW0, World.size_alloc]
  have s1 : W1.heap.size = w7.heap.size + 1 + 1 := by rw [hW1, World.size_alloc, s0]
  have b0 : W0.heap[w7.heap.size]? = some (.cells #[.int .u8 84, .int .u8 65, .int .u8 76, .int .u8 89] 5 (4, 5)) := by rw [hW0]; exact World.alloc_heap_new _ _
  have b1 : W1.heap[w7.heap.size + 1]? = some (.cells #[.int .u8 x] 5 (0, 0)) := by rw [hW1, ← s0]; exact World.alloc_heap_new _ _
  have b2 : W1.heap[w7.heap.size]? = some (.cells #[.int .u8 84, .int .u8 65, .int .u8 76, .int .u8 89] 5 (4, 5)) := by
    rw [hW1, Below.heap_alloc _ _ _ (by rw [s0]; exact Nat.lt_succ_self _)]
    exact b0
  have hcv : (convert 40 40 (.slice (some ⟨w7.heap.size, 0, none⟩) 4 4)).run Tryd.prog (w7.alloc (.cells #[.int .u8 84, .int .u8 65, .int .u8 76, .int .u8 89] 5)) = .ok (.slice (some ⟨w7.heap.size, 0, none⟩) 4 4) W0 := by
    rw [hW0]
    exact Lib.run_convert_bytes_const w7 40 5 _ 4 4 Tryd.underlying40 Tryd.underlying5
  have hr := fun ty => run_append_grow (P := Tryd.prog) W1 40 ty 5 i0 (.int .u8 0) Tryd.underlying40 hi hz0 ⟨w7.heap.size, 0, none⟩ 4 4 [.int .u8 84, .int .u8 65, .int .u8 76, .int .u8 89] (by rw [hz1]; rfl)
    (fun j v hj => by
      rw [Addr.add_lit, Nat.zero_add]
      simp only [World.cell?, b2]
      simpa using hj)
    ⟨w7.heap.size + 1, 0, none⟩ 1 1 [.int .u8 x] (by rw [hz1]; rfl)
    (fun j v hj => by
      rw [Addr.add_lit, Nat.zero_add]
      simp only [World.cell?, b1]
      simpa using hj) (by decide) (by decide) (by rw [hz2]; exact growslice_fits (by decide) (by decide))
  have hge := grownCap_ge W1 (4 + 1) 4 5
  have hcm := grownCap_le_maxLen W1 (4 + 1) 4 5 (by unfold maxLen; omega)
  generalize grownCap W1 (4 + 1) 4 5 = C at *
  refine ⟨_, _, W0, _, hcv, by rw [hW0]; exact (Below.refl _ w7).alloc (Nat.le_refl _) _, (by rw [s0, ← hW1]; exact hr), ⟨fun k hk => ?_, [.int .u8 84, .int .u8 65, .int .u8 76, .int .u8 89, .int .u8 x], ⟨rfl, .inr ⟨W1.heap.size, C, _, rfl, by omega, World.alloc_heap_new W1.drew _, hge, hcm, ?_, ?_⟩⟩, ?_⟩, ?_⟩
  · have : W1.heap.size = k := by simpa [Value.ownBlock] using hk
    omega
  · simp [size_zeroCells, Value.cells]
    show _ = C * 1
    omega
  · simp
    rfl
  · exact (Reps.one (show Kd.M (Kd.int .u8) _ _ _ 84 [.int .u8 84] from rfl) (Reps.one (show Kd.M (Kd.int .u8) _ _ _ 65 [.int .u8 65] from rfl) (Reps.one (show Kd.M (Kd.int .u8) _ _ _ 76 [.int .u8 76] from rfl) (Reps.one (show Kd.M (Kd.int .u8) _ _ _ 89 [.int .u8 89] from rfl) (Reps.one (show Kd.M (Kd.int .u8) _ _ _ x [.int .u8 x] from rfl) (Reps.none _ _))))))
  · have h1 : Below w7.heap.size w7 W1 := by
      rw [hW1, hW0]
      exact ((Below.refl _ w7).alloc (Nat.le_refl _) _).alloc (by rw [World.size_alloc]; exact Nat.le_succ _) _
    exact h1.drew.alloc (show w7.heap.size ≤ W1.heap.size by omega) _
end Go.Proofs.YtanjahakoadecaaDoor.Hand
