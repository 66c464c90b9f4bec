/- What the rows' condition gives a walk: the cell of errors.errorType. -/
import Derived.Test.YtanjahakoadecaaDoorRows
import Derived.Test.YtanjahakoadecaaDoorHCrcL
import Derived.LaidLaws
import Derived.LaidHandle
import Derived.LaidMore
import Derived.ChangeSame
import Derived.ChangeVars
import Derived.RowKitTokens
namespace Go.Proofs.YtanjahakoadecaaDoor.Hand
open Go.ChangeShapes Go.WideShapes Go.RowKit Go.Proofs.YtanjahakoadecaaDoorW.PrintWords
theorem et_named : Tryd.prog.globalNamed "errors.errorType" = some 0 := by kernel_rfl
theorem rt_cut : (Tryd.prog.cutTypes.find? (·.1 == "internal/reflectlite.rtype")).map (·.2) = some 104 := by kernel_rfl
theorem et_oneRow : ((List.range Tryd.prog.types.size).filter fun t => Tryd.prog.rowNamed t [101, 114, 114, 111, 114]) = [61] := by kernel_rfl
set_option maxRecDepth 100000 in
theorem errAt_of_laid {W : World} (h : laidMetH Tryd.prog [("errors.errorType", Rows.laid_errors_errorType)] W) : Aside0 (W.cell? ⟨0, 0, none⟩ = some (.iface 104 (.agg #[.pointer (some ⟨1, 61, none⟩)]))) := by
  refine Aside0.mk ?_
  have h' : laidMet Tryd.prog [] W ∧ handlesMet Tryd.prog [("errors.errorType", Rows.laid_errors_errorType)] W := h
  obtain ⟨name, u, ty, e1, e2, e3, e4, e5⟩ := h'.2 _ (List.mem_singleton.2 rfl)
  have en : name = [101, 114, 114, 111, 114] := (Option.some.inj e1).symm
  subst en
  obtain rfl := Option.some.inj (rt_cut.symm.trans e2)
  have hm : ty ∈ (List.range Tryd.prog.types.size).filter fun t => Tryd.prog.rowNamed t [101, 114, 114, 111, 114] := List.mem_filter.2 ⟨List.mem_range.2 e3, e4⟩
  rw [et_oneRow] at hm
  obtain rfl := List.mem_singleton.1 hm
  have hh : typeHandle Tryd.prog 61 = .pointer (some ⟨1, 61, none⟩) := by kernel_rfl
  rw [hh] at e5
  simpa using World.var?_cell et_named e5 0
end Go.Proofs.YtanjahakoadecaaDoor.Hand
