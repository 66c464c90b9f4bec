/- CrcOthers: the walk itself answers true (see the text of its contract). -/
import Derived.Test.YtanjahakoadecaaDoorPb8
import Derived.OpenShut
namespace Go.Proofs.YtanjahakoadecaaDoor.Pure
open Go.RowKit Go.Proofs.YtanjahakoadecaaDoor.Pb Go.Proofs.YtanjahakoadecaaDoor.Hand
set_option linter.unusedVariables false
set_option linter.unusedSimpArgs false

theorem CrcOthers (l0 : ByteArray) (a1_0 a1_1 a1_2 a2_0 a2_1 a2_2 : Int) (hs : l0.size ≤ 140737488351232) (_ : (Lit.int .i64 a1_0).wf = true) (_ : (Lit.int .i64 a1_1).wf = true) (_ : (Lit.int .i64 a1_2).wf = true) (_ : (Lit.int .i64 a2_0).wf = true) (_ : (Lit.int .i64 a2_1).wf = true) (_ : (Lit.int .i64 a2_2).wf = true) : tallysticklaw14_CrcOthers.f l0 a1_0 a1_1 a1_2 a2_0 a2_1 a2_2 = some true := by
  unfold tallysticklaw14_CrcOthers.f
  rw [if_pos (by omega)]
end Go.Proofs.YtanjahakoadecaaDoor.Pure
