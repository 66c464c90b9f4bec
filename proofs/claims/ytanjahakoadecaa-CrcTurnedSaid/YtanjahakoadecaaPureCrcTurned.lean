/- CrcTurned: the walk itself answers true (see the text of its contract); here the argument's bounds. -/
import Derived.Test.YtanjahakoadecaaPa7
import Derived.OpenShut
namespace Go.Proofs.Ytanjahakoadecaa.Pure
open Go.RowKit Go.Proofs.Ytanjahakoadecaa.Pa
set_option linter.unusedVariables false
set_option linter.unusedSimpArgs false

theorem CrcTurned (s : ByteArray) (i k : Int) (hs : s.size ≤ 140737488351232) (hi : (Lit.int .i64 i).wf = true) (hk : (Lit.int .i64 k).wf = true) : tallysticklaw14_CrcTurned.f s i k = some true := by
  have h1 := bounds_i64 hi
  have h2 := bounds_i64 hk
  unfold tallysticklaw14_CrcTurned.f
  rw [if_pos ⟨hs, by omega, by omega⟩]
end Go.Proofs.Ytanjahakoadecaa.Pure
