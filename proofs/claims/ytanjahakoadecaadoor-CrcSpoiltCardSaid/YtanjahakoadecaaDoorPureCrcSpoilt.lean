/- CrcSpoilt: the walk itself answers true (see the text of its contract). -/
import Derived.Test.YtanjahakoadecaaDoorPb7
import Derived.OpenShut
namespace Go.Proofs.YtanjahakoadecaaDoor.Pure
open Go.RowKit Go.Proofs.YtanjahakoadecaaDoor.Pb Go.Proofs.YtanjahakoadecaaDoor.Hand Go.Proofs.YtanjahakoadecaaDoor.Num
set_option linter.unusedVariables false
set_option linter.unusedSimpArgs false

theorem inB_wf {l : List Int} (h : ∀ x ∈ l, (Lit.int .u64 x).wf = true) : inb l = true := inb_iff.2 fun x hx => by
  have h1 := bounds_u64 (h x hx)
  rw [W_eq]
  omega
theorem CrcSpoilt (a0 a1 a2 a3 a4 : Int) (p q r : List Int) (mi : Bool) (i kk : Int) (_ : (Lit.int .i64 a0).wf = true) (_ : (Lit.int .i64 a1).wf = true) (_ : (Lit.int .i64 a2).wf = true) (_ : (Lit.int .i64 a3).wf = true) (_ : (Lit.int .i64 a4).wf = true)
    (_ : p.length ≤ maxLen) (hp : ∀ x ∈ p, (Lit.int .u64 x).wf = true) (_ : q.length ≤ maxLen) (hq : ∀ x ∈ q, (Lit.int .u64 x).wf = true) (_ : r.length ≤ maxLen) (hr : ∀ x ∈ r, (Lit.int .u64 x).wf = true) (_ : (Lit.int .i64 i).wf = true) (_ : (Lit.int .i64 kk).wf = true) : tallysticklaw14_CrcSpoilt.f a0 a1 a2 a3 a4 p q r mi i kk = some true := by
  unfold tallysticklaw14_CrcSpoilt.f
  rw [if_pos ⟨inB_wf hp, inB_wf hq, inB_wf hr⟩]
end Go.Proofs.YtanjahakoadecaaDoor.Pure
