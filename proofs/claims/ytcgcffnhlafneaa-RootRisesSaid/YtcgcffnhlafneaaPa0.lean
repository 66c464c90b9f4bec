/- Contracts of functions and laws, written by this session's program myprint.py by way of the kit's print. -/
import Derived.Test.YtcgcffnhlafneaaProg
import Derived.Below
import Derived.Deep.Draws
import Derived.Deep.AppendLies
import Derived.Maps.AppendAt
import Derived.OwnWalk
import Derived.Laws.BytesArg
import Derived.Laws.MakeOwn
import Derived.Laws.OwnMore
import Derived.Deep.OwnRows
import Derived.Tactics
import Derived.Lib.ConvBytes
import Derived.Laws.Slices
import Derived.WalkKit
import Derived.KernelRfl
import Derived.RowKit3
import Derived.Deep.LoopGhost
import Derived.Deep.QuietTactic
import Derived.BigQuiet
import Derived.WideLaws
import Derived.Deep.DeepCutAuto
import Derived.Deep.CutBlock
import Derived.Deep.RegionHeld3
import Derived.Laws.Rows
import Derived.Lib.AppendStr
import Derived.ArgAppend
import Derived.Laws.IdiomCopy
import Derived.OrdersHeld
import Derived.Laws.BitsLemmas
import Derived.RowKit
import Derived.Test.YtcgcffnhlafneaaHNatX
import Derived.Test.YtcgcffnhlafneaaHProdE
import Derived.Test.YtcgcffnhlafneaaHBits
import Derived.Test.YtcgcffnhlafneaaHQuotI
import Derived.Test.YtcgcffnhlafneaaHRootB
import Derived.Test.YtcgcffnhlafneaaWWords
import Derived.Test.YtcgcffnhlafneaaWLast
import Derived.Test.YtcgcffnhlafneaaWTab
import Derived.Test.YtcgcffnhlafneaaWFour
import Derived.Test.YtcgcffnhlafneaaWQPut
import Derived.Test.YtcgcffnhlafneaaWApart
import Derived.Test.YtcgcffnhlafneaaWArr
import Derived.Test.YtcgcffnhlafneaaWZeros
import Derived.Test.YtcgcffnhlafneaaWFoot
import Derived.Test.YtcgcffnhlafneaaWKept
import Derived.Test.YtcgcffnhlafneaaWShare
import Derived.Test.YtcgcffnhlafneaaWN
import Derived.Test.YtcgcffnhlafneaaWFootNe
import Derived.Test.YtcgcffnhlafneaaWAt
import Derived.Test.YtcgcffnhlafneaaWEqStruct
import Derived.Test.YtcgcffnhlafneaaWRepsOne
import Derived.Test.YtcgcffnhlafneaaWInv
import Derived.Test.YtcgcffnhlafneaaWInvWords
import Derived.Test.YtcgcffnhlafneaaWGuard
import Derived.Test.YtcgcffnhlafneaaWNEv
import Derived.Test.YtcgcffnhlafneaaWMore
namespace Go.Proofs.Ytcgcffnhlafneaa.Pa
open Go.RowKit Go.Proofs.Ytcgcffnhlafneaa.Hand Go.Proofs.YtcgcffnhlafneaaW.PrintWords Go.Proofs.YtcgcffnhlafneaaW.PrintLast Go.Proofs.YtcgcffnhlafneaaW.PrintMore
attribute [local go_sem] max2_int min2_int max_two min_two max_three min_three max_four min_four   -- for this text's walks alone
set_option linter.unusedVariables false
set_option linter.unusedSimpArgs false



def errW : Option Int → Value
  | none => .nilIface
  | some c => .iface 0 (.int .i64 c)
theorem errW_none : errW none = .nilIface := rfl
theorem errW_some (c : Int) : errW (some c) = .iface 0 (.int .i64 c) := rfl

theorem info3 : (Try.prog.info? 3).map (fun i => (i.zero, i.size, i.bytes)) = some (some (.int .i64 0), 1, 8) := by kernel_rfl
theorem info39 : (Try.prog.info? 39).map (fun i => (i.zero, i.size, i.bytes)) = some (some (.int .u64 0), 1, 8) := by kernel_rfl
-- the values' own types

end Go.Proofs.Ytcgcffnhlafneaa.Pa
