/- Contracts of functions and laws, written by this session's program myprint.py by way of the kit's print. -/
import Derived.Test.YtmanafcncccidaaProg
import Derived.Below
import Derived.Deep.Draws
import Derived.Deep.AppendLies
import Derived.Maps.AppendAt
import Derived.OwnWalk
import Derived.Laws.BytesArg
import Derived.Laws.MakeOwn
import Derived.Laws.OwnMore
import Derived.Deep.OwnRows
import Derived.Tactics
import Derived.Lib.ConvBytes
import Derived.Laws.Slices
import Derived.WalkKit
import Derived.KernelRfl
import Derived.RowKit3
import Derived.Deep.LoopGhost
import Derived.Deep.QuietTactic
import Derived.BigQuiet
import Derived.WideLaws
import Derived.Deep.DeepCutAuto
import Derived.Deep.CutBlock
import Derived.Deep.RegionHeld3
import Derived.Laws.Rows
import Derived.Lib.AppendStr
import Derived.ArgAppend
import Derived.Laws.IdiomCopy
import Derived.OrdersHeld
import Derived.Laws.BitsLemmas
import Derived.RowKit
import Derived.Test.YtmanafcncccidaaHNatX
import Derived.Test.YtmanafcncccidaaWWords
import Derived.Test.YtmanafcncccidaaWLast
import Derived.Test.YtmanafcncccidaaWTab
import Derived.Test.YtmanafcncccidaaWFour
import Derived.Test.YtmanafcncccidaaWQPut
import Derived.Test.YtmanafcncccidaaWApart
import Derived.Test.YtmanafcncccidaaWArr
import Derived.Test.YtmanafcncccidaaWZeros
import Derived.Test.YtmanafcncccidaaWFoot
import Derived.Test.YtmanafcncccidaaWKept
import Derived.Test.YtmanafcncccidaaWShare
import Derived.Test.YtmanafcncccidaaWN
import Derived.Test.YtmanafcncccidaaWFootNe
import Derived.Test.YtmanafcncccidaaWAt
import Derived.Test.YtmanafcncccidaaWEqStruct
import Derived.Test.YtmanafcncccidaaWRepsOne
import Derived.Test.YtmanafcncccidaaWInv
import Derived.Test.YtmanafcncccidaaWInvWords
import Derived.Test.YtmanafcncccidaaWGuard
import Derived.Test.YtmanafcncccidaaWNEv
import Derived.Test.YtmanafcncccidaaWMore
namespace Go.Proofs.Ytmanafcncccidaa.Pa
open Go.RowKit Go.Proofs.Ytmanafcncccidaa.Hand Go.Proofs.YtmanafcncccidaaW.PrintWords Go.Proofs.YtmanafcncccidaaW.PrintLast Go.Proofs.YtmanafcncccidaaW.PrintMore
attribute [local go_sem] max2_int min2_int max_two min_two max_three min_three max_four min_four   -- for this text's walks alone
set_option linter.unusedVariables false
set_option linter.unusedSimpArgs false



def errW : Option Int → Value
  | none => .nilIface
  | some c => .iface 0 (.int .i64 c)
theorem errW_none : errW none = .nilIface := rfl
theorem errW_some (c : Int) : errW (some c) = .iface 0 (.int .i64 c) := rfl

theorem info3 : (Try.prog.info? 3).map (fun i => (i.zero, i.size, i.bytes)) = some (some (.int .i64 0), 1, 8) := by kernel_rfl
theorem info40 : (Try.prog.info? 40).map (fun i => (i.zero, i.size, i.bytes)) = some (some (.int .u64 0), 1, 8) := by kernel_rfl
-- the values' own types

end Go.Proofs.Ytmanafcncccidaa.Pa
