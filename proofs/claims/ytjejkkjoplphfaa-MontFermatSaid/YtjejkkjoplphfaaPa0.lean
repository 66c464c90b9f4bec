/- Contracts of functions and laws, written by this session's program myprint.py by way of the kit's print. -/
import Derived.Test.YtjejkkjoplphfaaProg
import Derived.Below
import Derived.Deep.Draws
import Derived.Deep.AppendLies
import Derived.Maps.AppendAt
import Derived.OwnWalk
import Derived.Laws.BytesArg
import Derived.Laws.MakeOwn
import Derived.Laws.OwnMore
import Derived.Deep.OwnRows
import Derived.Tactics
import Derived.Lib.ConvBytes
import Derived.Laws.Slices
import Derived.WalkKit
import Derived.KernelRfl
import Derived.RowKit3
import Derived.Deep.LoopGhost
import Derived.Deep.QuietTactic
import Derived.BigQuiet
import Derived.WideLaws
import Derived.Deep.DeepCutAuto
import Derived.Deep.CutBlock
import Derived.Deep.RegionHeld3
import Derived.Laws.Rows
import Derived.Lib.AppendStr
import Derived.ArgAppend
import Derived.Laws.IdiomCopy
import Derived.OrdersHeld
import Derived.Laws.BitsLemmas
import Derived.RowKit
import Derived.Test.YtjejkkjoplphfaaHMake
import Derived.Test.YtjejkkjoplphfaaWWords
import Derived.Test.YtjejkkjoplphfaaWLast
import Derived.Test.YtjejkkjoplphfaaWTab
import Derived.Test.YtjejkkjoplphfaaWFour
import Derived.Test.YtjejkkjoplphfaaWQPut
import Derived.Test.YtjejkkjoplphfaaWApart
import Derived.Test.YtjejkkjoplphfaaWArr
import Derived.Test.YtjejkkjoplphfaaWZeros
import Derived.Test.YtjejkkjoplphfaaWFoot
import Derived.Test.YtjejkkjoplphfaaWKept
import Derived.Test.YtjejkkjoplphfaaWShare
import Derived.Test.YtjejkkjoplphfaaWN
import Derived.Test.YtjejkkjoplphfaaWFootNe
import Derived.Test.YtjejkkjoplphfaaWAt
import Derived.Test.YtjejkkjoplphfaaWEqStruct
import Derived.Test.YtjejkkjoplphfaaWRepsOne
import Derived.Test.YtjejkkjoplphfaaWInv
import Derived.Test.YtjejkkjoplphfaaWInvWords
import Derived.Test.YtjejkkjoplphfaaWGuard
import Derived.Test.YtjejkkjoplphfaaWNEv
import Derived.Test.YtjejkkjoplphfaaWMore
namespace Go.Proofs.Ytjejkkjoplphfaa.Pa
open Go.RowKit Go.Proofs.Ytjejkkjoplphfaa.Hand Go.Proofs.YtjejkkjoplphfaaW.PrintWords Go.Proofs.YtjejkkjoplphfaaW.PrintLast Go.Proofs.YtjejkkjoplphfaaW.PrintMore
attribute [local go_sem] max2_int min2_int max_two min_two max_three min_three max_four min_four   -- for this text's walks alone
set_option linter.unusedVariables false
set_option linter.unusedSimpArgs false



def errW : Option Int → Value
  | none => .nilIface
  | some c => .iface 0 (.int .i64 c)
theorem errW_none : errW none = .nilIface := rfl
theorem errW_some (c : Int) : errW (some c) = .iface 0 (.int .i64 c) := rfl

-- the values' own types

end Go.Proofs.Ytjejkkjoplphfaa.Pa
