/- Contracts of functions and laws, written by this session's program myprint.py by way of the kit's print. -/
import Derived.Test.YtnmfinhmhmepdaaProg
import Derived.Below
import Derived.Deep.Draws
import Derived.Deep.AppendLies
import Derived.Maps.AppendAt
import Derived.OwnWalk
import Derived.Laws.BytesArg
import Derived.Laws.MakeOwn
import Derived.Laws.OwnMore
import Derived.Deep.OwnRows
import Derived.Tactics
import Derived.Lib.ConvBytes
import Derived.Laws.Slices
import Derived.WalkKit
import Derived.KernelRfl
import Derived.RowKit3
import Derived.Deep.LoopGhost
import Derived.Deep.QuietTactic
import Derived.BigQuiet
import Derived.WideLaws
import Derived.Deep.DeepCutAuto
import Derived.Deep.CutBlock
import Derived.Deep.RegionHeld3
import Derived.Laws.Rows
import Derived.Lib.AppendStr
import Derived.ArgAppend
import Derived.Laws.IdiomCopy
import Derived.OrdersHeld
import Derived.Laws.BitsLemmas
import Derived.RowKit
import Derived.Test.YtnmfinhmhmepdaaHBits
import Derived.Test.YtnmfinhmhmepdaaWWords
import Derived.Test.YtnmfinhmhmepdaaWLast
import Derived.Test.YtnmfinhmhmepdaaWTab
import Derived.Test.YtnmfinhmhmepdaaWFour
import Derived.Test.YtnmfinhmhmepdaaWQPut
import Derived.Test.YtnmfinhmhmepdaaWApart
import Derived.Test.YtnmfinhmhmepdaaWArr
import Derived.Test.YtnmfinhmhmepdaaWZeros
import Derived.Test.YtnmfinhmhmepdaaWFoot
import Derived.Test.YtnmfinhmhmepdaaWKept
import Derived.Test.YtnmfinhmhmepdaaWShare
import Derived.Test.YtnmfinhmhmepdaaWN
import Derived.Test.YtnmfinhmhmepdaaWFootNe
import Derived.Test.YtnmfinhmhmepdaaWAt
import Derived.Test.YtnmfinhmhmepdaaWEqStruct
import Derived.Test.YtnmfinhmhmepdaaWRepsOne
import Derived.Test.YtnmfinhmhmepdaaWInv
import Derived.Test.YtnmfinhmhmepdaaWInvWords
import Derived.Test.YtnmfinhmhmepdaaWGuard
import Derived.Test.YtnmfinhmhmepdaaWNEv
import Derived.Test.YtnmfinhmhmepdaaWMore
namespace Go.Proofs.Ytnmfinhmhmepdaa.Pa
open Go.RowKit Go.Proofs.Ytnmfinhmhmepdaa.Hand Go.Proofs.YtnmfinhmhmepdaaW.PrintWords Go.Proofs.YtnmfinhmhmepdaaW.PrintLast Go.Proofs.YtnmfinhmhmepdaaW.PrintMore
attribute [local go_sem] max2_int min2_int max_two min_two max_three min_three max_four min_four   -- for this text's walks alone
set_option linter.unusedVariables false
set_option linter.unusedSimpArgs false



def errW : Option Int → Value
  | none => .nilIface
  | some c => .iface 0 (.int .i64 c)
theorem errW_none : errW none = .nilIface := rfl
theorem errW_some (c : Int) : errW (some c) = .iface 0 (.int .i64 c) := rfl

-- the values' own types

end Go.Proofs.Ytnmfinhmhmepdaa.Pa
