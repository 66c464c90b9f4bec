/- Words of the kit's print, out of which this session's program trimw.py took what nothing here uses. -/
import Derived.Test.YtaakniobgljniaaDoorWInv
import Derived.Test.YtaakniobgljniaaDoorWFootNe
namespace Go.Proofs.YtaakniobgljniaaDoorW.PrintWords
open Go.RowKit
end Go.Proofs.YtaakniobgljniaaDoorW.PrintWords
namespace Go.Proofs.YtaakniobgljniaaDoorW.PrintLast
section
variable {ops : Array Oper} {a : Act} {o og : Oper} {g : Nat} {t : Tmp} {u : Bool}
end
end Go.Proofs.YtaakniobgljniaaDoorW.PrintLast
