/- Words of the kit's print, out of which this session's program trimw.py took what nothing here uses. -/
import Derived.Test.YtanjahakoadecaaDoorWInv
import Derived.Test.YtanjahakoadecaaDoorWFootNe
namespace Go.Proofs.YtanjahakoadecaaDoorW.PrintWords
open Go.RowKit
end Go.Proofs.YtanjahakoadecaaDoorW.PrintWords
namespace Go.Proofs.YtanjahakoadecaaDoorW.PrintLast
section
variable {ops : Array Oper} {a : Act} {o og : Oper} {g : Nat} {t : Tmp} {u : Bool}
end
end Go.Proofs.YtanjahakoadecaaDoorW.PrintLast
