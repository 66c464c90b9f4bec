/- A row's length under another name: what the printed texts with 'append(a, b...)' use. (It stands in XHNatX too: lay this one only where that one isn't.) -/
import Derived.Test.YtaakniobgljniaaDoorProg
import Derived.Test.YtaakniobgljniaaDoorWMore
namespace Go.Proofs.YtaakniobgljniaaDoor.Hand
open Go.RowKit Go.Proofs.YtaakniobgljniaaDoorW.PrintWords Go.Proofs.YtaakniobgljniaaDoorW.PrintMore
theorem readsRow_len {α : Type} {R : α → List Value → Prop} {size : Nat} {w : World} {A : Option Addr} {n m : Nat} {ps : List α} (h : n = m) (hr : ReadsRow R size w A n ps) : ReadsRow R size w A m ps := h ▸ hr
end Go.Proofs.YtaakniobgljniaaDoor.Hand
