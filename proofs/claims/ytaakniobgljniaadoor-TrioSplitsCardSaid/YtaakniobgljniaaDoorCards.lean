/-
  DERIVED. GIVEN WITH THE SEED: THE CARDS: each row of YtaakniobgljniaaDoorRows.lean that lists a variable, with what it lists TIED to the program's text (the seventh form; the later family's looks); each row that meets fmt, with fmt's text TOLD by the authors' own Lean function (tested against real Go, not proved from fmt's source: count such statements apart). THE CARD IS WHAT COUNTS. Prove the row's statement (the work); the ties are given (YtaakniobgljniaaDoorTie.lean); close each card by the builder's one call (the guide's Derived/Test/ToyasCard.lean, 'card_holds'). Laid BY PROGRAM, IN A SANDBOX (cutbox-door.mjs). By AI agents, Wed Nov 11 2026. No macro, syntax, notation, axiom, sorry.
-/
import Derived.Test.YtaakniobgljniaaDoorRows
import GoSem.ClaimSeven
namespace Go.Proofs.YtaakniobgljniaaDoor
namespace Rows

/-- THE TIED CARD OF 'tallysticklaw09.TrioTimes'. -/
def trioTimesCard : Claim7 := { stood := { row := trioTimesRow, standIns := [], harness := (true, "d2ead382e670a3328ae28a5cb1a335ae3b4710496004812971abebd93ed07f40"), looks := false }, kinds := [], alts := [], laidByText := true, laidKinds := [.widerDeep], laidTests := true, laidLooks := .later }
def TrioTimesCardSaid : Prop := Claim7.holds Tryd.pinned (.plain (OpenSpec.ofChange trioTimesSpec)) trioTimesCard

/-- THE TIED CARD OF 'tallysticklaw09.TrioLaws'. -/
def trioLawsCard : Claim7 := { stood := { row := trioLawsRow, standIns := [], harness := (true, "d2ead382e670a3328ae28a5cb1a335ae3b4710496004812971abebd93ed07f40"), looks := false }, kinds := [], alts := [], laidByText := true, laidKinds := [.widerDeep], laidTests := true, laidLooks := .later }
def TrioLawsCardSaid : Prop := Claim7.holds Tryd.pinned (.plain (OpenSpec.ofChange trioLawsSpec)) trioLawsCard

/-- THE TIED CARD OF 'tallysticklaw09.TrioSums'. -/
def trioSumsCard : Claim7 := { stood := { row := trioSumsRow, standIns := [], harness := (true, "d2ead382e670a3328ae28a5cb1a335ae3b4710496004812971abebd93ed07f40"), looks := false }, kinds := [], alts := [], laidByText := true, laidKinds := [.widerDeep], laidTests := true, laidLooks := .later }
def TrioSumsCardSaid : Prop := Claim7.holds Tryd.pinned (.plain (OpenSpec.ofChange trioSumsSpec)) trioSumsCard

/-- THE TIED CARD OF 'tallysticklaw09.TrioFew'. -/
def trioFewCard : Claim7 := { stood := { row := trioFewRow, standIns := [], harness := (true, "d2ead382e670a3328ae28a5cb1a335ae3b4710496004812971abebd93ed07f40"), looks := false }, kinds := [], alts := [], laidByText := true, laidKinds := [.widerDeep], laidTests := true, laidLooks := .later }
def TrioFewCardSaid : Prop := Claim7.holds Tryd.pinned (.plain (OpenSpec.ofChange trioFewSpec)) trioFewCard

/-- THE TIED CARD OF 'tallysticklaw09.TrioSplits'. -/
def trioSplitsCard : Claim7 := { stood := { row := trioSplitsRow, standIns := [], harness := (true, "d2ead382e670a3328ae28a5cb1a335ae3b4710496004812971abebd93ed07f40"), looks := false }, kinds := [], alts := [], laidByText := true, laidKinds := [.widerDeep], laidTests := true, laidLooks := .later }
def TrioSplitsCardSaid : Prop := Claim7.holds Tryd.pinned (.plain (OpenSpec.ofChange trioSplitsSpec)) trioSplitsCard

/-- THE TIED CARD OF 'tallysticklaw09.TrioBack'. -/
def trioBackCard : Claim7 := { stood := { row := trioBackRow, standIns := [], harness := (true, "d2ead382e670a3328ae28a5cb1a335ae3b4710496004812971abebd93ed07f40"), looks := false }, kinds := [], alts := [], laidByText := true, laidKinds := [.widerDeep], laidTests := true, laidLooks := .later }
def TrioBackCardSaid : Prop := Claim7.holds Tryd.pinned (.plain (OpenSpec.ofChange trioBackSpec)) trioBackCard

/-- THE TIED CARD OF 'tallysticklaw09.TrioAgrees'. -/
def trioAgreesCard : Claim7 := { stood := { row := trioAgreesRow, standIns := [], harness := (true, "d2ead382e670a3328ae28a5cb1a335ae3b4710496004812971abebd93ed07f40"), looks := false }, kinds := [], alts := [], laidByText := true, laidKinds := [.widerDeep], laidTests := true, laidLooks := .later }
def TrioAgreesCardSaid : Prop := Claim7.holds Tryd.pinned (.plain (OpenSpec.ofChange trioAgreesSpec)) trioAgreesCard

/-- THE SECOND FORM's CARD OF 'tallysticklaw09.TrioTimes'. -/
def trioTimesUptoCard : Claim7 := { stood := { row := trioTimesUptoRow, standIns := [], harness := (true, "d2ead382e670a3328ae28a5cb1a335ae3b4710496004812971abebd93ed07f40"), looks := false }, kinds := [], alts := [], laidByText := true, laidKinds := [.widerDeep], laidTests := true, laidLooks := .later }
def TrioTimesUptoCardSaid : Prop := Claim7.holds Tryd.pinned (.plain (OpenSpec.upto trioTimesSpec)) trioTimesUptoCard

/-- THE SECOND FORM's CARD OF 'tallysticklaw09.TrioLaws'. -/
def trioLawsUptoCard : Claim7 := { stood := { row := trioLawsUptoRow, standIns := [], harness := (true, "d2ead382e670a3328ae28a5cb1a335ae3b4710496004812971abebd93ed07f40"), looks := false }, kinds := [], alts := [], laidByText := true, laidKinds := [.widerDeep], laidTests := true, laidLooks := .later }
def TrioLawsUptoCardSaid : Prop := Claim7.holds Tryd.pinned (.plain (OpenSpec.upto trioLawsSpec)) trioLawsUptoCard

/-- THE SECOND FORM's CARD OF 'tallysticklaw09.TrioSums'. -/
def trioSumsUptoCard : Claim7 := { stood := { row := trioSumsUptoRow, standIns := [], harness := (true, "d2ead382e670a3328ae28a5cb1a335ae3b4710496004812971abebd93ed07f40"), looks := false }, kinds := [], alts := [], laidByText := true, laidKinds := [.widerDeep], laidTests := true, laidLooks := .later }
def TrioSumsUptoCardSaid : Prop := Claim7.holds Tryd.pinned (.plain (OpenSpec.upto trioSumsSpec)) trioSumsUptoCard

/-- THE SECOND FORM's CARD OF 'tallysticklaw09.TrioFew'. -/
def trioFewUptoCard : Claim7 := { stood := { row := trioFewUptoRow, standIns := [], harness := (true, "d2ead382e670a3328ae28a5cb1a335ae3b4710496004812971abebd93ed07f40"), looks := false }, kinds := [], alts := [], laidByText := true, laidKinds := [.widerDeep], laidTests := true, laidLooks := .later }
def TrioFewUptoCardSaid : Prop := Claim7.holds Tryd.pinned (.plain (OpenSpec.upto trioFewSpec)) trioFewUptoCard

/-- THE SECOND FORM's CARD OF 'tallysticklaw09.TrioSplits'. -/
def trioSplitsUptoCard : Claim7 := { stood := { row := trioSplitsUptoRow, standIns := [], harness := (true, "d2ead382e670a3328ae28a5cb1a335ae3b4710496004812971abebd93ed07f40"), looks := false }, kinds := [], alts := [], laidByText := true, laidKinds := [.widerDeep], laidTests := true, laidLooks := .later }
def TrioSplitsUptoCardSaid : Prop := Claim7.holds Tryd.pinned (.plain (OpenSpec.upto trioSplitsSpec)) trioSplitsUptoCard

/-- THE SECOND FORM's CARD OF 'tallysticklaw09.TrioBack'. -/
def trioBackUptoCard : Claim7 := { stood := { row := trioBackUptoRow, standIns := [], harness := (true, "d2ead382e670a3328ae28a5cb1a335ae3b4710496004812971abebd93ed07f40"), looks := false }, kinds := [], alts := [], laidByText := true, laidKinds := [.widerDeep], laidTests := true, laidLooks := .later }
def TrioBackUptoCardSaid : Prop := Claim7.holds Tryd.pinned (.plain (OpenSpec.upto trioBackSpec)) trioBackUptoCard

/-- THE SECOND FORM's CARD OF 'tallysticklaw09.TrioAgrees'. -/
def trioAgreesUptoCard : Claim7 := { stood := { row := trioAgreesUptoRow, standIns := [], harness := (true, "d2ead382e670a3328ae28a5cb1a335ae3b4710496004812971abebd93ed07f40"), looks := false }, kinds := [], alts := [], laidByText := true, laidKinds := [.widerDeep], laidTests := true, laidLooks := .later }
def TrioAgreesUptoCardSaid : Prop := Claim7.holds Tryd.pinned (.plain (OpenSpec.upto trioAgreesSpec)) trioAgreesUptoCard
end Rows
end Go.Proofs.YtaakniobgljniaaDoor
