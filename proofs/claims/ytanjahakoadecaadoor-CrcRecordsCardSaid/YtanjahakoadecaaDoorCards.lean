/-
  DERIVED. GIVEN WITH THE SEED: THE CARDS: each row of YtanjahakoadecaaDoorRows.lean that lists a variable, with what it lists TIED to the program's text (the seventh form; the later family's looks); each row that meets fmt, with fmt's text TOLD by the authors' own Lean function (tested against real Go, not proved from fmt's source: count such statements apart). THE CARD IS WHAT COUNTS. Prove the row's statement (the work); the ties are given (YtanjahakoadecaaDoorTie.lean); close each card by the builder's one call (the guide's Derived/Test/ToyasCard.lean, 'card_holds'). Laid BY PROGRAM, IN A SANDBOX (cutbox-door.mjs). By AI agents, Wed Nov 11 2026. No macro, syntax, notation, axiom, sorry.
-/
import Derived.Test.YtanjahakoadecaaDoorRows
import GoSem.ClaimSeven
namespace Go.Proofs.YtanjahakoadecaaDoor
namespace Rows

/-- THE TIED CARD OF 'tallysticklaw14.CrcOthers'. -/
def crcOthersCard : Claim7 := { stood := { row := crcOthersRow, standIns := [], harness := (true, "8e619aa83a58ce4e695ad28cad36a40ff0e5e92026027d171ba4e6bafca84b2d"), looks := true }, kinds := [], alts := [], laidByText := true, laidKinds := [.handle], laidTests := true, laidLooks := .later }
def CrcOthersCardSaid : Prop := Claim7.holds Tryd.pinned (.plain (OpenSpec.ofChange crcOthersSpec)) crcOthersCard

/-- THE TIED CARD OF 'tallysticklaw14.CrcSpoilt'. -/
def crcSpoiltCard : Claim7 := { stood := { row := crcSpoiltRow, standIns := [], harness := (true, "8e619aa83a58ce4e695ad28cad36a40ff0e5e92026027d171ba4e6bafca84b2d"), looks := true }, kinds := [], alts := [], laidByText := true, laidKinds := [.handle], laidTests := true, laidLooks := .later }
def CrcSpoiltCardSaid : Prop := Claim7.holds Tryd.pinned (.plain (OpenSpec.ofChange crcSpoiltSpec)) crcSpoiltCard

/-- THE TIED CARD OF 'tallysticklaw14.CrcCut'. -/
def crcCutCard : Claim7 := { stood := { row := crcCutRow, standIns := [], harness := (true, "8e619aa83a58ce4e695ad28cad36a40ff0e5e92026027d171ba4e6bafca84b2d"), looks := true }, kinds := [], alts := [], laidByText := true, laidKinds := [.handle], laidTests := true, laidLooks := .later }
def CrcCutCardSaid : Prop := Claim7.holds Tryd.pinned (.plain (OpenSpec.ofChange crcCutSpec)) crcCutCard

/-- THE TIED CARD OF 'tallysticklaw14.CrcRecords'. -/
def crcRecordsCard : Claim7 := { stood := { row := crcRecordsRow, standIns := [], harness := (true, "8e619aa83a58ce4e695ad28cad36a40ff0e5e92026027d171ba4e6bafca84b2d"), looks := true }, kinds := [], alts := [], laidByText := true, laidKinds := [.handle], laidTests := true, laidLooks := .later }
def CrcRecordsCardSaid : Prop := Claim7.holds Tryd.pinned (.plain (OpenSpec.ofChange crcRecordsSpec)) crcRecordsCard

/-- THE TIED CARD OF 'tallysticklaw14.CrcBack'. -/
def crcBackCard : Claim7 := { stood := { row := crcBackRow, standIns := [], harness := (true, "8e619aa83a58ce4e695ad28cad36a40ff0e5e92026027d171ba4e6bafca84b2d"), looks := true }, kinds := [], alts := [], laidByText := true, laidKinds := [.handle], laidTests := true, laidLooks := .later }
def CrcBackCardSaid : Prop := Claim7.holds Tryd.pinned (.plain (OpenSpec.ofChange crcBackSpec)) crcBackCard

/-- THE SECOND FORM's CARD OF 'tallysticklaw14.CrcOthers'. -/
def crcOthersUptoCard : Claim7 := { stood := { row := crcOthersUptoRow, standIns := [], harness := (true, "8e619aa83a58ce4e695ad28cad36a40ff0e5e92026027d171ba4e6bafca84b2d"), looks := true }, kinds := [], alts := [], laidByText := true, laidKinds := [.handle], laidTests := true, laidLooks := .later }
def CrcOthersUptoCardSaid : Prop := Claim7.holds Tryd.pinned (.plain (OpenSpec.upto crcOthersSpec)) crcOthersUptoCard

/-- THE SECOND FORM's CARD OF 'tallysticklaw14.CrcSpoilt'. -/
def crcSpoiltUptoCard : Claim7 := { stood := { row := crcSpoiltUptoRow, standIns := [], harness := (true, "8e619aa83a58ce4e695ad28cad36a40ff0e5e92026027d171ba4e6bafca84b2d"), looks := true }, kinds := [], alts := [], laidByText := true, laidKinds := [.handle], laidTests := true, laidLooks := .later }
def CrcSpoiltUptoCardSaid : Prop := Claim7.holds Tryd.pinned (.plain (OpenSpec.upto crcSpoiltSpec)) crcSpoiltUptoCard

/-- THE SECOND FORM's CARD OF 'tallysticklaw14.CrcCut'. -/
def crcCutUptoCard : Claim7 := { stood := { row := crcCutUptoRow, standIns := [], harness := (true, "8e619aa83a58ce4e695ad28cad36a40ff0e5e92026027d171ba4e6bafca84b2d"), looks := true }, kinds := [], alts := [], laidByText := true, laidKinds := [.handle], laidTests := true, laidLooks := .later }
def CrcCutUptoCardSaid : Prop := Claim7.holds Tryd.pinned (.plain (OpenSpec.upto crcCutSpec)) crcCutUptoCard

/-- THE SECOND FORM's CARD OF 'tallysticklaw14.CrcRecords'. -/
def crcRecordsUptoCard : Claim7 := { stood := { row := crcRecordsUptoRow, standIns := [], harness := (true, "8e619aa83a58ce4e695ad28cad36a40ff0e5e92026027d171ba4e6bafca84b2d"), looks := true }, kinds := [], alts := [], laidByText := true, laidKinds := [.handle], laidTests := true, laidLooks := .later }
def CrcRecordsUptoCardSaid : Prop := Claim7.holds Tryd.pinned (.plain (OpenSpec.upto crcRecordsSpec)) crcRecordsUptoCard

/-- THE SECOND FORM's CARD OF 'tallysticklaw14.CrcBack'. -/
def crcBackUptoCard : Claim7 := { stood := { row := crcBackUptoRow, standIns := [], harness := (true, "8e619aa83a58ce4e695ad28cad36a40ff0e5e92026027d171ba4e6bafca84b2d"), looks := true }, kinds := [], alts := [], laidByText := true, laidKinds := [.handle], laidTests := true, laidLooks := .later }
def CrcBackUptoCardSaid : Prop := Claim7.holds Tryd.pinned (.plain (OpenSpec.upto crcBackSpec)) crcBackUptoCard
end Rows
end Go.Proofs.YtanjahakoadecaaDoor
