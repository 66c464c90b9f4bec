/-
  NARROWER THAN 'FOR EVERY INPUT', by the rows' own cells (each row's printed sentence says how): CrcOthers: laid · CrcSpoilt: laid · CrcCut: laid · CrcRecords: laid · CrcBack: laid.
  DERIVED. THE GIVEN ROWS OF THIS SEAT. 5 by the template 'for every input the law returns true; each argument reads behind the call as it read before'; 0 by the template 'total and deterministic' (their statements: YtanjahakoadecaaDoorTotals.lean).
  GIVEN WITH THE SEED: the statements are not yours to turn. If you find one false, say at which input.
  Laid BY PROGRAM, IN A SANDBOX (cutbox-rows.mjs): the forced cells as the released guide's own fill.sh prints them over the translation 700232b8f2c87a58… (all of the seat's roots in one cut). By AI agents, Wed Nov 11 2026. No macro, syntax, notation, axiom, sorry.
-/
import Derived.Test.YtanjahakoadecaaDoorChecked
import GoSem.Claim
import GoSem.ClaimJoined
import GoSem.ClaimMapViews
import Derived.JoinedTies
import Derived.KernelRfl
namespace Go.Proofs.YtanjahakoadecaaDoor
/- THE CELL 'sum', in the pinned program and in every row, IS THE sha256 OF THE DUMP (.gsa) THAT YtanjahakoadecaaDoorProg.lean LOADS. Nothing in Lean hashes anything: it is a label: what it is worth is what the hold of that sum in a sandbox is worth. -/
noncomputable def Tryd.pinned : Pinned := { name := "ytanjahakoadecaadoor", sum := "700232b8f2c87a58154e6fbd93b61e26de1e1511d932c880d5a36725e7dd284b", checked := Tryd.checked }
namespace Rows
def none {H : Type} : Left H := { results := [], args := [] }

/- WHAT THE LISTED PACKAGE-LEVEL VARIABLES READ AS WHEN THE CALL BEGINS. Each datum BY PROGRAM (the guide's laid-datum.mjs) off the statement by which the dump's own 'gosem.cut.vars' lays the variable. In a bare row this is a premise. The card (YtanjahakoadecaaDoorCards.lean) ties it to the program's text. -/
def laid_errors_errorType {H : Type} : DataW H := .iface "internal/reflectlite.rtype" (.agg [.ptr (.lit (.string [101, 114, 114, 111, 114]))])

/-- 'tallysticklaw14.CrcOthers': WHATEVER THE INPUT: true; the input reads as it did. -/
def crcOthersSpec : ChangeSpec := { name := "crcOthers", fn := fun _ => fun
  | [d1, d2, d3] => { results := [.lit (.bool true)], args := [d1, d2, d3] }
  | _ => none }
def crcOthersRow : OpenClaim := { program := "ytanjahakoadecaadoor", sum := "700232b8f2c87a58154e6fbd93b61e26de1e1511d932c880d5a36725e7dd284b", func := "tallystick/tallysticklaw14.CrcOthers", spec := "crcOthers", inPlace := ["internal/reflectlite.ValueOf", "(internal/reflectlite.Value).Type", "(internal/reflectlite.Value).IsNil", "internal/reflectlite.TypeOf", "(internal/reflectlite.Value).Elem", "(internal/reflectlite.Value).Set"], unfollowed := true, recurses := true, named := ["errors.errorType"], apart := false, laid := [("errors.errorType", laid_errors_errorType)] }
def CrcOthersSaid : Prop := crcOthersRow.holds Tryd.pinned (OpenSpec.ofChange crcOthersSpec)

/-- ITS FALSE NEIGHBOUR: 'it returns false'. Refute it at one input. -/
def crcOthersWrong : ChangeSpec := { name := "crcOthers", fn := fun _ => fun
  | [d1, d2, d3] => { results := [.lit (.bool false)], args := [d1, d2, d3] }
  | _ => none }
def CrcOthersWrongFalsely : Prop := crcOthersRow.holds Tryd.pinned (OpenSpec.ofChange crcOthersWrong)

/-- 'tallysticklaw14.CrcSpoilt': WHATEVER THE INPUT: true; the input reads as it did. -/
def crcSpoiltSpec : ChangeSpec := { name := "crcSpoilt", fn := fun _ => fun
  | [d1, d2, d3] => { results := [.lit (.bool true)], args := [d1, d2, d3] }
  | _ => none }
def crcSpoiltRow : OpenClaim := { program := "ytanjahakoadecaadoor", sum := "700232b8f2c87a58154e6fbd93b61e26de1e1511d932c880d5a36725e7dd284b", func := "tallystick/tallysticklaw14.CrcSpoilt", spec := "crcSpoilt", inPlace := ["internal/reflectlite.ValueOf", "(internal/reflectlite.Value).Type", "(internal/reflectlite.Value).IsNil", "internal/reflectlite.TypeOf", "(internal/reflectlite.Value).Elem", "(internal/reflectlite.Value).Set"], unfollowed := true, recurses := true, named := ["errors.errorType"], apart := false, laid := [("errors.errorType", laid_errors_errorType)] }
def CrcSpoiltSaid : Prop := crcSpoiltRow.holds Tryd.pinned (OpenSpec.ofChange crcSpoiltSpec)

/-- ITS FALSE NEIGHBOUR: 'it returns false'. Refute it at one input. -/
def crcSpoiltWrong : ChangeSpec := { name := "crcSpoilt", fn := fun _ => fun
  | [d1, d2, d3] => { results := [.lit (.bool false)], args := [d1, d2, d3] }
  | _ => none }
def CrcSpoiltWrongFalsely : Prop := crcSpoiltRow.holds Tryd.pinned (OpenSpec.ofChange crcSpoiltWrong)

/-- 'tallysticklaw14.CrcCut': WHATEVER THE INPUT: true; the input reads as it did. -/
def crcCutSpec : ChangeSpec := { name := "crcCut", fn := fun _ => fun
  | [d1, d2, d3] => { results := [.lit (.bool true)], args := [d1, d2, d3] }
  | _ => none }
def crcCutRow : OpenClaim := { program := "ytanjahakoadecaadoor", sum := "700232b8f2c87a58154e6fbd93b61e26de1e1511d932c880d5a36725e7dd284b", func := "tallystick/tallysticklaw14.CrcCut", spec := "crcCut", inPlace := ["internal/reflectlite.ValueOf", "(internal/reflectlite.Value).Type", "(internal/reflectlite.Value).IsNil", "internal/reflectlite.TypeOf", "(internal/reflectlite.Value).Elem", "(internal/reflectlite.Value).Set"], unfollowed := true, recurses := true, named := ["errors.errorType"], apart := false, laid := [("errors.errorType", laid_errors_errorType)] }
def CrcCutSaid : Prop := crcCutRow.holds Tryd.pinned (OpenSpec.ofChange crcCutSpec)

/-- ITS FALSE NEIGHBOUR: 'it returns false'. Refute it at one input. -/
def crcCutWrong : ChangeSpec := { name := "crcCut", fn := fun _ => fun
  | [d1, d2, d3] => { results := [.lit (.bool false)], args := [d1, d2, d3] }
  | _ => none }
def CrcCutWrongFalsely : Prop := crcCutRow.holds Tryd.pinned (OpenSpec.ofChange crcCutWrong)

/-- 'tallysticklaw14.CrcRecords': WHATEVER THE INPUT: true; the input reads as it did. -/
def crcRecordsSpec : ChangeSpec := { name := "crcRecords", fn := fun _ => fun
  | [d] => { results := [.lit (.bool true)], args := [d] }
  | _ => none }
def crcRecordsRow : OpenClaim := { program := "ytanjahakoadecaadoor", sum := "700232b8f2c87a58154e6fbd93b61e26de1e1511d932c880d5a36725e7dd284b", func := "tallystick/tallysticklaw14.CrcRecords", spec := "crcRecords", inPlace := ["internal/reflectlite.ValueOf", "(internal/reflectlite.Value).Type", "(internal/reflectlite.Value).IsNil", "internal/reflectlite.TypeOf", "(internal/reflectlite.Value).Elem", "(internal/reflectlite.Value).Set"], unfollowed := true, recurses := true, named := ["errors.errorType"], apart := false, laid := [("errors.errorType", laid_errors_errorType)] }
def CrcRecordsSaid : Prop := crcRecordsRow.holds Tryd.pinned (OpenSpec.ofChange crcRecordsSpec)

/-- ITS FALSE NEIGHBOUR: 'it returns false'. Refute it at one input. -/
def crcRecordsWrong : ChangeSpec := { name := "crcRecords", fn := fun _ => fun
  | [d] => { results := [.lit (.bool false)], args := [d] }
  | _ => none }
def CrcRecordsWrongFalsely : Prop := crcRecordsRow.holds Tryd.pinned (OpenSpec.ofChange crcRecordsWrong)

/-- 'tallysticklaw14.CrcBack': WHATEVER THE INPUT: true; the input reads as it did. -/
def crcBackSpec : ChangeSpec := { name := "crcBack", fn := fun _ => fun
  | [d1, d2, d3] => { results := [.lit (.bool true)], args := [d1, d2, d3] }
  | _ => none }
def crcBackRow : OpenClaim := { program := "ytanjahakoadecaadoor", sum := "700232b8f2c87a58154e6fbd93b61e26de1e1511d932c880d5a36725e7dd284b", func := "tallystick/tallysticklaw14.CrcBack", spec := "crcBack", inPlace := ["internal/reflectlite.ValueOf", "(internal/reflectlite.Value).Type", "(internal/reflectlite.Value).IsNil", "internal/reflectlite.TypeOf", "(internal/reflectlite.Value).Elem", "(internal/reflectlite.Value).Set"], unfollowed := true, recurses := true, named := ["errors.errorType"], apart := false, laid := [("errors.errorType", laid_errors_errorType)] }
def CrcBackSaid : Prop := crcBackRow.holds Tryd.pinned (OpenSpec.ofChange crcBackSpec)

/-- ITS FALSE NEIGHBOUR: 'it returns false'. Refute it at one input. -/
def crcBackWrong : ChangeSpec := { name := "crcBack", fn := fun _ => fun
  | [d1, d2, d3] => { results := [.lit (.bool false)], args := [d1, d2, d3] }
  | _ => none }
def CrcBackWrongFalsely : Prop := crcBackRow.holds Tryd.pinned (OpenSpec.ofChange crcBackWrong)

/- THE SECOND FORM. 'bulk': how many values and letters a reading holds, each counted each time it is reached (what is shared counts as often as it is met; a slice's spare places count too). A statement '..UptoSaid' is the law's where the arguments, and the package variables that the reading takes, are together of bulk at most 1048576: NARROWER than '..Said'. Prove '..Said' where nothing that the law and all that it calls make is longer than what came in: it says more and counts as full. Else prove '..UptoSaid'. A law counts once. -/
mutual
def uptoBulk {H : Type} : DataW H → Nat
  | .lit (.string bytes) => bytes.length + 1
  | .lit _ => 1
  | .nil => 1
  | .ptr d => uptoBulk d + 1
  | .slice elems spare => uptoBulkAll elems + uptoBulkAll spare + 1
  | .agg parts => uptoBulkAll parts + 1
  | .iface _ d => uptoBulk d + 1
  | .map entries => uptoBulkEntries entries + 1
  | .held _ => 1
def uptoBulkAll {H : Type} : List (DataW H) → Nat
  | [] => 0
  | d :: r => uptoBulk d + uptoBulkAll r
def uptoBulkEntries {H : Type} : List (Lit × DataW H) → Nat
  | [] => 0
  | x :: r => uptoBulkEntry x + uptoBulkEntries r
def uptoBulkEntry {H : Type} : Lit × DataW H → Nat
  | (.string bytes, d) => bytes.length + uptoBulk d + 1
  | (_, d) => uptoBulk d + 1
 end
def uptoSmall : (H : Type) → List (DataW H) → Bool := fun _ ds => decide (uptoBulkAll ds ≤ 1048576)
def OpenSpec.upto (s : _root_.Go.ChangeSpec) : _root_.Go.OpenSpec := { _root_.Go.OpenSpec.ofChange s with cond := some uptoSmall }

/-- 'tallysticklaw14.CrcOthers', WHERE WHAT IT READS IS OF BULK AT MOST 1048576: true; the input reads as it did. -/
def crcOthersUptoRow : OpenClaim := { program := "ytanjahakoadecaadoor", sum := "700232b8f2c87a58154e6fbd93b61e26de1e1511d932c880d5a36725e7dd284b", func := "tallystick/tallysticklaw14.CrcOthers", spec := "crcOthers", inPlace := ["internal/reflectlite.ValueOf", "(internal/reflectlite.Value).Type", "(internal/reflectlite.Value).IsNil", "internal/reflectlite.TypeOf", "(internal/reflectlite.Value).Elem", "(internal/reflectlite.Value).Set"], unfollowed := true, recurses := true, named := ["errors.errorType"], apart := false, laid := [("errors.errorType", laid_errors_errorType)], narrowed := true }
def CrcOthersUptoSaid : Prop := crcOthersUptoRow.holds Tryd.pinned (OpenSpec.upto crcOthersSpec)

/-- 'tallysticklaw14.CrcSpoilt', WHERE WHAT IT READS IS OF BULK AT MOST 1048576: true; the input reads as it did. -/
def crcSpoiltUptoRow : OpenClaim := { program := "ytanjahakoadecaadoor", sum := "700232b8f2c87a58154e6fbd93b61e26de1e1511d932c880d5a36725e7dd284b", func := "tallystick/tallysticklaw14.CrcSpoilt", spec := "crcSpoilt", inPlace := ["internal/reflectlite.ValueOf", "(internal/reflectlite.Value).Type", "(internal/reflectlite.Value).IsNil", "internal/reflectlite.TypeOf", "(internal/reflectlite.Value).Elem", "(internal/reflectlite.Value).Set"], unfollowed := true, recurses := true, named := ["errors.errorType"], apart := false, laid := [("errors.errorType", laid_errors_errorType)], narrowed := true }
def CrcSpoiltUptoSaid : Prop := crcSpoiltUptoRow.holds Tryd.pinned (OpenSpec.upto crcSpoiltSpec)

/-- 'tallysticklaw14.CrcCut', WHERE WHAT IT READS IS OF BULK AT MOST 1048576: true; the input reads as it did. -/
def crcCutUptoRow : OpenClaim := { program := "ytanjahakoadecaadoor", sum := "700232b8f2c87a58154e6fbd93b61e26de1e1511d932c880d5a36725e7dd284b", func := "tallystick/tallysticklaw14.CrcCut", spec := "crcCut", inPlace := ["internal/reflectlite.ValueOf", "(internal/reflectlite.Value).Type", "(internal/reflectlite.Value).IsNil", "internal/reflectlite.TypeOf", "(internal/reflectlite.Value).Elem", "(internal/reflectlite.Value).Set"], unfollowed := true, recurses := true, named := ["errors.errorType"], apart := false, laid := [("errors.errorType", laid_errors_errorType)], narrowed := true }
def CrcCutUptoSaid : Prop := crcCutUptoRow.holds Tryd.pinned (OpenSpec.upto crcCutSpec)

/-- 'tallysticklaw14.CrcRecords', WHERE WHAT IT READS IS OF BULK AT MOST 1048576: true; the input reads as it did. -/
def crcRecordsUptoRow : OpenClaim := { program := "ytanjahakoadecaadoor", sum := "700232b8f2c87a58154e6fbd93b61e26de1e1511d932c880d5a36725e7dd284b", func := "tallystick/tallysticklaw14.CrcRecords", spec := "crcRecords", inPlace := ["internal/reflectlite.ValueOf", "(internal/reflectlite.Value).Type", "(internal/reflectlite.Value).IsNil", "internal/reflectlite.TypeOf", "(internal/reflectlite.Value).Elem", "(internal/reflectlite.Value).Set"], unfollowed := true, recurses := true, named := ["errors.errorType"], apart := false, laid := [("errors.errorType", laid_errors_errorType)], narrowed := true }
def CrcRecordsUptoSaid : Prop := crcRecordsUptoRow.holds Tryd.pinned (OpenSpec.upto crcRecordsSpec)

/-- 'tallysticklaw14.CrcBack', WHERE WHAT IT READS IS OF BULK AT MOST 1048576: true; the input reads as it did. -/
def crcBackUptoRow : OpenClaim := { program := "ytanjahakoadecaadoor", sum := "700232b8f2c87a58154e6fbd93b61e26de1e1511d932c880d5a36725e7dd284b", func := "tallystick/tallysticklaw14.CrcBack", spec := "crcBack", inPlace := ["internal/reflectlite.ValueOf", "(internal/reflectlite.Value).Type", "(internal/reflectlite.Value).IsNil", "internal/reflectlite.TypeOf", "(internal/reflectlite.Value).Elem", "(internal/reflectlite.Value).Set"], unfollowed := true, recurses := true, named := ["errors.errorType"], apart := false, laid := [("errors.errorType", laid_errors_errorType)], narrowed := true }
def CrcBackUptoSaid : Prop := crcBackUptoRow.holds Tryd.pinned (OpenSpec.upto crcBackSpec)

end Rows
end Go.Proofs.YtanjahakoadecaaDoor
