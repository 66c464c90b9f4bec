/-
  No cell of these rows narrows 'for every input' (looked for: loops, veiled, ifaces, maps, wideKeys, modest, calm, conditions, laid).
  DERIVED. THE GIVEN ROWS OF THIS SEAT. 8 by the template 'for every input the law returns true; each argument reads behind the call as it read before'; 0 by the template 'total and deterministic' (their statements: YtnmfinhmhmepdaaTotals.lean).
  GIVEN WITH THE SEED: the statements are not yours to turn. If you find one false, say at which input.
  Laid BY PROGRAM, IN A SANDBOX (cutbox-rows.mjs): the forced cells as the released guide's own fill.sh prints them over the translation 8fc9bb91a6766489… (all of the seat's roots in one cut). By AI agents, Wed Nov 11 2026. No macro, syntax, notation, axiom, sorry.
-/
import Derived.Test.YtnmfinhmhmepdaaChecked
import GoSem.Claim
import GoSem.ClaimJoined
import GoSem.ClaimMapViews
import Derived.JoinedTies
import Derived.KernelRfl
namespace Go.Proofs.Ytnmfinhmhmepdaa
/- THE CELL 'sum', in the pinned program and in every row, IS THE sha256 OF THE DUMP (.gsa) THAT YtnmfinhmhmepdaaProg.lean LOADS. Nothing in Lean hashes anything: it is a label: what it is worth is what the hold of that sum in a sandbox is worth. -/
noncomputable def Try.pinned : Pinned := { name := "ytnmfinhmhmepdaa", sum := "8fc9bb91a67664896955ed489f3cfe12906a7e3c9ba5866e1a05017c33d17131", checked := Try.checked }
namespace Rows
def none {H : Type} : Left H := { results := [], args := [] }

/-- 'tallysticklaw01.WordWhole': WHATEVER THE INPUT: true; the input reads as it did. -/
def wordWholeSpec : ChangeSpec := { name := "wordWhole", fn := fun _ => fun
  | [d1, d2, d3] => { results := [.lit (.bool true)], args := [d1, d2, d3] }
  | _ => none }
def wordWholeRow : OpenClaim := { program := "ytnmfinhmhmepdaa", sum := "8fc9bb91a67664896955ed489f3cfe12906a7e3c9ba5866e1a05017c33d17131", func := "tallystick/tallysticklaw01.WordWhole", spec := "wordWhole", inPlace := ["math/bits.Add64"], named := ["math/bits.divideError", "math/bits.overflowError"], apart := false }
def WordWholeSaid : Prop := wordWholeRow.holds Try.pinned (OpenSpec.ofChange wordWholeSpec)

/-- ITS FALSE NEIGHBOUR: 'it returns false'. Refute it at one input. -/
def wordWholeWrong : ChangeSpec := { name := "wordWhole", fn := fun _ => fun
  | [d1, d2, d3] => { results := [.lit (.bool false)], args := [d1, d2, d3] }
  | _ => none }
def WordWholeWrongFalsely : Prop := wordWholeRow.holds Try.pinned (OpenSpec.ofChange wordWholeWrong)

/-- 'tallysticklaw01.WordSplits': WHATEVER THE INPUT: true; the input reads as it did. -/
def wordSplitsSpec : ChangeSpec := { name := "wordSplits", fn := fun _ => fun
  | [d1, d2, d3] => { results := [.lit (.bool true)], args := [d1, d2, d3] }
  | _ => none }
def wordSplitsRow : OpenClaim := { program := "ytnmfinhmhmepdaa", sum := "8fc9bb91a67664896955ed489f3cfe12906a7e3c9ba5866e1a05017c33d17131", func := "tallystick/tallysticklaw01.WordSplits", spec := "wordSplits", inPlace := ["math/bits.Add64"], named := ["math/bits.divideError", "math/bits.overflowError"], apart := false }
def WordSplitsSaid : Prop := wordSplitsRow.holds Try.pinned (OpenSpec.ofChange wordSplitsSpec)

/-- ITS FALSE NEIGHBOUR: 'it returns false'. Refute it at one input. -/
def wordSplitsWrong : ChangeSpec := { name := "wordSplits", fn := fun _ => fun
  | [d1, d2, d3] => { results := [.lit (.bool false)], args := [d1, d2, d3] }
  | _ => none }
def WordSplitsWrongFalsely : Prop := wordSplitsRow.holds Try.pinned (OpenSpec.ofChange wordSplitsWrong)

/-- 'tallysticklaw01.WordShifts': WHATEVER THE INPUT: true; the input reads as it did. -/
def wordShiftsSpec : ChangeSpec := { name := "wordShifts", fn := fun _ => fun
  | [d1, d2] => { results := [.lit (.bool true)], args := [d1, d2] }
  | _ => none }
def wordShiftsRow : OpenClaim := { program := "ytnmfinhmhmepdaa", sum := "8fc9bb91a67664896955ed489f3cfe12906a7e3c9ba5866e1a05017c33d17131", func := "tallystick/tallysticklaw01.WordShifts", spec := "wordShifts", named := ["math/bits.divideError", "math/bits.overflowError"], apart := false }
def WordShiftsSaid : Prop := wordShiftsRow.holds Try.pinned (OpenSpec.ofChange wordShiftsSpec)

/-- ITS FALSE NEIGHBOUR: 'it returns false'. Refute it at one input. -/
def wordShiftsWrong : ChangeSpec := { name := "wordShifts", fn := fun _ => fun
  | [d1, d2] => { results := [.lit (.bool false)], args := [d1, d2] }
  | _ => none }
def WordShiftsWrongFalsely : Prop := wordShiftsRow.holds Try.pinned (OpenSpec.ofChange wordShiftsWrong)

/-- 'tallysticklaw01.WordGcds': WHATEVER THE INPUT: true; the input reads as it did. -/
def wordGcdsSpec : ChangeSpec := { name := "wordGcds", fn := fun _ => fun
  | [d1, d2, d3] => { results := [.lit (.bool true)], args := [d1, d2, d3] }
  | _ => none }
def wordGcdsRow : OpenClaim := { program := "ytnmfinhmhmepdaa", sum := "8fc9bb91a67664896955ed489f3cfe12906a7e3c9ba5866e1a05017c33d17131", func := "tallystick/tallysticklaw01.WordGcds", spec := "wordGcds", named := ["math/bits.divideError", "math/bits.overflowError"], apart := false }
def WordGcdsSaid : Prop := wordGcdsRow.holds Try.pinned (OpenSpec.ofChange wordGcdsSpec)

/-- ITS FALSE NEIGHBOUR: 'it returns false'. Refute it at one input. -/
def wordGcdsWrong : ChangeSpec := { name := "wordGcds", fn := fun _ => fun
  | [d1, d2, d3] => { results := [.lit (.bool false)], args := [d1, d2, d3] }
  | _ => none }
def WordGcdsWrongFalsely : Prop := wordGcdsRow.holds Try.pinned (OpenSpec.ofChange wordGcdsWrong)

/-- 'tallysticklaw01.WordReckons': WHATEVER THE INPUT: true; the input reads as it did. -/
def wordReckonsSpec : ChangeSpec := { name := "wordReckons", fn := fun _ => fun
  | [d1, d2, d3] => { results := [.lit (.bool true)], args := [d1, d2, d3] }
  | _ => none }
def wordReckonsRow : OpenClaim := { program := "ytnmfinhmhmepdaa", sum := "8fc9bb91a67664896955ed489f3cfe12906a7e3c9ba5866e1a05017c33d17131", func := "tallystick/tallysticklaw01.WordReckons", spec := "wordReckons", inPlace := ["math/bits.Add64", "math/bits.Sub64"], named := ["math/bits.divideError", "math/bits.overflowError"], apart := false }
def WordReckonsSaid : Prop := wordReckonsRow.holds Try.pinned (OpenSpec.ofChange wordReckonsSpec)

/-- ITS FALSE NEIGHBOUR: 'it returns false'. Refute it at one input. -/
def wordReckonsWrong : ChangeSpec := { name := "wordReckons", fn := fun _ => fun
  | [d1, d2, d3] => { results := [.lit (.bool false)], args := [d1, d2, d3] }
  | _ => none }
def WordReckonsWrongFalsely : Prop := wordReckonsRow.holds Try.pinned (OpenSpec.ofChange wordReckonsWrong)

/-- 'tallysticklaw01.WordBack': WHATEVER THE INPUT: true; the input reads as it did. -/
def wordBackSpec : ChangeSpec := { name := "wordBack", fn := fun _ => fun
  | [d1, d2, d3] => { results := [.lit (.bool true)], args := [d1, d2, d3] }
  | _ => none }
def wordBackRow : OpenClaim := { program := "ytnmfinhmhmepdaa", sum := "8fc9bb91a67664896955ed489f3cfe12906a7e3c9ba5866e1a05017c33d17131", func := "tallystick/tallysticklaw01.WordBack", spec := "wordBack", inPlace := ["math/bits.Add64", "math/bits.Sub64"], named := ["math/bits.divideError", "math/bits.overflowError"], apart := false }
def WordBackSaid : Prop := wordBackRow.holds Try.pinned (OpenSpec.ofChange wordBackSpec)

/-- ITS FALSE NEIGHBOUR: 'it returns false'. Refute it at one input. -/
def wordBackWrong : ChangeSpec := { name := "wordBack", fn := fun _ => fun
  | [d1, d2, d3] => { results := [.lit (.bool false)], args := [d1, d2, d3] }
  | _ => none }
def WordBackWrongFalsely : Prop := wordBackRow.holds Try.pinned (OpenSpec.ofChange wordBackWrong)

/-- 'tallysticklaw01.WordTurned': WHATEVER THE INPUT: true; the input reads as it did. -/
def wordTurnedSpec : ChangeSpec := { name := "wordTurned", fn := fun _ => fun
  | [d1, d2, d3] => { results := [.lit (.bool true)], args := [d1, d2, d3] }
  | _ => none }
def wordTurnedRow : OpenClaim := { program := "ytnmfinhmhmepdaa", sum := "8fc9bb91a67664896955ed489f3cfe12906a7e3c9ba5866e1a05017c33d17131", func := "tallystick/tallysticklaw01.WordTurned", spec := "wordTurned", inPlace := ["math/bits.Add64", "math/bits.Sub64"], named := ["math/bits.divideError", "math/bits.overflowError"], apart := false }
def WordTurnedSaid : Prop := wordTurnedRow.holds Try.pinned (OpenSpec.ofChange wordTurnedSpec)

/-- ITS FALSE NEIGHBOUR: 'it returns false'. Refute it at one input. -/
def wordTurnedWrong : ChangeSpec := { name := "wordTurned", fn := fun _ => fun
  | [d1, d2, d3] => { results := [.lit (.bool false)], args := [d1, d2, d3] }
  | _ => none }
def WordTurnedWrongFalsely : Prop := wordTurnedRow.holds Try.pinned (OpenSpec.ofChange wordTurnedWrong)

/-- 'tallysticklaw01.WordDivides': WHATEVER THE INPUT: true; the input reads as it did. -/
def wordDividesSpec : ChangeSpec := { name := "wordDivides", fn := fun _ => fun
  | [d1, d2, d3] => { results := [.lit (.bool true)], args := [d1, d2, d3] }
  | _ => none }
def wordDividesRow : OpenClaim := { program := "ytnmfinhmhmepdaa", sum := "8fc9bb91a67664896955ed489f3cfe12906a7e3c9ba5866e1a05017c33d17131", func := "tallystick/tallysticklaw01.WordDivides", spec := "wordDivides", named := ["math/bits.divideError", "math/bits.overflowError"], apart := false }
def WordDividesSaid : Prop := wordDividesRow.holds Try.pinned (OpenSpec.ofChange wordDividesSpec)

/-- ITS FALSE NEIGHBOUR: 'it returns false'. Refute it at one input. -/
def wordDividesWrong : ChangeSpec := { name := "wordDivides", fn := fun _ => fun
  | [d1, d2, d3] => { results := [.lit (.bool false)], args := [d1, d2, d3] }
  | _ => none }
def WordDividesWrongFalsely : Prop := wordDividesRow.holds Try.pinned (OpenSpec.ofChange wordDividesWrong)

/- THE SECOND FORM. 'bulk': how many values and letters a reading holds, each counted each time it is reached (what is shared counts as often as it is met; a slice's spare places count too). A statement '..UptoSaid' is the law's where the arguments, and the package variables that the reading takes, are together of bulk at most 1048576: NARROWER than '..Said'. Prove '..Said' where nothing that the law and all that it calls make is longer than what came in: it says more and counts as full. Else prove '..UptoSaid'. A law counts once. -/
mutual
def uptoBulk {H : Type} : DataW H → Nat
  | .lit (.string bytes) => bytes.length + 1
  | .lit _ => 1
  | .nil => 1
  | .ptr d => uptoBulk d + 1
  | .slice elems spare => uptoBulkAll elems + uptoBulkAll spare + 1
  | .agg parts => uptoBulkAll parts + 1
  | .iface _ d => uptoBulk d + 1
  | .map entries => uptoBulkEntries entries + 1
  | .held _ => 1
def uptoBulkAll {H : Type} : List (DataW H) → Nat
  | [] => 0
  | d :: r => uptoBulk d + uptoBulkAll r
def uptoBulkEntries {H : Type} : List (Lit × DataW H) → Nat
  | [] => 0
  | x :: r => uptoBulkEntry x + uptoBulkEntries r
def uptoBulkEntry {H : Type} : Lit × DataW H → Nat
  | (.string bytes, d) => bytes.length + uptoBulk d + 1
  | (_, d) => uptoBulk d + 1
 end
def uptoSmall : (H : Type) → List (DataW H) → Bool := fun _ ds => decide (uptoBulkAll ds ≤ 1048576)
def OpenSpec.upto (s : _root_.Go.ChangeSpec) : _root_.Go.OpenSpec := { _root_.Go.OpenSpec.ofChange s with cond := some uptoSmall }

/-- 'tallysticklaw01.WordWhole', WHERE WHAT IT READS IS OF BULK AT MOST 1048576: true; the input reads as it did. -/
def wordWholeUptoRow : OpenClaim := { program := "ytnmfinhmhmepdaa", sum := "8fc9bb91a67664896955ed489f3cfe12906a7e3c9ba5866e1a05017c33d17131", func := "tallystick/tallysticklaw01.WordWhole", spec := "wordWhole", inPlace := ["math/bits.Add64"], named := ["math/bits.divideError", "math/bits.overflowError"], apart := false, narrowed := true }
def WordWholeUptoSaid : Prop := wordWholeUptoRow.holds Try.pinned (OpenSpec.upto wordWholeSpec)

/-- 'tallysticklaw01.WordSplits', WHERE WHAT IT READS IS OF BULK AT MOST 1048576: true; the input reads as it did. -/
def wordSplitsUptoRow : OpenClaim := { program := "ytnmfinhmhmepdaa", sum := "8fc9bb91a67664896955ed489f3cfe12906a7e3c9ba5866e1a05017c33d17131", func := "tallystick/tallysticklaw01.WordSplits", spec := "wordSplits", inPlace := ["math/bits.Add64"], named := ["math/bits.divideError", "math/bits.overflowError"], apart := false, narrowed := true }
def WordSplitsUptoSaid : Prop := wordSplitsUptoRow.holds Try.pinned (OpenSpec.upto wordSplitsSpec)

/-- 'tallysticklaw01.WordShifts', WHERE WHAT IT READS IS OF BULK AT MOST 1048576: true; the input reads as it did. -/
def wordShiftsUptoRow : OpenClaim := { program := "ytnmfinhmhmepdaa", sum := "8fc9bb91a67664896955ed489f3cfe12906a7e3c9ba5866e1a05017c33d17131", func := "tallystick/tallysticklaw01.WordShifts", spec := "wordShifts", named := ["math/bits.divideError", "math/bits.overflowError"], apart := false, narrowed := true }
def WordShiftsUptoSaid : Prop := wordShiftsUptoRow.holds Try.pinned (OpenSpec.upto wordShiftsSpec)

/-- 'tallysticklaw01.WordGcds', WHERE WHAT IT READS IS OF BULK AT MOST 1048576: true; the input reads as it did. -/
def wordGcdsUptoRow : OpenClaim := { program := "ytnmfinhmhmepdaa", sum := "8fc9bb91a67664896955ed489f3cfe12906a7e3c9ba5866e1a05017c33d17131", func := "tallystick/tallysticklaw01.WordGcds", spec := "wordGcds", named := ["math/bits.divideError", "math/bits.overflowError"], apart := false, narrowed := true }
def WordGcdsUptoSaid : Prop := wordGcdsUptoRow.holds Try.pinned (OpenSpec.upto wordGcdsSpec)

/-- 'tallysticklaw01.WordReckons', WHERE WHAT IT READS IS OF BULK AT MOST 1048576: true; the input reads as it did. -/
def wordReckonsUptoRow : OpenClaim := { program := "ytnmfinhmhmepdaa", sum := "8fc9bb91a67664896955ed489f3cfe12906a7e3c9ba5866e1a05017c33d17131", func := "tallystick/tallysticklaw01.WordReckons", spec := "wordReckons", inPlace := ["math/bits.Add64", "math/bits.Sub64"], named := ["math/bits.divideError", "math/bits.overflowError"], apart := false, narrowed := true }
def WordReckonsUptoSaid : Prop := wordReckonsUptoRow.holds Try.pinned (OpenSpec.upto wordReckonsSpec)

/-- 'tallysticklaw01.WordBack', WHERE WHAT IT READS IS OF BULK AT MOST 1048576: true; the input reads as it did. -/
def wordBackUptoRow : OpenClaim := { program := "ytnmfinhmhmepdaa", sum := "8fc9bb91a67664896955ed489f3cfe12906a7e3c9ba5866e1a05017c33d17131", func := "tallystick/tallysticklaw01.WordBack", spec := "wordBack", inPlace := ["math/bits.Add64", "math/bits.Sub64"], named := ["math/bits.divideError", "math/bits.overflowError"], apart := false, narrowed := true }
def WordBackUptoSaid : Prop := wordBackUptoRow.holds Try.pinned (OpenSpec.upto wordBackSpec)

/-- 'tallysticklaw01.WordTurned', WHERE WHAT IT READS IS OF BULK AT MOST 1048576: true; the input reads as it did. -/
def wordTurnedUptoRow : OpenClaim := { program := "ytnmfinhmhmepdaa", sum := "8fc9bb91a67664896955ed489f3cfe12906a7e3c9ba5866e1a05017c33d17131", func := "tallystick/tallysticklaw01.WordTurned", spec := "wordTurned", inPlace := ["math/bits.Add64", "math/bits.Sub64"], named := ["math/bits.divideError", "math/bits.overflowError"], apart := false, narrowed := true }
def WordTurnedUptoSaid : Prop := wordTurnedUptoRow.holds Try.pinned (OpenSpec.upto wordTurnedSpec)

/-- 'tallysticklaw01.WordDivides', WHERE WHAT IT READS IS OF BULK AT MOST 1048576: true; the input reads as it did. -/
def wordDividesUptoRow : OpenClaim := { program := "ytnmfinhmhmepdaa", sum := "8fc9bb91a67664896955ed489f3cfe12906a7e3c9ba5866e1a05017c33d17131", func := "tallystick/tallysticklaw01.WordDivides", spec := "wordDivides", named := ["math/bits.divideError", "math/bits.overflowError"], apart := false, narrowed := true }
def WordDividesUptoSaid : Prop := wordDividesUptoRow.holds Try.pinned (OpenSpec.upto wordDividesSpec)

end Rows
end Go.Proofs.Ytnmfinhmhmepdaa
