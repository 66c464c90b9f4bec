/-
  No cell of these rows narrows 'for every input' (looked for: loops, veiled, ifaces, maps, wideKeys, modest, calm, conditions, laid).
  DERIVED. THE GIVEN ROWS OF THIS SEAT. 7 by the template 'for every input the law returns true; each argument reads behind the call as it read before'; 0 by the template 'total and deterministic' (their statements: YtcgcffnhlafneaaTotals.lean).
  GIVEN WITH THE SEED: the statements are not yours to turn. If you find one false, say at which input.
  Laid BY PROGRAM, IN A SANDBOX (cutbox-rows.mjs): the forced cells as the released guide's own fill.sh prints them over the translation c5a44525330e1ef5… (all of the seat's roots in one cut). By AI agents, Wed Nov 11 2026. No macro, syntax, notation, axiom, sorry.
-/
import Derived.Test.YtcgcffnhlafneaaChecked
import GoSem.Claim
import GoSem.ClaimJoined
import GoSem.ClaimMapViews
import Derived.JoinedTies
import Derived.KernelRfl
namespace Go.Proofs.Ytcgcffnhlafneaa
/- THE CELL 'sum', in the pinned program and in every row, IS THE sha256 OF THE DUMP (.gsa) THAT YtcgcffnhlafneaaProg.lean LOADS. Nothing in Lean hashes anything: it is a label: what it is worth is what the hold of that sum in a sandbox is worth. -/
noncomputable def Try.pinned : Pinned := { name := "ytcgcffnhlafneaa", sum := "c5a44525330e1ef5352031760583d184d0345eed04b2c047fec4ba8868579eef", checked := Try.checked }
namespace Rows
def none {H : Type} : Left H := { results := [], args := [] }

/-- 'tallysticklaw12.RootSteps': WHATEVER THE INPUT: true; the input reads as it did. -/
def rootStepsSpec : ChangeSpec := { name := "rootSteps", fn := fun _ => fun
  | [d1, d2] => { results := [.lit (.bool true)], args := [d1, d2] }
  | _ => none }
def rootStepsRow : OpenClaim := { program := "ytcgcffnhlafneaa", sum := "c5a44525330e1ef5352031760583d184d0345eed04b2c047fec4ba8868579eef", func := "tallystick/tallysticklaw12.RootSteps", spec := "rootSteps", inPlace := ["math/bits.Add64", "math/bits.Sub64", "slices.overlaps[uint64]"], unfollowed := true, recurses := true, named := ["math/bits.divideError", "math/bits.overflowError"], apart := false }
def RootStepsSaid : Prop := rootStepsRow.holds Try.pinned (OpenSpec.ofChange rootStepsSpec)

/-- ITS FALSE NEIGHBOUR: 'it returns false'. Refute it at one input. -/
def rootStepsWrong : ChangeSpec := { name := "rootSteps", fn := fun _ => fun
  | [d1, d2] => { results := [.lit (.bool false)], args := [d1, d2] }
  | _ => none }
def RootStepsWrongFalsely : Prop := rootStepsRow.holds Try.pinned (OpenSpec.ofChange rootStepsWrong)

/-- 'tallysticklaw12.RootBetween': WHATEVER THE INPUT: true; the input reads as it did. -/
def rootBetweenSpec : ChangeSpec := { name := "rootBetween", fn := fun _ => fun
  | [d] => { results := [.lit (.bool true)], args := [d] }
  | _ => none }
def rootBetweenRow : OpenClaim := { program := "ytcgcffnhlafneaa", sum := "c5a44525330e1ef5352031760583d184d0345eed04b2c047fec4ba8868579eef", func := "tallystick/tallysticklaw12.RootBetween", spec := "rootBetween", inPlace := ["math/bits.Add64", "math/bits.Sub64", "slices.overlaps[uint64]"], unfollowed := true, recurses := true, named := ["math/bits.divideError", "math/bits.overflowError"], apart := false }
def RootBetweenSaid : Prop := rootBetweenRow.holds Try.pinned (OpenSpec.ofChange rootBetweenSpec)

/-- ITS FALSE NEIGHBOUR: 'it returns false'. Refute it at one input. -/
def rootBetweenWrong : ChangeSpec := { name := "rootBetween", fn := fun _ => fun
  | [d] => { results := [.lit (.bool false)], args := [d] }
  | _ => none }
def RootBetweenWrongFalsely : Prop := rootBetweenRow.holds Try.pinned (OpenSpec.ofChange rootBetweenWrong)

/-- 'tallysticklaw12.RootNearer': WHATEVER THE INPUT: true; the input reads as it did. -/
def rootNearerSpec : ChangeSpec := { name := "rootNearer", fn := fun _ => fun
  | [d1, d2] => { results := [.lit (.bool true)], args := [d1, d2] }
  | _ => none }
def rootNearerRow : OpenClaim := { program := "ytcgcffnhlafneaa", sum := "c5a44525330e1ef5352031760583d184d0345eed04b2c047fec4ba8868579eef", func := "tallystick/tallysticklaw12.RootNearer", spec := "rootNearer", inPlace := ["math/bits.Add64", "math/bits.Sub64", "slices.overlaps[uint64]"], unfollowed := true, recurses := true, named := ["math/bits.divideError", "math/bits.overflowError"], apart := false }
def RootNearerSaid : Prop := rootNearerRow.holds Try.pinned (OpenSpec.ofChange rootNearerSpec)

/-- ITS FALSE NEIGHBOUR: 'it returns false'. Refute it at one input. -/
def rootNearerWrong : ChangeSpec := { name := "rootNearer", fn := fun _ => fun
  | [d1, d2] => { results := [.lit (.bool false)], args := [d1, d2] }
  | _ => none }
def RootNearerWrongFalsely : Prop := rootNearerRow.holds Try.pinned (OpenSpec.ofChange rootNearerWrong)

/-- 'tallysticklaw12.RootRises': WHATEVER THE INPUT: true; the input reads as it did. -/
def rootRisesSpec : ChangeSpec := { name := "rootRises", fn := fun _ => fun
  | [d1, d2] => { results := [.lit (.bool true)], args := [d1, d2] }
  | _ => none }
def rootRisesRow : OpenClaim := { program := "ytcgcffnhlafneaa", sum := "c5a44525330e1ef5352031760583d184d0345eed04b2c047fec4ba8868579eef", func := "tallystick/tallysticklaw12.RootRises", spec := "rootRises", inPlace := ["math/bits.Add64", "math/bits.Sub64", "slices.overlaps[uint64]"], unfollowed := true, recurses := true, named := ["math/bits.divideError", "math/bits.overflowError"], apart := false }
def RootRisesSaid : Prop := rootRisesRow.holds Try.pinned (OpenSpec.ofChange rootRisesSpec)

/-- ITS FALSE NEIGHBOUR: 'it returns false'. Refute it at one input. -/
def rootRisesWrong : ChangeSpec := { name := "rootRises", fn := fun _ => fun
  | [d1, d2] => { results := [.lit (.bool false)], args := [d1, d2] }
  | _ => none }
def RootRisesWrongFalsely : Prop := rootRisesRow.holds Try.pinned (OpenSpec.ofChange rootRisesWrong)

/-- 'tallysticklaw12.RootFirst': WHATEVER THE INPUT: true; the input reads as it did. -/
def rootFirstSpec : ChangeSpec := { name := "rootFirst", fn := fun _ => fun
  | [d] => { results := [.lit (.bool true)], args := [d] }
  | _ => none }
def rootFirstRow : OpenClaim := { program := "ytcgcffnhlafneaa", sum := "c5a44525330e1ef5352031760583d184d0345eed04b2c047fec4ba8868579eef", func := "tallystick/tallysticklaw12.RootFirst", spec := "rootFirst", inPlace := ["math/bits.Add64", "math/bits.Sub64", "slices.overlaps[uint64]"], unfollowed := true, recurses := true, named := ["math/bits.divideError", "math/bits.overflowError"], apart := false }
def RootFirstSaid : Prop := rootFirstRow.holds Try.pinned (OpenSpec.ofChange rootFirstSpec)

/-- ITS FALSE NEIGHBOUR: 'it returns false'. Refute it at one input. -/
def rootFirstWrong : ChangeSpec := { name := "rootFirst", fn := fun _ => fun
  | [d] => { results := [.lit (.bool false)], args := [d] }
  | _ => none }
def RootFirstWrongFalsely : Prop := rootFirstRow.holds Try.pinned (OpenSpec.ofChange rootFirstWrong)

/-- 'tallysticklaw12.RootSquares': WHATEVER THE INPUT: true; the input reads as it did. -/
def rootSquaresSpec : ChangeSpec := { name := "rootSquares", fn := fun _ => fun
  | [d1, d2] => { results := [.lit (.bool true)], args := [d1, d2] }
  | _ => none }
def rootSquaresRow : OpenClaim := { program := "ytcgcffnhlafneaa", sum := "c5a44525330e1ef5352031760583d184d0345eed04b2c047fec4ba8868579eef", func := "tallystick/tallysticklaw12.RootSquares", spec := "rootSquares", inPlace := ["math/bits.Add64", "math/bits.Sub64", "slices.overlaps[uint64]"], unfollowed := true, recurses := true, named := ["math/bits.divideError", "math/bits.overflowError"], apart := false }
def RootSquaresSaid : Prop := rootSquaresRow.holds Try.pinned (OpenSpec.ofChange rootSquaresSpec)

/-- ITS FALSE NEIGHBOUR: 'it returns false'. Refute it at one input. -/
def rootSquaresWrong : ChangeSpec := { name := "rootSquares", fn := fun _ => fun
  | [d1, d2] => { results := [.lit (.bool false)], args := [d1, d2] }
  | _ => none }
def RootSquaresWrongFalsely : Prop := rootSquaresRow.holds Try.pinned (OpenSpec.ofChange rootSquaresWrong)

/-- 'tallysticklaw12.RootTells': WHATEVER THE INPUT: true; the input reads as it did. -/
def rootTellsSpec : ChangeSpec := { name := "rootTells", fn := fun _ => fun
  | [d1, d2] => { results := [.lit (.bool true)], args := [d1, d2] }
  | _ => none }
def rootTellsRow : OpenClaim := { program := "ytcgcffnhlafneaa", sum := "c5a44525330e1ef5352031760583d184d0345eed04b2c047fec4ba8868579eef", func := "tallystick/tallysticklaw12.RootTells", spec := "rootTells", inPlace := ["math/bits.Add64", "math/bits.Sub64", "slices.overlaps[uint64]"], unfollowed := true, recurses := true, named := ["math/bits.divideError", "math/bits.overflowError"], apart := false }
def RootTellsSaid : Prop := rootTellsRow.holds Try.pinned (OpenSpec.ofChange rootTellsSpec)

/-- ITS FALSE NEIGHBOUR: 'it returns false'. Refute it at one input. -/
def rootTellsWrong : ChangeSpec := { name := "rootTells", fn := fun _ => fun
  | [d1, d2] => { results := [.lit (.bool false)], args := [d1, d2] }
  | _ => none }
def RootTellsWrongFalsely : Prop := rootTellsRow.holds Try.pinned (OpenSpec.ofChange rootTellsWrong)

/- THE SECOND FORM. 'bulk': how many values and letters a reading holds, each counted each time it is reached (what is shared counts as often as it is met; a slice's spare places count too). A statement '..UptoSaid' is the law's where the arguments, and the package variables that the reading takes, are together of bulk at most 1048576: NARROWER than '..Said'. Prove '..Said' where nothing that the law and all that it calls make is longer than what came in: it says more and counts as full. Else prove '..UptoSaid'. A law counts once. -/
mutual
def uptoBulk {H : Type} : DataW H → Nat
  | .lit (.string bytes) => bytes.length + 1
  | .lit _ => 1
  | .nil => 1
  | .ptr d => uptoBulk d + 1
  | .slice elems spare => uptoBulkAll elems + uptoBulkAll spare + 1
  | .agg parts => uptoBulkAll parts + 1
  | .iface _ d => uptoBulk d + 1
  | .map entries => uptoBulkEntries entries + 1
  | .held _ => 1
def uptoBulkAll {H : Type} : List (DataW H) → Nat
  | [] => 0
  | d :: r => uptoBulk d + uptoBulkAll r
def uptoBulkEntries {H : Type} : List (Lit × DataW H) → Nat
  | [] => 0
  | x :: r => uptoBulkEntry x + uptoBulkEntries r
def uptoBulkEntry {H : Type} : Lit × DataW H → Nat
  | (.string bytes, d) => bytes.length + uptoBulk d + 1
  | (_, d) => uptoBulk d + 1
 end
def uptoSmall : (H : Type) → List (DataW H) → Bool := fun _ ds => decide (uptoBulkAll ds ≤ 1048576)
def OpenSpec.upto (s : _root_.Go.ChangeSpec) : _root_.Go.OpenSpec := { _root_.Go.OpenSpec.ofChange s with cond := some uptoSmall }

/-- 'tallysticklaw12.RootSteps', WHERE WHAT IT READS IS OF BULK AT MOST 1048576: true; the input reads as it did. -/
def rootStepsUptoRow : OpenClaim := { program := "ytcgcffnhlafneaa", sum := "c5a44525330e1ef5352031760583d184d0345eed04b2c047fec4ba8868579eef", func := "tallystick/tallysticklaw12.RootSteps", spec := "rootSteps", inPlace := ["math/bits.Add64", "math/bits.Sub64", "slices.overlaps[uint64]"], unfollowed := true, recurses := true, named := ["math/bits.divideError", "math/bits.overflowError"], apart := false, narrowed := true }
def RootStepsUptoSaid : Prop := rootStepsUptoRow.holds Try.pinned (OpenSpec.upto rootStepsSpec)

/-- 'tallysticklaw12.RootBetween', WHERE WHAT IT READS IS OF BULK AT MOST 1048576: true; the input reads as it did. -/
def rootBetweenUptoRow : OpenClaim := { program := "ytcgcffnhlafneaa", sum := "c5a44525330e1ef5352031760583d184d0345eed04b2c047fec4ba8868579eef", func := "tallystick/tallysticklaw12.RootBetween", spec := "rootBetween", inPlace := ["math/bits.Add64", "math/bits.Sub64", "slices.overlaps[uint64]"], unfollowed := true, recurses := true, named := ["math/bits.divideError", "math/bits.overflowError"], apart := false, narrowed := true }
def RootBetweenUptoSaid : Prop := rootBetweenUptoRow.holds Try.pinned (OpenSpec.upto rootBetweenSpec)

/-- 'tallysticklaw12.RootNearer', WHERE WHAT IT READS IS OF BULK AT MOST 1048576: true; the input reads as it did. -/
def rootNearerUptoRow : OpenClaim := { program := "ytcgcffnhlafneaa", sum := "c5a44525330e1ef5352031760583d184d0345eed04b2c047fec4ba8868579eef", func := "tallystick/tallysticklaw12.RootNearer", spec := "rootNearer", inPlace := ["math/bits.Add64", "math/bits.Sub64", "slices.overlaps[uint64]"], unfollowed := true, recurses := true, named := ["math/bits.divideError", "math/bits.overflowError"], apart := false, narrowed := true }
def RootNearerUptoSaid : Prop := rootNearerUptoRow.holds Try.pinned (OpenSpec.upto rootNearerSpec)

/-- 'tallysticklaw12.RootRises', WHERE WHAT IT READS IS OF BULK AT MOST 1048576: true; the input reads as it did. -/
def rootRisesUptoRow : OpenClaim := { program := "ytcgcffnhlafneaa", sum := "c5a44525330e1ef5352031760583d184d0345eed04b2c047fec4ba8868579eef", func := "tallystick/tallysticklaw12.RootRises", spec := "rootRises", inPlace := ["math/bits.Add64", "math/bits.Sub64", "slices.overlaps[uint64]"], unfollowed := true, recurses := true, named := ["math/bits.divideError", "math/bits.overflowError"], apart := false, narrowed := true }
def RootRisesUptoSaid : Prop := rootRisesUptoRow.holds Try.pinned (OpenSpec.upto rootRisesSpec)

/-- 'tallysticklaw12.RootFirst', WHERE WHAT IT READS IS OF BULK AT MOST 1048576: true; the input reads as it did. -/
def rootFirstUptoRow : OpenClaim := { program := "ytcgcffnhlafneaa", sum := "c5a44525330e1ef5352031760583d184d0345eed04b2c047fec4ba8868579eef", func := "tallystick/tallysticklaw12.RootFirst", spec := "rootFirst", inPlace := ["math/bits.Add64", "math/bits.Sub64", "slices.overlaps[uint64]"], unfollowed := true, recurses := true, named := ["math/bits.divideError", "math/bits.overflowError"], apart := false, narrowed := true }
def RootFirstUptoSaid : Prop := rootFirstUptoRow.holds Try.pinned (OpenSpec.upto rootFirstSpec)

/-- 'tallysticklaw12.RootSquares', WHERE WHAT IT READS IS OF BULK AT MOST 1048576: true; the input reads as it did. -/
def rootSquaresUptoRow : OpenClaim := { program := "ytcgcffnhlafneaa", sum := "c5a44525330e1ef5352031760583d184d0345eed04b2c047fec4ba8868579eef", func := "tallystick/tallysticklaw12.RootSquares", spec := "rootSquares", inPlace := ["math/bits.Add64", "math/bits.Sub64", "slices.overlaps[uint64]"], unfollowed := true, recurses := true, named := ["math/bits.divideError", "math/bits.overflowError"], apart := false, narrowed := true }
def RootSquaresUptoSaid : Prop := rootSquaresUptoRow.holds Try.pinned (OpenSpec.upto rootSquaresSpec)

/-- 'tallysticklaw12.RootTells', WHERE WHAT IT READS IS OF BULK AT MOST 1048576: true; the input reads as it did. -/
def rootTellsUptoRow : OpenClaim := { program := "ytcgcffnhlafneaa", sum := "c5a44525330e1ef5352031760583d184d0345eed04b2c047fec4ba8868579eef", func := "tallystick/tallysticklaw12.RootTells", spec := "rootTells", inPlace := ["math/bits.Add64", "math/bits.Sub64", "slices.overlaps[uint64]"], unfollowed := true, recurses := true, named := ["math/bits.divideError", "math/bits.overflowError"], apart := false, narrowed := true }
def RootTellsUptoSaid : Prop := rootTellsUptoRow.holds Try.pinned (OpenSpec.upto rootTellsSpec)

end Rows
end Go.Proofs.Ytcgcffnhlafneaa
