/-
  No cell of these rows narrows 'for every input' (looked for: loops, veiled, ifaces, maps, wideKeys, modest, calm, conditions, laid).
  DERIVED. THE GIVEN ROWS OF THIS SEAT. 7 by the template 'for every input the law returns true; each argument reads behind the call as it read before'; 0 by the template 'total and deterministic' (their statements: YtofknlpbnpokeaaTotals.lean).
  GIVEN WITH THE SEED: the statements are not yours to turn. If you find one false, say at which input.
  Laid BY PROGRAM, IN A SANDBOX (cutbox-rows.mjs): the forced cells as the released guide's own fill.sh prints them over the translation 6daa5e75c018fb62… (all of the seat's roots in one cut). By AI agents, Wed Nov 11 2026. No macro, syntax, notation, axiom, sorry.
-/
import Derived.Test.YtofknlpbnpokeaaChecked
import GoSem.Claim
import GoSem.ClaimJoined
import GoSem.ClaimMapViews
import Derived.JoinedTies
import Derived.KernelRfl
namespace Go.Proofs.Ytofknlpbnpokeaa
/- THE CELL 'sum', in the pinned program and in every row, IS THE sha256 OF THE DUMP (.gsa) THAT YtofknlpbnpokeaaProg.lean LOADS. Nothing in Lean hashes anything: it is a label: what it is worth is what the hold of that sum in a sandbox is worth. -/
noncomputable def Try.pinned : Pinned := { name := "ytofknlpbnpokeaa", sum := "6daa5e75c018fb62237409c958f6024f541162261c87c296705efb0d854add47", checked := Try.checked }
namespace Rows
def none {H : Type} : Left H := { results := [], args := [] }

/-- 'tallysticklaw06.QuotWhole': WHATEVER THE INPUT: true; the input reads as it did. -/
def quotWholeSpec : ChangeSpec := { name := "quotWhole", fn := fun _ => fun
  | [d1, d2] => { results := [.lit (.bool true)], args := [d1, d2] }
  | _ => none }
def quotWholeRow : OpenClaim := { program := "ytofknlpbnpokeaa", sum := "6daa5e75c018fb62237409c958f6024f541162261c87c296705efb0d854add47", func := "tallystick/tallysticklaw06.QuotWhole", spec := "quotWhole", inPlace := ["slices.overlaps[uint64]", "math/bits.Add64", "math/bits.Sub64"], unfollowed := true, recurses := true, named := ["math/bits.divideError", "math/bits.overflowError"], apart := false }
def QuotWholeSaid : Prop := quotWholeRow.holds Try.pinned (OpenSpec.ofChange quotWholeSpec)

/-- ITS FALSE NEIGHBOUR: 'it returns false'. Refute it at one input. -/
def quotWholeWrong : ChangeSpec := { name := "quotWhole", fn := fun _ => fun
  | [d1, d2] => { results := [.lit (.bool false)], args := [d1, d2] }
  | _ => none }
def QuotWholeWrongFalsely : Prop := quotWholeRow.holds Try.pinned (OpenSpec.ofChange quotWholeWrong)

/-- 'tallysticklaw06.QuotTimes': WHATEVER THE INPUT: true; the input reads as it did. -/
def quotTimesSpec : ChangeSpec := { name := "quotTimes", fn := fun _ => fun
  | [d1, d2, d3] => { results := [.lit (.bool true)], args := [d1, d2, d3] }
  | _ => none }
def quotTimesRow : OpenClaim := { program := "ytofknlpbnpokeaa", sum := "6daa5e75c018fb62237409c958f6024f541162261c87c296705efb0d854add47", func := "tallystick/tallysticklaw06.QuotTimes", spec := "quotTimes", inPlace := ["slices.overlaps[uint64]", "math/bits.Add64", "math/bits.Sub64"], unfollowed := true, recurses := true, named := ["math/bits.divideError", "math/bits.overflowError"], apart := false }
def QuotTimesSaid : Prop := quotTimesRow.holds Try.pinned (OpenSpec.ofChange quotTimesSpec)

/-- ITS FALSE NEIGHBOUR: 'it returns false'. Refute it at one input. -/
def quotTimesWrong : ChangeSpec := { name := "quotTimes", fn := fun _ => fun
  | [d1, d2, d3] => { results := [.lit (.bool false)], args := [d1, d2, d3] }
  | _ => none }
def QuotTimesWrongFalsely : Prop := quotTimesRow.holds Try.pinned (OpenSpec.ofChange quotTimesWrong)

/-- 'tallysticklaw06.QuotGcds': WHATEVER THE INPUT: true; the input reads as it did. -/
def quotGcdsSpec : ChangeSpec := { name := "quotGcds", fn := fun _ => fun
  | [d1, d2] => { results := [.lit (.bool true)], args := [d1, d2] }
  | _ => none }
def quotGcdsRow : OpenClaim := { program := "ytofknlpbnpokeaa", sum := "6daa5e75c018fb62237409c958f6024f541162261c87c296705efb0d854add47", func := "tallystick/tallysticklaw06.QuotGcds", spec := "quotGcds", inPlace := ["slices.overlaps[uint64]", "math/bits.Add64", "math/bits.Sub64"], unfollowed := true, recurses := true, named := ["math/bits.divideError", "math/bits.overflowError"], apart := false }
def QuotGcdsSaid : Prop := quotGcdsRow.holds Try.pinned (OpenSpec.ofChange quotGcdsSpec)

/-- ITS FALSE NEIGHBOUR: 'it returns false'. Refute it at one input. -/
def quotGcdsWrong : ChangeSpec := { name := "quotGcds", fn := fun _ => fun
  | [d1, d2] => { results := [.lit (.bool false)], args := [d1, d2] }
  | _ => none }
def QuotGcdsWrongFalsely : Prop := quotGcdsRow.holds Try.pinned (OpenSpec.ofChange quotGcdsWrong)

/-- 'tallysticklaw06.QuotWords': WHATEVER THE INPUT: true; the input reads as it did. -/
def quotWordsSpec : ChangeSpec := { name := "quotWords", fn := fun _ => fun
  | [d1, d2] => { results := [.lit (.bool true)], args := [d1, d2] }
  | _ => none }
def quotWordsRow : OpenClaim := { program := "ytofknlpbnpokeaa", sum := "6daa5e75c018fb62237409c958f6024f541162261c87c296705efb0d854add47", func := "tallystick/tallysticklaw06.QuotWords", spec := "quotWords", inPlace := ["slices.overlaps[uint64]", "math/bits.Add64", "math/bits.Sub64"], unfollowed := true, recurses := true, named := ["math/bits.divideError", "math/bits.overflowError"], apart := false }
def QuotWordsSaid : Prop := quotWordsRow.holds Try.pinned (OpenSpec.ofChange quotWordsSpec)

/-- ITS FALSE NEIGHBOUR: 'it returns false'. Refute it at one input. -/
def quotWordsWrong : ChangeSpec := { name := "quotWords", fn := fun _ => fun
  | [d1, d2] => { results := [.lit (.bool false)], args := [d1, d2] }
  | _ => none }
def QuotWordsWrongFalsely : Prop := quotWordsRow.holds Try.pinned (OpenSpec.ofChange quotWordsWrong)

/-- 'tallysticklaw06.QuotDivides': WHATEVER THE INPUT: true; the input reads as it did. -/
def quotDividesSpec : ChangeSpec := { name := "quotDivides", fn := fun _ => fun
  | [d1, d2, d3] => { results := [.lit (.bool true)], args := [d1, d2, d3] }
  | _ => none }
def quotDividesRow : OpenClaim := { program := "ytofknlpbnpokeaa", sum := "6daa5e75c018fb62237409c958f6024f541162261c87c296705efb0d854add47", func := "tallystick/tallysticklaw06.QuotDivides", spec := "quotDivides", inPlace := ["slices.overlaps[uint64]", "math/bits.Add64", "math/bits.Sub64"], unfollowed := true, recurses := true, named := ["math/bits.divideError", "math/bits.overflowError"], apart := false }
def QuotDividesSaid : Prop := quotDividesRow.holds Try.pinned (OpenSpec.ofChange quotDividesSpec)

/-- ITS FALSE NEIGHBOUR: 'it returns false'. Refute it at one input. -/
def quotDividesWrong : ChangeSpec := { name := "quotDivides", fn := fun _ => fun
  | [d1, d2, d3] => { results := [.lit (.bool false)], args := [d1, d2, d3] }
  | _ => none }
def QuotDividesWrongFalsely : Prop := quotDividesRow.holds Try.pinned (OpenSpec.ofChange quotDividesWrong)

/-- 'tallysticklaw06.QuotSteps': WHATEVER THE INPUT: true; the input reads as it did. -/
def quotStepsSpec : ChangeSpec := { name := "quotSteps", fn := fun _ => fun
  | [d1, d2] => { results := [.lit (.bool true)], args := [d1, d2] }
  | _ => none }
def quotStepsRow : OpenClaim := { program := "ytofknlpbnpokeaa", sum := "6daa5e75c018fb62237409c958f6024f541162261c87c296705efb0d854add47", func := "tallystick/tallysticklaw06.QuotSteps", spec := "quotSteps", inPlace := ["slices.overlaps[uint64]", "math/bits.Add64", "math/bits.Sub64"], unfollowed := true, recurses := true, named := ["math/bits.divideError", "math/bits.overflowError"], apart := false }
def QuotStepsSaid : Prop := quotStepsRow.holds Try.pinned (OpenSpec.ofChange quotStepsSpec)

/-- ITS FALSE NEIGHBOUR: 'it returns false'. Refute it at one input. -/
def quotStepsWrong : ChangeSpec := { name := "quotSteps", fn := fun _ => fun
  | [d1, d2] => { results := [.lit (.bool false)], args := [d1, d2] }
  | _ => none }
def QuotStepsWrongFalsely : Prop := quotStepsRow.holds Try.pinned (OpenSpec.ofChange quotStepsWrong)

/-- 'tallysticklaw06.QuotPowers': WHATEVER THE INPUT: true; the input reads as it did. -/
def quotPowersSpec : ChangeSpec := { name := "quotPowers", fn := fun _ => fun
  | [d1, d2, d3] => { results := [.lit (.bool true)], args := [d1, d2, d3] }
  | _ => none }
def quotPowersRow : OpenClaim := { program := "ytofknlpbnpokeaa", sum := "6daa5e75c018fb62237409c958f6024f541162261c87c296705efb0d854add47", func := "tallystick/tallysticklaw06.QuotPowers", spec := "quotPowers", inPlace := ["slices.overlaps[uint64]", "math/bits.Add64", "math/bits.Sub64"], unfollowed := true, recurses := true, named := ["math/bits.divideError", "math/bits.overflowError"], apart := false }
def QuotPowersSaid : Prop := quotPowersRow.holds Try.pinned (OpenSpec.ofChange quotPowersSpec)

/-- ITS FALSE NEIGHBOUR: 'it returns false'. Refute it at one input. -/
def quotPowersWrong : ChangeSpec := { name := "quotPowers", fn := fun _ => fun
  | [d1, d2, d3] => { results := [.lit (.bool false)], args := [d1, d2, d3] }
  | _ => none }
def QuotPowersWrongFalsely : Prop := quotPowersRow.holds Try.pinned (OpenSpec.ofChange quotPowersWrong)

/- THE SECOND FORM. 'bulk': how many values and letters a reading holds, each counted each time it is reached (what is shared counts as often as it is met; a slice's spare places count too). A statement '..UptoSaid' is the law's where the arguments, and the package variables that the reading takes, are together of bulk at most 1048576: NARROWER than '..Said'. Prove '..Said' where nothing that the law and all that it calls make is longer than what came in: it says more and counts as full. Else prove '..UptoSaid'. A law counts once. -/
mutual
def uptoBulk {H : Type} : DataW H → Nat
  | .lit (.string bytes) => bytes.length + 1
  | .lit _ => 1
  | .nil => 1
  | .ptr d => uptoBulk d + 1
  | .slice elems spare => uptoBulkAll elems + uptoBulkAll spare + 1
  | .agg parts => uptoBulkAll parts + 1
  | .iface _ d => uptoBulk d + 1
  | .map entries => uptoBulkEntries entries + 1
  | .held _ => 1
def uptoBulkAll {H : Type} : List (DataW H) → Nat
  | [] => 0
  | d :: r => uptoBulk d + uptoBulkAll r
def uptoBulkEntries {H : Type} : List (Lit × DataW H) → Nat
  | [] => 0
  | x :: r => uptoBulkEntry x + uptoBulkEntries r
def uptoBulkEntry {H : Type} : Lit × DataW H → Nat
  | (.string bytes, d) => bytes.length + uptoBulk d + 1
  | (_, d) => uptoBulk d + 1
 end
def uptoSmall : (H : Type) → List (DataW H) → Bool := fun _ ds => decide (uptoBulkAll ds ≤ 1048576)
def OpenSpec.upto (s : _root_.Go.ChangeSpec) : _root_.Go.OpenSpec := { _root_.Go.OpenSpec.ofChange s with cond := some uptoSmall }

/-- 'tallysticklaw06.QuotWhole', WHERE WHAT IT READS IS OF BULK AT MOST 1048576: true; the input reads as it did. -/
def quotWholeUptoRow : OpenClaim := { program := "ytofknlpbnpokeaa", sum := "6daa5e75c018fb62237409c958f6024f541162261c87c296705efb0d854add47", func := "tallystick/tallysticklaw06.QuotWhole", spec := "quotWhole", inPlace := ["slices.overlaps[uint64]", "math/bits.Add64", "math/bits.Sub64"], unfollowed := true, recurses := true, named := ["math/bits.divideError", "math/bits.overflowError"], apart := false, narrowed := true }
def QuotWholeUptoSaid : Prop := quotWholeUptoRow.holds Try.pinned (OpenSpec.upto quotWholeSpec)

/-- 'tallysticklaw06.QuotTimes', WHERE WHAT IT READS IS OF BULK AT MOST 1048576: true; the input reads as it did. -/
def quotTimesUptoRow : OpenClaim := { program := "ytofknlpbnpokeaa", sum := "6daa5e75c018fb62237409c958f6024f541162261c87c296705efb0d854add47", func := "tallystick/tallysticklaw06.QuotTimes", spec := "quotTimes", inPlace := ["slices.overlaps[uint64]", "math/bits.Add64", "math/bits.Sub64"], unfollowed := true, recurses := true, named := ["math/bits.divideError", "math/bits.overflowError"], apart := false, narrowed := true }
def QuotTimesUptoSaid : Prop := quotTimesUptoRow.holds Try.pinned (OpenSpec.upto quotTimesSpec)

/-- 'tallysticklaw06.QuotGcds', WHERE WHAT IT READS IS OF BULK AT MOST 1048576: true; the input reads as it did. -/
def quotGcdsUptoRow : OpenClaim := { program := "ytofknlpbnpokeaa", sum := "6daa5e75c018fb62237409c958f6024f541162261c87c296705efb0d854add47", func := "tallystick/tallysticklaw06.QuotGcds", spec := "quotGcds", inPlace := ["slices.overlaps[uint64]", "math/bits.Add64", "math/bits.Sub64"], unfollowed := true, recurses := true, named := ["math/bits.divideError", "math/bits.overflowError"], apart := false, narrowed := true }
def QuotGcdsUptoSaid : Prop := quotGcdsUptoRow.holds Try.pinned (OpenSpec.upto quotGcdsSpec)

/-- 'tallysticklaw06.QuotWords', WHERE WHAT IT READS IS OF BULK AT MOST 1048576: true; the input reads as it did. -/
def quotWordsUptoRow : OpenClaim := { program := "ytofknlpbnpokeaa", sum := "6daa5e75c018fb62237409c958f6024f541162261c87c296705efb0d854add47", func := "tallystick/tallysticklaw06.QuotWords", spec := "quotWords", inPlace := ["slices.overlaps[uint64]", "math/bits.Add64", "math/bits.Sub64"], unfollowed := true, recurses := true, named := ["math/bits.divideError", "math/bits.overflowError"], apart := false, narrowed := true }
def QuotWordsUptoSaid : Prop := quotWordsUptoRow.holds Try.pinned (OpenSpec.upto quotWordsSpec)

/-- 'tallysticklaw06.QuotDivides', WHERE WHAT IT READS IS OF BULK AT MOST 1048576: true; the input reads as it did. -/
def quotDividesUptoRow : OpenClaim := { program := "ytofknlpbnpokeaa", sum := "6daa5e75c018fb62237409c958f6024f541162261c87c296705efb0d854add47", func := "tallystick/tallysticklaw06.QuotDivides", spec := "quotDivides", inPlace := ["slices.overlaps[uint64]", "math/bits.Add64", "math/bits.Sub64"], unfollowed := true, recurses := true, named := ["math/bits.divideError", "math/bits.overflowError"], apart := false, narrowed := true }
def QuotDividesUptoSaid : Prop := quotDividesUptoRow.holds Try.pinned (OpenSpec.upto quotDividesSpec)

/-- 'tallysticklaw06.QuotSteps', WHERE WHAT IT READS IS OF BULK AT MOST 1048576: true; the input reads as it did. -/
def quotStepsUptoRow : OpenClaim := { program := "ytofknlpbnpokeaa", sum := "6daa5e75c018fb62237409c958f6024f541162261c87c296705efb0d854add47", func := "tallystick/tallysticklaw06.QuotSteps", spec := "quotSteps", inPlace := ["slices.overlaps[uint64]", "math/bits.Add64", "math/bits.Sub64"], unfollowed := true, recurses := true, named := ["math/bits.divideError", "math/bits.overflowError"], apart := false, narrowed := true }
def QuotStepsUptoSaid : Prop := quotStepsUptoRow.holds Try.pinned (OpenSpec.upto quotStepsSpec)

/-- 'tallysticklaw06.QuotPowers', WHERE WHAT IT READS IS OF BULK AT MOST 1048576: true; the input reads as it did. -/
def quotPowersUptoRow : OpenClaim := { program := "ytofknlpbnpokeaa", sum := "6daa5e75c018fb62237409c958f6024f541162261c87c296705efb0d854add47", func := "tallystick/tallysticklaw06.QuotPowers", spec := "quotPowers", inPlace := ["slices.overlaps[uint64]", "math/bits.Add64", "math/bits.Sub64"], unfollowed := true, recurses := true, named := ["math/bits.divideError", "math/bits.overflowError"], apart := false, narrowed := true }
def QuotPowersUptoSaid : Prop := quotPowersUptoRow.holds Try.pinned (OpenSpec.upto quotPowersSpec)

end Rows
end Go.Proofs.Ytofknlpbnpokeaa
