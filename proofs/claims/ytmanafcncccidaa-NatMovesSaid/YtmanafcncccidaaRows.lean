/-
  No cell of these rows narrows 'for every input' (looked for: loops, veiled, ifaces, maps, wideKeys, modest, calm, conditions, laid).
  DERIVED. THE GIVEN ROWS OF THIS SEAT. 8 by the template 'for every input the law returns true; each argument reads behind the call as it read before'; 0 by the template 'total and deterministic' (their statements: YtmanafcncccidaaTotals.lean).
  GIVEN WITH THE SEED: the statements are not yours to turn. If you find one false, say at which input.
  Laid BY PROGRAM, IN A SANDBOX (cutbox-rows.mjs): the forced cells as the released guide's own fill.sh prints them over the translation c316c2ce0f47409d… (all of the seat's roots in one cut). By AI agents, Wed Nov 11 2026. No macro, syntax, notation, axiom, sorry.
-/
import Derived.Test.YtmanafcncccidaaChecked
import GoSem.Claim
import GoSem.ClaimJoined
import GoSem.ClaimMapViews
import Derived.JoinedTies
import Derived.KernelRfl
namespace Go.Proofs.Ytmanafcncccidaa
/- THE CELL 'sum', in the pinned program and in every row, IS THE sha256 OF THE DUMP (.gsa) THAT YtmanafcncccidaaProg.lean LOADS. Nothing in Lean hashes anything: it is a label: what it is worth is what the hold of that sum in a sandbox is worth. -/
noncomputable def Try.pinned : Pinned := { name := "ytmanafcncccidaa", sum := "c316c2ce0f47409dcdd6d18579dcb64c85340a23880841c053959bbae079dab5", checked := Try.checked }
namespace Rows
def none {H : Type} : Left H := { results := [], args := [] }

/-- 'tallysticklaw04.NatTells': WHATEVER THE INPUT: true; the input reads as it did. -/
def natTellsSpec : ChangeSpec := { name := "natTells", fn := fun _ => fun
  | [d1, d2, d3] => { results := [.lit (.bool true)], args := [d1, d2, d3] }
  | _ => none }
def natTellsRow : OpenClaim := { program := "ytmanafcncccidaa", sum := "c316c2ce0f47409dcdd6d18579dcb64c85340a23880841c053959bbae079dab5", func := "tallystick/tallysticklaw04.NatTells", spec := "natTells", inPlace := ["math/bits.Add64"], unfollowed := true, recurses := true, apart := false }
def NatTellsSaid : Prop := natTellsRow.holds Try.pinned (OpenSpec.ofChange natTellsSpec)

/-- ITS FALSE NEIGHBOUR: 'it returns false'. Refute it at one input. -/
def natTellsWrong : ChangeSpec := { name := "natTells", fn := fun _ => fun
  | [d1, d2, d3] => { results := [.lit (.bool false)], args := [d1, d2, d3] }
  | _ => none }
def NatTellsWrongFalsely : Prop := natTellsRow.holds Try.pinned (OpenSpec.ofChange natTellsWrong)

/-- 'tallysticklaw04.NatMoves': WHATEVER THE INPUT: true; the input reads as it did. -/
def natMovesSpec : ChangeSpec := { name := "natMoves", fn := fun _ => fun
  | [d1, d2] => { results := [.lit (.bool true)], args := [d1, d2] }
  | _ => none }
def natMovesRow : OpenClaim := { program := "ytmanafcncccidaa", sum := "c316c2ce0f47409dcdd6d18579dcb64c85340a23880841c053959bbae079dab5", func := "tallystick/tallysticklaw04.NatMoves", spec := "natMoves", inPlace := ["math/bits.Add64"], unfollowed := true, recurses := true, apart := false }
def NatMovesSaid : Prop := natMovesRow.holds Try.pinned (OpenSpec.ofChange natMovesSpec)

/-- ITS FALSE NEIGHBOUR: 'it returns false'. Refute it at one input. -/
def natMovesWrong : ChangeSpec := { name := "natMoves", fn := fun _ => fun
  | [d1, d2] => { results := [.lit (.bool false)], args := [d1, d2] }
  | _ => none }
def NatMovesWrongFalsely : Prop := natMovesRow.holds Try.pinned (OpenSpec.ofChange natMovesWrong)

/-- 'tallysticklaw04.NatBack': WHATEVER THE INPUT: true; the input reads as it did. -/
def natBackSpec : ChangeSpec := { name := "natBack", fn := fun _ => fun
  | [d1, d2] => { results := [.lit (.bool true)], args := [d1, d2] }
  | _ => none }
def natBackRow : OpenClaim := { program := "ytmanafcncccidaa", sum := "c316c2ce0f47409dcdd6d18579dcb64c85340a23880841c053959bbae079dab5", func := "tallystick/tallysticklaw04.NatBack", spec := "natBack", inPlace := ["math/bits.Add64", "math/bits.Sub64"], unfollowed := true, recurses := true, apart := false }
def NatBackSaid : Prop := natBackRow.holds Try.pinned (OpenSpec.ofChange natBackSpec)

/-- ITS FALSE NEIGHBOUR: 'it returns false'. Refute it at one input. -/
def natBackWrong : ChangeSpec := { name := "natBack", fn := fun _ => fun
  | [d1, d2] => { results := [.lit (.bool false)], args := [d1, d2] }
  | _ => none }
def NatBackWrongFalsely : Prop := natBackRow.holds Try.pinned (OpenSpec.ofChange natBackWrong)

/-- 'tallysticklaw04.NatLaws': WHATEVER THE INPUT: true; the input reads as it did. -/
def natLawsSpec : ChangeSpec := { name := "natLaws", fn := fun _ => fun
  | [d] => { results := [.lit (.bool true)], args := [d] }
  | _ => none }
def natLawsRow : OpenClaim := { program := "ytmanafcncccidaa", sum := "c316c2ce0f47409dcdd6d18579dcb64c85340a23880841c053959bbae079dab5", func := "tallystick/tallysticklaw04.NatLaws", spec := "natLaws", inPlace := ["math/bits.Add64"], unfollowed := true, recurses := true, apart := false }
def NatLawsSaid : Prop := natLawsRow.holds Try.pinned (OpenSpec.ofChange natLawsSpec)

/-- ITS FALSE NEIGHBOUR: 'it returns false'. Refute it at one input. -/
def natLawsWrong : ChangeSpec := { name := "natLaws", fn := fun _ => fun
  | [d] => { results := [.lit (.bool false)], args := [d] }
  | _ => none }
def NatLawsWrongFalsely : Prop := natLawsRow.holds Try.pinned (OpenSpec.ofChange natLawsWrong)

/-- 'tallysticklaw04.NatParts': WHATEVER THE INPUT: true; the input reads as it did. -/
def natPartsSpec : ChangeSpec := { name := "natParts", fn := fun _ => fun
  | [d1, d2] => { results := [.lit (.bool true)], args := [d1, d2] }
  | _ => none }
def natPartsRow : OpenClaim := { program := "ytmanafcncccidaa", sum := "c316c2ce0f47409dcdd6d18579dcb64c85340a23880841c053959bbae079dab5", func := "tallystick/tallysticklaw04.NatParts", spec := "natParts", inPlace := ["math/bits.Add64"], unfollowed := true, recurses := true, apart := false }
def NatPartsSaid : Prop := natPartsRow.holds Try.pinned (OpenSpec.ofChange natPartsSpec)

/-- ITS FALSE NEIGHBOUR: 'it returns false'. Refute it at one input. -/
def natPartsWrong : ChangeSpec := { name := "natParts", fn := fun _ => fun
  | [d1, d2] => { results := [.lit (.bool false)], args := [d1, d2] }
  | _ => none }
def NatPartsWrongFalsely : Prop := natPartsRow.holds Try.pinned (OpenSpec.ofChange natPartsWrong)

/-- 'tallysticklaw04.NatBits': WHATEVER THE INPUT: true; the input reads as it did. -/
def natBitsSpec : ChangeSpec := { name := "natBits", fn := fun _ => fun
  | [d1, d2] => { results := [.lit (.bool true)], args := [d1, d2] }
  | _ => none }
def natBitsRow : OpenClaim := { program := "ytmanafcncccidaa", sum := "c316c2ce0f47409dcdd6d18579dcb64c85340a23880841c053959bbae079dab5", func := "tallystick/tallysticklaw04.NatBits", spec := "natBits", inPlace := ["math/bits.Add64"], unfollowed := true, recurses := true, apart := false }
def NatBitsSaid : Prop := natBitsRow.holds Try.pinned (OpenSpec.ofChange natBitsSpec)

/-- ITS FALSE NEIGHBOUR: 'it returns false'. Refute it at one input. -/
def natBitsWrong : ChangeSpec := { name := "natBits", fn := fun _ => fun
  | [d1, d2] => { results := [.lit (.bool false)], args := [d1, d2] }
  | _ => none }
def NatBitsWrongFalsely : Prop := natBitsRow.holds Try.pinned (OpenSpec.ofChange natBitsWrong)

/-- 'tallysticklaw04.NatReckons': WHATEVER THE INPUT: true; the input reads as it did. -/
def natReckonsSpec : ChangeSpec := { name := "natReckons", fn := fun _ => fun
  | [d1, d2, d3] => { results := [.lit (.bool true)], args := [d1, d2, d3] }
  | _ => none }
def natReckonsRow : OpenClaim := { program := "ytmanafcncccidaa", sum := "c316c2ce0f47409dcdd6d18579dcb64c85340a23880841c053959bbae079dab5", func := "tallystick/tallysticklaw04.NatReckons", spec := "natReckons", inPlace := ["math/bits.Add64", "math/bits.Sub64"], unfollowed := true, recurses := true, apart := false }
def NatReckonsSaid : Prop := natReckonsRow.holds Try.pinned (OpenSpec.ofChange natReckonsSpec)

/-- ITS FALSE NEIGHBOUR: 'it returns false'. Refute it at one input. -/
def natReckonsWrong : ChangeSpec := { name := "natReckons", fn := fun _ => fun
  | [d1, d2, d3] => { results := [.lit (.bool false)], args := [d1, d2, d3] }
  | _ => none }
def NatReckonsWrongFalsely : Prop := natReckonsRow.holds Try.pinned (OpenSpec.ofChange natReckonsWrong)

/-- 'tallysticklaw04.NatOrder': WHATEVER THE INPUT: true; the input reads as it did. -/
def natOrderSpec : ChangeSpec := { name := "natOrder", fn := fun _ => fun
  | [d] => { results := [.lit (.bool true)], args := [d] }
  | _ => none }
def natOrderRow : OpenClaim := { program := "ytmanafcncccidaa", sum := "c316c2ce0f47409dcdd6d18579dcb64c85340a23880841c053959bbae079dab5", func := "tallystick/tallysticklaw04.NatOrder", spec := "natOrder", inPlace := ["math/bits.Add64", "math/bits.Sub64"], unfollowed := true, recurses := true, apart := false }
def NatOrderSaid : Prop := natOrderRow.holds Try.pinned (OpenSpec.ofChange natOrderSpec)

/-- ITS FALSE NEIGHBOUR: 'it returns false'. Refute it at one input. -/
def natOrderWrong : ChangeSpec := { name := "natOrder", fn := fun _ => fun
  | [d] => { results := [.lit (.bool false)], args := [d] }
  | _ => none }
def NatOrderWrongFalsely : Prop := natOrderRow.holds Try.pinned (OpenSpec.ofChange natOrderWrong)

/- THE SECOND FORM. 'bulk': how many values and letters a reading holds, each counted each time it is reached (what is shared counts as often as it is met; a slice's spare places count too). A statement '..UptoSaid' is the law's where the arguments, and the package variables that the reading takes, are together of bulk at most 1048576: NARROWER than '..Said'. Prove '..Said' where nothing that the law and all that it calls make is longer than what came in: it says more and counts as full. Else prove '..UptoSaid'. A law counts once. -/
mutual
def uptoBulk {H : Type} : DataW H → Nat
  | .lit (.string bytes) => bytes.length + 1
  | .lit _ => 1
  | .nil => 1
  | .ptr d => uptoBulk d + 1
  | .slice elems spare => uptoBulkAll elems + uptoBulkAll spare + 1
  | .agg parts => uptoBulkAll parts + 1
  | .iface _ d => uptoBulk d + 1
  | .map entries => uptoBulkEntries entries + 1
  | .held _ => 1
def uptoBulkAll {H : Type} : List (DataW H) → Nat
  | [] => 0
  | d :: r => uptoBulk d + uptoBulkAll r
def uptoBulkEntries {H : Type} : List (Lit × DataW H) → Nat
  | [] => 0
  | x :: r => uptoBulkEntry x + uptoBulkEntries r
def uptoBulkEntry {H : Type} : Lit × DataW H → Nat
  | (.string bytes, d) => bytes.length + uptoBulk d + 1
  | (_, d) => uptoBulk d + 1
 end
def uptoSmall : (H : Type) → List (DataW H) → Bool := fun _ ds => decide (uptoBulkAll ds ≤ 1048576)
def OpenSpec.upto (s : _root_.Go.ChangeSpec) : _root_.Go.OpenSpec := { _root_.Go.OpenSpec.ofChange s with cond := some uptoSmall }

/-- 'tallysticklaw04.NatTells', WHERE WHAT IT READS IS OF BULK AT MOST 1048576: true; the input reads as it did. -/
def natTellsUptoRow : OpenClaim := { program := "ytmanafcncccidaa", sum := "c316c2ce0f47409dcdd6d18579dcb64c85340a23880841c053959bbae079dab5", func := "tallystick/tallysticklaw04.NatTells", spec := "natTells", inPlace := ["math/bits.Add64"], unfollowed := true, recurses := true, apart := false, narrowed := true }
def NatTellsUptoSaid : Prop := natTellsUptoRow.holds Try.pinned (OpenSpec.upto natTellsSpec)

/-- 'tallysticklaw04.NatMoves', WHERE WHAT IT READS IS OF BULK AT MOST 1048576: true; the input reads as it did. -/
def natMovesUptoRow : OpenClaim := { program := "ytmanafcncccidaa", sum := "c316c2ce0f47409dcdd6d18579dcb64c85340a23880841c053959bbae079dab5", func := "tallystick/tallysticklaw04.NatMoves", spec := "natMoves", inPlace := ["math/bits.Add64"], unfollowed := true, recurses := true, apart := false, narrowed := true }
def NatMovesUptoSaid : Prop := natMovesUptoRow.holds Try.pinned (OpenSpec.upto natMovesSpec)

/-- 'tallysticklaw04.NatBack', WHERE WHAT IT READS IS OF BULK AT MOST 1048576: true; the input reads as it did. -/
def natBackUptoRow : OpenClaim := { program := "ytmanafcncccidaa", sum := "c316c2ce0f47409dcdd6d18579dcb64c85340a23880841c053959bbae079dab5", func := "tallystick/tallysticklaw04.NatBack", spec := "natBack", inPlace := ["math/bits.Add64", "math/bits.Sub64"], unfollowed := true, recurses := true, apart := false, narrowed := true }
def NatBackUptoSaid : Prop := natBackUptoRow.holds Try.pinned (OpenSpec.upto natBackSpec)

/-- 'tallysticklaw04.NatLaws', WHERE WHAT IT READS IS OF BULK AT MOST 1048576: true; the input reads as it did. -/
def natLawsUptoRow : OpenClaim := { program := "ytmanafcncccidaa", sum := "c316c2ce0f47409dcdd6d18579dcb64c85340a23880841c053959bbae079dab5", func := "tallystick/tallysticklaw04.NatLaws", spec := "natLaws", inPlace := ["math/bits.Add64"], unfollowed := true, recurses := true, apart := false, narrowed := true }
def NatLawsUptoSaid : Prop := natLawsUptoRow.holds Try.pinned (OpenSpec.upto natLawsSpec)

/-- 'tallysticklaw04.NatParts', WHERE WHAT IT READS IS OF BULK AT MOST 1048576: true; the input reads as it did. -/
def natPartsUptoRow : OpenClaim := { program := "ytmanafcncccidaa", sum := "c316c2ce0f47409dcdd6d18579dcb64c85340a23880841c053959bbae079dab5", func := "tallystick/tallysticklaw04.NatParts", spec := "natParts", inPlace := ["math/bits.Add64"], unfollowed := true, recurses := true, apart := false, narrowed := true }
def NatPartsUptoSaid : Prop := natPartsUptoRow.holds Try.pinned (OpenSpec.upto natPartsSpec)

/-- 'tallysticklaw04.NatBits', WHERE WHAT IT READS IS OF BULK AT MOST 1048576: true; the input reads as it did. -/
def natBitsUptoRow : OpenClaim := { program := "ytmanafcncccidaa", sum := "c316c2ce0f47409dcdd6d18579dcb64c85340a23880841c053959bbae079dab5", func := "tallystick/tallysticklaw04.NatBits", spec := "natBits", inPlace := ["math/bits.Add64"], unfollowed := true, recurses := true, apart := false, narrowed := true }
def NatBitsUptoSaid : Prop := natBitsUptoRow.holds Try.pinned (OpenSpec.upto natBitsSpec)

/-- 'tallysticklaw04.NatReckons', WHERE WHAT IT READS IS OF BULK AT MOST 1048576: true; the input reads as it did. -/
def natReckonsUptoRow : OpenClaim := { program := "ytmanafcncccidaa", sum := "c316c2ce0f47409dcdd6d18579dcb64c85340a23880841c053959bbae079dab5", func := "tallystick/tallysticklaw04.NatReckons", spec := "natReckons", inPlace := ["math/bits.Add64", "math/bits.Sub64"], unfollowed := true, recurses := true, apart := false, narrowed := true }
def NatReckonsUptoSaid : Prop := natReckonsUptoRow.holds Try.pinned (OpenSpec.upto natReckonsSpec)

/-- 'tallysticklaw04.NatOrder', WHERE WHAT IT READS IS OF BULK AT MOST 1048576: true; the input reads as it did. -/
def natOrderUptoRow : OpenClaim := { program := "ytmanafcncccidaa", sum := "c316c2ce0f47409dcdd6d18579dcb64c85340a23880841c053959bbae079dab5", func := "tallystick/tallysticklaw04.NatOrder", spec := "natOrder", inPlace := ["math/bits.Add64", "math/bits.Sub64"], unfollowed := true, recurses := true, apart := false, narrowed := true }
def NatOrderUptoSaid : Prop := natOrderUptoRow.holds Try.pinned (OpenSpec.upto natOrderSpec)

end Rows
end Go.Proofs.Ytmanafcncccidaa
