/-
  No cell of these rows narrows 'for every input' (looked for: loops, veiled, ifaces, maps, wideKeys, modest, calm, conditions, laid).
  DERIVED. THE GIVEN ROWS OF THIS SEAT. 7 by the template 'for every input the law returns true; each argument reads behind the call as it read before'; 0 by the template 'total and deterministic' (their statements: YtgoglfojjpibnaaTotals.lean).
  GIVEN WITH THE SEED: the statements are not yours to turn. If you find one false, say at which input.
  Laid BY PROGRAM, IN A SANDBOX (cutbox-rows.mjs): the forced cells as the released guide's own fill.sh prints them over the translation f681242c049451b0… (all of the seat's roots in one cut). By AI agents, Wed Nov 11 2026. No macro, syntax, notation, axiom, sorry.
-/
import Derived.Test.YtgoglfojjpibnaaChecked
import GoSem.Claim
import GoSem.ClaimJoined
import GoSem.ClaimMapViews
import Derived.JoinedTies
import Derived.KernelRfl
namespace Go.Proofs.Ytgoglfojjpibnaa
/- THE CELL 'sum', in the pinned program and in every row, IS THE sha256 OF THE DUMP (.gsa) THAT YtgoglfojjpibnaaProg.lean LOADS. Nothing in Lean hashes anything: it is a label: what it is worth is what the hold of that sum in a sandbox is worth. -/
noncomputable def Try.pinned : Pinned := { name := "ytgoglfojjpibnaa", sum := "f681242c049451b0200a8e80eba045a9391f4d50c5a379e4459ac0cdfbb909f9", checked := Try.checked }
namespace Rows
def none {H : Type} : Left H := { results := [], args := [] }

/-- 'tallysticklaw05.ProdLaws': WHATEVER THE INPUT: true; the input reads as it did. -/
def prodLawsSpec : ChangeSpec := { name := "prodLaws", fn := fun _ => fun
  | [d1, d2, d3] => { results := [.lit (.bool true)], args := [d1, d2, d3] }
  | _ => none }
def prodLawsRow : OpenClaim := { program := "ytgoglfojjpibnaa", sum := "f681242c049451b0200a8e80eba045a9391f4d50c5a379e4459ac0cdfbb909f9", func := "tallystick/tallysticklaw05.ProdLaws", spec := "prodLaws", inPlace := ["math/bits.Add64"], apart := false }
def ProdLawsSaid : Prop := prodLawsRow.holds Try.pinned (OpenSpec.ofChange prodLawsSpec)

/-- ITS FALSE NEIGHBOUR: 'it returns false'. Refute it at one input. -/
def prodLawsWrong : ChangeSpec := { name := "prodLaws", fn := fun _ => fun
  | [d1, d2, d3] => { results := [.lit (.bool false)], args := [d1, d2, d3] }
  | _ => none }
def ProdLawsWrongFalsely : Prop := prodLawsRow.holds Try.pinned (OpenSpec.ofChange prodLawsWrong)

/-- 'tallysticklaw05.ProdHalves': WHATEVER THE INPUT: true; the input reads as it did. -/
def prodHalvesSpec : ChangeSpec := { name := "prodHalves", fn := fun _ => fun
  | [d1, d2] => { results := [.lit (.bool true)], args := [d1, d2] }
  | _ => none }
def prodHalvesRow : OpenClaim := { program := "ytgoglfojjpibnaa", sum := "f681242c049451b0200a8e80eba045a9391f4d50c5a379e4459ac0cdfbb909f9", func := "tallystick/tallysticklaw05.ProdHalves", spec := "prodHalves", inPlace := ["math/bits.Add64"], apart := false }
def ProdHalvesSaid : Prop := prodHalvesRow.holds Try.pinned (OpenSpec.ofChange prodHalvesSpec)

/-- ITS FALSE NEIGHBOUR: 'it returns false'. Refute it at one input. -/
def prodHalvesWrong : ChangeSpec := { name := "prodHalves", fn := fun _ => fun
  | [d1, d2] => { results := [.lit (.bool false)], args := [d1, d2] }
  | _ => none }
def ProdHalvesWrongFalsely : Prop := prodHalvesRow.holds Try.pinned (OpenSpec.ofChange prodHalvesWrong)

/-- 'tallysticklaw05.ProdMacs': WHATEVER THE INPUT: true; the input reads as it did. -/
def prodMacsSpec : ChangeSpec := { name := "prodMacs", fn := fun _ => fun
  | [d1, d2] => { results := [.lit (.bool true)], args := [d1, d2] }
  | _ => none }
def prodMacsRow : OpenClaim := { program := "ytgoglfojjpibnaa", sum := "f681242c049451b0200a8e80eba045a9391f4d50c5a379e4459ac0cdfbb909f9", func := "tallystick/tallysticklaw05.ProdMacs", spec := "prodMacs", inPlace := ["math/bits.Add64"], unfollowed := true, recurses := true, apart := false }
def ProdMacsSaid : Prop := prodMacsRow.holds Try.pinned (OpenSpec.ofChange prodMacsSpec)

/-- ITS FALSE NEIGHBOUR: 'it returns false'. Refute it at one input. -/
def prodMacsWrong : ChangeSpec := { name := "prodMacs", fn := fun _ => fun
  | [d1, d2] => { results := [.lit (.bool false)], args := [d1, d2] }
  | _ => none }
def ProdMacsWrongFalsely : Prop := prodMacsRow.holds Try.pinned (OpenSpec.ofChange prodMacsWrong)

/-- 'tallysticklaw05.ProdAdds': WHATEVER THE INPUT: true; the input reads as it did. -/
def prodAddsSpec : ChangeSpec := { name := "prodAdds", fn := fun _ => fun
  | [d] => { results := [.lit (.bool true)], args := [d] }
  | _ => none }
def prodAddsRow : OpenClaim := { program := "ytgoglfojjpibnaa", sum := "f681242c049451b0200a8e80eba045a9391f4d50c5a379e4459ac0cdfbb909f9", func := "tallystick/tallysticklaw05.ProdAdds", spec := "prodAdds", inPlace := ["math/bits.Add64"], unfollowed := true, recurses := true, apart := false }
def ProdAddsSaid : Prop := prodAddsRow.holds Try.pinned (OpenSpec.ofChange prodAddsSpec)

/-- ITS FALSE NEIGHBOUR: 'it returns false'. Refute it at one input. -/
def prodAddsWrong : ChangeSpec := { name := "prodAdds", fn := fun _ => fun
  | [d] => { results := [.lit (.bool false)], args := [d] }
  | _ => none }
def ProdAddsWrongFalsely : Prop := prodAddsRow.holds Try.pinned (OpenSpec.ofChange prodAddsWrong)

/-- 'tallysticklaw05.ProdBits': WHATEVER THE INPUT: true; the input reads as it did. -/
def prodBitsSpec : ChangeSpec := { name := "prodBits", fn := fun _ => fun
  | [d1, d2, d3] => { results := [.lit (.bool true)], args := [d1, d2, d3] }
  | _ => none }
def prodBitsRow : OpenClaim := { program := "ytgoglfojjpibnaa", sum := "f681242c049451b0200a8e80eba045a9391f4d50c5a379e4459ac0cdfbb909f9", func := "tallystick/tallysticklaw05.ProdBits", spec := "prodBits", inPlace := ["math/bits.Add64", "math/bits.Sub64"], unfollowed := true, recurses := true, apart := false }
def ProdBitsSaid : Prop := prodBitsRow.holds Try.pinned (OpenSpec.ofChange prodBitsSpec)

/-- ITS FALSE NEIGHBOUR: 'it returns false'. Refute it at one input. -/
def prodBitsWrong : ChangeSpec := { name := "prodBits", fn := fun _ => fun
  | [d1, d2, d3] => { results := [.lit (.bool false)], args := [d1, d2, d3] }
  | _ => none }
def ProdBitsWrongFalsely : Prop := prodBitsRow.holds Try.pinned (OpenSpec.ofChange prodBitsWrong)

/-- 'tallysticklaw05.ProdTimes': WHATEVER THE INPUT: true; the input reads as it did. -/
def prodTimesSpec : ChangeSpec := { name := "prodTimes", fn := fun _ => fun
  | [d1, d2, d3] => { results := [.lit (.bool true)], args := [d1, d2, d3] }
  | _ => none }
def prodTimesRow : OpenClaim := { program := "ytgoglfojjpibnaa", sum := "f681242c049451b0200a8e80eba045a9391f4d50c5a379e4459ac0cdfbb909f9", func := "tallystick/tallysticklaw05.ProdTimes", spec := "prodTimes", inPlace := ["math/bits.Add64", "math/bits.Sub64"], unfollowed := true, recurses := true, apart := false }
def ProdTimesSaid : Prop := prodTimesRow.holds Try.pinned (OpenSpec.ofChange prodTimesSpec)

/-- ITS FALSE NEIGHBOUR: 'it returns false'. Refute it at one input. -/
def prodTimesWrong : ChangeSpec := { name := "prodTimes", fn := fun _ => fun
  | [d1, d2, d3] => { results := [.lit (.bool false)], args := [d1, d2, d3] }
  | _ => none }
def ProdTimesWrongFalsely : Prop := prodTimesRow.holds Try.pinned (OpenSpec.ofChange prodTimesWrong)

/-- 'tallysticklaw05.ProdSquares': WHATEVER THE INPUT: true; the input reads as it did. -/
def prodSquaresSpec : ChangeSpec := { name := "prodSquares", fn := fun _ => fun
  | [d1, d2] => { results := [.lit (.bool true)], args := [d1, d2] }
  | _ => none }
def prodSquaresRow : OpenClaim := { program := "ytgoglfojjpibnaa", sum := "f681242c049451b0200a8e80eba045a9391f4d50c5a379e4459ac0cdfbb909f9", func := "tallystick/tallysticklaw05.ProdSquares", spec := "prodSquares", inPlace := ["math/bits.Add64", "math/bits.Sub64"], unfollowed := true, recurses := true, apart := false }
def ProdSquaresSaid : Prop := prodSquaresRow.holds Try.pinned (OpenSpec.ofChange prodSquaresSpec)

/-- ITS FALSE NEIGHBOUR: 'it returns false'. Refute it at one input. -/
def prodSquaresWrong : ChangeSpec := { name := "prodSquares", fn := fun _ => fun
  | [d1, d2] => { results := [.lit (.bool false)], args := [d1, d2] }
  | _ => none }
def ProdSquaresWrongFalsely : Prop := prodSquaresRow.holds Try.pinned (OpenSpec.ofChange prodSquaresWrong)

/- THE SECOND FORM. 'bulk': how many values and letters a reading holds, each counted each time it is reached (what is shared counts as often as it is met; a slice's spare places count too). A statement '..UptoSaid' is the law's where the arguments, and the package variables that the reading takes, are together of bulk at most 1048576: NARROWER than '..Said'. Prove '..Said' where nothing that the law and all that it calls make is longer than what came in: it says more and counts as full. Else prove '..UptoSaid'. A law counts once. -/
mutual
def uptoBulk {H : Type} : DataW H → Nat
  | .lit (.string bytes) => bytes.length + 1
  | .lit _ => 1
  | .nil => 1
  | .ptr d => uptoBulk d + 1
  | .slice elems spare => uptoBulkAll elems + uptoBulkAll spare + 1
  | .agg parts => uptoBulkAll parts + 1
  | .iface _ d => uptoBulk d + 1
  | .map entries => uptoBulkEntries entries + 1
  | .held _ => 1
def uptoBulkAll {H : Type} : List (DataW H) → Nat
  | [] => 0
  | d :: r => uptoBulk d + uptoBulkAll r
def uptoBulkEntries {H : Type} : List (Lit × DataW H) → Nat
  | [] => 0
  | x :: r => uptoBulkEntry x + uptoBulkEntries r
def uptoBulkEntry {H : Type} : Lit × DataW H → Nat
  | (.string bytes, d) => bytes.length + uptoBulk d + 1
  | (_, d) => uptoBulk d + 1
 end
def uptoSmall : (H : Type) → List (DataW H) → Bool := fun _ ds => decide (uptoBulkAll ds ≤ 1048576)
def OpenSpec.upto (s : _root_.Go.ChangeSpec) : _root_.Go.OpenSpec := { _root_.Go.OpenSpec.ofChange s with cond := some uptoSmall }

/-- 'tallysticklaw05.ProdLaws', WHERE WHAT IT READS IS OF BULK AT MOST 1048576: true; the input reads as it did. -/
def prodLawsUptoRow : OpenClaim := { program := "ytgoglfojjpibnaa", sum := "f681242c049451b0200a8e80eba045a9391f4d50c5a379e4459ac0cdfbb909f9", func := "tallystick/tallysticklaw05.ProdLaws", spec := "prodLaws", inPlace := ["math/bits.Add64"], apart := false, narrowed := true }
def ProdLawsUptoSaid : Prop := prodLawsUptoRow.holds Try.pinned (OpenSpec.upto prodLawsSpec)

/-- 'tallysticklaw05.ProdHalves', WHERE WHAT IT READS IS OF BULK AT MOST 1048576: true; the input reads as it did. -/
def prodHalvesUptoRow : OpenClaim := { program := "ytgoglfojjpibnaa", sum := "f681242c049451b0200a8e80eba045a9391f4d50c5a379e4459ac0cdfbb909f9", func := "tallystick/tallysticklaw05.ProdHalves", spec := "prodHalves", inPlace := ["math/bits.Add64"], apart := false, narrowed := true }
def ProdHalvesUptoSaid : Prop := prodHalvesUptoRow.holds Try.pinned (OpenSpec.upto prodHalvesSpec)

/-- 'tallysticklaw05.ProdMacs', WHERE WHAT IT READS IS OF BULK AT MOST 1048576: true; the input reads as it did. -/
def prodMacsUptoRow : OpenClaim := { program := "ytgoglfojjpibnaa", sum := "f681242c049451b0200a8e80eba045a9391f4d50c5a379e4459ac0cdfbb909f9", func := "tallystick/tallysticklaw05.ProdMacs", spec := "prodMacs", inPlace := ["math/bits.Add64"], unfollowed := true, recurses := true, apart := false, narrowed := true }
def ProdMacsUptoSaid : Prop := prodMacsUptoRow.holds Try.pinned (OpenSpec.upto prodMacsSpec)

/-- 'tallysticklaw05.ProdAdds', WHERE WHAT IT READS IS OF BULK AT MOST 1048576: true; the input reads as it did. -/
def prodAddsUptoRow : OpenClaim := { program := "ytgoglfojjpibnaa", sum := "f681242c049451b0200a8e80eba045a9391f4d50c5a379e4459ac0cdfbb909f9", func := "tallystick/tallysticklaw05.ProdAdds", spec := "prodAdds", inPlace := ["math/bits.Add64"], unfollowed := true, recurses := true, apart := false, narrowed := true }
def ProdAddsUptoSaid : Prop := prodAddsUptoRow.holds Try.pinned (OpenSpec.upto prodAddsSpec)

/-- 'tallysticklaw05.ProdBits', WHERE WHAT IT READS IS OF BULK AT MOST 1048576: true; the input reads as it did. -/
def prodBitsUptoRow : OpenClaim := { program := "ytgoglfojjpibnaa", sum := "f681242c049451b0200a8e80eba045a9391f4d50c5a379e4459ac0cdfbb909f9", func := "tallystick/tallysticklaw05.ProdBits", spec := "prodBits", inPlace := ["math/bits.Add64", "math/bits.Sub64"], unfollowed := true, recurses := true, apart := false, narrowed := true }
def ProdBitsUptoSaid : Prop := prodBitsUptoRow.holds Try.pinned (OpenSpec.upto prodBitsSpec)

/-- 'tallysticklaw05.ProdTimes', WHERE WHAT IT READS IS OF BULK AT MOST 1048576: true; the input reads as it did. -/
def prodTimesUptoRow : OpenClaim := { program := "ytgoglfojjpibnaa", sum := "f681242c049451b0200a8e80eba045a9391f4d50c5a379e4459ac0cdfbb909f9", func := "tallystick/tallysticklaw05.ProdTimes", spec := "prodTimes", inPlace := ["math/bits.Add64", "math/bits.Sub64"], unfollowed := true, recurses := true, apart := false, narrowed := true }
def ProdTimesUptoSaid : Prop := prodTimesUptoRow.holds Try.pinned (OpenSpec.upto prodTimesSpec)

/-- 'tallysticklaw05.ProdSquares', WHERE WHAT IT READS IS OF BULK AT MOST 1048576: true; the input reads as it did. -/
def prodSquaresUptoRow : OpenClaim := { program := "ytgoglfojjpibnaa", sum := "f681242c049451b0200a8e80eba045a9391f4d50c5a379e4459ac0cdfbb909f9", func := "tallystick/tallysticklaw05.ProdSquares", spec := "prodSquares", inPlace := ["math/bits.Add64", "math/bits.Sub64"], unfollowed := true, recurses := true, apart := false, narrowed := true }
def ProdSquaresUptoSaid : Prop := prodSquaresUptoRow.holds Try.pinned (OpenSpec.upto prodSquaresSpec)

end Rows
end Go.Proofs.Ytgoglfojjpibnaa
