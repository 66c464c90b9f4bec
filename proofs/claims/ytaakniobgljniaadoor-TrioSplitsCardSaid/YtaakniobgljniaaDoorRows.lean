/-
  NARROWER THAN 'FOR EVERY INPUT', by the rows' own cells (each row's printed sentence says how): TrioTimes: laid · TrioLaws: laid · TrioSums: laid · TrioFew: laid · TrioSplits: laid · TrioBack: laid · TrioAgrees: laid.
  DERIVED. THE GIVEN ROWS OF THIS SEAT. 7 by the template 'for every input the law returns true; each argument reads behind the call as it read before'; 0 by the template 'total and deterministic' (their statements: YtaakniobgljniaaDoorTotals.lean).
  GIVEN WITH THE SEED: the statements are not yours to turn. If you find one false, say at which input.
  Laid BY PROGRAM, IN A SANDBOX (cutbox-rows.mjs): the forced cells as the released guide's own fill.sh prints them over the translation eeb0dc66afacf9f5… (all of the seat's roots in one cut). By AI agents, Wed Nov 11 2026. No macro, syntax, notation, axiom, sorry.
-/
import Derived.Test.YtaakniobgljniaaDoorChecked
import GoSem.Claim
import GoSem.ClaimJoined
import GoSem.ClaimMapViews
import Derived.JoinedTies
import Derived.KernelRfl
namespace Go.Proofs.YtaakniobgljniaaDoor
/- THE CELL 'sum', in the pinned program and in every row, IS THE sha256 OF THE DUMP (.gsa) THAT YtaakniobgljniaaDoorProg.lean LOADS. Nothing in Lean hashes anything: it is a label: what it is worth is what the hold of that sum in a sandbox is worth. -/
noncomputable def Tryd.pinned : Pinned := { name := "ytaakniobgljniaadoor", sum := "eeb0dc66afacf9f5ab1731848047358e9103fac5e567779d3aa1989860f3770c", checked := Tryd.checked }
namespace Rows
def none {H : Type} : Left H := { results := [], args := [] }

/- WHAT THE LISTED PACKAGE-LEVEL VARIABLES READ AS WHEN THE CALL BEGINS. Each datum BY PROGRAM (the guide's laid-datum.mjs) off the statement by which the dump's own 'gosem.cut.vars' lays the variable. In a bare row this is a premise. The card (YtaakniobgljniaaDoorCards.lean) ties it to the program's text. -/
def laid_tallystick_trio_primes {H : Type} : DataW H := .agg [.lit (.int .u32 998244353), .lit (.int .u32 167772161), .lit (.int .u32 469762049)]

/-- 'tallysticklaw09.TrioTimes': WHATEVER THE INPUT: true; the input reads as it did. -/
def trioTimesSpec : ChangeSpec := { name := "trioTimes", fn := fun _ => fun
  | [d1, d2, d3] => { results := [.lit (.bool true)], args := [d1, d2, d3] }
  | _ => none }
def trioTimesRow : OpenClaim := { program := "ytaakniobgljniaadoor", sum := "eeb0dc66afacf9f5ab1731848047358e9103fac5e567779d3aa1989860f3770c", func := "tallystick/tallysticklaw09.TrioTimes", spec := "trioTimes", inPlace := ["math/bits.Add64"], unfollowed := true, recurses := true, named := ["tallystick/trio.primes"], apart := false, laid := [("tallystick/trio.primes", laid_tallystick_trio_primes)] }
def TrioTimesSaid : Prop := trioTimesRow.holds Tryd.pinned (OpenSpec.ofChange trioTimesSpec)

/-- ITS FALSE NEIGHBOUR: 'it returns false'. Refute it at one input. -/
def trioTimesWrong : ChangeSpec := { name := "trioTimes", fn := fun _ => fun
  | [d1, d2, d3] => { results := [.lit (.bool false)], args := [d1, d2, d3] }
  | _ => none }
def TrioTimesWrongFalsely : Prop := trioTimesRow.holds Tryd.pinned (OpenSpec.ofChange trioTimesWrong)

/-- 'tallysticklaw09.TrioLaws': WHATEVER THE INPUT: true; the input reads as it did. -/
def trioLawsSpec : ChangeSpec := { name := "trioLaws", fn := fun _ => fun
  | [d1, d2] => { results := [.lit (.bool true)], args := [d1, d2] }
  | _ => none }
def trioLawsRow : OpenClaim := { program := "ytaakniobgljniaadoor", sum := "eeb0dc66afacf9f5ab1731848047358e9103fac5e567779d3aa1989860f3770c", func := "tallystick/tallysticklaw09.TrioLaws", spec := "trioLaws", inPlace := ["math/bits.Add64"], unfollowed := true, recurses := true, named := ["tallystick/trio.primes"], apart := false, laid := [("tallystick/trio.primes", laid_tallystick_trio_primes)] }
def TrioLawsSaid : Prop := trioLawsRow.holds Tryd.pinned (OpenSpec.ofChange trioLawsSpec)

/-- ITS FALSE NEIGHBOUR: 'it returns false'. Refute it at one input. -/
def trioLawsWrong : ChangeSpec := { name := "trioLaws", fn := fun _ => fun
  | [d1, d2] => { results := [.lit (.bool false)], args := [d1, d2] }
  | _ => none }
def TrioLawsWrongFalsely : Prop := trioLawsRow.holds Tryd.pinned (OpenSpec.ofChange trioLawsWrong)

/-- 'tallysticklaw09.TrioSums': WHATEVER THE INPUT: true; the input reads as it did. -/
def trioSumsSpec : ChangeSpec := { name := "trioSums", fn := fun _ => fun
  | [d1, d2, d3] => { results := [.lit (.bool true)], args := [d1, d2, d3] }
  | _ => none }
def trioSumsRow : OpenClaim := { program := "ytaakniobgljniaadoor", sum := "eeb0dc66afacf9f5ab1731848047358e9103fac5e567779d3aa1989860f3770c", func := "tallystick/tallysticklaw09.TrioSums", spec := "trioSums", inPlace := ["math/bits.Add64"], unfollowed := true, recurses := true, named := ["tallystick/trio.primes"], apart := false, laid := [("tallystick/trio.primes", laid_tallystick_trio_primes)] }
def TrioSumsSaid : Prop := trioSumsRow.holds Tryd.pinned (OpenSpec.ofChange trioSumsSpec)

/-- ITS FALSE NEIGHBOUR: 'it returns false'. Refute it at one input. -/
def trioSumsWrong : ChangeSpec := { name := "trioSums", fn := fun _ => fun
  | [d1, d2, d3] => { results := [.lit (.bool false)], args := [d1, d2, d3] }
  | _ => none }
def TrioSumsWrongFalsely : Prop := trioSumsRow.holds Tryd.pinned (OpenSpec.ofChange trioSumsWrong)

/-- 'tallysticklaw09.TrioFew': WHATEVER THE INPUT: true; the input reads as it did. -/
def trioFewSpec : ChangeSpec := { name := "trioFew", fn := fun _ => fun
  | [d1, d2] => { results := [.lit (.bool true)], args := [d1, d2] }
  | _ => none }
def trioFewRow : OpenClaim := { program := "ytaakniobgljniaadoor", sum := "eeb0dc66afacf9f5ab1731848047358e9103fac5e567779d3aa1989860f3770c", func := "tallystick/tallysticklaw09.TrioFew", spec := "trioFew", inPlace := ["math/bits.Add64"], unfollowed := true, recurses := true, named := ["tallystick/trio.primes", "math/bits.divideError", "math/bits.overflowError"], apart := false, laid := [("tallystick/trio.primes", laid_tallystick_trio_primes)] }
def TrioFewSaid : Prop := trioFewRow.holds Tryd.pinned (OpenSpec.ofChange trioFewSpec)

/-- ITS FALSE NEIGHBOUR: 'it returns false'. Refute it at one input. -/
def trioFewWrong : ChangeSpec := { name := "trioFew", fn := fun _ => fun
  | [d1, d2] => { results := [.lit (.bool false)], args := [d1, d2] }
  | _ => none }
def TrioFewWrongFalsely : Prop := trioFewRow.holds Tryd.pinned (OpenSpec.ofChange trioFewWrong)

/-- 'tallysticklaw09.TrioSplits': WHATEVER THE INPUT: true; the input reads as it did. -/
def trioSplitsSpec : ChangeSpec := { name := "trioSplits", fn := fun _ => fun
  | [d1, d2] => { results := [.lit (.bool true)], args := [d1, d2] }
  | _ => none }
def trioSplitsRow : OpenClaim := { program := "ytaakniobgljniaadoor", sum := "eeb0dc66afacf9f5ab1731848047358e9103fac5e567779d3aa1989860f3770c", func := "tallystick/tallysticklaw09.TrioSplits", spec := "trioSplits", inPlace := ["math/bits.Add64"], unfollowed := true, recurses := true, named := ["tallystick/trio.primes", "math/bits.divideError", "math/bits.overflowError"], apart := false, laid := [("tallystick/trio.primes", laid_tallystick_trio_primes)] }
def TrioSplitsSaid : Prop := trioSplitsRow.holds Tryd.pinned (OpenSpec.ofChange trioSplitsSpec)

/-- ITS FALSE NEIGHBOUR: 'it returns false'. Refute it at one input. -/
def trioSplitsWrong : ChangeSpec := { name := "trioSplits", fn := fun _ => fun
  | [d1, d2] => { results := [.lit (.bool false)], args := [d1, d2] }
  | _ => none }
def TrioSplitsWrongFalsely : Prop := trioSplitsRow.holds Tryd.pinned (OpenSpec.ofChange trioSplitsWrong)

/-- 'tallysticklaw09.TrioBack': WHATEVER THE INPUT: true; the input reads as it did. -/
def trioBackSpec : ChangeSpec := { name := "trioBack", fn := fun _ => fun
  | [d1, d2] => { results := [.lit (.bool true)], args := [d1, d2] }
  | _ => none }
def trioBackRow : OpenClaim := { program := "ytaakniobgljniaadoor", sum := "eeb0dc66afacf9f5ab1731848047358e9103fac5e567779d3aa1989860f3770c", func := "tallystick/tallysticklaw09.TrioBack", spec := "trioBack", inPlace := ["math/bits.Add64"], unfollowed := true, recurses := true, named := ["tallystick/trio.primes", "math/bits.divideError", "math/bits.overflowError"], apart := false, laid := [("tallystick/trio.primes", laid_tallystick_trio_primes)] }
def TrioBackSaid : Prop := trioBackRow.holds Tryd.pinned (OpenSpec.ofChange trioBackSpec)

/-- ITS FALSE NEIGHBOUR: 'it returns false'. Refute it at one input. -/
def trioBackWrong : ChangeSpec := { name := "trioBack", fn := fun _ => fun
  | [d1, d2] => { results := [.lit (.bool false)], args := [d1, d2] }
  | _ => none }
def TrioBackWrongFalsely : Prop := trioBackRow.holds Tryd.pinned (OpenSpec.ofChange trioBackWrong)

/-- 'tallysticklaw09.TrioAgrees': WHATEVER THE INPUT: true; the input reads as it did. -/
def trioAgreesSpec : ChangeSpec := { name := "trioAgrees", fn := fun _ => fun
  | [d1, d2, d3] => { results := [.lit (.bool true)], args := [d1, d2, d3] }
  | _ => none }
def trioAgreesRow : OpenClaim := { program := "ytaakniobgljniaadoor", sum := "eeb0dc66afacf9f5ab1731848047358e9103fac5e567779d3aa1989860f3770c", func := "tallystick/tallysticklaw09.TrioAgrees", spec := "trioAgrees", inPlace := ["math/bits.Add64"], unfollowed := true, recurses := true, named := ["tallystick/trio.primes", "math/bits.divideError", "math/bits.overflowError"], apart := false, laid := [("tallystick/trio.primes", laid_tallystick_trio_primes)] }
def TrioAgreesSaid : Prop := trioAgreesRow.holds Tryd.pinned (OpenSpec.ofChange trioAgreesSpec)

/-- ITS FALSE NEIGHBOUR: 'it returns false'. Refute it at one input. -/
def trioAgreesWrong : ChangeSpec := { name := "trioAgrees", fn := fun _ => fun
  | [d1, d2, d3] => { results := [.lit (.bool false)], args := [d1, d2, d3] }
  | _ => none }
def TrioAgreesWrongFalsely : Prop := trioAgreesRow.holds Tryd.pinned (OpenSpec.ofChange trioAgreesWrong)

/- THE SECOND FORM. 'bulk': how many values and letters a reading holds, each counted each time it is reached (what is shared counts as often as it is met; a slice's spare places count too). A statement '..UptoSaid' is the law's where the arguments, and the package variables that the reading takes, are together of bulk at most 1048576: NARROWER than '..Said'. Prove '..Said' where nothing that the law and all that it calls make is longer than what came in: it says more and counts as full. Else prove '..UptoSaid'. A law counts once. -/
mutual
def uptoBulk {H : Type} : DataW H → Nat
  | .lit (.string bytes) => bytes.length + 1
  | .lit _ => 1
  | .nil => 1
  | .ptr d => uptoBulk d + 1
  | .slice elems spare => uptoBulkAll elems + uptoBulkAll spare + 1
  | .agg parts => uptoBulkAll parts + 1
  | .iface _ d => uptoBulk d + 1
  | .map entries => uptoBulkEntries entries + 1
  | .held _ => 1
def uptoBulkAll {H : Type} : List (DataW H) → Nat
  | [] => 0
  | d :: r => uptoBulk d + uptoBulkAll r
def uptoBulkEntries {H : Type} : List (Lit × DataW H) → Nat
  | [] => 0
  | x :: r => uptoBulkEntry x + uptoBulkEntries r
def uptoBulkEntry {H : Type} : Lit × DataW H → Nat
  | (.string bytes, d) => bytes.length + uptoBulk d + 1
  | (_, d) => uptoBulk d + 1
 end
def uptoSmall : (H : Type) → List (DataW H) → Bool := fun _ ds => decide (uptoBulkAll ds ≤ 1048576)
def OpenSpec.upto (s : _root_.Go.ChangeSpec) : _root_.Go.OpenSpec := { _root_.Go.OpenSpec.ofChange s with cond := some uptoSmall }

/-- 'tallysticklaw09.TrioTimes', WHERE WHAT IT READS IS OF BULK AT MOST 1048576: true; the input reads as it did. -/
def trioTimesUptoRow : OpenClaim := { program := "ytaakniobgljniaadoor", sum := "eeb0dc66afacf9f5ab1731848047358e9103fac5e567779d3aa1989860f3770c", func := "tallystick/tallysticklaw09.TrioTimes", spec := "trioTimes", inPlace := ["math/bits.Add64"], unfollowed := true, recurses := true, named := ["tallystick/trio.primes"], apart := false, laid := [("tallystick/trio.primes", laid_tallystick_trio_primes)], narrowed := true }
def TrioTimesUptoSaid : Prop := trioTimesUptoRow.holds Tryd.pinned (OpenSpec.upto trioTimesSpec)

/-- 'tallysticklaw09.TrioLaws', WHERE WHAT IT READS IS OF BULK AT MOST 1048576: true; the input reads as it did. -/
def trioLawsUptoRow : OpenClaim := { program := "ytaakniobgljniaadoor", sum := "eeb0dc66afacf9f5ab1731848047358e9103fac5e567779d3aa1989860f3770c", func := "tallystick/tallysticklaw09.TrioLaws", spec := "trioLaws", inPlace := ["math/bits.Add64"], unfollowed := true, recurses := true, named := ["tallystick/trio.primes"], apart := false, laid := [("tallystick/trio.primes", laid_tallystick_trio_primes)], narrowed := true }
def TrioLawsUptoSaid : Prop := trioLawsUptoRow.holds Tryd.pinned (OpenSpec.upto trioLawsSpec)

/-- 'tallysticklaw09.TrioSums', WHERE WHAT IT READS IS OF BULK AT MOST 1048576: true; the input reads as it did. -/
def trioSumsUptoRow : OpenClaim := { program := "ytaakniobgljniaadoor", sum := "eeb0dc66afacf9f5ab1731848047358e9103fac5e567779d3aa1989860f3770c", func := "tallystick/tallysticklaw09.TrioSums", spec := "trioSums", inPlace := ["math/bits.Add64"], unfollowed := true, recurses := true, named := ["tallystick/trio.primes"], apart := false, laid := [("tallystick/trio.primes", laid_tallystick_trio_primes)], narrowed := true }
def TrioSumsUptoSaid : Prop := trioSumsUptoRow.holds Tryd.pinned (OpenSpec.upto trioSumsSpec)

/-- 'tallysticklaw09.TrioFew', WHERE WHAT IT READS IS OF BULK AT MOST 1048576: true; the input reads as it did. -/
def trioFewUptoRow : OpenClaim := { program := "ytaakniobgljniaadoor", sum := "eeb0dc66afacf9f5ab1731848047358e9103fac5e567779d3aa1989860f3770c", func := "tallystick/tallysticklaw09.TrioFew", spec := "trioFew", inPlace := ["math/bits.Add64"], unfollowed := true, recurses := true, named := ["tallystick/trio.primes", "math/bits.divideError", "math/bits.overflowError"], apart := false, laid := [("tallystick/trio.primes", laid_tallystick_trio_primes)], narrowed := true }
def TrioFewUptoSaid : Prop := trioFewUptoRow.holds Tryd.pinned (OpenSpec.upto trioFewSpec)

/-- 'tallysticklaw09.TrioSplits', WHERE WHAT IT READS IS OF BULK AT MOST 1048576: true; the input reads as it did. -/
def trioSplitsUptoRow : OpenClaim := { program := "ytaakniobgljniaadoor", sum := "eeb0dc66afacf9f5ab1731848047358e9103fac5e567779d3aa1989860f3770c", func := "tallystick/tallysticklaw09.TrioSplits", spec := "trioSplits", inPlace := ["math/bits.Add64"], unfollowed := true, recurses := true, named := ["tallystick/trio.primes", "math/bits.divideError", "math/bits.overflowError"], apart := false, laid := [("tallystick/trio.primes", laid_tallystick_trio_primes)], narrowed := true }
def TrioSplitsUptoSaid : Prop := trioSplitsUptoRow.holds Tryd.pinned (OpenSpec.upto trioSplitsSpec)

/-- 'tallysticklaw09.TrioBack', WHERE WHAT IT READS IS OF BULK AT MOST 1048576: true; the input reads as it did. -/
def trioBackUptoRow : OpenClaim := { program := "ytaakniobgljniaadoor", sum := "eeb0dc66afacf9f5ab1731848047358e9103fac5e567779d3aa1989860f3770c", func := "tallystick/tallysticklaw09.TrioBack", spec := "trioBack", inPlace := ["math/bits.Add64"], unfollowed := true, recurses := true, named := ["tallystick/trio.primes", "math/bits.divideError", "math/bits.overflowError"], apart := false, laid := [("tallystick/trio.primes", laid_tallystick_trio_primes)], narrowed := true }
def TrioBackUptoSaid : Prop := trioBackUptoRow.holds Tryd.pinned (OpenSpec.upto trioBackSpec)

/-- 'tallysticklaw09.TrioAgrees', WHERE WHAT IT READS IS OF BULK AT MOST 1048576: true; the input reads as it did. -/
def trioAgreesUptoRow : OpenClaim := { program := "ytaakniobgljniaadoor", sum := "eeb0dc66afacf9f5ab1731848047358e9103fac5e567779d3aa1989860f3770c", func := "tallystick/tallysticklaw09.TrioAgrees", spec := "trioAgrees", inPlace := ["math/bits.Add64"], unfollowed := true, recurses := true, named := ["tallystick/trio.primes", "math/bits.divideError", "math/bits.overflowError"], apart := false, laid := [("tallystick/trio.primes", laid_tallystick_trio_primes)], narrowed := true }
def TrioAgreesUptoSaid : Prop := trioAgreesUptoRow.holds Tryd.pinned (OpenSpec.upto trioAgreesSpec)

end Rows
end Go.Proofs.YtaakniobgljniaaDoor
