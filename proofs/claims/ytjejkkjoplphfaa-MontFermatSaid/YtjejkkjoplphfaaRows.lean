/-
  No cell of these rows narrows 'for every input' (looked for: loops, veiled, ifaces, maps, wideKeys, modest, calm, conditions, laid).
  DERIVED. THE GIVEN ROWS OF THIS SEAT. 7 by the template 'for every input the law returns true; each argument reads behind the call as it read before'; 0 by the template 'total and deterministic' (their statements: YtjejkkjoplphfaaTotals.lean).
  GIVEN WITH THE SEED: the statements are not yours to turn. If you find one false, say at which input.
  Laid BY PROGRAM, IN A SANDBOX (cutbox-rows.mjs): the forced cells as the released guide's own fill.sh prints them over the translation f418fb01139f1a7f… (all of the seat's roots in one cut). By AI agents, Wed Nov 11 2026. No macro, syntax, notation, axiom, sorry.
-/
import Derived.Test.YtjejkkjoplphfaaChecked
import GoSem.Claim
import GoSem.ClaimJoined
import GoSem.ClaimMapViews
import Derived.JoinedTies
import Derived.KernelRfl
namespace Go.Proofs.Ytjejkkjoplphfaa
/- THE CELL 'sum', in the pinned program and in every row, IS THE sha256 OF THE DUMP (.gsa) THAT YtjejkkjoplphfaaProg.lean LOADS. Nothing in Lean hashes anything: it is a label: what it is worth is what the hold of that sum in a sandbox is worth. -/
noncomputable def Try.pinned : Pinned := { name := "ytjejkkjoplphfaa", sum := "f418fb01139f1a7f8e871fa22a9229d9156cfaa8662277880f5b3d05e735429c", checked := Try.checked }
namespace Rows
def none {H : Type} : Left H := { results := [], args := [] }

/-- 'tallysticklaw03.MontForms': WHATEVER THE INPUT: true; the input reads as it did. -/
def montFormsSpec : ChangeSpec := { name := "montForms", fn := fun _ => fun
  | [d] => { results := [.lit (.bool true)], args := [d] }
  | _ => none }
def montFormsRow : OpenClaim := { program := "ytjejkkjoplphfaa", sum := "f418fb01139f1a7f8e871fa22a9229d9156cfaa8662277880f5b3d05e735429c", func := "tallystick/tallysticklaw03.MontForms", spec := "montForms", unfollowed := true, recurses := true, apart := false }
def MontFormsSaid : Prop := montFormsRow.holds Try.pinned (OpenSpec.ofChange montFormsSpec)

/-- ITS FALSE NEIGHBOUR: 'it returns false'. Refute it at one input. -/
def montFormsWrong : ChangeSpec := { name := "montForms", fn := fun _ => fun
  | [d] => { results := [.lit (.bool false)], args := [d] }
  | _ => none }
def MontFormsWrongFalsely : Prop := montFormsRow.holds Try.pinned (OpenSpec.ofChange montFormsWrong)

/-- 'tallysticklaw03.MontNeg': WHATEVER THE INPUT: true; the input reads as it did. -/
def montNegSpec : ChangeSpec := { name := "montNeg", fn := fun _ => fun
  | [d] => { results := [.lit (.bool true)], args := [d] }
  | _ => none }
def montNegRow : OpenClaim := { program := "ytjejkkjoplphfaa", sum := "f418fb01139f1a7f8e871fa22a9229d9156cfaa8662277880f5b3d05e735429c", func := "tallystick/tallysticklaw03.MontNeg", spec := "montNeg", unfollowed := true, recurses := true, apart := false }
def MontNegSaid : Prop := montNegRow.holds Try.pinned (OpenSpec.ofChange montNegSpec)

/-- ITS FALSE NEIGHBOUR: 'it returns false'. Refute it at one input. -/
def montNegWrong : ChangeSpec := { name := "montNeg", fn := fun _ => fun
  | [d] => { results := [.lit (.bool false)], args := [d] }
  | _ => none }
def MontNegWrongFalsely : Prop := montNegRow.holds Try.pinned (OpenSpec.ofChange montNegWrong)

/-- 'tallysticklaw03.MontBack': WHATEVER THE INPUT: true; the input reads as it did. -/
def montBackSpec : ChangeSpec := { name := "montBack", fn := fun _ => fun
  | [d1, d2, d3] => { results := [.lit (.bool true)], args := [d1, d2, d3] }
  | _ => none }
def montBackRow : OpenClaim := { program := "ytjejkkjoplphfaa", sum := "f418fb01139f1a7f8e871fa22a9229d9156cfaa8662277880f5b3d05e735429c", func := "tallystick/tallysticklaw03.MontBack", spec := "montBack", unfollowed := true, recurses := true, apart := false }
def MontBackSaid : Prop := montBackRow.holds Try.pinned (OpenSpec.ofChange montBackSpec)

/-- ITS FALSE NEIGHBOUR: 'it returns false'. Refute it at one input. -/
def montBackWrong : ChangeSpec := { name := "montBack", fn := fun _ => fun
  | [d1, d2, d3] => { results := [.lit (.bool false)], args := [d1, d2, d3] }
  | _ => none }
def MontBackWrongFalsely : Prop := montBackRow.holds Try.pinned (OpenSpec.ofChange montBackWrong)

/-- 'tallysticklaw03.MontSums': WHATEVER THE INPUT: true; the input reads as it did. -/
def montSumsSpec : ChangeSpec := { name := "montSums", fn := fun _ => fun
  | [d1, d2, d3] => { results := [.lit (.bool true)], args := [d1, d2, d3] }
  | _ => none }
def montSumsRow : OpenClaim := { program := "ytjejkkjoplphfaa", sum := "f418fb01139f1a7f8e871fa22a9229d9156cfaa8662277880f5b3d05e735429c", func := "tallystick/tallysticklaw03.MontSums", spec := "montSums", unfollowed := true, recurses := true, apart := false }
def MontSumsSaid : Prop := montSumsRow.holds Try.pinned (OpenSpec.ofChange montSumsSpec)

/-- ITS FALSE NEIGHBOUR: 'it returns false'. Refute it at one input. -/
def montSumsWrong : ChangeSpec := { name := "montSums", fn := fun _ => fun
  | [d1, d2, d3] => { results := [.lit (.bool false)], args := [d1, d2, d3] }
  | _ => none }
def MontSumsWrongFalsely : Prop := montSumsRow.holds Try.pinned (OpenSpec.ofChange montSumsWrong)

/-- 'tallysticklaw03.MontLaws': WHATEVER THE INPUT: true; the input reads as it did. -/
def montLawsSpec : ChangeSpec := { name := "montLaws", fn := fun _ => fun
  | [d] => { results := [.lit (.bool true)], args := [d] }
  | _ => none }
def montLawsRow : OpenClaim := { program := "ytjejkkjoplphfaa", sum := "f418fb01139f1a7f8e871fa22a9229d9156cfaa8662277880f5b3d05e735429c", func := "tallystick/tallysticklaw03.MontLaws", spec := "montLaws", unfollowed := true, recurses := true, apart := false }
def MontLawsSaid : Prop := montLawsRow.holds Try.pinned (OpenSpec.ofChange montLawsSpec)

/-- ITS FALSE NEIGHBOUR: 'it returns false'. Refute it at one input. -/
def montLawsWrong : ChangeSpec := { name := "montLaws", fn := fun _ => fun
  | [d] => { results := [.lit (.bool false)], args := [d] }
  | _ => none }
def MontLawsWrongFalsely : Prop := montLawsRow.holds Try.pinned (OpenSpec.ofChange montLawsWrong)

/-- 'tallysticklaw03.MontReckons': WHATEVER THE INPUT: true; the input reads as it did. -/
def montReckonsSpec : ChangeSpec := { name := "montReckons", fn := fun _ => fun
  | [d] => { results := [.lit (.bool true)], args := [d] }
  | _ => none }
def montReckonsRow : OpenClaim := { program := "ytjejkkjoplphfaa", sum := "f418fb01139f1a7f8e871fa22a9229d9156cfaa8662277880f5b3d05e735429c", func := "tallystick/tallysticklaw03.MontReckons", spec := "montReckons", unfollowed := true, recurses := true, apart := false }
def MontReckonsSaid : Prop := montReckonsRow.holds Try.pinned (OpenSpec.ofChange montReckonsSpec)

/-- ITS FALSE NEIGHBOUR: 'it returns false'. Refute it at one input. -/
def montReckonsWrong : ChangeSpec := { name := "montReckons", fn := fun _ => fun
  | [d] => { results := [.lit (.bool false)], args := [d] }
  | _ => none }
def MontReckonsWrongFalsely : Prop := montReckonsRow.holds Try.pinned (OpenSpec.ofChange montReckonsWrong)

/-- 'tallysticklaw03.MontFermat': WHATEVER THE INPUT: true; the input reads as it did. -/
def montFermatSpec : ChangeSpec := { name := "montFermat", fn := fun _ => fun
  | [d1, d2] => { results := [.lit (.bool true)], args := [d1, d2] }
  | _ => none }
def montFermatRow : OpenClaim := { program := "ytjejkkjoplphfaa", sum := "f418fb01139f1a7f8e871fa22a9229d9156cfaa8662277880f5b3d05e735429c", func := "tallystick/tallysticklaw03.MontFermat", spec := "montFermat", unfollowed := true, recurses := true, apart := false }
def MontFermatSaid : Prop := montFermatRow.holds Try.pinned (OpenSpec.ofChange montFermatSpec)

/-- ITS FALSE NEIGHBOUR: 'it returns false'. Refute it at one input. -/
def montFermatWrong : ChangeSpec := { name := "montFermat", fn := fun _ => fun
  | [d1, d2] => { results := [.lit (.bool false)], args := [d1, d2] }
  | _ => none }
def MontFermatWrongFalsely : Prop := montFermatRow.holds Try.pinned (OpenSpec.ofChange montFermatWrong)

/- THE SECOND FORM. 'bulk': how many values and letters a reading holds, each counted each time it is reached (what is shared counts as often as it is met; a slice's spare places count too). A statement '..UptoSaid' is the law's where the arguments, and the package variables that the reading takes, are together of bulk at most 1048576: NARROWER than '..Said'. Prove '..Said' where nothing that the law and all that it calls make is longer than what came in: it says more and counts as full. Else prove '..UptoSaid'. A law counts once. -/
mutual
def uptoBulk {H : Type} : DataW H → Nat
  | .lit (.string bytes) => bytes.length + 1
  | .lit _ => 1
  | .nil => 1
  | .ptr d => uptoBulk d + 1
  | .slice elems spare => uptoBulkAll elems + uptoBulkAll spare + 1
  | .agg parts => uptoBulkAll parts + 1
  | .iface _ d => uptoBulk d + 1
  | .map entries => uptoBulkEntries entries + 1
  | .held _ => 1
def uptoBulkAll {H : Type} : List (DataW H) → Nat
  | [] => 0
  | d :: r => uptoBulk d + uptoBulkAll r
def uptoBulkEntries {H : Type} : List (Lit × DataW H) → Nat
  | [] => 0
  | x :: r => uptoBulkEntry x + uptoBulkEntries r
def uptoBulkEntry {H : Type} : Lit × DataW H → Nat
  | (.string bytes, d) => bytes.length + uptoBulk d + 1
  | (_, d) => uptoBulk d + 1
 end
def uptoSmall : (H : Type) → List (DataW H) → Bool := fun _ ds => decide (uptoBulkAll ds ≤ 1048576)
def OpenSpec.upto (s : _root_.Go.ChangeSpec) : _root_.Go.OpenSpec := { _root_.Go.OpenSpec.ofChange s with cond := some uptoSmall }

/-- 'tallysticklaw03.MontForms', WHERE WHAT IT READS IS OF BULK AT MOST 1048576: true; the input reads as it did. -/
def montFormsUptoRow : OpenClaim := { program := "ytjejkkjoplphfaa", sum := "f418fb01139f1a7f8e871fa22a9229d9156cfaa8662277880f5b3d05e735429c", func := "tallystick/tallysticklaw03.MontForms", spec := "montForms", unfollowed := true, recurses := true, apart := false, narrowed := true }
def MontFormsUptoSaid : Prop := montFormsUptoRow.holds Try.pinned (OpenSpec.upto montFormsSpec)

/-- 'tallysticklaw03.MontNeg', WHERE WHAT IT READS IS OF BULK AT MOST 1048576: true; the input reads as it did. -/
def montNegUptoRow : OpenClaim := { program := "ytjejkkjoplphfaa", sum := "f418fb01139f1a7f8e871fa22a9229d9156cfaa8662277880f5b3d05e735429c", func := "tallystick/tallysticklaw03.MontNeg", spec := "montNeg", unfollowed := true, recurses := true, apart := false, narrowed := true }
def MontNegUptoSaid : Prop := montNegUptoRow.holds Try.pinned (OpenSpec.upto montNegSpec)

/-- 'tallysticklaw03.MontBack', WHERE WHAT IT READS IS OF BULK AT MOST 1048576: true; the input reads as it did. -/
def montBackUptoRow : OpenClaim := { program := "ytjejkkjoplphfaa", sum := "f418fb01139f1a7f8e871fa22a9229d9156cfaa8662277880f5b3d05e735429c", func := "tallystick/tallysticklaw03.MontBack", spec := "montBack", unfollowed := true, recurses := true, apart := false, narrowed := true }
def MontBackUptoSaid : Prop := montBackUptoRow.holds Try.pinned (OpenSpec.upto montBackSpec)

/-- 'tallysticklaw03.MontSums', WHERE WHAT IT READS IS OF BULK AT MOST 1048576: true; the input reads as it did. -/
def montSumsUptoRow : OpenClaim := { program := "ytjejkkjoplphfaa", sum := "f418fb01139f1a7f8e871fa22a9229d9156cfaa8662277880f5b3d05e735429c", func := "tallystick/tallysticklaw03.MontSums", spec := "montSums", unfollowed := true, recurses := true, apart := false, narrowed := true }
def MontSumsUptoSaid : Prop := montSumsUptoRow.holds Try.pinned (OpenSpec.upto montSumsSpec)

/-- 'tallysticklaw03.MontLaws', WHERE WHAT IT READS IS OF BULK AT MOST 1048576: true; the input reads as it did. -/
def montLawsUptoRow : OpenClaim := { program := "ytjejkkjoplphfaa", sum := "f418fb01139f1a7f8e871fa22a9229d9156cfaa8662277880f5b3d05e735429c", func := "tallystick/tallysticklaw03.MontLaws", spec := "montLaws", unfollowed := true, recurses := true, apart := false, narrowed := true }
def MontLawsUptoSaid : Prop := montLawsUptoRow.holds Try.pinned (OpenSpec.upto montLawsSpec)

/-- 'tallysticklaw03.MontReckons', WHERE WHAT IT READS IS OF BULK AT MOST 1048576: true; the input reads as it did. -/
def montReckonsUptoRow : OpenClaim := { program := "ytjejkkjoplphfaa", sum := "f418fb01139f1a7f8e871fa22a9229d9156cfaa8662277880f5b3d05e735429c", func := "tallystick/tallysticklaw03.MontReckons", spec := "montReckons", unfollowed := true, recurses := true, apart := false, narrowed := true }
def MontReckonsUptoSaid : Prop := montReckonsUptoRow.holds Try.pinned (OpenSpec.upto montReckonsSpec)

/-- 'tallysticklaw03.MontFermat', WHERE WHAT IT READS IS OF BULK AT MOST 1048576: true; the input reads as it did. -/
def montFermatUptoRow : OpenClaim := { program := "ytjejkkjoplphfaa", sum := "f418fb01139f1a7f8e871fa22a9229d9156cfaa8662277880f5b3d05e735429c", func := "tallystick/tallysticklaw03.MontFermat", spec := "montFermat", unfollowed := true, recurses := true, apart := false, narrowed := true }
def MontFermatUptoSaid : Prop := montFermatUptoRow.holds Try.pinned (OpenSpec.upto montFermatSpec)

end Rows
end Go.Proofs.Ytjejkkjoplphfaa
