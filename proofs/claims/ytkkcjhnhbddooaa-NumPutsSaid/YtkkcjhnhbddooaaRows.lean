/-
  No cell of these rows narrows 'for every input' (looked for: loops, veiled, ifaces, maps, wideKeys, modest, calm, conditions, laid).
  DERIVED. THE GIVEN ROWS OF THIS SEAT. 7 by the template 'for every input the law returns true; each argument reads behind the call as it read before'; 0 by the template 'total and deterministic' (their statements: YtkkcjhnhbddooaaTotals.lean).
  GIVEN WITH THE SEED: the statements are not yours to turn. If you find one false, say at which input.
  Laid BY PROGRAM, IN A SANDBOX (cutbox-rows.mjs): the forced cells as the released guide's own fill.sh prints them over the translation c8af6cfe28abf39f… (all of the seat's roots in one cut). By AI agents, Wed Nov 11 2026. No macro, syntax, notation, axiom, sorry.
-/
import Derived.Test.YtkkcjhnhbddooaaChecked
import GoSem.Claim
import GoSem.ClaimJoined
import GoSem.ClaimMapViews
import Derived.JoinedTies
import Derived.KernelRfl
namespace Go.Proofs.Ytkkcjhnhbddooaa
/- THE CELL 'sum', in the pinned program and in every row, IS THE sha256 OF THE DUMP (.gsa) THAT YtkkcjhnhbddooaaProg.lean LOADS. Nothing in Lean hashes anything: it is a label: what it is worth is what the hold of that sum in a sandbox is worth. -/
noncomputable def Try.pinned : Pinned := { name := "ytkkcjhnhbddooaa", sum := "c8af6cfe28abf39fb7172fede32c641e4043d1dd178bc776c3753bdd4287bfc9", checked := Try.checked }
namespace Rows
def none {H : Type} : Left H := { results := [], args := [] }

/-- 'chequerlaw02.NumSteps': WHATEVER THE INPUT: true; the input reads as it did. -/
def numStepsSpec : ChangeSpec := { name := "numSteps", fn := fun _ => fun
  | [d1, d2, d3] => { results := [.lit (.bool true)], args := [d1, d2, d3] }
  | _ => none }
def numStepsRow : OpenClaim := { program := "ytkkcjhnhbddooaa", sum := "c8af6cfe28abf39fb7172fede32c641e4043d1dd178bc776c3753bdd4287bfc9", func := "chequer/chequerlaw02.NumSteps", spec := "numSteps", unfollowed := true, recurses := true, apart := false }
def NumStepsSaid : Prop := numStepsRow.holds Try.pinned (OpenSpec.ofChange numStepsSpec)

/-- ITS FALSE NEIGHBOUR: 'it returns false'. Refute it at one input. -/
def numStepsWrong : ChangeSpec := { name := "numSteps", fn := fun _ => fun
  | [d1, d2, d3] => { results := [.lit (.bool false)], args := [d1, d2, d3] }
  | _ => none }
def NumStepsWrongFalsely : Prop := numStepsRow.holds Try.pinned (OpenSpec.ofChange numStepsWrong)

/-- 'chequerlaw02.NumPuts': WHATEVER THE INPUT: true; the input reads as it did. -/
def numPutsSpec : ChangeSpec := { name := "numPuts", fn := fun _ => fun
  | [d1, d2] => { results := [.lit (.bool true)], args := [d1, d2] }
  | _ => none }
def numPutsRow : OpenClaim := { program := "ytkkcjhnhbddooaa", sum := "c8af6cfe28abf39fb7172fede32c641e4043d1dd178bc776c3753bdd4287bfc9", func := "chequer/chequerlaw02.NumPuts", spec := "numPuts", unfollowed := true, recurses := true, apart := false }
def NumPutsSaid : Prop := numPutsRow.holds Try.pinned (OpenSpec.ofChange numPutsSpec)

/-- ITS FALSE NEIGHBOUR: 'it returns false'. Refute it at one input. -/
def numPutsWrong : ChangeSpec := { name := "numPuts", fn := fun _ => fun
  | [d1, d2] => { results := [.lit (.bool false)], args := [d1, d2] }
  | _ => none }
def NumPutsWrongFalsely : Prop := numPutsRow.holds Try.pinned (OpenSpec.ofChange numPutsWrong)

/-- 'chequerlaw02.NumGets': WHATEVER THE INPUT: true; the input reads as it did. -/
def numGetsSpec : ChangeSpec := { name := "numGets", fn := fun _ => fun
  | [d1, d2] => { results := [.lit (.bool true)], args := [d1, d2] }
  | _ => none }
def numGetsRow : OpenClaim := { program := "ytkkcjhnhbddooaa", sum := "c8af6cfe28abf39fb7172fede32c641e4043d1dd178bc776c3753bdd4287bfc9", func := "chequer/chequerlaw02.NumGets", spec := "numGets", unfollowed := true, recurses := true, apart := false }
def NumGetsSaid : Prop := numGetsRow.holds Try.pinned (OpenSpec.ofChange numGetsSpec)

/-- ITS FALSE NEIGHBOUR: 'it returns false'. Refute it at one input. -/
def numGetsWrong : ChangeSpec := { name := "numGets", fn := fun _ => fun
  | [d1, d2] => { results := [.lit (.bool false)], args := [d1, d2] }
  | _ => none }
def NumGetsWrongFalsely : Prop := numGetsRow.holds Try.pinned (OpenSpec.ofChange numGetsWrong)

/-- 'chequerlaw02.NumLengths': WHATEVER THE INPUT: true; the input reads as it did. -/
def numLengthsSpec : ChangeSpec := { name := "numLengths", fn := fun _ => fun
  | [d] => { results := [.lit (.bool true)], args := [d] }
  | _ => none }
def numLengthsRow : OpenClaim := { program := "ytkkcjhnhbddooaa", sum := "c8af6cfe28abf39fb7172fede32c641e4043d1dd178bc776c3753bdd4287bfc9", func := "chequer/chequerlaw02.NumLengths", spec := "numLengths", unfollowed := true, recurses := true, apart := false }
def NumLengthsSaid : Prop := numLengthsRow.holds Try.pinned (OpenSpec.ofChange numLengthsSpec)

/-- ITS FALSE NEIGHBOUR: 'it returns false'. Refute it at one input. -/
def numLengthsWrong : ChangeSpec := { name := "numLengths", fn := fun _ => fun
  | [d] => { results := [.lit (.bool false)], args := [d] }
  | _ => none }
def NumLengthsWrongFalsely : Prop := numLengthsRow.holds Try.pinned (OpenSpec.ofChange numLengthsWrong)

/-- 'chequerlaw02.NumDecimals': WHATEVER THE INPUT: true; the input reads as it did. -/
def numDecimalsSpec : ChangeSpec := { name := "numDecimals", fn := fun _ => fun
  | [d] => { results := [.lit (.bool true)], args := [d] }
  | _ => none }
def numDecimalsRow : OpenClaim := { program := "ytkkcjhnhbddooaa", sum := "c8af6cfe28abf39fb7172fede32c641e4043d1dd178bc776c3753bdd4287bfc9", func := "chequer/chequerlaw02.NumDecimals", spec := "numDecimals", unfollowed := true, recurses := true, apart := false }
def NumDecimalsSaid : Prop := numDecimalsRow.holds Try.pinned (OpenSpec.ofChange numDecimalsSpec)

/-- ITS FALSE NEIGHBOUR: 'it returns false'. Refute it at one input. -/
def numDecimalsWrong : ChangeSpec := { name := "numDecimals", fn := fun _ => fun
  | [d] => { results := [.lit (.bool false)], args := [d] }
  | _ => none }
def NumDecimalsWrongFalsely : Prop := numDecimalsRow.holds Try.pinned (OpenSpec.ofChange numDecimalsWrong)

/-- 'chequerlaw02.NumChecks': WHATEVER THE INPUT: true; the input reads as it did. -/
def numChecksSpec : ChangeSpec := { name := "numChecks", fn := fun _ => fun
  | [d1, d2] => { results := [.lit (.bool true)], args := [d1, d2] }
  | _ => none }
def numChecksRow : OpenClaim := { program := "ytkkcjhnhbddooaa", sum := "c8af6cfe28abf39fb7172fede32c641e4043d1dd178bc776c3753bdd4287bfc9", func := "chequer/chequerlaw02.NumChecks", spec := "numChecks", unfollowed := true, recurses := true, apart := false }
def NumChecksSaid : Prop := numChecksRow.holds Try.pinned (OpenSpec.ofChange numChecksSpec)

/-- ITS FALSE NEIGHBOUR: 'it returns false'. Refute it at one input. -/
def numChecksWrong : ChangeSpec := { name := "numChecks", fn := fun _ => fun
  | [d1, d2] => { results := [.lit (.bool false)], args := [d1, d2] }
  | _ => none }
def NumChecksWrongFalsely : Prop := numChecksRow.holds Try.pinned (OpenSpec.ofChange numChecksWrong)

/-- 'chequerlaw02.NumParses': WHATEVER THE INPUT: true; the input reads as it did. -/
def numParsesSpec : ChangeSpec := { name := "numParses", fn := fun _ => fun
  | [d1, d2, d3] => { results := [.lit (.bool true)], args := [d1, d2, d3] }
  | _ => none }
def numParsesRow : OpenClaim := { program := "ytkkcjhnhbddooaa", sum := "c8af6cfe28abf39fb7172fede32c641e4043d1dd178bc776c3753bdd4287bfc9", func := "chequer/chequerlaw02.NumParses", spec := "numParses", unfollowed := true, recurses := true, apart := false }
def NumParsesSaid : Prop := numParsesRow.holds Try.pinned (OpenSpec.ofChange numParsesSpec)

/-- ITS FALSE NEIGHBOUR: 'it returns false'. Refute it at one input. -/
def numParsesWrong : ChangeSpec := { name := "numParses", fn := fun _ => fun
  | [d1, d2, d3] => { results := [.lit (.bool false)], args := [d1, d2, d3] }
  | _ => none }
def NumParsesWrongFalsely : Prop := numParsesRow.holds Try.pinned (OpenSpec.ofChange numParsesWrong)

/- THE SECOND FORM. 'bulk': how many values and letters a reading holds, each counted each time it is reached (what is shared counts as often as it is met; a slice's spare places count too). A statement '..UptoSaid' is the law's where the arguments, and the package variables that the reading takes, are together of bulk at most 1048576: NARROWER than '..Said'. Prove '..Said' where nothing that the law and all that it calls make is longer than what came in: it says more and counts as full. Else prove '..UptoSaid'. A law counts once. -/
mutual
def uptoBulk {H : Type} : DataW H → Nat
  | .lit (.string bytes) => bytes.length + 1
  | .lit _ => 1
  | .nil => 1
  | .ptr d => uptoBulk d + 1
  | .slice elems spare => uptoBulkAll elems + uptoBulkAll spare + 1
  | .agg parts => uptoBulkAll parts + 1
  | .iface _ d => uptoBulk d + 1
  | .map entries => uptoBulkEntries entries + 1
  | .held _ => 1
def uptoBulkAll {H : Type} : List (DataW H) → Nat
  | [] => 0
  | d :: r => uptoBulk d + uptoBulkAll r
def uptoBulkEntries {H : Type} : List (Lit × DataW H) → Nat
  | [] => 0
  | x :: r => uptoBulkEntry x + uptoBulkEntries r
def uptoBulkEntry {H : Type} : Lit × DataW H → Nat
  | (.string bytes, d) => bytes.length + uptoBulk d + 1
  | (_, d) => uptoBulk d + 1
 end
def uptoSmall : (H : Type) → List (DataW H) → Bool := fun _ ds => decide (uptoBulkAll ds ≤ 1048576)
def OpenSpec.upto (s : _root_.Go.ChangeSpec) : _root_.Go.OpenSpec := { _root_.Go.OpenSpec.ofChange s with cond := some uptoSmall }

/-- 'chequerlaw02.NumSteps', WHERE WHAT IT READS IS OF BULK AT MOST 1048576: true; the input reads as it did. -/
def numStepsUptoRow : OpenClaim := { program := "ytkkcjhnhbddooaa", sum := "c8af6cfe28abf39fb7172fede32c641e4043d1dd178bc776c3753bdd4287bfc9", func := "chequer/chequerlaw02.NumSteps", spec := "numSteps", unfollowed := true, recurses := true, apart := false, narrowed := true }
def NumStepsUptoSaid : Prop := numStepsUptoRow.holds Try.pinned (OpenSpec.upto numStepsSpec)

/-- 'chequerlaw02.NumPuts', WHERE WHAT IT READS IS OF BULK AT MOST 1048576: true; the input reads as it did. -/
def numPutsUptoRow : OpenClaim := { program := "ytkkcjhnhbddooaa", sum := "c8af6cfe28abf39fb7172fede32c641e4043d1dd178bc776c3753bdd4287bfc9", func := "chequer/chequerlaw02.NumPuts", spec := "numPuts", unfollowed := true, recurses := true, apart := false, narrowed := true }
def NumPutsUptoSaid : Prop := numPutsUptoRow.holds Try.pinned (OpenSpec.upto numPutsSpec)

/-- 'chequerlaw02.NumGets', WHERE WHAT IT READS IS OF BULK AT MOST 1048576: true; the input reads as it did. -/
def numGetsUptoRow : OpenClaim := { program := "ytkkcjhnhbddooaa", sum := "c8af6cfe28abf39fb7172fede32c641e4043d1dd178bc776c3753bdd4287bfc9", func := "chequer/chequerlaw02.NumGets", spec := "numGets", unfollowed := true, recurses := true, apart := false, narrowed := true }
def NumGetsUptoSaid : Prop := numGetsUptoRow.holds Try.pinned (OpenSpec.upto numGetsSpec)

/-- 'chequerlaw02.NumLengths', WHERE WHAT IT READS IS OF BULK AT MOST 1048576: true; the input reads as it did. -/
def numLengthsUptoRow : OpenClaim := { program := "ytkkcjhnhbddooaa", sum := "c8af6cfe28abf39fb7172fede32c641e4043d1dd178bc776c3753bdd4287bfc9", func := "chequer/chequerlaw02.NumLengths", spec := "numLengths", unfollowed := true, recurses := true, apart := false, narrowed := true }
def NumLengthsUptoSaid : Prop := numLengthsUptoRow.holds Try.pinned (OpenSpec.upto numLengthsSpec)

/-- 'chequerlaw02.NumDecimals', WHERE WHAT IT READS IS OF BULK AT MOST 1048576: true; the input reads as it did. -/
def numDecimalsUptoRow : OpenClaim := { program := "ytkkcjhnhbddooaa", sum := "c8af6cfe28abf39fb7172fede32c641e4043d1dd178bc776c3753bdd4287bfc9", func := "chequer/chequerlaw02.NumDecimals", spec := "numDecimals", unfollowed := true, recurses := true, apart := false, narrowed := true }
def NumDecimalsUptoSaid : Prop := numDecimalsUptoRow.holds Try.pinned (OpenSpec.upto numDecimalsSpec)

/-- 'chequerlaw02.NumChecks', WHERE WHAT IT READS IS OF BULK AT MOST 1048576: true; the input reads as it did. -/
def numChecksUptoRow : OpenClaim := { program := "ytkkcjhnhbddooaa", sum := "c8af6cfe28abf39fb7172fede32c641e4043d1dd178bc776c3753bdd4287bfc9", func := "chequer/chequerlaw02.NumChecks", spec := "numChecks", unfollowed := true, recurses := true, apart := false, narrowed := true }
def NumChecksUptoSaid : Prop := numChecksUptoRow.holds Try.pinned (OpenSpec.upto numChecksSpec)

/-- 'chequerlaw02.NumParses', WHERE WHAT IT READS IS OF BULK AT MOST 1048576: true; the input reads as it did. -/
def numParsesUptoRow : OpenClaim := { program := "ytkkcjhnhbddooaa", sum := "c8af6cfe28abf39fb7172fede32c641e4043d1dd178bc776c3753bdd4287bfc9", func := "chequer/chequerlaw02.NumParses", spec := "numParses", unfollowed := true, recurses := true, apart := false, narrowed := true }
def NumParsesUptoSaid : Prop := numParsesUptoRow.holds Try.pinned (OpenSpec.upto numParsesSpec)

end Rows
end Go.Proofs.Ytkkcjhnhbddooaa
