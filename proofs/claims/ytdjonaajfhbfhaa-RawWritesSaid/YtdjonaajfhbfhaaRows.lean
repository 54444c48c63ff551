/-
  No cell of these rows narrows 'for every input' (looked for: loops, veiled, ifaces, maps, wideKeys, modest, calm, conditions, laid).
  DERIVED. THE GIVEN ROWS OF THIS SEAT. 5 by the template 'for every input the law returns true; each argument reads behind the call as it read before'; 0 by the template 'total and deterministic' (their statements: YtdjonaajfhbfhaaTotals.lean).
  GIVEN WITH THE SEED: the statements are not yours to turn. If you find one false, say at which input.
  Laid BY PROGRAM, IN A SANDBOX (cutbox-rows.mjs): the forced cells as the released guide's own fill.sh prints them over the translation dcfa33bfaa785299… (all of the seat's roots in one cut). By AI agents, Wed Nov 11 2026. No macro, syntax, notation, axiom, sorry.
-/
import Derived.Test.YtdjonaajfhbfhaaChecked
import GoSem.Claim
import GoSem.ClaimJoined
import GoSem.ClaimMapViews
import Derived.JoinedTies
import Derived.KernelRfl
namespace Go.Proofs.Ytdjonaajfhbfhaa
/- THE CELL 'sum', in the pinned program and in every row, IS THE sha256 OF THE DUMP (.gsa) THAT YtdjonaajfhbfhaaProg.lean LOADS. Nothing in Lean hashes anything: it is a label: what it is worth is what the hold of that sum in a sandbox is worth. -/
noncomputable def Try.pinned : Pinned := { name := "ytdjonaajfhbfhaa", sum := "dcfa33bfaa785299a1cf96d70f50c1aa82822f9d16522ee85527fbba9686e88c", checked := Try.checked }
namespace Rows
def none {H : Type} : Left H := { results := [], args := [] }

/-- 'chequerlaw09.RawWrites': WHATEVER THE INPUT: true; the input reads as it did. -/
def rawWritesSpec : ChangeSpec := { name := "rawWrites", fn := fun _ => fun
  | [d1, d2, d3, d4, d5] => { results := [.lit (.bool true)], args := [d1, d2, d3, d4, d5] }
  | _ => none }
def rawWritesRow : OpenClaim := { program := "ytdjonaajfhbfhaa", sum := "dcfa33bfaa785299a1cf96d70f50c1aa82822f9d16522ee85527fbba9686e88c", func := "chequer/chequerlaw09.RawWrites", spec := "rawWrites", unfollowed := true, recurses := true, apart := false }
def RawWritesSaid : Prop := rawWritesRow.holds Try.pinned (OpenSpec.ofChange rawWritesSpec)

/-- ITS FALSE NEIGHBOUR: 'it returns false'. Refute it at one input. -/
def rawWritesWrong : ChangeSpec := { name := "rawWrites", fn := fun _ => fun
  | [d1, d2, d3, d4, d5] => { results := [.lit (.bool false)], args := [d1, d2, d3, d4, d5] }
  | _ => none }
def RawWritesWrongFalsely : Prop := rawWritesRow.holds Try.pinned (OpenSpec.ofChange rawWritesWrong)

/-- 'chequerlaw09.RawReads': WHATEVER THE INPUT: true; the input reads as it did. -/
def rawReadsSpec : ChangeSpec := { name := "rawReads", fn := fun _ => fun
  | [d1, d2] => { results := [.lit (.bool true)], args := [d1, d2] }
  | _ => none }
def rawReadsRow : OpenClaim := { program := "ytdjonaajfhbfhaa", sum := "dcfa33bfaa785299a1cf96d70f50c1aa82822f9d16522ee85527fbba9686e88c", func := "chequer/chequerlaw09.RawReads", spec := "rawReads", unfollowed := true, recurses := true, apart := false }
def RawReadsSaid : Prop := rawReadsRow.holds Try.pinned (OpenSpec.ofChange rawReadsSpec)

/-- ITS FALSE NEIGHBOUR: 'it returns false'. Refute it at one input. -/
def rawReadsWrong : ChangeSpec := { name := "rawReads", fn := fun _ => fun
  | [d1, d2] => { results := [.lit (.bool false)], args := [d1, d2] }
  | _ => none }
def RawReadsWrongFalsely : Prop := rawReadsRow.holds Try.pinned (OpenSpec.ofChange rawReadsWrong)

/-- 'chequerlaw09.RawCuts': WHATEVER THE INPUT: true; the input reads as it did. -/
def rawCutsSpec : ChangeSpec := { name := "rawCuts", fn := fun _ => fun
  | [d1, d2, d3] => { results := [.lit (.bool true)], args := [d1, d2, d3] }
  | _ => none }
def rawCutsRow : OpenClaim := { program := "ytdjonaajfhbfhaa", sum := "dcfa33bfaa785299a1cf96d70f50c1aa82822f9d16522ee85527fbba9686e88c", func := "chequer/chequerlaw09.RawCuts", spec := "rawCuts", unfollowed := true, recurses := true, apart := false }
def RawCutsSaid : Prop := rawCutsRow.holds Try.pinned (OpenSpec.ofChange rawCutsSpec)

/-- ITS FALSE NEIGHBOUR: 'it returns false'. Refute it at one input. -/
def rawCutsWrong : ChangeSpec := { name := "rawCuts", fn := fun _ => fun
  | [d1, d2, d3] => { results := [.lit (.bool false)], args := [d1, d2, d3] }
  | _ => none }
def RawCutsWrongFalsely : Prop := rawCutsRow.holds Try.pinned (OpenSpec.ofChange rawCutsWrong)

/-- 'chequerlaw09.RawSteps': WHATEVER THE INPUT: true; the input reads as it did. -/
def rawStepsSpec : ChangeSpec := { name := "rawSteps", fn := fun _ => fun
  | [d1, d2] => { results := [.lit (.bool true)], args := [d1, d2] }
  | _ => none }
def rawStepsRow : OpenClaim := { program := "ytdjonaajfhbfhaa", sum := "dcfa33bfaa785299a1cf96d70f50c1aa82822f9d16522ee85527fbba9686e88c", func := "chequer/chequerlaw09.RawSteps", spec := "rawSteps", unfollowed := true, recurses := true, apart := false }
def RawStepsSaid : Prop := rawStepsRow.holds Try.pinned (OpenSpec.ofChange rawStepsSpec)

/-- ITS FALSE NEIGHBOUR: 'it returns false'. Refute it at one input. -/
def rawStepsWrong : ChangeSpec := { name := "rawSteps", fn := fun _ => fun
  | [d1, d2] => { results := [.lit (.bool false)], args := [d1, d2] }
  | _ => none }
def RawStepsWrongFalsely : Prop := rawStepsRow.holds Try.pinned (OpenSpec.ofChange rawStepsWrong)

/-- 'chequerlaw09.RawNew': WHATEVER THE INPUT: true; the input reads as it did. -/
def rawNewSpec : ChangeSpec := { name := "rawNew", fn := fun _ => fun
  | [d] => { results := [.lit (.bool true)], args := [d] }
  | _ => none }
def rawNewRow : OpenClaim := { program := "ytdjonaajfhbfhaa", sum := "dcfa33bfaa785299a1cf96d70f50c1aa82822f9d16522ee85527fbba9686e88c", func := "chequer/chequerlaw09.RawNew", spec := "rawNew", unfollowed := true, recurses := true, apart := false }
def RawNewSaid : Prop := rawNewRow.holds Try.pinned (OpenSpec.ofChange rawNewSpec)

/-- ITS FALSE NEIGHBOUR: 'it returns false'. Refute it at one input. -/
def rawNewWrong : ChangeSpec := { name := "rawNew", fn := fun _ => fun
  | [d] => { results := [.lit (.bool false)], args := [d] }
  | _ => none }
def RawNewWrongFalsely : Prop := rawNewRow.holds Try.pinned (OpenSpec.ofChange rawNewWrong)

/- THE SECOND FORM. 'bulk': how many values and letters a reading holds, each counted each time it is reached (what is shared counts as often as it is met; a slice's spare places count too). A statement '..UptoSaid' is the law's where the arguments, and the package variables that the reading takes, are together of bulk at most 1048576: NARROWER than '..Said'. Prove '..Said' where nothing that the law and all that it calls make is longer than what came in: it says more and counts as full. Else prove '..UptoSaid'. A law counts once. -/
mutual
def uptoBulk {H : Type} : DataW H → Nat
  | .lit (.string bytes) => bytes.length + 1
  | .lit _ => 1
  | .nil => 1
  | .ptr d => uptoBulk d + 1
  | .slice elems spare => uptoBulkAll elems + uptoBulkAll spare + 1
  | .agg parts => uptoBulkAll parts + 1
  | .iface _ d => uptoBulk d + 1
  | .map entries => uptoBulkEntries entries + 1
  | .held _ => 1
def uptoBulkAll {H : Type} : List (DataW H) → Nat
  | [] => 0
  | d :: r => uptoBulk d + uptoBulkAll r
def uptoBulkEntries {H : Type} : List (Lit × DataW H) → Nat
  | [] => 0
  | x :: r => uptoBulkEntry x + uptoBulkEntries r
def uptoBulkEntry {H : Type} : Lit × DataW H → Nat
  | (.string bytes, d) => bytes.length + uptoBulk d + 1
  | (_, d) => uptoBulk d + 1
 end
def uptoSmall : (H : Type) → List (DataW H) → Bool := fun _ ds => decide (uptoBulkAll ds ≤ 1048576)
def OpenSpec.upto (s : _root_.Go.ChangeSpec) : _root_.Go.OpenSpec := { _root_.Go.OpenSpec.ofChange s with cond := some uptoSmall }

/-- 'chequerlaw09.RawWrites', WHERE WHAT IT READS IS OF BULK AT MOST 1048576: true; the input reads as it did. -/
def rawWritesUptoRow : OpenClaim := { program := "ytdjonaajfhbfhaa", sum := "dcfa33bfaa785299a1cf96d70f50c1aa82822f9d16522ee85527fbba9686e88c", func := "chequer/chequerlaw09.RawWrites", spec := "rawWrites", unfollowed := true, recurses := true, apart := false, narrowed := true }
def RawWritesUptoSaid : Prop := rawWritesUptoRow.holds Try.pinned (OpenSpec.upto rawWritesSpec)

/-- 'chequerlaw09.RawReads', WHERE WHAT IT READS IS OF BULK AT MOST 1048576: true; the input reads as it did. -/
def rawReadsUptoRow : OpenClaim := { program := "ytdjonaajfhbfhaa", sum := "dcfa33bfaa785299a1cf96d70f50c1aa82822f9d16522ee85527fbba9686e88c", func := "chequer/chequerlaw09.RawReads", spec := "rawReads", unfollowed := true, recurses := true, apart := false, narrowed := true }
def RawReadsUptoSaid : Prop := rawReadsUptoRow.holds Try.pinned (OpenSpec.upto rawReadsSpec)

/-- 'chequerlaw09.RawCuts', WHERE WHAT IT READS IS OF BULK AT MOST 1048576: true; the input reads as it did. -/
def rawCutsUptoRow : OpenClaim := { program := "ytdjonaajfhbfhaa", sum := "dcfa33bfaa785299a1cf96d70f50c1aa82822f9d16522ee85527fbba9686e88c", func := "chequer/chequerlaw09.RawCuts", spec := "rawCuts", unfollowed := true, recurses := true, apart := false, narrowed := true }
def RawCutsUptoSaid : Prop := rawCutsUptoRow.holds Try.pinned (OpenSpec.upto rawCutsSpec)

/-- 'chequerlaw09.RawSteps', WHERE WHAT IT READS IS OF BULK AT MOST 1048576: true; the input reads as it did. -/
def rawStepsUptoRow : OpenClaim := { program := "ytdjonaajfhbfhaa", sum := "dcfa33bfaa785299a1cf96d70f50c1aa82822f9d16522ee85527fbba9686e88c", func := "chequer/chequerlaw09.RawSteps", spec := "rawSteps", unfollowed := true, recurses := true, apart := false, narrowed := true }
def RawStepsUptoSaid : Prop := rawStepsUptoRow.holds Try.pinned (OpenSpec.upto rawStepsSpec)

/-- 'chequerlaw09.RawNew', WHERE WHAT IT READS IS OF BULK AT MOST 1048576: true; the input reads as it did. -/
def rawNewUptoRow : OpenClaim := { program := "ytdjonaajfhbfhaa", sum := "dcfa33bfaa785299a1cf96d70f50c1aa82822f9d16522ee85527fbba9686e88c", func := "chequer/chequerlaw09.RawNew", spec := "rawNew", unfollowed := true, recurses := true, apart := false, narrowed := true }
def RawNewUptoSaid : Prop := rawNewUptoRow.holds Try.pinned (OpenSpec.upto rawNewSpec)

end Rows
end Go.Proofs.Ytdjonaajfhbfhaa
