/-
  No cell of these rows narrows 'for every input' (looked for: loops, veiled, ifaces, maps, wideKeys, modest, calm, conditions, laid).
  DERIVED. THE GIVEN ROWS OF THIS SEAT. 6 by the template 'for every input the law returns true; each argument reads behind the call as it read before'; 0 by the template 'total and deterministic' (their statements: YtmimfljiighbaaaTotals.lean).
  GIVEN WITH THE SEED: the statements are not yours to turn. If you find one false, say at which input.
  Laid BY PROGRAM, IN A SANDBOX (cutbox-rows.mjs): the forced cells as the released guide's own fill.sh prints them over the translation e927f3696e6a822d… (all of the seat's roots in one cut). By AI agents, Wed Nov 11 2026. No macro, syntax, notation, axiom, sorry.
-/
import Derived.Test.YtmimfljiighbaaaChecked
import GoSem.Claim
import GoSem.ClaimJoined
import GoSem.ClaimMapViews
import Derived.JoinedTies
import Derived.KernelRfl
namespace Go.Proofs.Ytmimfljiighbaaa
/- THE CELL 'sum', in the pinned program and in every row, IS THE sha256 OF THE DUMP (.gsa) THAT YtmimfljiighbaaaProg.lean LOADS. Nothing in Lean hashes anything: it is a label: what it is worth is what the hold of that sum in a sandbox is worth. -/
noncomputable def Try.pinned : Pinned := { name := "ytmimfljiighbaaa", sum := "e927f3696e6a822dfa5e88fbc98828f7aeb386552c1210c4d172d0550b5bdf12", checked := Try.checked }
namespace Rows
def none {H : Type} : Left H := { results := [], args := [] }

/-- 'chequerlaw06.HeadParses': WHATEVER THE INPUT: true; the input reads as it did. -/
def headParsesSpec : ChangeSpec := { name := "headParses", fn := fun _ => fun
  | [d1, d2, d3, d4, d5] => { results := [.lit (.bool true)], args := [d1, d2, d3, d4, d5] }
  | _ => none }
def headParsesRow : OpenClaim := { program := "ytmimfljiighbaaa", sum := "e927f3696e6a822dfa5e88fbc98828f7aeb386552c1210c4d172d0550b5bdf12", func := "chequer/chequerlaw06.HeadParses", spec := "headParses", inPlace := ["internal/bytealg.IndexByteString"], unfollowed := true, recurses := true, apart := false }
def HeadParsesSaid : Prop := headParsesRow.holds Try.pinned (OpenSpec.ofChange headParsesSpec)

/-- ITS FALSE NEIGHBOUR: 'it returns false'. Refute it at one input. -/
def headParsesWrong : ChangeSpec := { name := "headParses", fn := fun _ => fun
  | [d1, d2, d3, d4, d5] => { results := [.lit (.bool false)], args := [d1, d2, d3, d4, d5] }
  | _ => none }
def HeadParsesWrongFalsely : Prop := headParsesRow.holds Try.pinned (OpenSpec.ofChange headParsesWrong)

/-- 'chequerlaw06.HeadReads': WHATEVER THE INPUT: true; the input reads as it did. -/
def headReadsSpec : ChangeSpec := { name := "headReads", fn := fun _ => fun
  | [d1, d2, d3, d4] => { results := [.lit (.bool true)], args := [d1, d2, d3, d4] }
  | _ => none }
def headReadsRow : OpenClaim := { program := "ytmimfljiighbaaa", sum := "e927f3696e6a822dfa5e88fbc98828f7aeb386552c1210c4d172d0550b5bdf12", func := "chequer/chequerlaw06.HeadReads", spec := "headReads", inPlace := ["internal/bytealg.IndexByteString"], unfollowed := true, recurses := true, apart := false }
def HeadReadsSaid : Prop := headReadsRow.holds Try.pinned (OpenSpec.ofChange headReadsSpec)

/-- ITS FALSE NEIGHBOUR: 'it returns false'. Refute it at one input. -/
def headReadsWrong : ChangeSpec := { name := "headReads", fn := fun _ => fun
  | [d1, d2, d3, d4] => { results := [.lit (.bool false)], args := [d1, d2, d3, d4] }
  | _ => none }
def HeadReadsWrongFalsely : Prop := headReadsRow.holds Try.pinned (OpenSpec.ofChange headReadsWrong)

/-- 'chequerlaw06.HeadSizes': WHATEVER THE INPUT: true; the input reads as it did. -/
def headSizesSpec : ChangeSpec := { name := "headSizes", fn := fun _ => fun
  | [d] => { results := [.lit (.bool true)], args := [d] }
  | _ => none }
def headSizesRow : OpenClaim := { program := "ytmimfljiighbaaa", sum := "e927f3696e6a822dfa5e88fbc98828f7aeb386552c1210c4d172d0550b5bdf12", func := "chequer/chequerlaw06.HeadSizes", spec := "headSizes", inPlace := ["internal/bytealg.IndexByteString"], unfollowed := true, recurses := true, apart := false }
def HeadSizesSaid : Prop := headSizesRow.holds Try.pinned (OpenSpec.ofChange headSizesSpec)

/-- ITS FALSE NEIGHBOUR: 'it returns false'. Refute it at one input. -/
def headSizesWrong : ChangeSpec := { name := "headSizes", fn := fun _ => fun
  | [d] => { results := [.lit (.bool false)], args := [d] }
  | _ => none }
def HeadSizesWrongFalsely : Prop := headSizesRow.holds Try.pinned (OpenSpec.ofChange headSizesWrong)

/-- 'chequerlaw06.HeadRemarks': WHATEVER THE INPUT: true; the input reads as it did. -/
def headRemarksSpec : ChangeSpec := { name := "headRemarks", fn := fun _ => fun
  | [d1, d2, d3] => { results := [.lit (.bool true)], args := [d1, d2, d3] }
  | _ => none }
def headRemarksRow : OpenClaim := { program := "ytmimfljiighbaaa", sum := "e927f3696e6a822dfa5e88fbc98828f7aeb386552c1210c4d172d0550b5bdf12", func := "chequer/chequerlaw06.HeadRemarks", spec := "headRemarks", inPlace := ["internal/bytealg.IndexByteString"], unfollowed := true, recurses := true, apart := false }
def HeadRemarksSaid : Prop := headRemarksRow.holds Try.pinned (OpenSpec.ofChange headRemarksSpec)

/-- ITS FALSE NEIGHBOUR: 'it returns false'. Refute it at one input. -/
def headRemarksWrong : ChangeSpec := { name := "headRemarks", fn := fun _ => fun
  | [d1, d2, d3] => { results := [.lit (.bool false)], args := [d1, d2, d3] }
  | _ => none }
def HeadRemarksWrongFalsely : Prop := headRemarksRow.holds Try.pinned (OpenSpec.ofChange headRemarksWrong)

/-- 'chequerlaw06.HeadWrites': WHATEVER THE INPUT: true; the input reads as it did. -/
def headWritesSpec : ChangeSpec := { name := "headWrites", fn := fun _ => fun
  | [d1, d2] => { results := [.lit (.bool true)], args := [d1, d2] }
  | _ => none }
def headWritesRow : OpenClaim := { program := "ytmimfljiighbaaa", sum := "e927f3696e6a822dfa5e88fbc98828f7aeb386552c1210c4d172d0550b5bdf12", func := "chequer/chequerlaw06.HeadWrites", spec := "headWrites", inPlace := ["internal/bytealg.IndexByteString"], unfollowed := true, recurses := true, apart := false }
def HeadWritesSaid : Prop := headWritesRow.holds Try.pinned (OpenSpec.ofChange headWritesSpec)

/-- ITS FALSE NEIGHBOUR: 'it returns false'. Refute it at one input. -/
def headWritesWrong : ChangeSpec := { name := "headWrites", fn := fun _ => fun
  | [d1, d2] => { results := [.lit (.bool false)], args := [d1, d2] }
  | _ => none }
def HeadWritesWrongFalsely : Prop := headWritesRow.holds Try.pinned (OpenSpec.ofChange headWritesWrong)

/-- 'chequerlaw06.HeadLimits': WHATEVER THE INPUT: true; the input reads as it did. -/
def headLimitsSpec : ChangeSpec := { name := "headLimits", fn := fun _ => fun
  | [d1, d2] => { results := [.lit (.bool true)], args := [d1, d2] }
  | _ => none }
def headLimitsRow : OpenClaim := { program := "ytmimfljiighbaaa", sum := "e927f3696e6a822dfa5e88fbc98828f7aeb386552c1210c4d172d0550b5bdf12", func := "chequer/chequerlaw06.HeadLimits", spec := "headLimits", inPlace := ["internal/bytealg.IndexByteString"], unfollowed := true, recurses := true, apart := false }
def HeadLimitsSaid : Prop := headLimitsRow.holds Try.pinned (OpenSpec.ofChange headLimitsSpec)

/-- ITS FALSE NEIGHBOUR: 'it returns false'. Refute it at one input. -/
def headLimitsWrong : ChangeSpec := { name := "headLimits", fn := fun _ => fun
  | [d1, d2] => { results := [.lit (.bool false)], args := [d1, d2] }
  | _ => none }
def HeadLimitsWrongFalsely : Prop := headLimitsRow.holds Try.pinned (OpenSpec.ofChange headLimitsWrong)

/- THE SECOND FORM. 'bulk': how many values and letters a reading holds, each counted each time it is reached (what is shared counts as often as it is met; a slice's spare places count too). A statement '..UptoSaid' is the law's where the arguments, and the package variables that the reading takes, are together of bulk at most 1048576: NARROWER than '..Said'. Prove '..Said' where nothing that the law and all that it calls make is longer than what came in: it says more and counts as full. Else prove '..UptoSaid'. A law counts once. -/
mutual
def uptoBulk {H : Type} : DataW H → Nat
  | .lit (.string bytes) => bytes.length + 1
  | .lit _ => 1
  | .nil => 1
  | .ptr d => uptoBulk d + 1
  | .slice elems spare => uptoBulkAll elems + uptoBulkAll spare + 1
  | .agg parts => uptoBulkAll parts + 1
  | .iface _ d => uptoBulk d + 1
  | .map entries => uptoBulkEntries entries + 1
  | .held _ => 1
def uptoBulkAll {H : Type} : List (DataW H) → Nat
  | [] => 0
  | d :: r => uptoBulk d + uptoBulkAll r
def uptoBulkEntries {H : Type} : List (Lit × DataW H) → Nat
  | [] => 0
  | x :: r => uptoBulkEntry x + uptoBulkEntries r
def uptoBulkEntry {H : Type} : Lit × DataW H → Nat
  | (.string bytes, d) => bytes.length + uptoBulk d + 1
  | (_, d) => uptoBulk d + 1
 end
def uptoSmall : (H : Type) → List (DataW H) → Bool := fun _ ds => decide (uptoBulkAll ds ≤ 1048576)
def OpenSpec.upto (s : _root_.Go.ChangeSpec) : _root_.Go.OpenSpec := { _root_.Go.OpenSpec.ofChange s with cond := some uptoSmall }

/-- 'chequerlaw06.HeadParses', WHERE WHAT IT READS IS OF BULK AT MOST 1048576: true; the input reads as it did. -/
def headParsesUptoRow : OpenClaim := { program := "ytmimfljiighbaaa", sum := "e927f3696e6a822dfa5e88fbc98828f7aeb386552c1210c4d172d0550b5bdf12", func := "chequer/chequerlaw06.HeadParses", spec := "headParses", inPlace := ["internal/bytealg.IndexByteString"], unfollowed := true, recurses := true, apart := false, narrowed := true }
def HeadParsesUptoSaid : Prop := headParsesUptoRow.holds Try.pinned (OpenSpec.upto headParsesSpec)

/-- 'chequerlaw06.HeadReads', WHERE WHAT IT READS IS OF BULK AT MOST 1048576: true; the input reads as it did. -/
def headReadsUptoRow : OpenClaim := { program := "ytmimfljiighbaaa", sum := "e927f3696e6a822dfa5e88fbc98828f7aeb386552c1210c4d172d0550b5bdf12", func := "chequer/chequerlaw06.HeadReads", spec := "headReads", inPlace := ["internal/bytealg.IndexByteString"], unfollowed := true, recurses := true, apart := false, narrowed := true }
def HeadReadsUptoSaid : Prop := headReadsUptoRow.holds Try.pinned (OpenSpec.upto headReadsSpec)

/-- 'chequerlaw06.HeadSizes', WHERE WHAT IT READS IS OF BULK AT MOST 1048576: true; the input reads as it did. -/
def headSizesUptoRow : OpenClaim := { program := "ytmimfljiighbaaa", sum := "e927f3696e6a822dfa5e88fbc98828f7aeb386552c1210c4d172d0550b5bdf12", func := "chequer/chequerlaw06.HeadSizes", spec := "headSizes", inPlace := ["internal/bytealg.IndexByteString"], unfollowed := true, recurses := true, apart := false, narrowed := true }
def HeadSizesUptoSaid : Prop := headSizesUptoRow.holds Try.pinned (OpenSpec.upto headSizesSpec)

/-- 'chequerlaw06.HeadRemarks', WHERE WHAT IT READS IS OF BULK AT MOST 1048576: true; the input reads as it did. -/
def headRemarksUptoRow : OpenClaim := { program := "ytmimfljiighbaaa", sum := "e927f3696e6a822dfa5e88fbc98828f7aeb386552c1210c4d172d0550b5bdf12", func := "chequer/chequerlaw06.HeadRemarks", spec := "headRemarks", inPlace := ["internal/bytealg.IndexByteString"], unfollowed := true, recurses := true, apart := false, narrowed := true }
def HeadRemarksUptoSaid : Prop := headRemarksUptoRow.holds Try.pinned (OpenSpec.upto headRemarksSpec)

/-- 'chequerlaw06.HeadWrites', WHERE WHAT IT READS IS OF BULK AT MOST 1048576: true; the input reads as it did. -/
def headWritesUptoRow : OpenClaim := { program := "ytmimfljiighbaaa", sum := "e927f3696e6a822dfa5e88fbc98828f7aeb386552c1210c4d172d0550b5bdf12", func := "chequer/chequerlaw06.HeadWrites", spec := "headWrites", inPlace := ["internal/bytealg.IndexByteString"], unfollowed := true, recurses := true, apart := false, narrowed := true }
def HeadWritesUptoSaid : Prop := headWritesUptoRow.holds Try.pinned (OpenSpec.upto headWritesSpec)

/-- 'chequerlaw06.HeadLimits', WHERE WHAT IT READS IS OF BULK AT MOST 1048576: true; the input reads as it did. -/
def headLimitsUptoRow : OpenClaim := { program := "ytmimfljiighbaaa", sum := "e927f3696e6a822dfa5e88fbc98828f7aeb386552c1210c4d172d0550b5bdf12", func := "chequer/chequerlaw06.HeadLimits", spec := "headLimits", inPlace := ["internal/bytealg.IndexByteString"], unfollowed := true, recurses := true, apart := false, narrowed := true }
def HeadLimitsUptoSaid : Prop := headLimitsUptoRow.holds Try.pinned (OpenSpec.upto headLimitsSpec)

end Rows
end Go.Proofs.Ytmimfljiighbaaa
