/-
  No cell of these rows narrows 'for every input' (looked for: loops, veiled, ifaces, maps, wideKeys, modest, calm, conditions, laid).
  DERIVED. THE GIVEN ROWS OF THIS SEAT. 8 by the template 'for every input the law returns true; each argument reads behind the call as it read before'; 0 by the template 'total and deterministic' (their statements: YtehjnekljodmgaaTotals.lean).
  GIVEN WITH THE SEED: the statements are not yours to turn. If you find one false, say at which input.
  Laid BY PROGRAM, IN A SANDBOX (cutbox-rows.mjs): the forced cells as the released guide's own fill.sh prints them over the translation 7dd430780106e767… (all of the seat's roots in one cut). By AI agents, Wed Nov 11 2026. No macro, syntax, notation, axiom, sorry.
-/
import Derived.Test.YtehjnekljodmgaaChecked
import GoSem.Claim
import GoSem.ClaimJoined
import GoSem.ClaimMapViews
import Derived.JoinedTies
import Derived.KernelRfl
namespace Go.Proofs.Ytehjnekljodmgaa
/- THE CELL 'sum', in the pinned program and in every row, IS THE sha256 OF THE DUMP (.gsa) THAT YtehjnekljodmgaaProg.lean LOADS. Nothing in Lean hashes anything: it is a label: what it is worth is what the hold of that sum in a sandbox is worth. -/
noncomputable def Try.pinned : Pinned := { name := "ytehjnekljodmgaa", sum := "7dd430780106e767e6e5c646eab37a538dd9e5f5f0ce783d7b9865f89f5a29e9", checked := Try.checked }
namespace Rows
def none {H : Type} : Left H := { results := [], args := [] }

/-- 'chequerlaw04.TurnLays': WHATEVER THE INPUT: true; the input reads as it did. -/
def turnLaysSpec : ChangeSpec := { name := "turnLays", fn := fun _ => fun
  | [d1, d2] => { results := [.lit (.bool true)], args := [d1, d2] }
  | _ => none }
def turnLaysRow : OpenClaim := { program := "ytehjnekljodmgaa", sum := "7dd430780106e767e6e5c646eab37a538dd9e5f5f0ce783d7b9865f89f5a29e9", func := "chequer/chequerlaw04.TurnLays", spec := "turnLays", unfollowed := true, recurses := true, apart := false }
def TurnLaysSaid : Prop := turnLaysRow.holds Try.pinned (OpenSpec.ofChange turnLaysSpec)

/-- ITS FALSE NEIGHBOUR: 'it returns false'. Refute it at one input. -/
def turnLaysWrong : ChangeSpec := { name := "turnLays", fn := fun _ => fun
  | [d1, d2] => { results := [.lit (.bool false)], args := [d1, d2] }
  | _ => none }
def TurnLaysWrongFalsely : Prop := turnLaysRow.holds Try.pinned (OpenSpec.ofChange turnLaysWrong)

/-- 'chequerlaw04.TurnNames': WHATEVER THE INPUT: true; the input reads as it did. -/
def turnNamesSpec : ChangeSpec := { name := "turnNames", fn := fun _ => fun
  | [d] => { results := [.lit (.bool true)], args := [d] }
  | _ => none }
def turnNamesRow : OpenClaim := { program := "ytehjnekljodmgaa", sum := "7dd430780106e767e6e5c646eab37a538dd9e5f5f0ce783d7b9865f89f5a29e9", func := "chequer/chequerlaw04.TurnNames", spec := "turnNames", unfollowed := true, recurses := true, apart := false }
def TurnNamesSaid : Prop := turnNamesRow.holds Try.pinned (OpenSpec.ofChange turnNamesSpec)

/-- ITS FALSE NEIGHBOUR: 'it returns false'. Refute it at one input. -/
def turnNamesWrong : ChangeSpec := { name := "turnNames", fn := fun _ => fun
  | [d] => { results := [.lit (.bool false)], args := [d] }
  | _ => none }
def TurnNamesWrongFalsely : Prop := turnNamesRow.holds Try.pinned (OpenSpec.ofChange turnNamesWrong)

/-- 'chequerlaw04.TurnThen': WHATEVER THE INPUT: true; the input reads as it did. -/
def turnThenSpec : ChangeSpec := { name := "turnThen", fn := fun _ => fun
  | [d1, d2, d3] => { results := [.lit (.bool true)], args := [d1, d2, d3] }
  | _ => none }
def turnThenRow : OpenClaim := { program := "ytehjnekljodmgaa", sum := "7dd430780106e767e6e5c646eab37a538dd9e5f5f0ce783d7b9865f89f5a29e9", func := "chequer/chequerlaw04.TurnThen", spec := "turnThen", unfollowed := true, recurses := true, apart := false }
def TurnThenSaid : Prop := turnThenRow.holds Try.pinned (OpenSpec.ofChange turnThenSpec)

/-- ITS FALSE NEIGHBOUR: 'it returns false'. Refute it at one input. -/
def turnThenWrong : ChangeSpec := { name := "turnThen", fn := fun _ => fun
  | [d1, d2, d3] => { results := [.lit (.bool false)], args := [d1, d2, d3] }
  | _ => none }
def TurnThenWrongFalsely : Prop := turnThenRow.holds Try.pinned (OpenSpec.ofChange turnThenWrong)

/-- 'chequerlaw04.TurnGroup': WHATEVER THE INPUT: true; the input reads as it did. -/
def turnGroupSpec : ChangeSpec := { name := "turnGroup", fn := fun _ => fun
  | [d1, d2, d3] => { results := [.lit (.bool true)], args := [d1, d2, d3] }
  | _ => none }
def turnGroupRow : OpenClaim := { program := "ytehjnekljodmgaa", sum := "7dd430780106e767e6e5c646eab37a538dd9e5f5f0ce783d7b9865f89f5a29e9", func := "chequer/chequerlaw04.TurnGroup", spec := "turnGroup", unfollowed := true, recurses := true, apart := false }
def TurnGroupSaid : Prop := turnGroupRow.holds Try.pinned (OpenSpec.ofChange turnGroupSpec)

/-- ITS FALSE NEIGHBOUR: 'it returns false'. Refute it at one input. -/
def turnGroupWrong : ChangeSpec := { name := "turnGroup", fn := fun _ => fun
  | [d1, d2, d3] => { results := [.lit (.bool false)], args := [d1, d2, d3] }
  | _ => none }
def TurnGroupWrongFalsely : Prop := turnGroupRow.holds Try.pinned (OpenSpec.ofChange turnGroupWrong)

/-- 'chequerlaw04.TurnOrbits': WHATEVER THE INPUT: true; the input reads as it did. -/
def turnOrbitsSpec : ChangeSpec := { name := "turnOrbits", fn := fun _ => fun
  | [d1, d2] => { results := [.lit (.bool true)], args := [d1, d2] }
  | _ => none }
def turnOrbitsRow : OpenClaim := { program := "ytehjnekljodmgaa", sum := "7dd430780106e767e6e5c646eab37a538dd9e5f5f0ce783d7b9865f89f5a29e9", func := "chequer/chequerlaw04.TurnOrbits", spec := "turnOrbits", unfollowed := true, recurses := true, apart := false }
def TurnOrbitsSaid : Prop := turnOrbitsRow.holds Try.pinned (OpenSpec.ofChange turnOrbitsSpec)

/-- ITS FALSE NEIGHBOUR: 'it returns false'. Refute it at one input. -/
def turnOrbitsWrong : ChangeSpec := { name := "turnOrbits", fn := fun _ => fun
  | [d1, d2] => { results := [.lit (.bool false)], args := [d1, d2] }
  | _ => none }
def TurnOrbitsWrongFalsely : Prop := turnOrbitsRow.holds Try.pinned (OpenSpec.ofChange turnOrbitsWrong)

/-- 'chequerlaw04.TurnTall': WHATEVER THE INPUT: true; the input reads as it did. -/
def turnTallSpec : ChangeSpec := { name := "turnTall", fn := fun _ => fun
  | [d] => { results := [.lit (.bool true)], args := [d] }
  | _ => none }
def turnTallRow : OpenClaim := { program := "ytehjnekljodmgaa", sum := "7dd430780106e767e6e5c646eab37a538dd9e5f5f0ce783d7b9865f89f5a29e9", func := "chequer/chequerlaw04.TurnTall", spec := "turnTall", unfollowed := true, recurses := true, apart := false }
def TurnTallSaid : Prop := turnTallRow.holds Try.pinned (OpenSpec.ofChange turnTallSpec)

/-- ITS FALSE NEIGHBOUR: 'it returns false'. Refute it at one input. -/
def turnTallWrong : ChangeSpec := { name := "turnTall", fn := fun _ => fun
  | [d] => { results := [.lit (.bool false)], args := [d] }
  | _ => none }
def TurnTallWrongFalsely : Prop := turnTallRow.holds Try.pinned (OpenSpec.ofChange turnTallWrong)

/-- 'chequerlaw04.TurnFinds': WHATEVER THE INPUT: true; the input reads as it did. -/
def turnFindsSpec : ChangeSpec := { name := "turnFinds", fn := fun _ => fun
  | [d1, d2, d3] => { results := [.lit (.bool true)], args := [d1, d2, d3] }
  | _ => none }
def turnFindsRow : OpenClaim := { program := "ytehjnekljodmgaa", sum := "7dd430780106e767e6e5c646eab37a538dd9e5f5f0ce783d7b9865f89f5a29e9", func := "chequer/chequerlaw04.TurnFinds", spec := "turnFinds", unfollowed := true, recurses := true, apart := false }
def TurnFindsSaid : Prop := turnFindsRow.holds Try.pinned (OpenSpec.ofChange turnFindsSpec)

/-- ITS FALSE NEIGHBOUR: 'it returns false'. Refute it at one input. -/
def turnFindsWrong : ChangeSpec := { name := "turnFinds", fn := fun _ => fun
  | [d1, d2, d3] => { results := [.lit (.bool false)], args := [d1, d2, d3] }
  | _ => none }
def TurnFindsWrongFalsely : Prop := turnFindsRow.holds Try.pinned (OpenSpec.ofChange turnFindsWrong)

/-- 'chequerlaw04.TurnSame': WHATEVER THE INPUT: true; the input reads as it did. -/
def turnSameSpec : ChangeSpec := { name := "turnSame", fn := fun _ => fun
  | [d] => { results := [.lit (.bool true)], args := [d] }
  | _ => none }
def turnSameRow : OpenClaim := { program := "ytehjnekljodmgaa", sum := "7dd430780106e767e6e5c646eab37a538dd9e5f5f0ce783d7b9865f89f5a29e9", func := "chequer/chequerlaw04.TurnSame", spec := "turnSame", unfollowed := true, recurses := true, apart := false }
def TurnSameSaid : Prop := turnSameRow.holds Try.pinned (OpenSpec.ofChange turnSameSpec)

/-- ITS FALSE NEIGHBOUR: 'it returns false'. Refute it at one input. -/
def turnSameWrong : ChangeSpec := { name := "turnSame", fn := fun _ => fun
  | [d] => { results := [.lit (.bool false)], args := [d] }
  | _ => none }
def TurnSameWrongFalsely : Prop := turnSameRow.holds Try.pinned (OpenSpec.ofChange turnSameWrong)

/- THE SECOND FORM. 'bulk': how many values and letters a reading holds, each counted each time it is reached (what is shared counts as often as it is met; a slice's spare places count too). A statement '..UptoSaid' is the law's where the arguments, and the package variables that the reading takes, are together of bulk at most 1048576: NARROWER than '..Said'. Prove '..Said' where nothing that the law and all that it calls make is longer than what came in: it says more and counts as full. Else prove '..UptoSaid'. A law counts once. -/
mutual
def uptoBulk {H : Type} : DataW H → Nat
  | .lit (.string bytes) => bytes.length + 1
  | .lit _ => 1
  | .nil => 1
  | .ptr d => uptoBulk d + 1
  | .slice elems spare => uptoBulkAll elems + uptoBulkAll spare + 1
  | .agg parts => uptoBulkAll parts + 1
  | .iface _ d => uptoBulk d + 1
  | .map entries => uptoBulkEntries entries + 1
  | .held _ => 1
def uptoBulkAll {H : Type} : List (DataW H) → Nat
  | [] => 0
  | d :: r => uptoBulk d + uptoBulkAll r
def uptoBulkEntries {H : Type} : List (Lit × DataW H) → Nat
  | [] => 0
  | x :: r => uptoBulkEntry x + uptoBulkEntries r
def uptoBulkEntry {H : Type} : Lit × DataW H → Nat
  | (.string bytes, d) => bytes.length + uptoBulk d + 1
  | (_, d) => uptoBulk d + 1
 end
def uptoSmall : (H : Type) → List (DataW H) → Bool := fun _ ds => decide (uptoBulkAll ds ≤ 1048576)
def OpenSpec.upto (s : _root_.Go.ChangeSpec) : _root_.Go.OpenSpec := { _root_.Go.OpenSpec.ofChange s with cond := some uptoSmall }

/-- 'chequerlaw04.TurnLays', WHERE WHAT IT READS IS OF BULK AT MOST 1048576: true; the input reads as it did. -/
def turnLaysUptoRow : OpenClaim := { program := "ytehjnekljodmgaa", sum := "7dd430780106e767e6e5c646eab37a538dd9e5f5f0ce783d7b9865f89f5a29e9", func := "chequer/chequerlaw04.TurnLays", spec := "turnLays", unfollowed := true, recurses := true, apart := false, narrowed := true }
def TurnLaysUptoSaid : Prop := turnLaysUptoRow.holds Try.pinned (OpenSpec.upto turnLaysSpec)

/-- 'chequerlaw04.TurnNames', WHERE WHAT IT READS IS OF BULK AT MOST 1048576: true; the input reads as it did. -/
def turnNamesUptoRow : OpenClaim := { program := "ytehjnekljodmgaa", sum := "7dd430780106e767e6e5c646eab37a538dd9e5f5f0ce783d7b9865f89f5a29e9", func := "chequer/chequerlaw04.TurnNames", spec := "turnNames", unfollowed := true, recurses := true, apart := false, narrowed := true }
def TurnNamesUptoSaid : Prop := turnNamesUptoRow.holds Try.pinned (OpenSpec.upto turnNamesSpec)

/-- 'chequerlaw04.TurnThen', WHERE WHAT IT READS IS OF BULK AT MOST 1048576: true; the input reads as it did. -/
def turnThenUptoRow : OpenClaim := { program := "ytehjnekljodmgaa", sum := "7dd430780106e767e6e5c646eab37a538dd9e5f5f0ce783d7b9865f89f5a29e9", func := "chequer/chequerlaw04.TurnThen", spec := "turnThen", unfollowed := true, recurses := true, apart := false, narrowed := true }
def TurnThenUptoSaid : Prop := turnThenUptoRow.holds Try.pinned (OpenSpec.upto turnThenSpec)

/-- 'chequerlaw04.TurnGroup', WHERE WHAT IT READS IS OF BULK AT MOST 1048576: true; the input reads as it did. -/
def turnGroupUptoRow : OpenClaim := { program := "ytehjnekljodmgaa", sum := "7dd430780106e767e6e5c646eab37a538dd9e5f5f0ce783d7b9865f89f5a29e9", func := "chequer/chequerlaw04.TurnGroup", spec := "turnGroup", unfollowed := true, recurses := true, apart := false, narrowed := true }
def TurnGroupUptoSaid : Prop := turnGroupUptoRow.holds Try.pinned (OpenSpec.upto turnGroupSpec)

/-- 'chequerlaw04.TurnOrbits', WHERE WHAT IT READS IS OF BULK AT MOST 1048576: true; the input reads as it did. -/
def turnOrbitsUptoRow : OpenClaim := { program := "ytehjnekljodmgaa", sum := "7dd430780106e767e6e5c646eab37a538dd9e5f5f0ce783d7b9865f89f5a29e9", func := "chequer/chequerlaw04.TurnOrbits", spec := "turnOrbits", unfollowed := true, recurses := true, apart := false, narrowed := true }
def TurnOrbitsUptoSaid : Prop := turnOrbitsUptoRow.holds Try.pinned (OpenSpec.upto turnOrbitsSpec)

/-- 'chequerlaw04.TurnTall', WHERE WHAT IT READS IS OF BULK AT MOST 1048576: true; the input reads as it did. -/
def turnTallUptoRow : OpenClaim := { program := "ytehjnekljodmgaa", sum := "7dd430780106e767e6e5c646eab37a538dd9e5f5f0ce783d7b9865f89f5a29e9", func := "chequer/chequerlaw04.TurnTall", spec := "turnTall", unfollowed := true, recurses := true, apart := false, narrowed := true }
def TurnTallUptoSaid : Prop := turnTallUptoRow.holds Try.pinned (OpenSpec.upto turnTallSpec)

/-- 'chequerlaw04.TurnFinds', WHERE WHAT IT READS IS OF BULK AT MOST 1048576: true; the input reads as it did. -/
def turnFindsUptoRow : OpenClaim := { program := "ytehjnekljodmgaa", sum := "7dd430780106e767e6e5c646eab37a538dd9e5f5f0ce783d7b9865f89f5a29e9", func := "chequer/chequerlaw04.TurnFinds", spec := "turnFinds", unfollowed := true, recurses := true, apart := false, narrowed := true }
def TurnFindsUptoSaid : Prop := turnFindsUptoRow.holds Try.pinned (OpenSpec.upto turnFindsSpec)

/-- 'chequerlaw04.TurnSame', WHERE WHAT IT READS IS OF BULK AT MOST 1048576: true; the input reads as it did. -/
def turnSameUptoRow : OpenClaim := { program := "ytehjnekljodmgaa", sum := "7dd430780106e767e6e5c646eab37a538dd9e5f5f0ce783d7b9865f89f5a29e9", func := "chequer/chequerlaw04.TurnSame", spec := "turnSame", unfollowed := true, recurses := true, apart := false, narrowed := true }
def TurnSameUptoSaid : Prop := turnSameUptoRow.holds Try.pinned (OpenSpec.upto turnSameSpec)

end Rows
end Go.Proofs.Ytehjnekljodmgaa
