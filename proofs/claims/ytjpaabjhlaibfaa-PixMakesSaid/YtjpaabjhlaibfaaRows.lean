/-
  No cell of these rows narrows 'for every input' (looked for: loops, veiled, ifaces, maps, wideKeys, modest, calm, conditions, laid).
  DERIVED. THE GIVEN ROWS OF THIS SEAT. 7 by the template 'for every input the law returns true; each argument reads behind the call as it read before'; 0 by the template 'total and deterministic' (their statements: YtjpaabjhlaibfaaTotals.lean).
  GIVEN WITH THE SEED: the statements are not yours to turn. If you find one false, say at which input.
  Laid BY PROGRAM, IN A SANDBOX (cutbox-rows.mjs): the forced cells as the released guide's own fill.sh prints them over the translation 9769fee100881d5e… (all of the seat's roots in one cut). By AI agents, Wed Nov 11 2026. No macro, syntax, notation, axiom, sorry.
-/
import Derived.Test.YtjpaabjhlaibfaaChecked
import GoSem.Claim
import GoSem.ClaimJoined
import GoSem.ClaimMapViews
import Derived.JoinedTies
import Derived.KernelRfl
namespace Go.Proofs.Ytjpaabjhlaibfaa
/- THE CELL 'sum', in the pinned program and in every row, IS THE sha256 OF THE DUMP (.gsa) THAT YtjpaabjhlaibfaaProg.lean LOADS. Nothing in Lean hashes anything: it is a label: what it is worth is what the hold of that sum in a sandbox is worth. -/
noncomputable def Try.pinned : Pinned := { name := "ytjpaabjhlaibfaa", sum := "9769fee100881d5e18530df6e9287a12320c889b6d4806c6c487868ff005a0e1", checked := Try.checked }
namespace Rows
def none {H : Type} : Left H := { results := [], args := [] }

/-- 'chequerlaw01.PixPacks': WHATEVER THE INPUT: true; the input reads as it did. -/
def pixPacksSpec : ChangeSpec := { name := "pixPacks", fn := fun _ => fun
  | [d] => { results := [.lit (.bool true)], args := [d] }
  | _ => none }
def pixPacksRow : OpenClaim := { program := "ytjpaabjhlaibfaa", sum := "9769fee100881d5e18530df6e9287a12320c889b6d4806c6c487868ff005a0e1", func := "chequer/chequerlaw01.PixPacks", spec := "pixPacks", apart := false }
def PixPacksSaid : Prop := pixPacksRow.holds Try.pinned (OpenSpec.ofChange pixPacksSpec)

/-- ITS FALSE NEIGHBOUR: 'it returns false'. Refute it at one input. -/
def pixPacksWrong : ChangeSpec := { name := "pixPacks", fn := fun _ => fun
  | [d] => { results := [.lit (.bool false)], args := [d] }
  | _ => none }
def PixPacksWrongFalsely : Prop := pixPacksRow.holds Try.pinned (OpenSpec.ofChange pixPacksWrong)

/-- 'chequerlaw01.PixGrays': WHATEVER THE INPUT: true; the input reads as it did. -/
def pixGraysSpec : ChangeSpec := { name := "pixGrays", fn := fun _ => fun
  | [d1, d2] => { results := [.lit (.bool true)], args := [d1, d2] }
  | _ => none }
def pixGraysRow : OpenClaim := { program := "ytjpaabjhlaibfaa", sum := "9769fee100881d5e18530df6e9287a12320c889b6d4806c6c487868ff005a0e1", func := "chequer/chequerlaw01.PixGrays", spec := "pixGrays", apart := false }
def PixGraysSaid : Prop := pixGraysRow.holds Try.pinned (OpenSpec.ofChange pixGraysSpec)

/-- ITS FALSE NEIGHBOUR: 'it returns false'. Refute it at one input. -/
def pixGraysWrong : ChangeSpec := { name := "pixGrays", fn := fun _ => fun
  | [d1, d2] => { results := [.lit (.bool false)], args := [d1, d2] }
  | _ => none }
def PixGraysWrongFalsely : Prop := pixGraysRow.holds Try.pinned (OpenSpec.ofChange pixGraysWrong)

/-- 'chequerlaw01.PixUnpacks': WHATEVER THE INPUT: true; the input reads as it did. -/
def pixUnpacksSpec : ChangeSpec := { name := "pixUnpacks", fn := fun _ => fun
  | [d1, d2] => { results := [.lit (.bool true)], args := [d1, d2] }
  | _ => none }
def pixUnpacksRow : OpenClaim := { program := "ytjpaabjhlaibfaa", sum := "9769fee100881d5e18530df6e9287a12320c889b6d4806c6c487868ff005a0e1", func := "chequer/chequerlaw01.PixUnpacks", spec := "pixUnpacks", apart := false }
def PixUnpacksSaid : Prop := pixUnpacksRow.holds Try.pinned (OpenSpec.ofChange pixUnpacksSpec)

/-- ITS FALSE NEIGHBOUR: 'it returns false'. Refute it at one input. -/
def pixUnpacksWrong : ChangeSpec := { name := "pixUnpacks", fn := fun _ => fun
  | [d1, d2] => { results := [.lit (.bool false)], args := [d1, d2] }
  | _ => none }
def PixUnpacksWrongFalsely : Prop := pixUnpacksRow.holds Try.pinned (OpenSpec.ofChange pixUnpacksWrong)

/-- 'chequerlaw01.PixRow': WHATEVER THE INPUT: true; the input reads as it did. -/
def pixRowSpec : ChangeSpec := { name := "pixRow", fn := fun _ => fun
  | [d1, d2, d3, d4] => { results := [.lit (.bool true)], args := [d1, d2, d3, d4] }
  | _ => none }
def pixRowRow : OpenClaim := { program := "ytjpaabjhlaibfaa", sum := "9769fee100881d5e18530df6e9287a12320c889b6d4806c6c487868ff005a0e1", func := "chequer/chequerlaw01.PixRow", spec := "pixRow", apart := false }
def PixRowSaid : Prop := pixRowRow.holds Try.pinned (OpenSpec.ofChange pixRowSpec)

/-- ITS FALSE NEIGHBOUR: 'it returns false'. Refute it at one input. -/
def pixRowWrong : ChangeSpec := { name := "pixRow", fn := fun _ => fun
  | [d1, d2, d3, d4] => { results := [.lit (.bool false)], args := [d1, d2, d3, d4] }
  | _ => none }
def PixRowWrongFalsely : Prop := pixRowRow.holds Try.pinned (OpenSpec.ofChange pixRowWrong)

/-- 'chequerlaw01.PixScales': WHATEVER THE INPUT: true; the input reads as it did. -/
def pixScalesSpec : ChangeSpec := { name := "pixScales", fn := fun _ => fun
  | [d1, d2, d3, d4] => { results := [.lit (.bool true)], args := [d1, d2, d3, d4] }
  | _ => none }
def pixScalesRow : OpenClaim := { program := "ytjpaabjhlaibfaa", sum := "9769fee100881d5e18530df6e9287a12320c889b6d4806c6c487868ff005a0e1", func := "chequer/chequerlaw01.PixScales", spec := "pixScales", unfollowed := true, recurses := true, apart := false }
def PixScalesSaid : Prop := pixScalesRow.holds Try.pinned (OpenSpec.ofChange pixScalesSpec)

/-- ITS FALSE NEIGHBOUR: 'it returns false'. Refute it at one input. -/
def pixScalesWrong : ChangeSpec := { name := "pixScales", fn := fun _ => fun
  | [d1, d2, d3, d4] => { results := [.lit (.bool false)], args := [d1, d2, d3, d4] }
  | _ => none }
def PixScalesWrongFalsely : Prop := pixScalesRow.holds Try.pinned (OpenSpec.ofChange pixScalesWrong)

/-- 'chequerlaw01.PixMakes': WHATEVER THE INPUT: true; the input reads as it did. -/
def pixMakesSpec : ChangeSpec := { name := "pixMakes", fn := fun _ => fun
  | [d1, d2, d3, d4, d5] => { results := [.lit (.bool true)], args := [d1, d2, d3, d4, d5] }
  | _ => none }
def pixMakesRow : OpenClaim := { program := "ytjpaabjhlaibfaa", sum := "9769fee100881d5e18530df6e9287a12320c889b6d4806c6c487868ff005a0e1", func := "chequer/chequerlaw01.PixMakes", spec := "pixMakes", unfollowed := true, recurses := true, apart := false }
def PixMakesSaid : Prop := pixMakesRow.holds Try.pinned (OpenSpec.ofChange pixMakesSpec)

/-- ITS FALSE NEIGHBOUR: 'it returns false'. Refute it at one input. -/
def pixMakesWrong : ChangeSpec := { name := "pixMakes", fn := fun _ => fun
  | [d1, d2, d3, d4, d5] => { results := [.lit (.bool false)], args := [d1, d2, d3, d4, d5] }
  | _ => none }
def PixMakesWrongFalsely : Prop := pixMakesRow.holds Try.pinned (OpenSpec.ofChange pixMakesWrong)

/-- 'chequerlaw01.PixTurns': WHATEVER THE INPUT: true; the input reads as it did. -/
def pixTurnsSpec : ChangeSpec := { name := "pixTurns", fn := fun _ => fun
  | [d1, d2] => { results := [.lit (.bool true)], args := [d1, d2] }
  | _ => none }
def pixTurnsRow : OpenClaim := { program := "ytjpaabjhlaibfaa", sum := "9769fee100881d5e18530df6e9287a12320c889b6d4806c6c487868ff005a0e1", func := "chequer/chequerlaw01.PixTurns", spec := "pixTurns", unfollowed := true, recurses := true, apart := false }
def PixTurnsSaid : Prop := pixTurnsRow.holds Try.pinned (OpenSpec.ofChange pixTurnsSpec)

/-- ITS FALSE NEIGHBOUR: 'it returns false'. Refute it at one input. -/
def pixTurnsWrong : ChangeSpec := { name := "pixTurns", fn := fun _ => fun
  | [d1, d2] => { results := [.lit (.bool false)], args := [d1, d2] }
  | _ => none }
def PixTurnsWrongFalsely : Prop := pixTurnsRow.holds Try.pinned (OpenSpec.ofChange pixTurnsWrong)

/- THE SECOND FORM. 'bulk': how many values and letters a reading holds, each counted each time it is reached (what is shared counts as often as it is met; a slice's spare places count too). A statement '..UptoSaid' is the law's where the arguments, and the package variables that the reading takes, are together of bulk at most 1048576: NARROWER than '..Said'. Prove '..Said' where nothing that the law and all that it calls make is longer than what came in: it says more and counts as full. Else prove '..UptoSaid'. A law counts once. -/
mutual
def uptoBulk {H : Type} : DataW H → Nat
  | .lit (.string bytes) => bytes.length + 1
  | .lit _ => 1
  | .nil => 1
  | .ptr d => uptoBulk d + 1
  | .slice elems spare => uptoBulkAll elems + uptoBulkAll spare + 1
  | .agg parts => uptoBulkAll parts + 1
  | .iface _ d => uptoBulk d + 1
  | .map entries => uptoBulkEntries entries + 1
  | .held _ => 1
def uptoBulkAll {H : Type} : List (DataW H) → Nat
  | [] => 0
  | d :: r => uptoBulk d + uptoBulkAll r
def uptoBulkEntries {H : Type} : List (Lit × DataW H) → Nat
  | [] => 0
  | x :: r => uptoBulkEntry x + uptoBulkEntries r
def uptoBulkEntry {H : Type} : Lit × DataW H → Nat
  | (.string bytes, d) => bytes.length + uptoBulk d + 1
  | (_, d) => uptoBulk d + 1
 end
def uptoSmall : (H : Type) → List (DataW H) → Bool := fun _ ds => decide (uptoBulkAll ds ≤ 1048576)
def OpenSpec.upto (s : _root_.Go.ChangeSpec) : _root_.Go.OpenSpec := { _root_.Go.OpenSpec.ofChange s with cond := some uptoSmall }

/-- 'chequerlaw01.PixPacks', WHERE WHAT IT READS IS OF BULK AT MOST 1048576: true; the input reads as it did. -/
def pixPacksUptoRow : OpenClaim := { program := "ytjpaabjhlaibfaa", sum := "9769fee100881d5e18530df6e9287a12320c889b6d4806c6c487868ff005a0e1", func := "chequer/chequerlaw01.PixPacks", spec := "pixPacks", apart := false, narrowed := true }
def PixPacksUptoSaid : Prop := pixPacksUptoRow.holds Try.pinned (OpenSpec.upto pixPacksSpec)

/-- 'chequerlaw01.PixGrays', WHERE WHAT IT READS IS OF BULK AT MOST 1048576: true; the input reads as it did. -/
def pixGraysUptoRow : OpenClaim := { program := "ytjpaabjhlaibfaa", sum := "9769fee100881d5e18530df6e9287a12320c889b6d4806c6c487868ff005a0e1", func := "chequer/chequerlaw01.PixGrays", spec := "pixGrays", apart := false, narrowed := true }
def PixGraysUptoSaid : Prop := pixGraysUptoRow.holds Try.pinned (OpenSpec.upto pixGraysSpec)

/-- 'chequerlaw01.PixUnpacks', WHERE WHAT IT READS IS OF BULK AT MOST 1048576: true; the input reads as it did. -/
def pixUnpacksUptoRow : OpenClaim := { program := "ytjpaabjhlaibfaa", sum := "9769fee100881d5e18530df6e9287a12320c889b6d4806c6c487868ff005a0e1", func := "chequer/chequerlaw01.PixUnpacks", spec := "pixUnpacks", apart := false, narrowed := true }
def PixUnpacksUptoSaid : Prop := pixUnpacksUptoRow.holds Try.pinned (OpenSpec.upto pixUnpacksSpec)

/-- 'chequerlaw01.PixRow', WHERE WHAT IT READS IS OF BULK AT MOST 1048576: true; the input reads as it did. -/
def pixRowUptoRow : OpenClaim := { program := "ytjpaabjhlaibfaa", sum := "9769fee100881d5e18530df6e9287a12320c889b6d4806c6c487868ff005a0e1", func := "chequer/chequerlaw01.PixRow", spec := "pixRow", apart := false, narrowed := true }
def PixRowUptoSaid : Prop := pixRowUptoRow.holds Try.pinned (OpenSpec.upto pixRowSpec)

/-- 'chequerlaw01.PixScales', WHERE WHAT IT READS IS OF BULK AT MOST 1048576: true; the input reads as it did. -/
def pixScalesUptoRow : OpenClaim := { program := "ytjpaabjhlaibfaa", sum := "9769fee100881d5e18530df6e9287a12320c889b6d4806c6c487868ff005a0e1", func := "chequer/chequerlaw01.PixScales", spec := "pixScales", unfollowed := true, recurses := true, apart := false, narrowed := true }
def PixScalesUptoSaid : Prop := pixScalesUptoRow.holds Try.pinned (OpenSpec.upto pixScalesSpec)

/-- 'chequerlaw01.PixMakes', WHERE WHAT IT READS IS OF BULK AT MOST 1048576: true; the input reads as it did. -/
def pixMakesUptoRow : OpenClaim := { program := "ytjpaabjhlaibfaa", sum := "9769fee100881d5e18530df6e9287a12320c889b6d4806c6c487868ff005a0e1", func := "chequer/chequerlaw01.PixMakes", spec := "pixMakes", unfollowed := true, recurses := true, apart := false, narrowed := true }
def PixMakesUptoSaid : Prop := pixMakesUptoRow.holds Try.pinned (OpenSpec.upto pixMakesSpec)

/-- 'chequerlaw01.PixTurns', WHERE WHAT IT READS IS OF BULK AT MOST 1048576: true; the input reads as it did. -/
def pixTurnsUptoRow : OpenClaim := { program := "ytjpaabjhlaibfaa", sum := "9769fee100881d5e18530df6e9287a12320c889b6d4806c6c487868ff005a0e1", func := "chequer/chequerlaw01.PixTurns", spec := "pixTurns", unfollowed := true, recurses := true, apart := false, narrowed := true }
def PixTurnsUptoSaid : Prop := pixTurnsUptoRow.holds Try.pinned (OpenSpec.upto pixTurnsSpec)

end Rows
end Go.Proofs.Ytjpaabjhlaibfaa
