/-
  No cell of these rows narrows 'for every input' (looked for: loops, veiled, ifaces, maps, wideKeys, modest, calm, conditions, laid).
  DERIVED. THE GIVEN ROWS OF THIS SEAT. 6 by the template 'for every input the law returns true; each argument reads behind the call as it read before'; 0 by the template 'total and deterministic' (their statements: YtdjjipinmcmfeaaTotals.lean).
  GIVEN WITH THE SEED: the statements are not yours to turn. If you find one false, say at which input.
  Laid BY PROGRAM, IN A SANDBOX (cutbox-rows.mjs): the forced cells as the released guide's own fill.sh prints them over the translation 3186c5e08ddcf2d2… (all of the seat's roots in one cut). By AI agents, Wed Nov 11 2026. No macro, syntax, notation, axiom, sorry.
-/
import Derived.Test.YtdjjipinmcmfeaaChecked
import GoSem.Claim
import GoSem.ClaimJoined
import GoSem.ClaimMapViews
import Derived.JoinedTies
import Derived.KernelRfl
namespace Go.Proofs.Ytdjjipinmcmfeaa
/- THE CELL 'sum', in the pinned program and in every row, IS THE sha256 OF THE DUMP (.gsa) THAT YtdjjipinmcmfeaaProg.lean LOADS. Nothing in Lean hashes anything: it is a label: what it is worth is what the hold of that sum in a sandbox is worth. -/
noncomputable def Try.pinned : Pinned := { name := "ytdjjipinmcmfeaa", sum := "3186c5e08ddcf2d25186f6321d9fff03276a5612757bb08fb0149e937723cde5", checked := Try.checked }
namespace Rows
def none {H : Type} : Left H := { results := [], args := [] }

/-- 'chequerlaw07.BitsEach': WHATEVER THE INPUT: true; the input reads as it did. -/
def bitsEachSpec : ChangeSpec := { name := "bitsEach", fn := fun _ => fun
  | [d1, d2] => { results := [.lit (.bool true)], args := [d1, d2] }
  | _ => none }
def bitsEachRow : OpenClaim := { program := "ytdjjipinmcmfeaa", sum := "3186c5e08ddcf2d25186f6321d9fff03276a5612757bb08fb0149e937723cde5", func := "chequer/chequerlaw07.BitsEach", spec := "bitsEach", apart := false }
def BitsEachSaid : Prop := bitsEachRow.holds Try.pinned (OpenSpec.ofChange bitsEachSpec)

/-- ITS FALSE NEIGHBOUR: 'it returns false'. Refute it at one input. -/
def bitsEachWrong : ChangeSpec := { name := "bitsEach", fn := fun _ => fun
  | [d1, d2] => { results := [.lit (.bool false)], args := [d1, d2] }
  | _ => none }
def BitsEachWrongFalsely : Prop := bitsEachRow.holds Try.pinned (OpenSpec.ofChange bitsEachWrong)

/-- 'chequerlaw07.BitsPacks': WHATEVER THE INPUT: true; the input reads as it did. -/
def bitsPacksSpec : ChangeSpec := { name := "bitsPacks", fn := fun _ => fun
  | [d] => { results := [.lit (.bool true)], args := [d] }
  | _ => none }
def bitsPacksRow : OpenClaim := { program := "ytdjjipinmcmfeaa", sum := "3186c5e08ddcf2d25186f6321d9fff03276a5612757bb08fb0149e937723cde5", func := "chequer/chequerlaw07.BitsPacks", spec := "bitsPacks", unfollowed := true, recurses := true, apart := false }
def BitsPacksSaid : Prop := bitsPacksRow.holds Try.pinned (OpenSpec.ofChange bitsPacksSpec)

/-- ITS FALSE NEIGHBOUR: 'it returns false'. Refute it at one input. -/
def bitsPacksWrong : ChangeSpec := { name := "bitsPacks", fn := fun _ => fun
  | [d] => { results := [.lit (.bool false)], args := [d] }
  | _ => none }
def BitsPacksWrongFalsely : Prop := bitsPacksRow.holds Try.pinned (OpenSpec.ofChange bitsPacksWrong)

/-- 'chequerlaw07.BitsJoins': WHATEVER THE INPUT: true; the input reads as it did. -/
def bitsJoinsSpec : ChangeSpec := { name := "bitsJoins", fn := fun _ => fun
  | [d1, d2] => { results := [.lit (.bool true)], args := [d1, d2] }
  | _ => none }
def bitsJoinsRow : OpenClaim := { program := "ytdjjipinmcmfeaa", sum := "3186c5e08ddcf2d25186f6321d9fff03276a5612757bb08fb0149e937723cde5", func := "chequer/chequerlaw07.BitsJoins", spec := "bitsJoins", unfollowed := true, recurses := true, apart := false }
def BitsJoinsSaid : Prop := bitsJoinsRow.holds Try.pinned (OpenSpec.ofChange bitsJoinsSpec)

/-- ITS FALSE NEIGHBOUR: 'it returns false'. Refute it at one input. -/
def bitsJoinsWrong : ChangeSpec := { name := "bitsJoins", fn := fun _ => fun
  | [d1, d2] => { results := [.lit (.bool false)], args := [d1, d2] }
  | _ => none }
def BitsJoinsWrongFalsely : Prop := bitsJoinsRow.holds Try.pinned (OpenSpec.ofChange bitsJoinsWrong)

/-- 'chequerlaw07.BitsTurns': WHATEVER THE INPUT: true; the input reads as it did. -/
def bitsTurnsSpec : ChangeSpec := { name := "bitsTurns", fn := fun _ => fun
  | [d1, d2] => { results := [.lit (.bool true)], args := [d1, d2] }
  | _ => none }
def bitsTurnsRow : OpenClaim := { program := "ytdjjipinmcmfeaa", sum := "3186c5e08ddcf2d25186f6321d9fff03276a5612757bb08fb0149e937723cde5", func := "chequer/chequerlaw07.BitsTurns", spec := "bitsTurns", unfollowed := true, recurses := true, apart := false }
def BitsTurnsSaid : Prop := bitsTurnsRow.holds Try.pinned (OpenSpec.ofChange bitsTurnsSpec)

/-- ITS FALSE NEIGHBOUR: 'it returns false'. Refute it at one input. -/
def bitsTurnsWrong : ChangeSpec := { name := "bitsTurns", fn := fun _ => fun
  | [d1, d2] => { results := [.lit (.bool false)], args := [d1, d2] }
  | _ => none }
def BitsTurnsWrongFalsely : Prop := bitsTurnsRow.holds Try.pinned (OpenSpec.ofChange bitsTurnsWrong)

/-- 'chequerlaw07.BitsUnpacks': WHATEVER THE INPUT: true; the input reads as it did. -/
def bitsUnpacksSpec : ChangeSpec := { name := "bitsUnpacks", fn := fun _ => fun
  | [d1, d2] => { results := [.lit (.bool true)], args := [d1, d2] }
  | _ => none }
def bitsUnpacksRow : OpenClaim := { program := "ytdjjipinmcmfeaa", sum := "3186c5e08ddcf2d25186f6321d9fff03276a5612757bb08fb0149e937723cde5", func := "chequer/chequerlaw07.BitsUnpacks", spec := "bitsUnpacks", unfollowed := true, recurses := true, apart := false }
def BitsUnpacksSaid : Prop := bitsUnpacksRow.holds Try.pinned (OpenSpec.ofChange bitsUnpacksSpec)

/-- ITS FALSE NEIGHBOUR: 'it returns false'. Refute it at one input. -/
def bitsUnpacksWrong : ChangeSpec := { name := "bitsUnpacks", fn := fun _ => fun
  | [d1, d2] => { results := [.lit (.bool false)], args := [d1, d2] }
  | _ => none }
def BitsUnpacksWrongFalsely : Prop := bitsUnpacksRow.holds Try.pinned (OpenSpec.ofChange bitsUnpacksWrong)

/-- 'chequerlaw07.BitsRuns': WHATEVER THE INPUT: true; the input reads as it did. -/
def bitsRunsSpec : ChangeSpec := { name := "bitsRuns", fn := fun _ => fun
  | [d1, d2] => { results := [.lit (.bool true)], args := [d1, d2] }
  | _ => none }
def bitsRunsRow : OpenClaim := { program := "ytdjjipinmcmfeaa", sum := "3186c5e08ddcf2d25186f6321d9fff03276a5612757bb08fb0149e937723cde5", func := "chequer/chequerlaw07.BitsRuns", spec := "bitsRuns", apart := false }
def BitsRunsSaid : Prop := bitsRunsRow.holds Try.pinned (OpenSpec.ofChange bitsRunsSpec)

/-- ITS FALSE NEIGHBOUR: 'it returns false'. Refute it at one input. -/
def bitsRunsWrong : ChangeSpec := { name := "bitsRuns", fn := fun _ => fun
  | [d1, d2] => { results := [.lit (.bool false)], args := [d1, d2] }
  | _ => none }
def BitsRunsWrongFalsely : Prop := bitsRunsRow.holds Try.pinned (OpenSpec.ofChange bitsRunsWrong)

/- THE SECOND FORM. 'bulk': how many values and letters a reading holds, each counted each time it is reached (what is shared counts as often as it is met; a slice's spare places count too). A statement '..UptoSaid' is the law's where the arguments, and the package variables that the reading takes, are together of bulk at most 1048576: NARROWER than '..Said'. Prove '..Said' where nothing that the law and all that it calls make is longer than what came in: it says more and counts as full. Else prove '..UptoSaid'. A law counts once. -/
mutual
def uptoBulk {H : Type} : DataW H → Nat
  | .lit (.string bytes) => bytes.length + 1
  | .lit _ => 1
  | .nil => 1
  | .ptr d => uptoBulk d + 1
  | .slice elems spare => uptoBulkAll elems + uptoBulkAll spare + 1
  | .agg parts => uptoBulkAll parts + 1
  | .iface _ d => uptoBulk d + 1
  | .map entries => uptoBulkEntries entries + 1
  | .held _ => 1
def uptoBulkAll {H : Type} : List (DataW H) → Nat
  | [] => 0
  | d :: r => uptoBulk d + uptoBulkAll r
def uptoBulkEntries {H : Type} : List (Lit × DataW H) → Nat
  | [] => 0
  | x :: r => uptoBulkEntry x + uptoBulkEntries r
def uptoBulkEntry {H : Type} : Lit × DataW H → Nat
  | (.string bytes, d) => bytes.length + uptoBulk d + 1
  | (_, d) => uptoBulk d + 1
 end
def uptoSmall : (H : Type) → List (DataW H) → Bool := fun _ ds => decide (uptoBulkAll ds ≤ 1048576)
def OpenSpec.upto (s : _root_.Go.ChangeSpec) : _root_.Go.OpenSpec := { _root_.Go.OpenSpec.ofChange s with cond := some uptoSmall }

/-- 'chequerlaw07.BitsEach', WHERE WHAT IT READS IS OF BULK AT MOST 1048576: true; the input reads as it did. -/
def bitsEachUptoRow : OpenClaim := { program := "ytdjjipinmcmfeaa", sum := "3186c5e08ddcf2d25186f6321d9fff03276a5612757bb08fb0149e937723cde5", func := "chequer/chequerlaw07.BitsEach", spec := "bitsEach", apart := false, narrowed := true }
def BitsEachUptoSaid : Prop := bitsEachUptoRow.holds Try.pinned (OpenSpec.upto bitsEachSpec)

/-- 'chequerlaw07.BitsPacks', WHERE WHAT IT READS IS OF BULK AT MOST 1048576: true; the input reads as it did. -/
def bitsPacksUptoRow : OpenClaim := { program := "ytdjjipinmcmfeaa", sum := "3186c5e08ddcf2d25186f6321d9fff03276a5612757bb08fb0149e937723cde5", func := "chequer/chequerlaw07.BitsPacks", spec := "bitsPacks", unfollowed := true, recurses := true, apart := false, narrowed := true }
def BitsPacksUptoSaid : Prop := bitsPacksUptoRow.holds Try.pinned (OpenSpec.upto bitsPacksSpec)

/-- 'chequerlaw07.BitsJoins', WHERE WHAT IT READS IS OF BULK AT MOST 1048576: true; the input reads as it did. -/
def bitsJoinsUptoRow : OpenClaim := { program := "ytdjjipinmcmfeaa", sum := "3186c5e08ddcf2d25186f6321d9fff03276a5612757bb08fb0149e937723cde5", func := "chequer/chequerlaw07.BitsJoins", spec := "bitsJoins", unfollowed := true, recurses := true, apart := false, narrowed := true }
def BitsJoinsUptoSaid : Prop := bitsJoinsUptoRow.holds Try.pinned (OpenSpec.upto bitsJoinsSpec)

/-- 'chequerlaw07.BitsTurns', WHERE WHAT IT READS IS OF BULK AT MOST 1048576: true; the input reads as it did. -/
def bitsTurnsUptoRow : OpenClaim := { program := "ytdjjipinmcmfeaa", sum := "3186c5e08ddcf2d25186f6321d9fff03276a5612757bb08fb0149e937723cde5", func := "chequer/chequerlaw07.BitsTurns", spec := "bitsTurns", unfollowed := true, recurses := true, apart := false, narrowed := true }
def BitsTurnsUptoSaid : Prop := bitsTurnsUptoRow.holds Try.pinned (OpenSpec.upto bitsTurnsSpec)

/-- 'chequerlaw07.BitsUnpacks', WHERE WHAT IT READS IS OF BULK AT MOST 1048576: true; the input reads as it did. -/
def bitsUnpacksUptoRow : OpenClaim := { program := "ytdjjipinmcmfeaa", sum := "3186c5e08ddcf2d25186f6321d9fff03276a5612757bb08fb0149e937723cde5", func := "chequer/chequerlaw07.BitsUnpacks", spec := "bitsUnpacks", unfollowed := true, recurses := true, apart := false, narrowed := true }
def BitsUnpacksUptoSaid : Prop := bitsUnpacksUptoRow.holds Try.pinned (OpenSpec.upto bitsUnpacksSpec)

/-- 'chequerlaw07.BitsRuns', WHERE WHAT IT READS IS OF BULK AT MOST 1048576: true; the input reads as it did. -/
def bitsRunsUptoRow : OpenClaim := { program := "ytdjjipinmcmfeaa", sum := "3186c5e08ddcf2d25186f6321d9fff03276a5612757bb08fb0149e937723cde5", func := "chequer/chequerlaw07.BitsRuns", spec := "bitsRuns", apart := false, narrowed := true }
def BitsRunsUptoSaid : Prop := bitsRunsUptoRow.holds Try.pinned (OpenSpec.upto bitsRunsSpec)

end Rows
end Go.Proofs.Ytdjjipinmcmfeaa
