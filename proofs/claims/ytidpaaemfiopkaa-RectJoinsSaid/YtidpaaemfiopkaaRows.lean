/-
  No cell of these rows narrows 'for every input' (looked for: loops, veiled, ifaces, maps, wideKeys, modest, calm, conditions, laid).
  DERIVED. THE GIVEN ROWS OF THIS SEAT. 7 by the template 'for every input the law returns true; each argument reads behind the call as it read before'; 0 by the template 'total and deterministic' (their statements: YtidpaaemfiopkaaTotals.lean).
  GIVEN WITH THE SEED: the statements are not yours to turn. If you find one false, say at which input.
  Laid BY PROGRAM, IN A SANDBOX (cutbox-rows.mjs): the forced cells as the released guide's own fill.sh prints them over the translation dfccb68f8b0654ff… (all of the seat's roots in one cut). By AI agents, Wed Nov 11 2026. No macro, syntax, notation, axiom, sorry.
-/
import Derived.Test.YtidpaaemfiopkaaChecked
import GoSem.Claim
import GoSem.ClaimJoined
import GoSem.ClaimMapViews
import Derived.JoinedTies
import Derived.KernelRfl
namespace Go.Proofs.Ytidpaaemfiopkaa
/- THE CELL 'sum', in the pinned program and in every row, IS THE sha256 OF THE DUMP (.gsa) THAT YtidpaaemfiopkaaProg.lean LOADS. Nothing in Lean hashes anything: it is a label: what it is worth is what the hold of that sum in a sandbox is worth. -/
noncomputable def Try.pinned : Pinned := { name := "ytidpaaemfiopkaa", sum := "dfccb68f8b0654ffc127dd8b99461a9147eaa7e150114cf6fd1ea4120a056e14", checked := Try.checked }
namespace Rows
def none {H : Type} : Left H := { results := [], args := [] }

/-- 'chequerlaw03.RectFinds': WHATEVER THE INPUT: true; the input reads as it did. -/
def rectFindsSpec : ChangeSpec := { name := "rectFinds", fn := fun _ => fun
  | [d1, d2, d3] => { results := [.lit (.bool true)], args := [d1, d2, d3] }
  | _ => none }
def rectFindsRow : OpenClaim := { program := "ytidpaaemfiopkaa", sum := "dfccb68f8b0654ffc127dd8b99461a9147eaa7e150114cf6fd1ea4120a056e14", func := "chequer/chequerlaw03.RectFinds", spec := "rectFinds", apart := false }
def RectFindsSaid : Prop := rectFindsRow.holds Try.pinned (OpenSpec.ofChange rectFindsSpec)

/-- ITS FALSE NEIGHBOUR: 'it returns false'. Refute it at one input. -/
def rectFindsWrong : ChangeSpec := { name := "rectFinds", fn := fun _ => fun
  | [d1, d2, d3] => { results := [.lit (.bool false)], args := [d1, d2, d3] }
  | _ => none }
def RectFindsWrongFalsely : Prop := rectFindsRow.holds Try.pinned (OpenSpec.ofChange rectFindsWrong)

/-- 'chequerlaw03.RectMay': WHATEVER THE INPUT: true; the input reads as it did. -/
def rectMaySpec : ChangeSpec := { name := "rectMay", fn := fun _ => fun
  | [d1, d2, d3] => { results := [.lit (.bool true)], args := [d1, d2, d3] }
  | _ => none }
def rectMayRow : OpenClaim := { program := "ytidpaaemfiopkaa", sum := "dfccb68f8b0654ffc127dd8b99461a9147eaa7e150114cf6fd1ea4120a056e14", func := "chequer/chequerlaw03.RectMay", spec := "rectMay", apart := false }
def RectMaySaid : Prop := rectMayRow.holds Try.pinned (OpenSpec.ofChange rectMaySpec)

/-- ITS FALSE NEIGHBOUR: 'it returns false'. Refute it at one input. -/
def rectMayWrong : ChangeSpec := { name := "rectMay", fn := fun _ => fun
  | [d1, d2, d3] => { results := [.lit (.bool false)], args := [d1, d2, d3] }
  | _ => none }
def RectMayWrongFalsely : Prop := rectMayRow.holds Try.pinned (OpenSpec.ofChange rectMayWrong)

/-- 'chequerlaw03.RectSubs': WHATEVER THE INPUT: true; the input reads as it did. -/
def rectSubsSpec : ChangeSpec := { name := "rectSubs", fn := fun _ => fun
  | [d1, d2, d3] => { results := [.lit (.bool true)], args := [d1, d2, d3] }
  | _ => none }
def rectSubsRow : OpenClaim := { program := "ytidpaaemfiopkaa", sum := "dfccb68f8b0654ffc127dd8b99461a9147eaa7e150114cf6fd1ea4120a056e14", func := "chequer/chequerlaw03.RectSubs", spec := "rectSubs", apart := false }
def RectSubsSaid : Prop := rectSubsRow.holds Try.pinned (OpenSpec.ofChange rectSubsSpec)

/-- ITS FALSE NEIGHBOUR: 'it returns false'. Refute it at one input. -/
def rectSubsWrong : ChangeSpec := { name := "rectSubs", fn := fun _ => fun
  | [d1, d2, d3] => { results := [.lit (.bool false)], args := [d1, d2, d3] }
  | _ => none }
def RectSubsWrongFalsely : Prop := rectSubsRow.holds Try.pinned (OpenSpec.ofChange rectSubsWrong)

/-- 'chequerlaw03.RectParts': WHATEVER THE INPUT: true; the input reads as it did. -/
def rectPartsSpec : ChangeSpec := { name := "rectParts", fn := fun _ => fun
  | [d1, d2, d3] => { results := [.lit (.bool true)], args := [d1, d2, d3] }
  | _ => none }
def rectPartsRow : OpenClaim := { program := "ytidpaaemfiopkaa", sum := "dfccb68f8b0654ffc127dd8b99461a9147eaa7e150114cf6fd1ea4120a056e14", func := "chequer/chequerlaw03.RectParts", spec := "rectParts", apart := false }
def RectPartsSaid : Prop := rectPartsRow.holds Try.pinned (OpenSpec.ofChange rectPartsSpec)

/-- ITS FALSE NEIGHBOUR: 'it returns false'. Refute it at one input. -/
def rectPartsWrong : ChangeSpec := { name := "rectParts", fn := fun _ => fun
  | [d1, d2, d3] => { results := [.lit (.bool false)], args := [d1, d2, d3] }
  | _ => none }
def RectPartsWrongFalsely : Prop := rectPartsRow.holds Try.pinned (OpenSpec.ofChange rectPartsWrong)

/-- 'chequerlaw03.RectOf': WHATEVER THE INPUT: true; the input reads as it did. -/
def rectOfSpec : ChangeSpec := { name := "rectOf", fn := fun _ => fun
  | [d1, d2] => { results := [.lit (.bool true)], args := [d1, d2] }
  | _ => none }
def rectOfRow : OpenClaim := { program := "ytidpaaemfiopkaa", sum := "dfccb68f8b0654ffc127dd8b99461a9147eaa7e150114cf6fd1ea4120a056e14", func := "chequer/chequerlaw03.RectOf", spec := "rectOf", apart := false }
def RectOfSaid : Prop := rectOfRow.holds Try.pinned (OpenSpec.ofChange rectOfSpec)

/-- ITS FALSE NEIGHBOUR: 'it returns false'. Refute it at one input. -/
def rectOfWrong : ChangeSpec := { name := "rectOf", fn := fun _ => fun
  | [d1, d2] => { results := [.lit (.bool false)], args := [d1, d2] }
  | _ => none }
def RectOfWrongFalsely : Prop := rectOfRow.holds Try.pinned (OpenSpec.ofChange rectOfWrong)

/-- 'chequerlaw03.RectFits': WHATEVER THE INPUT: true; the input reads as it did. -/
def rectFitsSpec : ChangeSpec := { name := "rectFits", fn := fun _ => fun
  | [d1, d2, d3, d4] => { results := [.lit (.bool true)], args := [d1, d2, d3, d4] }
  | _ => none }
def rectFitsRow : OpenClaim := { program := "ytidpaaemfiopkaa", sum := "dfccb68f8b0654ffc127dd8b99461a9147eaa7e150114cf6fd1ea4120a056e14", func := "chequer/chequerlaw03.RectFits", spec := "rectFits", unfollowed := true, recurses := true, apart := false }
def RectFitsSaid : Prop := rectFitsRow.holds Try.pinned (OpenSpec.ofChange rectFitsSpec)

/-- ITS FALSE NEIGHBOUR: 'it returns false'. Refute it at one input. -/
def rectFitsWrong : ChangeSpec := { name := "rectFits", fn := fun _ => fun
  | [d1, d2, d3, d4] => { results := [.lit (.bool false)], args := [d1, d2, d3, d4] }
  | _ => none }
def RectFitsWrongFalsely : Prop := rectFitsRow.holds Try.pinned (OpenSpec.ofChange rectFitsWrong)

/-- 'chequerlaw03.RectJoins': WHATEVER THE INPUT: true; the input reads as it did. -/
def rectJoinsSpec : ChangeSpec := { name := "rectJoins", fn := fun _ => fun
  | [d1, d2] => { results := [.lit (.bool true)], args := [d1, d2] }
  | _ => none }
def rectJoinsRow : OpenClaim := { program := "ytidpaaemfiopkaa", sum := "dfccb68f8b0654ffc127dd8b99461a9147eaa7e150114cf6fd1ea4120a056e14", func := "chequer/chequerlaw03.RectJoins", spec := "rectJoins", apart := false }
def RectJoinsSaid : Prop := rectJoinsRow.holds Try.pinned (OpenSpec.ofChange rectJoinsSpec)

/-- ITS FALSE NEIGHBOUR: 'it returns false'. Refute it at one input. -/
def rectJoinsWrong : ChangeSpec := { name := "rectJoins", fn := fun _ => fun
  | [d1, d2] => { results := [.lit (.bool false)], args := [d1, d2] }
  | _ => none }
def RectJoinsWrongFalsely : Prop := rectJoinsRow.holds Try.pinned (OpenSpec.ofChange rectJoinsWrong)

/- THE SECOND FORM. 'bulk': how many values and letters a reading holds, each counted each time it is reached (what is shared counts as often as it is met; a slice's spare places count too). A statement '..UptoSaid' is the law's where the arguments, and the package variables that the reading takes, are together of bulk at most 1048576: NARROWER than '..Said'. Prove '..Said' where nothing that the law and all that it calls make is longer than what came in: it says more and counts as full. Else prove '..UptoSaid'. A law counts once. -/
mutual
def uptoBulk {H : Type} : DataW H → Nat
  | .lit (.string bytes) => bytes.length + 1
  | .lit _ => 1
  | .nil => 1
  | .ptr d => uptoBulk d + 1
  | .slice elems spare => uptoBulkAll elems + uptoBulkAll spare + 1
  | .agg parts => uptoBulkAll parts + 1
  | .iface _ d => uptoBulk d + 1
  | .map entries => uptoBulkEntries entries + 1
  | .held _ => 1
def uptoBulkAll {H : Type} : List (DataW H) → Nat
  | [] => 0
  | d :: r => uptoBulk d + uptoBulkAll r
def uptoBulkEntries {H : Type} : List (Lit × DataW H) → Nat
  | [] => 0
  | x :: r => uptoBulkEntry x + uptoBulkEntries r
def uptoBulkEntry {H : Type} : Lit × DataW H → Nat
  | (.string bytes, d) => bytes.length + uptoBulk d + 1
  | (_, d) => uptoBulk d + 1
 end
def uptoSmall : (H : Type) → List (DataW H) → Bool := fun _ ds => decide (uptoBulkAll ds ≤ 1048576)
def OpenSpec.upto (s : _root_.Go.ChangeSpec) : _root_.Go.OpenSpec := { _root_.Go.OpenSpec.ofChange s with cond := some uptoSmall }

/-- 'chequerlaw03.RectFinds', WHERE WHAT IT READS IS OF BULK AT MOST 1048576: true; the input reads as it did. -/
def rectFindsUptoRow : OpenClaim := { program := "ytidpaaemfiopkaa", sum := "dfccb68f8b0654ffc127dd8b99461a9147eaa7e150114cf6fd1ea4120a056e14", func := "chequer/chequerlaw03.RectFinds", spec := "rectFinds", apart := false, narrowed := true }
def RectFindsUptoSaid : Prop := rectFindsUptoRow.holds Try.pinned (OpenSpec.upto rectFindsSpec)

/-- 'chequerlaw03.RectMay', WHERE WHAT IT READS IS OF BULK AT MOST 1048576: true; the input reads as it did. -/
def rectMayUptoRow : OpenClaim := { program := "ytidpaaemfiopkaa", sum := "dfccb68f8b0654ffc127dd8b99461a9147eaa7e150114cf6fd1ea4120a056e14", func := "chequer/chequerlaw03.RectMay", spec := "rectMay", apart := false, narrowed := true }
def RectMayUptoSaid : Prop := rectMayUptoRow.holds Try.pinned (OpenSpec.upto rectMaySpec)

/-- 'chequerlaw03.RectSubs', WHERE WHAT IT READS IS OF BULK AT MOST 1048576: true; the input reads as it did. -/
def rectSubsUptoRow : OpenClaim := { program := "ytidpaaemfiopkaa", sum := "dfccb68f8b0654ffc127dd8b99461a9147eaa7e150114cf6fd1ea4120a056e14", func := "chequer/chequerlaw03.RectSubs", spec := "rectSubs", apart := false, narrowed := true }
def RectSubsUptoSaid : Prop := rectSubsUptoRow.holds Try.pinned (OpenSpec.upto rectSubsSpec)

/-- 'chequerlaw03.RectParts', WHERE WHAT IT READS IS OF BULK AT MOST 1048576: true; the input reads as it did. -/
def rectPartsUptoRow : OpenClaim := { program := "ytidpaaemfiopkaa", sum := "dfccb68f8b0654ffc127dd8b99461a9147eaa7e150114cf6fd1ea4120a056e14", func := "chequer/chequerlaw03.RectParts", spec := "rectParts", apart := false, narrowed := true }
def RectPartsUptoSaid : Prop := rectPartsUptoRow.holds Try.pinned (OpenSpec.upto rectPartsSpec)

/-- 'chequerlaw03.RectOf', WHERE WHAT IT READS IS OF BULK AT MOST 1048576: true; the input reads as it did. -/
def rectOfUptoRow : OpenClaim := { program := "ytidpaaemfiopkaa", sum := "dfccb68f8b0654ffc127dd8b99461a9147eaa7e150114cf6fd1ea4120a056e14", func := "chequer/chequerlaw03.RectOf", spec := "rectOf", apart := false, narrowed := true }
def RectOfUptoSaid : Prop := rectOfUptoRow.holds Try.pinned (OpenSpec.upto rectOfSpec)

/-- 'chequerlaw03.RectFits', WHERE WHAT IT READS IS OF BULK AT MOST 1048576: true; the input reads as it did. -/
def rectFitsUptoRow : OpenClaim := { program := "ytidpaaemfiopkaa", sum := "dfccb68f8b0654ffc127dd8b99461a9147eaa7e150114cf6fd1ea4120a056e14", func := "chequer/chequerlaw03.RectFits", spec := "rectFits", unfollowed := true, recurses := true, apart := false, narrowed := true }
def RectFitsUptoSaid : Prop := rectFitsUptoRow.holds Try.pinned (OpenSpec.upto rectFitsSpec)

/-- 'chequerlaw03.RectJoins', WHERE WHAT IT READS IS OF BULK AT MOST 1048576: true; the input reads as it did. -/
def rectJoinsUptoRow : OpenClaim := { program := "ytidpaaemfiopkaa", sum := "dfccb68f8b0654ffc127dd8b99461a9147eaa7e150114cf6fd1ea4120a056e14", func := "chequer/chequerlaw03.RectJoins", spec := "rectJoins", apart := false, narrowed := true }
def RectJoinsUptoSaid : Prop := rectJoinsUptoRow.holds Try.pinned (OpenSpec.upto rectJoinsSpec)

end Rows
end Go.Proofs.Ytidpaaemfiopkaa
