/- The document's example of layer 4. -/
import Derived.Test.YtehjnekljodmgaaQ6
namespace Go.Proofs.Ytehjnekljodmgaa.Q
open Go.RowKit Go.Proofs.YtehjnekljodmgaaW.PrintWords Go.Proofs.YtehjnekljodmgaaW.PrintLast
set_option maxRecDepth 100000 in
theorem lives04_60 : chequerlaw04_lives.f 60 = some true := by decide +kernel
theorem lives04 (k : Nat) (hk : 60 ≤ k) : chequerlaw04_lives.f k = some true := by
  obtain ⟨d, rfl⟩ : ∃ d, k = 60 + d := ⟨k - 60, by omega⟩
  induction d with
  | zero => exact lives04_60
  | succ d ih => exact chequerlaw04_lives.mono _ _ (ih (by omega))
end Go.Proofs.Ytehjnekljodmgaa.Q
