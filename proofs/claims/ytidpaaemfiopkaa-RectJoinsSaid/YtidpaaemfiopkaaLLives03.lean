/- The document's example of layer 3. -/
import Derived.Test.YtidpaaemfiopkaaQ7
namespace Go.Proofs.Ytidpaaemfiopkaa.Q
open Go.RowKit Go.Proofs.YtidpaaemfiopkaaW.PrintWords Go.Proofs.YtidpaaemfiopkaaW.PrintLast
set_option maxRecDepth 100000 in
theorem lives03_60 : chequerlaw03_lives.f 60 = some true := by decide +kernel
theorem lives03 (k : Nat) (hk : 60 ≤ k) : chequerlaw03_lives.f k = some true := by
  obtain ⟨d, rfl⟩ : ∃ d, k = 60 + d := ⟨k - 60, by omega⟩
  induction d with
  | zero => exact lives03_60
  | succ d ih => exact chequerlaw03_lives.mono _ _ (ih (by omega))
end Go.Proofs.Ytidpaaemfiopkaa.Q
