/- The document's example of layer 9. -/
import Derived.Test.YtdjonaajfhbfhaaQ20
namespace Go.Proofs.Ytdjonaajfhbfhaa.Q
open Go.RowKit Go.Proofs.YtdjonaajfhbfhaaW.PrintWords Go.Proofs.YtdjonaajfhbfhaaW.PrintLast
theorem lives09 : chequerlaw09_lives.f 40 = some true := by decide +kernel
theorem lives_more (k : Nat) (hk : 40 ≤ k) : chequerlaw09_lives.f k = some true := by
  obtain ⟨d, rfl⟩ := Nat.exists_eq_add_of_le hk
  clear hk
  induction d with
  | zero => exact lives09
  | succ d ih => exact chequerlaw09_lives.mono (40 + d) _ ih
end Go.Proofs.Ytdjonaajfhbfhaa.Q
