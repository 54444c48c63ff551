/- The document's example of layer 1. -/
import Derived.Test.YtjpaabjhlaibfaaLPix
import Derived.Test.YtjpaabjhlaibfaaQ1
namespace Go.Proofs.Ytjpaabjhlaibfaa.Q
open Go.RowKit Go.Proofs.YtjpaabjhlaibfaaW.PrintWords Go.Proofs.YtjpaabjhlaibfaaW.PrintLast
theorem lives01 (k : Nat) (hk : 10 ≤ k) : chequerlaw01_lives.f k = some true := by
  unfold chequerlaw01_lives.f
  rw [pixpack_is _ k hk, Option.bind_some]
  have e : pixP [1, 2, 3] = (844429225230339, 0) := by decide
  rw [e, if_pos rfl]
  rfl
end Go.Proofs.Ytjpaabjhlaibfaa.Q
