/- The document's example of layer 7. -/
import Derived.Test.YtdjjipinmcmfeaaLPack
import Derived.Test.YtdjjipinmcmfeaaQ3
namespace Go.Proofs.Ytdjjipinmcmfeaa.Q
open Go.RowKit Go.Proofs.YtdjjipinmcmfeaaW.PrintWords Go.Proofs.YtdjjipinmcmfeaaW.PrintLast
theorem lives07 (k : Nat) (hk : 5000 ≤ k) : chequerlaw07_lives.f k = some true := by
  unfold chequerlaw07_lives.f
  rw [pack_is _ (by decide) k hk, Option.bind_some]
  have e : packS [1, 0, 1] = ([160], 0) := by decide
  rw [e, if_pos rfl]
  simp
end Go.Proofs.Ytdjjipinmcmfeaa.Q
