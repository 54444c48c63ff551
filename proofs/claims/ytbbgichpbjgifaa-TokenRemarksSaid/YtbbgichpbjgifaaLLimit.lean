/- A greatest number, from nought to 2^62 - 1. -/
import Derived.Test.YtbbgichpbjgifaaLAround
import Derived.Test.YtbbgichpbjgifaaQ1
namespace Go.Proofs.Ytbbgichpbjgifaa.Q
open Go.RowKit Go.Proofs.YtbbgichpbjgifaaW.PrintWords Go.Proofs.YtbbgichpbjgifaaW.PrintLast
set_option linter.unusedVariables false
theorem limit_is (n : Int) (h0 : -9223372036854775808 ≤ n) (h1 : n ≤ 9223372036854775807) : chequerref02_Limit.f n = some (aroundZ n 4611686018427387904) := by
  unfold chequerref02_Limit.f
  rw [around_is n _ h0 h1 (by omega)]
  rfl
end Go.Proofs.Ytbbgichpbjgifaa.Q
