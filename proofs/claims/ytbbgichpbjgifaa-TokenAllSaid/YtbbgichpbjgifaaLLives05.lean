/- The document's example of layer 5. -/
import Derived.Test.YtbbgichpbjgifaaQ11
namespace Go.Proofs.Ytbbgichpbjgifaa.Q
open Go.RowKit Go.Proofs.YtbbgichpbjgifaaW.PrintWords Go.Proofs.YtbbgichpbjgifaaW.PrintLast
theorem lives05 : chequerlaw05_lives.f = some true := by decide +kernel
end Go.Proofs.Ytbbgichpbjgifaa.Q
