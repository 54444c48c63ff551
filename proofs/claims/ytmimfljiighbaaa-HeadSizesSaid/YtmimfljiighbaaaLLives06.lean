/- The document's example of layer 6. -/
import Derived.Test.YtmimfljiighbaaaQ18
namespace Go.Proofs.Ytmimfljiighbaaa.Q
open Go.RowKit Go.Proofs.YtmimfljiighbaaaW.PrintWords Go.Proofs.YtmimfljiighbaaaW.PrintLast
theorem lives06 : chequerlaw06_lives.f 40 = some true := by decide +kernel
end Go.Proofs.Ytmimfljiighbaaa.Q
