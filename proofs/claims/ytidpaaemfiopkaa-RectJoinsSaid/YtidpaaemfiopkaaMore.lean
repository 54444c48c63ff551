/- Small words beside the print's: what came in may be shared. -/
import Derived.Test.YtidpaaemfiopkaaWMore
import Derived.Test.YtidpaaemfiopkaaWFoot
import Derived.Test.YtidpaaemfiopkaaWNEv
set_option linter.unusedVariables false
namespace Go.Proofs.Ytidpaaemfiopkaa.Mo
open Go.RowKit Go.Proofs.YtidpaaemfiopkaaW.PrintWords
end Go.Proofs.Ytidpaaemfiopkaa.Mo
