/- EV, part X: interfaces made and looked at. -/
import Derived.Test.YtgfeladjpjipeaaDoorEvB
set_option linter.unusedVariables false
set_option linter.unusedSimpArgs false
namespace Go.Proofs.YtgfeladjpjipeaaDoor.Sx
open Go
end Go.Proofs.YtgfeladjpjipeaaDoor.Sx
