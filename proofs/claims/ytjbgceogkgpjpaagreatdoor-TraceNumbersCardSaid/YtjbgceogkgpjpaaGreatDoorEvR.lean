/- EV, part R: a loop over a text's letters. -/
import Derived.Test.YtjbgceogkgpjpaaGreatDoorEvB
import Derived.Laws.RangeAny
set_option linter.unusedVariables false
set_option linter.unusedSimpArgs false
namespace Go.Proofs.YtjbgceogkgpjpaaGreatDoor.Sx
open Go
end Go.Proofs.YtjbgceogkgpjpaaGreatDoor.Sx
