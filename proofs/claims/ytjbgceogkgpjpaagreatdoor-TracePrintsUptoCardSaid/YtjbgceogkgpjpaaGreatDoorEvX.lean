/- EV, part X: interfaces made and looked at. -/
import Derived.Test.YtjbgceogkgpjpaaGreatDoorEvB
set_option linter.unusedVariables false
set_option linter.unusedSimpArgs false
namespace Go.Proofs.YtjbgceogkgpjpaaGreatDoor.Sx
open Go
end Go.Proofs.YtjbgceogkgpjpaaGreatDoor.Sx
