/- strings.Split at one byte: a walk that asks nothing of the machine's word for bytealg.MaxLen. -/
import Derived.Test.YtafeikbbjhmlaaaGreatDoorSyP
import Derived.Shelf.Strings.Split
set_option linter.unusedVariables false
set_option linter.unusedSimpArgs false
namespace Go.Proofs.YtafeikbbjhmlaaaGreatDoor.Sx
open Go Go.RowKit Go.Shelf Go.Proofs
variable {P : Program} {ρ : Ren}
end Go.Proofs.YtafeikbbjhmlaaaGreatDoor.Sx
