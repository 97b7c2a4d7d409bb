/- EV, part L: scopes without fuel: a run goes on at the label that it jumps to. -/
import Derived.Test.YtafeikbbjhmlaaaGreatDoorEvS
set_option linter.unusedVariables false
set_option linter.unusedSimpArgs false
namespace Go.Proofs.YtafeikbbjhmlaaaGreatDoor.Sx
variable {X : List (Option XFn)} {gl : Nat → List AV}
/-! ### make of a slice -/
/-! ### bytes of a text appended -/
end Go.Proofs.YtafeikbbjhmlaaaGreatDoor.Sx
