/- The variables of Go's library that the functions read. -/
import Derived.Test.YtafeikbbjhmlaaaGreatDoorEvA
import Derived.Lib.ItoaNum
import Derived.Lib.Space
set_option linter.unusedVariables false
set_option linter.unusedSimpArgs false
namespace Go.Proofs.YtafeikbbjhmlaaaGreatDoor.Sx.T
open Go Go.Proofs.YtafeikbbjhmlaaaGreatDoor.Sx
def gls : List (Nat × List AV) := [(2, Lib.pow10Tab.map (.int .u64)), (5, [.ifc 197 .undef]), (4, [.ifc 197 .undef]), (1, Lib.asciiSpaceTab.map (.int .u8)), (0, [.anyi .i64])]
def GV : Nat → List AV := glOf gls
end Go.Proofs.YtafeikbbjhmlaaaGreatDoor.Sx.T
