/- The variables of Go's library that the functions read. -/
import Derived.Test.YtgbmobfjanajaaaGreatDoorEvA
import Derived.Lib.ItoaNum
set_option linter.unusedVariables false
set_option linter.unusedSimpArgs false
namespace Go.Proofs.YtgbmobfjanajaaaGreatDoor.Sx.T
open Go Go.Proofs.YtgbmobfjanajaaaGreatDoor.Sx
def gls : List (Nat × List AV) := [(1, Lib.pow10Tab.map (.int .u64)), (3, [.ifc 131 .undef]), (2, [.ifc 131 .undef])]
def GV : Nat → List AV := glOf gls
end Go.Proofs.YtgbmobfjanajaaaGreatDoor.Sx.T
