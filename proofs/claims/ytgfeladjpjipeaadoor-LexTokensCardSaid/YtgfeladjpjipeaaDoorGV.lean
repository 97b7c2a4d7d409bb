/- The variables of Go's library that the functions read. -/
import Derived.Test.YtgfeladjpjipeaaDoorEvA
import Derived.Lib.ItoaNum
set_option linter.unusedVariables false
set_option linter.unusedSimpArgs false
namespace Go.Proofs.YtgfeladjpjipeaaDoor.Sx.T
open Go Go.Proofs.YtgfeladjpjipeaaDoor.Sx
def gls : List (Nat × List AV) := [(3, Lib.pow10Tab.map (.int .u64)), (2, [.ifc 116 .undef]), (1, [.ifc 116 .undef])]
def GV : Nat → List AV := glOf gls
end Go.Proofs.YtgfeladjpjipeaaDoor.Sx.T
