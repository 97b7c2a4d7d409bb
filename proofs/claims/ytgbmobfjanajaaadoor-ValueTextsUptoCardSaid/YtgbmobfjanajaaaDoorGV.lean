/- The variables of Go's library that the functions read. -/
import Derived.Test.YtgbmobfjanajaaaDoorEvA
import Derived.Lib.ItoaNum
set_option linter.unusedVariables false
set_option linter.unusedSimpArgs false
namespace Go.Proofs.YtgbmobfjanajaaaDoor.Sx.T
open Go Go.Proofs.YtgbmobfjanajaaaDoor.Sx
def gls : List (Nat × List AV) := [(1, Lib.pow10Tab.map (.int .u64)), (3, [.ifc 128 .undef]), (2, [.ifc 128 .undef])]
def GV : Nat → List AV := glOf gls
end Go.Proofs.YtgbmobfjanajaaaDoor.Sx.T
