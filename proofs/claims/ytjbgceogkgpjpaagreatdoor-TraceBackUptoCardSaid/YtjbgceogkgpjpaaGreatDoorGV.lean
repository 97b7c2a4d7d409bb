/- The variables of Go's library that the functions read. -/
import Derived.Test.YtjbgceogkgpjpaaGreatDoorEvA
import Derived.Lib.ItoaNum
import Derived.Lib.Space
set_option linter.unusedVariables false
set_option linter.unusedSimpArgs false
namespace Go.Proofs.YtjbgceogkgpjpaaGreatDoor.Sx.T
open Go Go.Proofs.YtjbgceogkgpjpaaGreatDoor.Sx
def gls : List (Nat × List AV) := [(1, Lib.pow10Tab.map (.int .u64)), (8, [.ifc 221 .undef]), (7, [.ifc 221 .undef]), (0, [.opq (.iface 161 (.agg #[.pointer (some ⟨9, 63, none⟩)]))])]
def GV : Nat → List AV := glOf gls
end Go.Proofs.YtjbgceogkgpjpaaGreatDoor.Sx.T
