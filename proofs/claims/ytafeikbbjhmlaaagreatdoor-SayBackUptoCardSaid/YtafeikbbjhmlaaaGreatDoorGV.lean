/- The variables of Go's library that the functions read. -/
import Derived.Test.YtafeikbbjhmlaaaGreatDoorEvA
import Derived.Lib.ItoaNum
import Derived.Lib.Space
set_option linter.unusedVariables false
set_option linter.unusedSimpArgs false
namespace Go.Proofs.YtafeikbbjhmlaaaGreatDoor.Sx.T
open Go Go.Proofs.YtafeikbbjhmlaaaGreatDoor.Sx
def gls : List (Nat × List AV) := [(2, Lib.pow10Tab.map (.int .u64)), (5, [.ifc 197 .undef]), (4, [.ifc 197 .undef]), (1, Lib.asciiSpaceTab.map (.int .u8)), (0, [.anyi .i64]), (3, [.elp [.lst .tight 3 [[.int .u16 9, .int .u16 13, .int .u16 1], [.int .u16 32, .int .u16 133, .int .u16 101], [.int .u16 160, .int .u16 5760, .int .u16 5600], [.int .u16 8192, .int .u16 8202, .int .u16 1], [.int .u16 8232, .int .u16 8233, .int .u16 1], [.int .u16 8239, .int .u16 8287, .int .u16 48], [.int .u16 12288, .int .u16 12288, .int .u16 1]], .nilsl, .int .i64 2]])]
def GV : Nat → List AV := glOf gls
end Go.Proofs.YtafeikbbjhmlaaaGreatDoor.Sx.T
