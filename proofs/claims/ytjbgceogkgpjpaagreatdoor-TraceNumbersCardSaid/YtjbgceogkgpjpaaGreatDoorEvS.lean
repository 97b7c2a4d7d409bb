/- EV, part S: slices of slices, lists that become blocks, calls that are handed one. -/
import Derived.Test.YtjbgceogkgpjpaaGreatDoorEvP
set_option linter.unusedVariables false
set_option linter.unusedSimpArgs false
namespace Go.Proofs.YtjbgceogkgpjpaaGreatDoor.Sx
open Go
theorem o_mkfn {C : CallT} {gl : Nat → List AV} (d f : Nat) (ds cs : List XArg) (fr : List AV) (hp : Heap) : evO1 C gl (some d) (.mkfn f ds cs) fr hp = some (fput fr d (.fn f (eargs fr ds) (eargs fr cs)), hp) := rfl
def nckK (v : AV) : Option AV := match v with
  | .ptr r off => some (.ptr r off)
  | .elp cs => some (.elp cs)
  | .fn f ds cs => some (.fn f ds cs)
  | _ => none
theorem nckK_ptr (r : Ref) (off : Nat) : nckK (.ptr r off) = some (.ptr r off) := rfl
theorem nckK_elp (cs : List AV) : nckK (.elp cs) = some (.elp cs) := rfl
theorem demV_uniq (z : Nat) (es : List (List AV)) : demV (.lst .uniq z es) = if z < 1000 then .lst .own z es else .undef := rfl
theorem demV_nil : demV .nilsl = .nilsl := rfl
theorem demV_tight (z : Nat) (es : List (List AV)) : demV (.lst .tight z es) = .lst .none z es := rfl
theorem retOf_none (hp : Heap) (lev : Nat) : retOf hp lev [] = some (.tup []) := rfl
attribute [go_sem] demV_uniq demV_nil demV_tight retOf_none nckK_ptr nckK_elp o_mkfn
end Go.Proofs.YtjbgceogkgpjpaaGreatDoor.Sx
