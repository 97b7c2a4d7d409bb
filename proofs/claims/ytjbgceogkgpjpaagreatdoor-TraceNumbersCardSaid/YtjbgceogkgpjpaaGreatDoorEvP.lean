/- EV, part P: blocks of frames further up, and loops that count. -/
import Derived.Test.YtjbgceogkgpjpaaGreatDoorEvX
import Derived.Test.YtjbgceogkgpjpaaGreatDoorEvR
set_option linter.unusedVariables false
set_option linter.unusedSimpArgs false
namespace Go.Proofs.YtjbgceogkgpjpaaGreatDoor.Sx
open Go
def StepOk (J : List AV → Heap → Prop) (Q : XExit → List AV → Heap → Prop) : Option (XExit × St) → Prop
  | some (.normal, s) => J s.fr s.hp
  | some (e, s) => Q e s.fr s.hp
  | none => False
theorem StepOk_n {J : List AV → Heap → Prop} {Q : XExit → List AV → Heap → Prop} (fr : List AV) (hp : Heap) : StepOk J Q (some (.normal, ⟨fr, hp⟩)) = J fr hp := rfl
theorem StepOk_r {J : List AV → Heap → Prop} {Q : XExit → List AV → Heap → Prop} (fr : List AV) (hp : Heap) : StepOk J Q (some (.ret, ⟨fr, hp⟩)) = Q .ret fr hp := rfl
theorem StepOk_e {J : List AV → Heap → Prop} {Q : XExit → List AV → Heap → Prop} (i : Nat) (fr : List AV) (hp : Heap) : StepOk J Q (some (.exit i, ⟨fr, hp⟩)) = Q (.exit i) fr hp := rfl
theorem StepOk_g {J : List AV → Heap → Prop} {Q : XExit → List AV → Heap → Prop} (i : Nat) (fr : List AV) (hp : Heap) : StepOk J Q (some (.goto i, ⟨fr, hp⟩)) = Q (.goto i) fr hp := rfl
attribute [go_sem] StepOk_n StepOk_r StepOk_e StepOk_g
end Go.Proofs.YtjbgceogkgpjpaaGreatDoor.Sx
