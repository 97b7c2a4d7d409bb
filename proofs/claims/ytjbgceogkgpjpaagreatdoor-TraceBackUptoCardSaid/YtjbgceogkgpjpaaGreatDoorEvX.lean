/- EV, part X: interfaces made and looked at. -/
import Derived.Test.YtjbgceogkgpjpaaGreatDoorEvB
set_option linter.unusedVariables false
set_option linter.unusedSimpArgs false
namespace Go.Proofs.YtjbgceogkgpjpaaGreatDoor.Sx
open Go
theorem o_mkif {C : CallT} {gl : Nat → List AV} (d t : Nat) (a : XArg) (fr : List AV) (hp : Heap) : evO1 C gl (some d) (.mkif t a) fr hp = some (fput fr d (.ifc t (earg fr a)), hp) := rfl
def nilK (kd : Nat) (n : Bool) (v : AV) : Option AV := match isNil kd v with | some r => some (.bool (r != n)) | none => none
theorem nilK_nil (n : Bool) : nilK 0 n .nilif = some (.bool (true != n)) := rfl
theorem nilK_ifc (n : Bool) (t : Nat) (v : AV) : nilK 0 n (.ifc t v) = some (.bool (false != n)) := rfl
theorem o_eqnil {C : CallT} {gl : Nat → List AV} (d kd : Nat) (n : Bool) (a : XArg) (fr : List AV) (hp : Heap) : evO1 C gl (some d) (.eqnil kd n a) fr hp = vK (nilK kd n (earg fr a)) (fun v => some (fput fr d v, hp)) := by
  simp only [evO1, evOp, nilK]
  cases isNil kd (earg fr a) <;> rfl
def cwK (hp : Heap) (d : Nat) (fr : List AV) (r : Option (AV × Heap)) : Option (List AV × Heap) := match r with | some (v, hp') => if sameTop hp hp' = true then some (fput fr d v, hp') else none | none => none
theorem sameVers_refl : ∀ l : Level, sameVers l l = true
  | [] => rfl
  | none :: l => sameVers_refl l
  | some (v, b) :: l => by simp [sameVers, sameVers_refl l]
theorem sameTop_refl (hp : Heap) : sameTop hp hp = true := by
  cases hp with
  | nil => rfl
  | cons l h => simp [sameTop, sameVers_refl l]
theorem cwK_same (hp : Heap) (d : Nat) (fr : List AV) (v : AV) : cwK hp d fr (some (v, hp)) = some (fput fr d v, hp) := by simp [cwK, sameTop_refl]
theorem o_callw {C : CallT} {gl : Nat → List AV} (d f : Nat) (as : List XArg) (fr : List AV) (hp : Heap) : evO1 C gl (some d) (.callw f as) fr hp = cwK hp d fr (C f (eargs fr as) hp) := by
  simp only [evO1, evOp, cwK]
  cases C f (eargs fr as) hp with
  | none => rfl
  | some r =>
    obtain ⟨v, hp'⟩ := r
    by_cases h : sameTop hp hp' = true <;> simp [h, fin1]
theorem shut_ifc (hp : Heap) (lev n t : Nat) (v : AV) : shut hp lev (n + 1) (.ifc t v) = (shut hp lev n v).map (.ifc t) := rfl
theorem shut_nilif (hp : Heap) (lev n : Nat) : shut hp lev (n + 1) .nilif = some .nilif := rfl
theorem shut_elp (hp : Heap) (lev n : Nat) (cs : List AV) : shut hp lev (n + 1) (.elp cs) = some (.elp cs) := rfl
theorem uf_ifc (t : Nat) (v : AV) : uf (.ifc t v) = .ifc t v := rfl
theorem uf_nilif : uf .nilif = .nilif := rfl
theorem drop1K_ifc (t : Nat) (v : AV) (fr : List AV) (k : Nat) : drop1K (.ifc t v) fr k = fr := rfl
theorem drop1K_nilif (fr : List AV) (k : Nat) : drop1K .nilif fr k = fr := rfl
theorem o_calld {C : CallT} {gl : Nat → List AV} (d : Nat) (g : XArg) (as : List XArg) (fr : List AV) (hp : Heap) : evO1 C gl (some d) (.calld g as) fr hp =
    fnK (earg fr g) fun f ds cs => cwK hp d fr (C f ((ds ++ eargs fr as ++ cs).map uf) hp) := by
  simp only [evO1, evOp, fnK, cwK]
  cases earg fr g <;> try rfl
  rename_i f ds cs
  simp only
  cases C f ((ds ++ eargs fr as ++ cs).map uf) hp with
  | none => rfl
  | some r =>
    obtain ⟨v, hp'⟩ := r
    by_cases h : sameTop hp hp' = true <;> simp [h, fin1]
end Go.Proofs.YtjbgceogkgpjpaaGreatDoor.Sx
