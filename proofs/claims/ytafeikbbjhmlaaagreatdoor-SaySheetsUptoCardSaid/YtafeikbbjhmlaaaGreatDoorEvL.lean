/- EV, part L: scopes without fuel: a run goes on at the label that it jumps to. -/
import Derived.Test.YtafeikbbjhmlaaaGreatDoorEvS
set_option linter.unusedVariables false
set_option linter.unusedSimpArgs false
namespace Go.Proofs.YtafeikbbjhmlaaaGreatDoor.Sx
variable {X : List (Option XFn)} {gl : Nat → List AV}
/-! ### make of a slice -/
/-! ### bytes of a text appended -/
def appsK (u : Bool) (sv v : AV) : Option AV := match v with
  | .str b => if b = [] then (match sv with | .nilsl => some .nilsl | .lst o z es => if lenB o z = true then some (.lst o z es) else none | _ => none)
    else match sv with
      | .nilsl => if b.length ≤ room then some (.lst (if u then .uniq else .own) 1 (listOfBytes b)) else none
      | .lst o z' es => if z' = 1 ∧ appMay o u = true ∧ es.length + b.length ≤ room then some (.lst (if u then .uniq else .own) 1 (es ++ listOfBytes b)) else none
      | _ => none
  | _ => none
theorem o_appstr {C : CallT} {gl : Nat → List AV} (d : Nat) (u : Bool) (s : Nat) (a : XArg) (fr : List AV) (hp : Heap) :
    evO1 C gl (some d) (.appstr u s a) fr hp = vK (appsK u (fget fr s) (earg fr a)) (fun v => some (fput (drop1K (fget fr s) fr s) d v, hp)) := by
  simp only [evO1, evOp, appsK]
  cases ha : earg fr a <;> simp only [vK]
  rename_i b
  by_cases hb : b = []
  · simp only [if_pos hb]
    cases hv : fget fr s <;> simp [vK, fin1, drop1, drop1K, hv]
    rename_i o z' es
    by_cases hB : lenB o z' = true <;> cases o <;> simp [drop1, hv, hB]
  · simp only [if_neg hb]
    cases hv : fget fr s <;> simp only [vK]
    · by_cases h : b.length ≤ room <;> simp [h, vK, fin1, drop1K]
    · rename_i o z' es
      by_cases h : z' = 1 ∧ appMay o u = true ∧ es.length + b.length ≤ room
      · simp only [if_pos h, vK, fin1]
        cases o <;> simp [drop1, drop1K, hv]
      · simp only [if_neg h, vK]
theorem appsK_nil (u : Bool) (b : List UInt8) (hb : b ≠ []) (h : b.length ≤ room) : appsK u .nilsl (.str b) = some (.lst (if u then .uniq else .own) 1 (listOfBytes b)) := by simp [appsK, hb, h]
theorem appsK_own (es : List (List AV)) (b : List UInt8) (hb : b ≠ []) (h : es.length + b.length ≤ room) : appsK false (.lst .own 1 es) (.str b) = some (.lst .own 1 (es ++ listOfBytes b)) := by simp [appsK, hb, h, appMay]
end Go.Proofs.YtafeikbbjhmlaaaGreatDoor.Sx
