/- EV, part S: slices of slices, lists that become blocks, calls that are handed one. -/
import Derived.Test.YtafeikbbjhmlaaaGreatDoorEvP
set_option linter.unusedVariables false
set_option linter.unusedSimpArgs false
namespace Go.Proofs.YtafeikbbjhmlaaaGreatDoor.Sx
open Go
def bsluK (z : Nat) (o : Option (List AV)) : Option AV := match o with
  | some cs => if refFreeL cs = true ∧ 0 < z ∧ z < 1000 then some (.lst .uniq z (chunks z (cs.length / z) cs)) else none
  | none => none
theorem bsluK_some (z : Nat) (cs : List AV) : bsluK z (some cs) = if refFreeL cs = true ∧ 0 < z ∧ z < 1000 then some (.lst .uniq z (chunks z (cs.length / z) cs)) else none := rfl
theorem o_bslu {C : CallT} {gl : Nat → List AV} (d z : Nat) (zero : List AV) (parts : List (Nat × Nat × XArg)) (fr : List AV) (hp : Heap) : evO1 C gl (some d) (.bslu z zero parts) fr hp = vK (bsluK z (fillX fr parts zero)) (fun v => some (fput fr d v, hp)) := by
  simp only [evO1, evOp, bsluK]
  cases fillX fr parts zero <;> simp only [vK, fin1]
  rename_i cs
  by_cases h : refFreeL cs = true ∧ 0 < z ∧ z < 1000 <;> simp [h]
def cnvbK (v : AV) : Option AV := match v with | .lst .uniq z es => if z = 1 then some (.lst .own 1 es) else none | _ => none
theorem o_cnvb {C : CallT} {gl : Nat → List AV} (d s : Nat) (fr : List AV) (hp : Heap) : evO1 C gl (some d) (.cnvb s) fr hp = vK (cnvbK (fget fr s)) (fun v => some (fput (drop1K (fget fr s) fr s) d v, hp)) := by
  simp only [evO1, evOp, cnvbK, fin1, drop1_tmp]
  cases fget fr s with
  | lst o z es =>
    cases o with
    | uniq => by_cases hz : z = 1 <;> simp [hz, vK]
    | _ => rfl
  | _ => rfl
theorem cnvbK_uniq (z : Nat) (es : List (List AV)) : cnvbK (.lst .uniq z es) = if z = 1 then some (.lst .own 1 es) else none := rfl
def nckK (v : AV) : Option AV := match v with
  | .ptr r off => some (.ptr r off)
  | .elp cs => some (.elp cs)
  | .fn f ds cs => some (.fn f ds cs)
  | _ => none
theorem nckK_ptr (r : Ref) (off : Nat) : nckK (.ptr r off) = some (.ptr r off) := rfl
theorem nckK_elp (cs : List AV) : nckK (.elp cs) = some (.elp cs) := rfl
theorem cwK_top {l : Level} {h h' : Heap} (hl : h'.length = h.length) (d : Nat) (fr : List AV) (v : AV) : cwK (l :: h) d fr (some (v, l :: h')) = some (fput fr d v, l :: h') := by
  simp [cwK, sameTop, sameVers_refl, hl]
theorem demV_uniq (z : Nat) (es : List (List AV)) : demV (.lst .uniq z es) = if z < 1000 then .lst .own z es else .undef := rfl
theorem demV_nil : demV .nilsl = .nilsl := rfl
theorem demV_tight (z : Nat) (es : List (List AV)) : demV (.lst .tight z es) = .lst .none z es := rfl
theorem stAt_topc {l : Level} {h : Heap} {n s v off : Nat} {vs : List AV} (hn : n = h.length) : stAt (l :: h) (.ptr ⟨n, s, v⟩ off) vs = stK l h s v off vs (lcells l s v) := by subst hn; exact stAt_top l h s v off vs
theorem ldAt_topc {gl : Nat → List AV} {l : Level} {h : Heap} {m s v off n : Nat} {agg : Bool} (hn : m = h.length) : ldAt gl (l :: h) (.ptr ⟨m, s, v⟩ off) n agg = ldK n agg off (lcells l s v) := by subst hn; exact ldAt_top gl l h s v off n agg
theorem retOf_none (hp : Heap) (lev : Nat) : retOf hp lev [] = some (.tup []) := rfl
attribute [go_sem] demV_uniq demV_nil demV_tight retOf_none nckK_ptr nckK_elp
end Go.Proofs.YtafeikbbjhmlaaaGreatDoor.Sx
