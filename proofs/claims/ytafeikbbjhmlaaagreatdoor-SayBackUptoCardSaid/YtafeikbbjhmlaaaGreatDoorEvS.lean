/- EV, part S: slices of slices, lists that become blocks, calls that are handed one. -/
import Derived.Test.YtafeikbbjhmlaaaGreatDoorEvP
set_option linter.unusedVariables false
set_option linter.unusedSimpArgs false
namespace Go.Proofs.YtafeikbbjhmlaaaGreatDoor.Sx
open Go
def nckK (v : AV) : Option AV := match v with
  | .ptr r off => some (.ptr r off)
  | .elp cs => some (.elp cs)
  | .fn f ds cs => some (.fn f ds cs)
  | _ => none
theorem nckK_ptr (r : Ref) (off : Nat) : nckK (.ptr r off) = some (.ptr r off) := rfl
theorem nckK_elp (cs : List AV) : nckK (.elp cs) = some (.elp cs) := rfl
theorem cwK_top {l : Level} {h h' : Heap} (hl : h'.length = h.length) (d : Nat) (fr : List AV) (v : AV) : cwK (l :: h) d fr (some (v, l :: h')) = some (fput fr d v, l :: h') := by
  simp [cwK, sameTop, sameVers_refl, hl]
theorem demV_uniq (z : Nat) (es : List (List AV)) : demV (.lst .uniq z es) = if z < 1000 then .lst .own z es else .undef := rfl
theorem demV_nil : demV .nilsl = .nilsl := rfl
theorem demV_tight (z : Nat) (es : List (List AV)) : demV (.lst .tight z es) = .lst .none z es := rfl
theorem stAt_topc {l : Level} {h : Heap} {n s v off : Nat} {vs : List AV} (hn : n = h.length) : stAt (l :: h) (.ptr ⟨n, s, v⟩ off) vs = stK l h s v off vs (lcells l s v) := by subst hn; exact stAt_top l h s v off vs
theorem ldAt_topc {gl : Nat → List AV} {l : Level} {h : Heap} {m s v off n : Nat} {agg : Bool} (hn : m = h.length) : ldAt gl (l :: h) (.ptr ⟨m, s, v⟩ off) n agg = ldK n agg off (lcells l s v) := by subst hn; exact ldAt_top gl l h s v off n agg
theorem ecellK_topc {l : Level} {h : Heap} {m s v off n : Nat} {agg : Bool} (hn : m = h.length) : ecellK (l :: h) (.ptr ⟨m, s, v⟩ off) n agg = ldK n agg off (lcells l s v) := by subst hn; exact ecellK_top l h s v off n agg
theorem retOf_none (hp : Heap) (lev : Nat) : retOf hp lev [] = some (.tup []) := rfl
attribute [go_sem] demV_uniq demV_nil demV_tight retOf_none nckK_ptr nckK_elp
end Go.Proofs.YtafeikbbjhmlaaaGreatDoor.Sx
