/- EV, part G: what the listed variables of the program's packages hold, for the evaluator. -/
import Derived.Test.YtjbgceogkgpjpaaGreatDoorSxZ
import Derived.Test.YtjbgceogkgpjpaaGreatDoorEvA
import Derived.MakeChecks
import Derived.LaidMore
import Derived.LaidLaws
import Derived.Stop.LaidErr
import Derived.Lib.LaidTab
import Derived.Shelf.Vars
set_option linter.unusedVariables false
set_option linter.unusedSimpArgs false
namespace Go.Proofs.YtjbgceogkgpjpaaGreatDoor.Sx
open Go Go.RowKit
theorem block_of_var {P : Program} {W : World} {n : String} {g : Nat} {cs : Array Value} (hg : P.globalNamed n = some g) (h : W.var? P n = some cs) : ∃ T fz, W.heap[g]? = some (.cells cs T fz) := by
  simp only [World.var?, hg, Option.bind_some] at h
  split at h
  · rename_i c T fz hc
    injection h with h
    subst h
    exact ⟨T, fz, hc⟩
  · cases h
def GlAt (W : World) (g : Nat) (l : List AV) : Prop := g < W.heap.size ∧ flatG.k g = .st ∧ refFreeL l = true ∧ MemAt flatG W l g 0 ∧ ∃ cs T fz, W.heap[g]? = some (.cells cs T fz) ∧ cs.size = l.length
theorem glAt_of {W : World} {g : Nat} {l : List AV} {cs : Array Value} {T : TypeId} {fz : Nat × Nat} (hb : W.heap[g]? = some (.cells cs T fz)) (hs : cs.size = l.length) (hf : refFreeL l = true)
    (hr : ∀ (j : Nat) (v : AV) (x : Value), l[j]? = some v → cs[j]? = some x → RelV flatG W v x) : GlAt W g l := by
  refine ⟨(Array.getElem?_eq_some_iff.1 hb).1, rfl, hf, fun j v hj => ?_, cs, T, fz, hb, hs⟩
  have hjl := (List.getElem?_eq_some_iff.1 hj).1
  have hx : cs[j]? = some (cs[j]'(by omega)) := Array.getElem?_eq_getElem (by omega)
  exact ⟨_, by simp [World.cell?, hb, hx], hr j v _ hj hx⟩
theorem refFree_ints (k : IntKind) : ∀ zs : List Int, refFreeL (zs.map (AV.int k)) = true
  | [] => rfl
  | z :: l => by simp only [List.map_cons, refFreeL, refFree, refFree_ints k l, Bool.and_self]
theorem glAt_tab {P : Program} {W : World} {n : String} {g : Nat} {k : IntKind} {zs : List Int} (hg : P.globalNamed n = some g) (h : Lib.TabIs P W n k zs) : GlAt W g (zs.map (AV.int k)) := by
  obtain ⟨T, fz, hb⟩ := block_of_var hg h
  refine glAt_of hb (by simp) (refFree_ints k zs) fun j v x hv hx => ?_
  simp only [List.getElem?_map, Option.map_eq_some_iff, List.getElem?_toArray] at hv hx
  obtain ⟨z, h1, rfl⟩ := hv
  obtain ⟨z', h2, rfl⟩ := hx
  rw [h1] at h2
  injection h2 with h2
  subst h2
  exact .int k z
theorem glAt_err {P : Program} {W : World} {n : String} {g tp : Nat} {a : Addr} (hg : P.globalNamed n = some g) (h : W.var? P n = some #[.iface tp (.pointer (some a))]) : GlAt W g [.ifc tp .undef] := by
  obtain ⟨T, fz, hb⟩ := block_of_var hg h
  refine glAt_of hb rfl rfl fun j v x hv hx => ?_
  cases j with
  | zero => simp at hv hx; subst hv hx; exact .ifc _ _ _ (.undef _)
  | succ j => simp at hv
theorem glAt_opq {P : Program} {W : World} {n : String} {g : Nat} {v : Value} (hg : P.globalNamed n = some g) (ho : v.oneCell' = true) (h : W.var? P n = some #[v]) : GlAt W g [.opq v] := by
  obtain ⟨T, fz, hb⟩ := block_of_var hg h
  refine glAt_of hb rfl rfl fun j u x hu hx => ?_
  cases j with
  | zero => simp at hu hx; subst hu hx; exact .opq _ ho
  | succ j => simp at hu
def GlAll (W : World) : List (Nat × List AV) → Prop
  | [] => True
  | (g, l) :: r => GlAt W g l ∧ GlAll W r
theorem glOk_of {W : World} : ∀ {l : List (Nat × List AV)}, GlAll W l → GlOk flatG W (glOf l)
  | [], _ => fun _ => .inl rfl
  | (g, l) :: r, h => fun q => by
    unfold glOf
    by_cases e : g = q
    · subst e; rw [if_pos rfl]; exact .inr h.1
    · rw [if_neg e]; exact glOk_of h.2 q
end Go.Proofs.YtjbgceogkgpjpaaGreatDoor.Sx
