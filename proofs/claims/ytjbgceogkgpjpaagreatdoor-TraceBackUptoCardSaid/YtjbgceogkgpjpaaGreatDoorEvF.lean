/- EV, part F: plain data that is handed (numbers, texts, structs and slices of such), read at every depth. -/
import Derived.Test.YtjbgceogkgpjpaaGreatDoorEvW
import Derived.SizedLaws
set_option linter.unusedVariables false
set_option linter.unusedSimpArgs false
namespace Go.Proofs.YtjbgceogkgpjpaaGreatDoor.Sx
open Go Go.RowKit
inductive Shp (P : Program) : TypeId → List AV → Prop where
  | bool {t : TypeId} (b : Bool) (h : P.underlying t = some .bool) : Shp P t [.bool b]
  | int {t : TypeId} {k : IntKind} (n : Int) (h : P.underlying t = some (.int k)) (hn : IntIn k n) : Shp P t [.int k n]
  | str {t : TypeId} (s : ByteArray) (h : P.underlying t = some .string) (hs : s.size ≤ maxLen) (hb : s.data.toList.length ≤ reachBytes) : Shp P t [.str s.data.toList]
  | nilsl {t e : TypeId} (h : P.underlying t = some (.slice e)) : Shp P t [.nilsl]
  | lst {t e : TypeId} (es : List (List AV)) (h : P.underlying t = some (.slice e)) (hes : ∀ x ∈ es, Shp P e x) (hl : es.length ≤ maxLen) (hb : es.length * P.bytesOf e ≤ reachBytes) : Shp P t [.lst .none (P.cellsOf e) es]
  | struct {t : TypeId} {fs : Array Field} (cs : List AV) (h : P.underlying t = some (.struct fs)) (hl : cs.length = P.cellsOf t) (hf : ∀ f ∈ fs.toList, Shp P f.type ((cs.drop f.offset).take (P.cellsOf f.type))) : Shp P t cs
def tiles (P : Program) : Nat → List Field → Nat → Bool
  | o, [], e => o == e
  | o, f :: fs, e => f.offset == o && tiles P (o + P.cellsOf f.type) fs e
def plainSet (P : Program) (S : List TypeId) : Bool := S.all fun t => match P.underlying t with
  | some .bool => P.cellsOf t == 1
  | some (.int _) => P.cellsOf t == 1
  | some .string => P.cellsOf t == 1
  | some (.slice e) => P.cellsOf t == 1 && S.contains e && decide (0 < P.cellsOf e)
  | some (.struct fs) => fs.toList.all (fun f => S.contains f.type) && tiles P 0 fs.toList (P.cellsOf t)
  | _ => false
def Told1 (W : World) (us : List AV) (cs : List Value) : Prop :=
  us.length = cs.length ∧ (∀ (j : Nat) (u : AV), us[j]? = some u → refFree u = true ∧ noFlag u) ∧ (∀ (j : Nat) (u : AV) (x : Value), us[j]? = some u → cs[j]? = some x → RelV flatG W u x)
theorem Told1.one {W : World} {u : AV} {x : Value} (hf : refFree u = true) (hn : noFlag u) (hr : RelV flatG W u x) : Told1 W [u] [x] := by
  refine ⟨rfl, fun j v hv => ?_, fun j v y hv hy => ?_⟩
  · match j with
    | 0 => simp at hv; subst hv; exact ⟨hf, hn⟩
    | j + 1 => simp at hv
  · match j with
    | 0 => simp at hv hy; subst hv hy; exact hr
    | j + 1 => simp at hv
theorem cell_addr {W : World} {a : Addr} {v : Value} (h : W.cell? a = some v) : a.spot = none ∧ a.block < W.heap.size := by
  unfold World.cell? at h
  split at h
  · rename_i c _ _ hc
    split at h
    · cases h
    · rename_i hs
      refine ⟨by simpa using hs, ?_⟩
      exact (Array.getElem?_eq_some_iff.1 hc).1
  · cases h
end Go.Proofs.YtjbgceogkgpjpaaGreatDoor.Sx
