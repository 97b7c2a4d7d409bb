/- Layer 8, part 1: signatures and points; what their checks answer. -/
import Derived.Test.YtafeikbbjhmlaaaGreatDoorV
import Derived.Test.YtafeikbbjhmlaaaGreatDoorW
import Derived.Test.YtafeikbbjhmlaaaGreatDoorEvS
set_option linter.unusedVariables false
set_option linter.unusedSimpArgs false
namespace Go.Proofs.YtafeikbbjhmlaaaGreatDoor.Sx.T
open Go Go.Proofs.YtafeikbbjhmlaaaGreatDoor.Sx
set_option maxRecDepth 100000
set_option maxHeartbeats 8000000
def Ls (z : Nat) (x : AV) (es : List (List AV)) : Prop := (x = .nilsl ∧ es = []) ∨ ∃ o, (o = .none ∨ o = .tight) ∧ x = .lst o z es
theorem Ls.one {z : Nat} {x : AV} {es : List (List AV)} (h : Ls z x es) : plain1 x = true ∧ uf x = x ∧ lensK false x = some (.int .i64 es.length) ∧ (∀ fr t, drop1K x fr t = fr) ∧ refFree x = true := by
  rcases h with ⟨rfl, rfl⟩ | ⟨o, rfl | rfl, rfl⟩
  · exact ⟨rfl, rfl, rfl, fun _ _ => rfl, rfl⟩
  · exact ⟨rfl, rfl, by simp [lensK_lst, lenB], fun _ _ => rfl, rfl⟩
  · exact ⟨rfl, rfl, by simp [lensK_lst, lenB], fun _ _ => rfl, rfl⟩
theorem Ls.at {z : Nat} {x : AV} {es : List (List AV)} (h : Ls z x es) {k : Nat} (hk : k < es.length) : iaddrK z x (some k) = some (.elp (es.getD k [])) := by
  rcases h with ⟨rfl, rfl⟩ | ⟨o, _, rfl⟩
  · simp at hk
  · rw [iaddrK_lst, if_pos ⟨rfl, hk⟩]
structure Dc where
  n : List UInt8
  ks : List Int
  kv : AV
instance : Inhabited Dc := ⟨⟨[], [], .nilsl⟩⟩
def nums (l : List Int) : List (List AV) := l.map fun k => [.int .i64 k]
theorem nums_len (l : List Int) : (nums l).length = l.length := by simp [nums]
theorem nums_get (l : List Int) (i : Nat) (h : i < l.length) : (nums l).getD i [] = [.int .i64 (l.getD i 0)] := by simp [nums, List.getD, h]
def Dc.cells (d : Dc) : List AV := [.str d.n, d.kv]
def Dc.ok (d : Dc) : Prop := Ls 1 d.kv (nums d.ks) ∧ d.ks.length ≤ 9223372036854775806 ∧ d.n.length ≤ 9223372036854775806
theorem Dc.flat {d : Dc} (h : d.ok) : d.cells.length = 2 ∧ d.cells.all plain1 = true ∧ d.cells.map uf = d.cells ∧ refFreeL d.cells = true := by
  obtain ⟨p, u, _, _, f⟩ := h.1.one
  exact ⟨rfl, by simp only [Dc.cells, List.all_cons, List.all_nil, p, Bool.and_true]; rfl, by simp only [Dc.cells, List.map_cons, List.map_nil, u]; rfl, by simp only [Dc.cells, refFreeL, f, Bool.and_true]; rfl⟩
structure Et where
  n : List UInt8
  vl : List Val
  av : AV
instance : Inhabited Et := ⟨⟨[], [], .nilsl⟩⟩
def vals (l : List Val) : List (List AV) := l.map Val.cells
theorem vals_len (l : List Val) : (vals l).length = l.length := by simp [vals]
theorem vals_get (l : List Val) (i : Nat) (h : i < l.length) : (vals l).getD i [] = (l.getD i default).cells := by simp [vals, List.getD, h]
def Et.cells (e : Et) : List AV := [.str e.n, e.av]
def Et.ok (e : Et) : Prop := Ls 4 e.av (vals e.vl) ∧ e.vl.length ≤ 9223372036854775806 ∧ (∀ v ∈ e.vl, v.ok) ∧ e.n.length ≤ 9223372036854775806
theorem Et.flat {d : Et} (h : d.ok) : d.cells.length = 2 ∧ d.cells.all plain1 = true ∧ d.cells.map uf = d.cells ∧ refFreeL d.cells = true := by
  obtain ⟨p, u, _, _, f⟩ := h.1.one
  exact ⟨rfl, by simp only [Et.cells, List.all_cons, List.all_nil, p, Bool.and_true]; rfl, by simp only [Et.cells, List.map_cons, List.map_nil, u]; rfl, by simp only [Et.cells, refFreeL, f, Bool.and_true]; rfl⟩
theorem mem_getD {α : Type} [Inhabited α] (l : List α) (i : Nat) (h : i < l.length) : l.getD i default ∈ l := by simp [List.getD, h]
/-! ### what is answered -/
def idxG {α : Type} (p : α → Bool) : List α → Nat → Int
  | [], _ => -1
  | x :: l, i => if p x then i else idxG p l (i + 1)
theorem idxG_drop {α : Type} [Inhabited α] (p : α → Bool) (l : List α) (i : Nat) (h : i < l.length) : idxG p (l.drop i) i = if p (l.getD i default) then (i : Int) else idxG p (l.drop (i + 1)) (i + 1) := by
  rw [List.drop_eq_getElem_cons h, idxG]
  simp [List.getD, h]
theorem idxG_any {α : Type} (p : α → Bool) : ∀ (l : List α) (i : Nat), decide (0 ≤ idxG p l i) = l.any p
  | [], i => by simp [idxG]
  | w :: l, i => by
    rw [idxG]
    by_cases h : p w
    · simp [h]
    · simp [h, idxG_any p l (i + 1)]
def firstE (e : Nat → Int) : Nat → Nat → Int
  | 0, _ => 0
  | m + 1, i => if e i ≠ 0 then e i else firstE e m (i + 1)
theorem firstE_step (e : Nat → Int) (n i : Nat) (h : i < n) : firstE e (n - i) i = if e i ≠ 0 then e i else firstE e (n - (i + 1)) (i + 1) := by
  obtain ⟨m, hm⟩ : ∃ m, n - i = m + 1 := ⟨n - i - 1, by omega⟩
  rw [hm, firstE, show n - (i + 1) = m by omega]
def vals8 (l : List Val) : Int := firstE (fun i => chkV (l.getD i default)) l.length 0
end Go.Proofs.YtafeikbbjhmlaaaGreatDoor.Sx.T
