/- EV, part W: slices of structs as arguments, read. -/
import Derived.Test.YtgfeladjpjipeaaDoorEvZ
import Derived.Deep.Slices
set_option linter.unusedVariables false
set_option linter.unusedSimpArgs false
namespace Go.Proofs.YtgfeladjpjipeaaDoor.Sx
open Go Go.RowKit
theorem add_flat {a : Addr} (h : a.spot = none) (n : Nat) : a.add n = ⟨a.block, a.off + n, none⟩ := by
  obtain ⟨b, o, s⟩ := a
  simp only at h
  subst h
  unfold Addr.add
  split
  · subst_vars; rfl
  · rfl
theorem open_slice_of {H : Type} {enc : TypeId × Value → H} {P : Program} {W : World} {b0 : Nat} {spare : Nat → Bool} {held : Bool} {r : Reach} {t e : TypeId} {v : Value} {d : DataW H} {ps : List MemPlace}
    {α : Type} [Inhabited α] {Q : α → Prop} {vals : α → List Value} {cells : α → List AV} (z : Nat) (ht : P.underlying t = some (.slice e)) (hz : P.cellsOf e = z)
    (hel : ∀ n cs' y, DataW.trod enc P W 0 spare held n e cs' = some y → cs'.length = z → ∃ x, Q x ∧ cs' = vals x)
    (hlen : ∀ x, (cells x).length = z) (hfree : ∀ (x : α) (j : Nat) (u : AV), (cells x)[j]? = some u → refFree u = true) (hrel : ∀ (x : α) (j : Nat) (u : AV), (cells x)[j]? = some u → ∃ y : Value, (vals x : List Value)[j]? = some y ∧ RelV flatG W u y)
    (hok : Value.okWide P W r b0 t v) (hd : DataW.Trod enc P W 0 spare held t v d ps) :
    (v = .slice none 0 0 ∧ d = .nil) ∨ ∃ (a : Addr) (cap : Nat) (xs : List α) (elems sp : List (DataW H)), v = .slice (some a) xs.length cap ∧ d = .slice elems sp ∧ elems.length = xs.length ∧ (∀ x ∈ xs, Q x) ∧
      RelV flatG W (.lst .none z (xs.map cells)) v := by
  obtain ⟨a0, l0, c0, rfl⟩ := Go.WideShapes.okWide_slice ht hok
  obtain ⟨fuel, hf⟩ := hd
  rcases Go.Deep.open_slice ht hf with ⟨h1, h2⟩ | ⟨a, len, cap, m, n, D, Pl, h1, hb, hl, hm, hmm, h2, hx⟩
  · left
    simp only [Value.cells] at h1
    simp at h1 h2
    obtain ⟨rfl, rfl, rfl⟩ := h1
    exact ⟨rfl, h2.1⟩
  right
  simp only [Value.cells] at h1
  simp at h1 h2
  obtain ⟨rfl, rfl, rfl⟩ := h1
  have hlm : l0 ≤ m := by rw [hmm]; split <;> omega
  have hhas : W.has P r b0 a e c0 := by
    simp only [Value.okWide, ht, Cell.okWide, Cell.ok] at hok
    exact hok.2.2
  obtain ⟨_, hspot, row, cells', hshape, _⟩ := hhas
  have hbs : a.block < W.heap.size := by
    unfold World.shape? at hshape
    by_cases hlt : a.block < W.heap.size
    · exact hlt
    · rw [Array.getElem?_eq_none (by omega)] at hshape
      simp at hshape
  obtain ⟨F, hF⟩ := Go.Deep.choose_lt (n := l0) (α := α) (p := fun i x => Q x ∧ ∀ j y, (vals x)[j]? = some y → W.cell? ⟨a.block, a.off + i * z + j, none⟩ = some y) (fun i hi => by
    obtain ⟨cs', g1, g2⟩ := hx i (by omega)
    rw [hz] at g1
    obtain ⟨_, hlen', hcell⟩ := World.cells?_some g1
    obtain ⟨x, hq, rfl⟩ := hel _ _ _ g2 hlen'
    refine ⟨x, hq, fun j y hy => ?_⟩
    have hj : j < z := by
      rw [← hlen']
      rw [List.getElem?_eq_some_iff] at hy
      exact hy.1
    have := hcell j hj
    rw [add_flat hspot, add_flat rfl] at this
    rw [this, hy])
  refine ⟨a, c0, (List.range l0).map F, (List.range l0).map D, _, by simp, h2.1, by simp, ?_, ?_⟩
  · intro x hx'
    obtain ⟨i, hi, rfl⟩ := List.mem_map.1 hx'
    exact (hF i (List.mem_range.1 hi)).1
  · obtain ⟨ab, ao, as⟩ := a
    simp only at hspot hbs hF
    subst hspot
    have hL : (((List.range l0).map F).map cells).length = l0 := by simp
    have key : ∀ (i : Nat) (e' : List AV), (((List.range l0).map F).map cells)[i]? = some e' → i < l0 ∧ e' = cells (F i) := by
      intro i e' he
      have hi : i < l0 := by
        have := (List.getElem?_eq_some_iff.1 he).1
        rwa [hL] at this
      simp [hi] at he
      exact ⟨hi, he.symm⟩
    have hr := RelV.lst (G := flatG) (w := W) .none z (((List.range l0).map F).map cells) ab ao c0 (fun i j => ((vals (F i))[j]?).getD .nilIface) (by simp) (by rw [hL]; exact hl) (by simp) ⟨hbs, .inl rfl⟩
      (by intro i e' he; obtain ⟨_, rfl⟩ := key i e' he; exact hlen _)
      (by intro i e' j u he hu; obtain ⟨_, rfl⟩ := key i e' he; exact hfree _ j u hu)
      (by
        intro i e' j u he hu
        obtain ⟨hi, rfl⟩ := key i e' he
        obtain ⟨y, hy, _⟩ := hrel _ j u hu
        rw [(hF i hi).2 j y hy, hy]
        rfl)
      (by
        intro i e' j u he hu
        obtain ⟨hi, rfl⟩ := key i e' he
        obtain ⟨y, hy, hrl⟩ := hrel _ j u hu
        show RelV flatG W u (((vals (F i))[j]?).getD .nilIface)
        rw [hy]
        exact hrl)
    rw [hL] at hr
    exact hr
abbrev N3S := Int × Int × Int × ByteArray
def N3S.vals (x : N3S) : List Value := [.int .i64 x.1, .int .i64 x.2.1, .int .i64 x.2.2.1, .string x.2.2.2]
def N3S.cells (x : N3S) : List AV := [.int .i64 x.1, .int .i64 x.2.1, .int .i64 x.2.2.1, .str x.2.2.2.data.toList]
theorem N3S.rel {W : World} (x : N3S) (j : Nat) (u : AV) (h : x.cells[j]? = some u) : ∃ y : Value, (N3S.vals x)[j]? = some y ∧ RelV flatG W u y := by
  match j with
  | 0 => simp [N3S.cells] at h; subst h; exact ⟨_, rfl, .int _ _⟩
  | 1 => simp [N3S.cells] at h; subst h; exact ⟨_, rfl, .int _ _⟩
  | 2 => simp [N3S.cells] at h; subst h; exact ⟨_, rfl, .int _ _⟩
  | 3 => simp [N3S.cells] at h; subst h; exact ⟨_, rfl, .str _⟩
  | j + 4 => simp [N3S.cells] at h
end Go.Proofs.YtgfeladjpjipeaaDoor.Sx
