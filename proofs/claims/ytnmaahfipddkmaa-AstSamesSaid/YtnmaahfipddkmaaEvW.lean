/- EV, part W: slices of structs as arguments, read. -/
import Derived.Test.YtnmaahfipddkmaaEvZ
import Derived.Deep.Slices
set_option linter.unusedVariables false
set_option linter.unusedSimpArgs false
namespace Go.Proofs.Ytnmaahfipddkmaa.Sx
open Go Go.RowKit
theorem add_flat {a : Addr} (h : a.spot = none) (n : Nat) : a.add n = ⟨a.block, a.off + n, none⟩ := by
  obtain ⟨b, o, s⟩ := a
  simp only at h
  subst h
  unfold Addr.add
  split
  · subst_vars; rfl
  · rfl
/-- A slice whose elements are read one by one. -/
theorem open_slice_of {H : Type} {enc : TypeId × Value → H} {P : Program} {W : World} {b0 : Nat} {spare : Nat → Bool} {held : Bool} {r : Reach} {t e : TypeId} {v : Value} {d : DataW H} {ps : List MemPlace}
    {α : Type} [Inhabited α] {Q : α → Prop} {vals : α → List Value} {cells : α → List AV} (z : Nat) (ht : P.underlying t = some (.slice e)) (hz : P.cellsOf e = z)
    (hel : ∀ n cs' y, DataW.trod enc P W 0 spare held n e cs' = some y → cs'.length = z → ∃ x, Q x ∧ cs' = vals x)
    (hlen : ∀ x, (cells x).length = z) (hfree : ∀ (x : α) (j : Nat) (u : AV), (cells x)[j]? = some u → refFree u = true) (hrel : ∀ (x : α) (j : Nat) (u : AV), (cells x)[j]? = some u → ∃ y : Value, (vals x : List Value)[j]? = some y ∧ RelV flatG W u y)
    (hok : Value.okWide P W r b0 t v) (hd : DataW.Trod enc P W 0 spare held t v d ps) :
    (v = .slice none 0 0 ∧ d = .nil) ∨ ∃ (a : Addr) (cap : Nat) (xs : List α) (elems sp : List (DataW H)), v = .slice (some a) xs.length cap ∧ d = .slice elems sp ∧ elems.length = xs.length ∧ (∀ x ∈ xs, Q x) ∧
      RelV flatG W (.lst .none z (xs.map cells)) v := by
  obtain ⟨a0, l0, c0, rfl⟩ := Go.WideShapes.okWide_slice ht hok
  obtain ⟨fuel, hf⟩ := hd
  rcases Go.Deep.open_slice ht hf with ⟨h1, h2⟩ | ⟨a, len, cap, m, n, D, Pl, h1, hb, hl, hm, hmm, h2, hx⟩
  · left
    simp only [Value.cells] at h1
    simp at h1 h2
    obtain ⟨rfl, rfl, rfl⟩ := h1
    exact ⟨rfl, h2.1⟩
  right
  simp only [Value.cells] at h1
  simp at h1 h2
  obtain ⟨rfl, rfl, rfl⟩ := h1
  have hlm : l0 ≤ m := by rw [hmm]; split <;> omega
  have hhas : W.has P r b0 a e c0 := by
    simp only [Value.okWide, ht, Cell.okWide, Cell.ok] at hok
    exact hok.2.2
  obtain ⟨_, hspot, row, cells', hshape, _⟩ := hhas
  have hbs : a.block < W.heap.size := by
    unfold World.shape? at hshape
    by_cases hlt : a.block < W.heap.size
    · exact hlt
    · rw [Array.getElem?_eq_none (by omega)] at hshape
      simp at hshape
  obtain ⟨F, hF⟩ := Go.Deep.choose_lt (n := l0) (α := α) (p := fun i x => Q x ∧ ∀ j y, (vals x)[j]? = some y → W.cell? ⟨a.block, a.off + i * z + j, none⟩ = some y) (fun i hi => by
    obtain ⟨cs', g1, g2⟩ := hx i (by omega)
    rw [hz] at g1
    obtain ⟨_, hlen', hcell⟩ := World.cells?_some g1
    obtain ⟨x, hq, rfl⟩ := hel _ _ _ g2 hlen'
    refine ⟨x, hq, fun j y hy => ?_⟩
    have hj : j < z := by
      rw [← hlen']
      rw [List.getElem?_eq_some_iff] at hy
      exact hy.1
    have := hcell j hj
    rw [add_flat hspot, add_flat rfl] at this
    rw [this, hy])
  refine ⟨a, c0, (List.range l0).map F, (List.range l0).map D, _, by simp, h2.1, by simp, ?_, ?_⟩
  · intro x hx'
    obtain ⟨i, hi, rfl⟩ := List.mem_map.1 hx'
    exact (hF i (List.mem_range.1 hi)).1
  · obtain ⟨ab, ao, as⟩ := a
    simp only at hspot hbs hF
    subst hspot
    have hL : (((List.range l0).map F).map cells).length = l0 := by simp
    have key : ∀ (i : Nat) (e' : List AV), (((List.range l0).map F).map cells)[i]? = some e' → i < l0 ∧ e' = cells (F i) := by
      intro i e' he
      have hi : i < l0 := by
        have := (List.getElem?_eq_some_iff.1 he).1
        rwa [hL] at this
      simp [hi] at he
      exact ⟨hi, he.symm⟩
    have hr := RelV.lst (G := flatG) (w := W) .none z (((List.range l0).map F).map cells) ab ao c0 (fun i j => ((vals (F i))[j]?).getD .nilIface) (by simp) (by rw [hL]; exact hl) (by simp) ⟨hbs, .inl rfl⟩
      (by intro i e' he; obtain ⟨_, rfl⟩ := key i e' he; exact hlen _)
      (by intro i e' j u he hu; obtain ⟨_, rfl⟩ := key i e' he; exact hfree _ j u hu)
      (by
        intro i e' j u he hu
        obtain ⟨hi, rfl⟩ := key i e' he
        obtain ⟨y, hy, _⟩ := hrel _ j u hu
        rw [(hF i hi).2 j y hy, hy]
        rfl)
      (by
        intro i e' j u he hu
        obtain ⟨hi, rfl⟩ := key i e' he
        obtain ⟨y, hy, hrl⟩ := hrel _ j u hu
        show RelV flatG W u (((vals (F i))[j]?).getD .nilIface)
        rw [hy]
        exact hrl)
    rw [hL] at hr
    exact hr
/-- Three whole numbers and a text. -/
abbrev N3S := Int × Int × Int × ByteArray
def N3S.vals (x : N3S) : List Value := [.int .i64 x.1, .int .i64 x.2.1, .int .i64 x.2.2.1, .string x.2.2.2]
def N3S.cells (x : N3S) : List AV := [.int .i64 x.1, .int .i64 x.2.1, .int .i64 x.2.2.1, .str x.2.2.2.data.toList]
theorem trod_nnns {H : Type} {enc : TypeId × Value → H} {P : Program} {W : World} {base : Nat} {spare : Nat → Bool} {held : Bool} {t : TypeId} {f0 f1 f2 f3 : Field} {cs : List Value} {y : DataW H × List MemPlace} {n : Nat}
    (ht : P.underlying t = some (.struct #[f0, f1, f2, f3])) (h0 : P.underlying f0.type = some (.int .i64)) (h1 : P.underlying f1.type = some (.int .i64)) (h2 : P.underlying f2.type = some (.int .i64)) (h3 : P.underlying f3.type = some .string)
    (o0 : f0.offset = 0) (o1 : f1.offset = 1) (o2 : f2.offset = 2) (o3 : f3.offset = 3) (c0 : P.cellsOf f0.type = 1) (c1 : P.cellsOf f1.type = 1) (c2 : P.cellsOf f2.type = 1) (c3 : P.cellsOf f3.type = 1)
    (hf : DataW.trod enc P W base spare held n t cs = some y) (hcs : cs.length = 4) :
    ∃ x : N3S, (IntIn .i64 x.1 ∧ IntIn .i64 x.2.1 ∧ IntIn .i64 x.2.2.1 ∧ x.2.2.2.size ≤ maxLen) ∧ cs = x.vals := by
  obtain ⟨xs, n, rfl, _, hl, hxl, hx⟩ := DataW.trod_struct ht hf
  match cs, hcs with
  | [a, b, c, e], _ =>
    have hxs : xs.length = 4 := by simpa using hxl
    have g0 := hx 0 f0 rfl
    have g1 := hx 1 f1 rfl
    have g2 := hx 2 f2 rfl
    have g3 := hx 3 f3 rfl
    rw [o0, c0] at g0; rw [o1, c1] at g1; rw [o2, c2] at g2; rw [o3, c3] at g3
    match xs, hxs with
    | [y0, y1, y2, y3], _ =>
      obtain ⟨k0, e0, _, w0⟩ := DataW.trod_int h0 g0
      obtain ⟨k1, e1, _, w1⟩ := DataW.trod_int h1 g1
      obtain ⟨k2, e2, _, w2⟩ := DataW.trod_int h2 g2
      obtain ⟨s, e3, _, w3⟩ := DataW.trod_string h3 g3
      simp at e0 e1 e2 e3
      subst e0 e1 e2 e3
      exact ⟨(k0, k1, k2, s), ⟨w0, w1, w2, w3⟩, rfl⟩
theorem N3S.free (x : N3S) (j : Nat) (u : AV) (h : x.cells[j]? = some u) : refFree u = true := by
  match j with
  | 0 => simp [N3S.cells] at h; subst h; rfl
  | 1 => simp [N3S.cells] at h; subst h; rfl
  | 2 => simp [N3S.cells] at h; subst h; rfl
  | 3 => simp [N3S.cells] at h; subst h; rfl
  | j + 4 => simp [N3S.cells] at h
theorem N3S.rel {W : World} (x : N3S) (j : Nat) (u : AV) (h : x.cells[j]? = some u) : ∃ y : Value, (N3S.vals x)[j]? = some y ∧ RelV flatG W u y := by
  match j with
  | 0 => simp [N3S.cells] at h; subst h; exact ⟨_, rfl, .int _ _⟩
  | 1 => simp [N3S.cells] at h; subst h; exact ⟨_, rfl, .int _ _⟩
  | 2 => simp [N3S.cells] at h; subst h; exact ⟨_, rfl, .int _ _⟩
  | 3 => simp [N3S.cells] at h; subst h; exact ⟨_, rfl, .str _⟩
  | j + 4 => simp [N3S.cells] at h
end Go.Proofs.Ytnmaahfipddkmaa.Sx
