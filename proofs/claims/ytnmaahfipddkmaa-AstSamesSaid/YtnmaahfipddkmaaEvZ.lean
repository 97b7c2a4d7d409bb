/- EV, part Z: a law by what its call answers; arguments that are read. -/
import Derived.Test.YtnmaahfipddkmaaEvB
import Derived.Test.YtnmaahfipddkmaaSxZ
import Derived.ChangeShapes
import Derived.ChangeArms
import Derived.WideShapes
import Derived.OpenShut
set_option linter.unusedVariables false
set_option linter.unusedSimpArgs false
namespace Go.Proofs.Ytnmaahfipddkmaa.Sx
open Go Go.RowKit
theorem law_true_CL {P : Program} {prims : List (Nat × Nat)} {X : List (Option XFn)} (hX : Checked0 P prims X) (hP : PrimOk P G0 prims) (hmix : P.follows .mixedOrders = true) {f : Nat} {args : List AV} {hq : Heap}
    (he : CL X G0 f args [] = some (.bool true, hq)) {xs : Array Value} {W : World} (hlen : args.length = xs.size)
    (hrel : ∀ (j : Nat) (u : AV) (z : Value), args[j]? = some u → xs[j]? = some z → RelV flatG W u z ∧ noFlag u) :
    Calls P f xs W fun e W' => e = .returned (.bool true) ∧ Below W.heap.size W W' := by
  obtain ⟨n, hn⟩ := CL_iff.1 he
  exact law_true hX hP hmix hn hlen hrel
/-- The same with package variables that lie as they were laid. -/
theorem law_true_CLg {P : Program} {prims : List (Nat × Nat)} {X : List (Option XFn)} (hX : Checked0 P prims X) {gl : Nat → List AV} (hP : PrimOk P gl prims) (hmix : P.follows .mixedOrders = true) {f : Nat} {args : List AV} {hq : Heap}
    (he : CL X gl f args [] = some (.bool true, hq)) {xs : Array Value} {W : World} (hgl : GlOk flatG W gl) (hlen : args.length = xs.size)
    (hrel : ∀ (j : Nat) (u : AV) (z : Value), args[j]? = some u → xs[j]? = some z → RelV flatG W u z ∧ noFlag u) :
    Calls P f xs W fun e W' => e = .returned (.bool true) ∧ Below W.heap.size W W' := by
  obtain ⟨n, hn⟩ := CL_iff.1 he
  exact law_true_gl hX hP hmix hn hgl hlen hrel
theorem i64_wf {n : Int} (h : (Lit.int .i64 n).wf = true) : -9223372036854775808 ≤ n ∧ n < 9223372036854775808 := by
  simp [Lit.wf, IntKind.min, IntKind.max, IntKind.signed, IntKind.bits] at h
  omega
/-- A number that is handed. -/
def IntIn (k : IntKind) (n : Int) : Prop := (Lit.int k n).wf = true
theorem rel_ints {k : IntKind} {W : World} (ns : List Int) : RelV flatG W (.agg (ns.map (.int k))) (.agg (ns.map (Value.int k)).toArray) := by
  refine .agg _ _ (by simp) fun j v x hv hx => ?_
  simp only [List.getElem?_map, Option.map_eq_some_iff] at hv
  obtain ⟨n, hn, rfl⟩ := hv
  simp [hn] at hx
  subst hx
  exact .int k n
/-- A struct of whole numbers alone, read. -/
theorem open_ints_struct {H : Type} {enc : TypeId × Value → H} {P : Program} {W W0 : World} {base b0 : Nat} {spare : Nat → Bool} {held : Bool} {r : Reach} {k : IntKind} {t : TypeId} {fs : Array Field} {v : Value} {d : DataW H} {ps : List MemPlace}
    (ht : P.underlying t = some (.struct fs)) (hfs : ∀ (i : Nat) (f : Field), fs[i]? = some f → P.underlying f.type = some (.int k) ∧ f.offset = i ∧ P.cellsOf f.type = 1) (hc : P.cellsOf t = fs.size)
    (hval : Value.okWide P W0 r b0 t v) (hd : DataW.Trod enc P W base spare held t v d ps) :
    ∃ ns : List Int, v = .agg (ns.map (Value.int k)).toArray ∧ ns.length = fs.size ∧ ∀ n ∈ ns, IntIn k n := by
  obtain ⟨cs, rfl, hsz⟩ := Go.WideShapes.okWide_struct ht hval
  obtain ⟨fuel, hf⟩ := hd
  obtain ⟨xs, n, rfl, _, hl, hxl, hx⟩ := DataW.trod_struct ht hf
  simp only [Value.cells] at hl hx
  have key : ∀ (i : Nat), i < fs.size → ∃ m, cs[i]? = some (.int k m) ∧ IntIn k m := by
    intro i hi
    obtain ⟨f, hf⟩ : ∃ f, fs[i]? = some f := ⟨fs[i], by simp [hi]⟩
    obtain ⟨h1, h2, h3⟩ := hfs i f hf
    have := hx i f hf
    rw [h2, h3] at this
    obtain ⟨y, hy⟩ : ∃ y, xs[i]? = some y := ⟨xs[i]'(by omega), by simp⟩
    rw [hy] at this
    obtain ⟨m, e1, _, e3⟩ := DataW.trod_int h1 this
    refine ⟨m, ?_, e3⟩
    have h4 : ((cs.toList.drop i).take 1)[0]? = some (Value.int k m) := by rw [e1]; rfl
    simpa using h4
  refine ⟨(List.range fs.size).map fun i => match cs[i]? with | some (Value.int _ m) => m | _ => 0, ?_, by simp, ?_⟩
  · congr 1
    apply Array.ext'
    apply List.ext_getElem?
    intro i
    by_cases hi : i < fs.size
    · obtain ⟨m, h1, _⟩ := key i hi
      simp [hi, h1]
    · have h1 : cs[i]? = none := by simp; omega
      rw [← Array.getElem?_toList] at h1
      rw [h1, List.getElem?_map, List.getElem?_map, List.getElem?_eq_none (by simp; omega)]
      rfl
  · intro n hn
    simp only [List.mem_map, List.mem_range] at hn
    obtain ⟨i, hi, rfl⟩ := hn
    obtain ⟨m, h1, h2⟩ := key i hi
    simp only [h1]
    exact h2
end Go.Proofs.Ytnmaahfipddkmaa.Sx
namespace Go.Proofs.Ytnmaahfipddkmaa.Sx
open Go Go.RowKit
/-- A struct of three whole numbers and a text, read. -/
theorem open_nnns {H : Type} {enc : TypeId × Value → H} {P : Program} {W W0 : World} {base b0 : Nat} {spare : Nat → Bool} {held : Bool} {r : Reach} {t : TypeId} {f0 f1 f2 f3 : Field} {v : Value} {d : DataW H} {ps : List MemPlace}
    (ht : P.underlying t = some (.struct #[f0, f1, f2, f3])) (h0 : P.underlying f0.type = some (.int .i64)) (h1 : P.underlying f1.type = some (.int .i64)) (h2 : P.underlying f2.type = some (.int .i64)) (h3 : P.underlying f3.type = some .string)
    (o0 : f0.offset = 0) (o1 : f1.offset = 1) (o2 : f2.offset = 2) (o3 : f3.offset = 3) (c0 : P.cellsOf f0.type = 1) (c1 : P.cellsOf f1.type = 1) (c2 : P.cellsOf f2.type = 1) (c3 : P.cellsOf f3.type = 1) (hc : P.cellsOf t = 4)
    (hval : Value.okWide P W0 r b0 t v) (hd : DataW.Trod enc P W base spare held t v d ps) :
    ∃ (k n m : Int) (s : ByteArray), v = .agg #[.int .i64 k, .int .i64 n, .int .i64 m, .string s] ∧ IntIn .i64 k ∧ IntIn .i64 n ∧ IntIn .i64 m ∧ s.size ≤ maxLen := by
  obtain ⟨cs, rfl, hsz⟩ := Go.WideShapes.okWide_struct ht hval
  obtain ⟨fuel, hf⟩ := hd
  obtain ⟨xs, n, rfl, _, hl, hxl, hx⟩ := DataW.trod_struct ht hf
  simp only [Value.cells] at hl hx
  have hcs : cs.size = 4 := by omega
  obtain ⟨l⟩ := cs
  match l, hcs with
  | [a, b, c, e], _ =>
    have hxs : xs.length = 4 := by simpa using hxl
    have g0 := hx 0 f0 rfl
    have g1 := hx 1 f1 rfl
    have g2 := hx 2 f2 rfl
    have g3 := hx 3 f3 rfl
    rw [o0, c0] at g0; rw [o1, c1] at g1; rw [o2, c2] at g2; rw [o3, c3] at g3
    match xs, hxs with
    | [y0, y1, y2, y3], _ =>
      obtain ⟨k0, e0, _, w0⟩ := DataW.trod_int h0 g0
      obtain ⟨k1, e1, _, w1⟩ := DataW.trod_int h1 g1
      obtain ⟨k2, e2, _, w2⟩ := DataW.trod_int h2 g2
      obtain ⟨s, e3, _, w3⟩ := DataW.trod_string h3 g3
      simp at e0 e1 e2 e3
      subst e0 e1 e2 e3
      exact ⟨k0, k1, k2, s, rfl, w0, w1, w2, w3⟩
theorem rel_nnns {W : World} (k n m : Int) (s : ByteArray) : RelV flatG W (.agg [.int .i64 k, .int .i64 n, .int .i64 m, .str s.data.toList]) (.agg #[.int .i64 k, .int .i64 n, .int .i64 m, .string s]) := by
  refine .agg _ _ rfl fun j v x hv hx => ?_
  match j with
  | 0 => simp at hv hx; subst hv hx; exact .int _ _
  | 1 => simp at hv hx; subst hv hx; exact .int _ _
  | 2 => simp at hv hx; subst hv hx; exact .int _ _
  | 3 => simp at hv hx; subst hv hx; exact .str _
  | j + 4 => simp at hv
end Go.Proofs.Ytnmaahfipddkmaa.Sx
