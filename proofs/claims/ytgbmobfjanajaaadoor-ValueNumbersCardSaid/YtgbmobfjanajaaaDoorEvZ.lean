/- EV, part Z: a law by what its call answers; arguments that are read. -/
import Derived.Test.YtgbmobfjanajaaaDoorEvB
import Derived.Test.YtgbmobfjanajaaaDoorSxZ
import Derived.ChangeShapes
import Derived.ChangeArms
import Derived.WideShapes
import Derived.OpenShut
set_option linter.unusedVariables false
set_option linter.unusedSimpArgs false
namespace Go.Proofs.YtgbmobfjanajaaaDoor.Sx
open Go Go.RowKit
theorem law_true_CL {P : Program} {prims : List (Nat × Nat)} {X : List (Option XFn)} (hX : Checked0 P prims X) (hP : PrimOk P G0 prims) (hmix : P.follows .mixedOrders = true) {f : Nat} {args : List AV} {hq : Heap}
    (he : CL X G0 f args [] = some (.bool true, hq)) {xs : Array Value} {W : World} (hlen : args.length = xs.size)
    (hrel : ∀ (j : Nat) (u : AV) (z : Value), args[j]? = some u → xs[j]? = some z → RelV flatG W u z ∧ noFlag u) :
    Calls P f xs W fun e W' => e = .returned (.bool true) ∧ Below W.heap.size W W' := by
  obtain ⟨n, hn⟩ := CL_iff.1 he
  exact law_true hX hP hmix hn hlen hrel
/-- The same with package variables that lie as they were laid. -/
theorem law_true_CLg {P : Program} {prims : List (Nat × Nat)} {X : List (Option XFn)} (hX : Checked0 P prims X) {gl : Nat → List AV} (hP : PrimOk P gl prims) (hmix : P.follows .mixedOrders = true) {f : Nat} {args : List AV} {hq : Heap}
    (he : CL X gl f args [] = some (.bool true, hq)) {xs : Array Value} {W : World} (hgl : GlOk flatG W gl) (hlen : args.length = xs.size)
    (hrel : ∀ (j : Nat) (u : AV) (z : Value), args[j]? = some u → xs[j]? = some z → RelV flatG W u z ∧ noFlag u) :
    Calls P f xs W fun e W' => e = .returned (.bool true) ∧ Below W.heap.size W W' := by
  obtain ⟨n, hn⟩ := CL_iff.1 he
  exact law_true_gl hX hP hmix hn hgl hlen hrel
theorem i64_wf {n : Int} (h : (Lit.int .i64 n).wf = true) : -9223372036854775808 ≤ n ∧ n < 9223372036854775808 := by
  simp [Lit.wf, IntKind.min, IntKind.max, IntKind.signed, IntKind.bits] at h
  omega
/-- A number that is handed. -/
def IntIn (k : IntKind) (n : Int) : Prop := (Lit.int k n).wf = true
theorem rel_ints {k : IntKind} {W : World} (ns : List Int) : RelV flatG W (.agg (ns.map (.int k))) (.agg (ns.map (Value.int k)).toArray) := by
  refine .agg _ _ (by simp) fun j v x hv hx => ?_
  simp only [List.getElem?_map, Option.map_eq_some_iff] at hv
  obtain ⟨n, hn, rfl⟩ := hv
  simp [hn] at hx
  subst hx
  exact .int k n
/-- A struct of whole numbers alone, read. -/
theorem open_ints_struct {H : Type} {enc : TypeId × Value → H} {P : Program} {W W0 : World} {base b0 : Nat} {spare : Nat → Bool} {held : Bool} {r : Reach} {k : IntKind} {t : TypeId} {fs : Array Field} {v : Value} {d : DataW H} {ps : List MemPlace}
    (ht : P.underlying t = some (.struct fs)) (hfs : ∀ (i : Nat) (f : Field), fs[i]? = some f → P.underlying f.type = some (.int k) ∧ f.offset = i ∧ P.cellsOf f.type = 1) (hc : P.cellsOf t = fs.size)
    (hval : Value.okWide P W0 r b0 t v) (hd : DataW.Trod enc P W base spare held t v d ps) :
    ∃ ns : List Int, v = .agg (ns.map (Value.int k)).toArray ∧ ns.length = fs.size ∧ ∀ n ∈ ns, IntIn k n := by
  obtain ⟨cs, rfl, hsz⟩ := Go.WideShapes.okWide_struct ht hval
  obtain ⟨fuel, hf⟩ := hd
  obtain ⟨xs, n, rfl, _, hl, hxl, hx⟩ := DataW.trod_struct ht hf
  simp only [Value.cells] at hl hx
  have key : ∀ (i : Nat), i < fs.size → ∃ m, cs[i]? = some (.int k m) ∧ IntIn k m := by
    intro i hi
    obtain ⟨f, hf⟩ : ∃ f, fs[i]? = some f := ⟨fs[i], by simp [hi]⟩
    obtain ⟨h1, h2, h3⟩ := hfs i f hf
    have := hx i f hf
    rw [h2, h3] at this
    obtain ⟨y, hy⟩ : ∃ y, xs[i]? = some y := ⟨xs[i]'(by omega), by simp⟩
    rw [hy] at this
    obtain ⟨m, e1, _, e3⟩ := DataW.trod_int h1 this
    refine ⟨m, ?_, e3⟩
    have h4 : ((cs.toList.drop i).take 1)[0]? = some (Value.int k m) := by rw [e1]; rfl
    simpa using h4
  refine ⟨(List.range fs.size).map fun i => match cs[i]? with | some (Value.int _ m) => m | _ => 0, ?_, by simp, ?_⟩
  · congr 1
    apply Array.ext'
    apply List.ext_getElem?
    intro i
    by_cases hi : i < fs.size
    · obtain ⟨m, h1, _⟩ := key i hi
      simp [hi, h1]
    · have h1 : cs[i]? = none := by simp; omega
      rw [← Array.getElem?_toList] at h1
      rw [h1, List.getElem?_map, List.getElem?_map, List.getElem?_eq_none (by simp; omega)]
      rfl
  · intro n hn
    simp only [List.mem_map, List.mem_range] at hn
    obtain ⟨i, hi, rfl⟩ := hn
    obtain ⟨m, h1, h2⟩ := key i hi
    simp only [h1]
    exact h2
end Go.Proofs.YtgbmobfjanajaaaDoor.Sx
