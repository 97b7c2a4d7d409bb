/- SX, part B: how values without memory stand to the machine's values and worlds. -/
import Derived.Test.YtjbgceogkgpjpaaGreatDoorSxA
import Derived.Orders
import Derived.Laws.World
import Derived.Laws.Sem
import Derived.Laws.AppendOwn
import Derived.Lib.UnsafeStr
import GoSem.Dispatch
import Derived.Laws.Strings
import Derived.Laws.StructEq
set_option linter.unusedVariables false
set_option linter.unusedSimpArgs false
namespace Go.Proofs.YtjbgceogkgpjpaaGreatDoor.Sx
open Go

inductive BK where
  | st | gr (f : Nat) | mb | un | al
  deriving DecidableEq
inductive Loc where
  | slot (t : Nat) | cell (r : Ref) (i : Nat) | res
  deriving DecidableEq
structure Gh where
  m : Ref → Option (Nat × Nat)
  k : Nat → BK
  o : Loc → Option Nat

def Cov (G : Gh) (w : World) (b n : Nat) : Prop := b < w.heap.size ∧ (G.k b = .st ∨ ∃ f, G.k b = .gr f ∧ n ≤ f)

inductive RelV (G : Gh) (w : World) : AV → Value → Prop where
  | undef (x : Value) : RelV G w .undef x
  | bool (b : Bool) : RelV G w (.bool b) (.bool b)
  | int (k : IntKind) (n : Int) : RelV G w (.int k n) (.int k n)
  | str (x : ByteArray) : RelV G w (.str x.data.toList) (.string x)
  | opq (x : Value) (h : x.oneCell' = true) : RelV G w (.opq x) x
  | nilptr : RelV G w .nilptr (.pointer none)
  | nilsl : RelV G w .nilsl (.slice none 0 0)
  | nilif : RelV G w .nilif .nilIface
  | nilfn : RelV G w .nilfn .nilFunc
  | ptr (r : Ref) (off b base : Nat) (h : G.m r = some (b, base)) : RelV G w (.ptr r off) (.pointer (some ⟨b, base + off, none⟩))
  | elp (cs : List AV) (b o : Nat) (X : Nat → Value) (hc : Cov G w b (o + cs.length))
      (hf : ∀ (j : Nat) (v : AV), cs[j]? = some v → refFree v = true) (hx : ∀ (j : Nat) (v : AV), cs[j]? = some v → w.cell? ⟨b, o + j, none⟩ = some (X j))
      (hr : ∀ (j : Nat) (v : AV), cs[j]? = some v → RelV G w v (X j)) : RelV G w (.elp cs) (.pointer (some ⟨b, o, none⟩))
  | gptr (g : Nat) : RelV G w (.gptr g) (.pointer (some ⟨g, 0, none⟩))
  | sl (r : Ref) (z off len b base cap : Nat) (h : G.m r = some (b, base)) (hl : len ≤ cap)
      (hs : ∃ cs T fz, w.heap[b]? = some (.cells cs T fz) ∧ base + off + cap * z ≤ cs.size) :
      RelV G w (.sl r z off len) (.slice (some ⟨b, base + off, none⟩) len cap)
  | uniq (z : Nat) (es : List (List AV)) (x : Value) : RelV G w (.lst .uniq z es) x
  | lst (ow : Own) (z : Nat) (es : List (List AV)) (b o cap : Nat) (X : Nat → Nat → Value) (hu : ow ≠ .uniq) (hl : es.length ≤ cap) (ht : ow = .tight → cap = es.length)
      (hc : Cov G w b (o + es.length * z)) (hz : ∀ (i : Nat) (e : List AV), es[i]? = some e → e.length = z)
      (hf : ∀ (i : Nat) (e : List AV) (j : Nat) (v : AV), es[i]? = some e → e[j]? = some v → refFree v = true)
      (hx : ∀ (i : Nat) (e : List AV) (j : Nat) (v : AV), es[i]? = some e → e[j]? = some v → w.cell? ⟨b, o + i * z + j, none⟩ = some (X i j))
      (hr : ∀ (i : Nat) (e : List AV) (j : Nat) (v : AV), es[i]? = some e → e[j]? = some v → RelV G w v (X i j)) :
      RelV G w (.lst ow z es) (.slice (some ⟨b, o, none⟩) es.length cap)
  | emp (z : Nat) (a : Addr) : RelV G w (.lst .none z []) (.slice (some a) 0 0)
  | agg (cs : List AV) (xs : Array Value) (hl : cs.length = xs.size) (hr : ∀ (j : Nat) (v : AV) (x : Value), cs[j]? = some v → xs[j]? = some x → RelV G w v x) :
      RelV G w (.agg cs) (.agg xs)
  | tup (cs : List AV) (xs : Array Value) (hl : cs.length = xs.size) (hr : ∀ (j : Nat) (v : AV) (x : Value), cs[j]? = some v → xs[j]? = some x → RelV G w v x) :
      RelV G w (.tup cs) (.tuple xs)
  | fn (f : Nat) (ds cs : List AV) (xs ys : Array Value) (hl : ds.length = xs.size) (hm : cs.length = ys.size)
      (hr : ∀ (j : Nat) (v : AV) (x : Value), ds[j]? = some v → xs[j]? = some x → RelV G w v x) (hs : ∀ (j : Nat) (v : AV) (x : Value), cs[j]? = some v → ys[j]? = some x → RelV G w v x) :
      RelV G w (.fn f ds cs) (.func (.func f) xs ys)
  | ifc (t : Nat) (v : AV) (x : Value) (hr : RelV G w v x) : RelV G w (.ifc t v) (.iface t x)
  | lenv (n : Nat) (a : Option Addr) (cap : Nat) : RelV G w (.lenv n) (.slice a n cap)
  | anyi (k : IntKind) (n : Int) : RelV G w (.anyi k) (.int k n)

structure Ext (A : Nat → Prop) (G : Gh) (w : World) (G' : Gh) (w' : World) : Prop where
  os : w'.os = w.os
  tape : w'.tape = w.tape
  output : w'.output = w.output
  size : w.heap.size ≤ w'.heap.size
  st : ∀ b, b < w.heap.size → G.k b = .st → G'.k b = .st ∧ w'.heap[b]? = w.heap[b]?
  gr : ∀ b f, b < w.heap.size → G.k b = .gr f → ∃ f', f ≤ f' ∧ G'.k b = .gr f' ∧ (∀ i, i < f → w'.cell? ⟨b, i, none⟩ = w.cell? ⟨b, i, none⟩)
  keep : ∀ b, b < w.heap.size → G.k b ≠ .st → G.k b ≠ .mb → ¬ A b → G'.k b = G.k b ∧ w'.heap[b]? = w.heap[b]?
  mm : ∀ r x, G.m r = some x → G'.m r = some x
  mb : ∀ b, b < w.heap.size → G.k b = .mb → G'.k b = .mb ∧ (∀ cs T fz, w.heap[b]? = some (.cells cs T fz) → ∃ cs', w'.heap[b]? = some (.cells cs' T fz) ∧ cs'.size = cs.size)

theorem Ext.refl (A : Nat → Prop) (G : Gh) (w : World) : Ext A G w G w where
  os := rfl
  tape := rfl
  output := rfl
  size := Nat.le_refl _
  st := fun _ _ h => ⟨h, rfl⟩
  gr := fun _ f _ h => ⟨f, Nat.le_refl _, h, fun _ _ => rfl⟩
  keep := fun _ _ _ _ _ => ⟨rfl, rfl⟩
  mm := fun _ _ h => h
  mb := fun _ _ h => ⟨h, fun cs _ _ hh => ⟨cs, hh, rfl⟩⟩

theorem Ext.mono {A B : Nat → Prop} {G G' : Gh} {w w' : World} (h : Ext A G w G' w') (hab : ∀ b, b < w.heap.size → A b → B b) : Ext B G w G' w' :=
  { h with keep := fun b hb h1 h2 h3 => h.keep b hb h1 h2 (fun ha => h3 (hab b hb ha)) }

theorem cell_of_heap {w w' : World} {b : Nat} (h : w'.heap[b]? = w.heap[b]?) (i : Nat) : w'.cell? ⟨b, i, none⟩ = w.cell? ⟨b, i, none⟩ := by
  simp [World.cell?, h]

theorem Ext.trans {A B : Nat → Prop} {G G' G'' : Gh} {w w' w'' : World} (h : Ext A G w G' w') (h' : Ext B G' w' G'' w'')
    (hab : ∀ b, b < w.heap.size → B b → A b) : Ext A G w G'' w'' where
  os := h'.os.trans h.os
  tape := h'.tape.trans h.tape
  output := h'.output.trans h.output
  size := Nat.le_trans h.size h'.size
  st := fun b hb hk => by
    obtain ⟨h1, h2⟩ := h.st b hb hk
    obtain ⟨h3, h4⟩ := h'.st b (Nat.lt_of_lt_of_le hb h.size) h1
    exact ⟨h3, h4.trans h2⟩
  gr := fun b f hb hk => by
    obtain ⟨f1, hf, h1, h2⟩ := h.gr b f hb hk
    obtain ⟨f2, hf2, h3, h4⟩ := h'.gr b f1 (Nat.lt_of_lt_of_le hb h.size) h1
    exact ⟨f2, Nat.le_trans hf hf2, h3, fun i hi => (h4 i (Nat.lt_of_lt_of_le hi hf)).trans (h2 i hi)⟩
  keep := fun b hb h1 h2 h3 => by
    obtain ⟨h4, h5⟩ := h.keep b hb h1 h2 h3
    obtain ⟨h6, h7⟩ := h'.keep b (Nat.lt_of_lt_of_le hb h.size) (by rw [h4]; exact h1) (by rw [h4]; exact h2) (fun hB => h3 (hab b hb hB))
    exact ⟨h6.trans h4, h7.trans h5⟩
  mm := fun r x hx => h'.mm r x (h.mm r x hx)
  mb := fun b hb hk => by
    obtain ⟨h1, h2⟩ := h.mb b hb hk
    obtain ⟨h3, h4⟩ := h'.mb b (Nat.lt_of_lt_of_le hb h.size) h1
    refine ⟨h3, fun cs T fz hc => ?_⟩
    obtain ⟨cs1, h5, h6⟩ := h2 cs T fz hc
    obtain ⟨cs2, h7, h8⟩ := h4 cs1 T fz h5
    exact ⟨cs2, h7, h8.trans h6⟩

theorem Cov.ext {A : Nat → Prop} {G G' : Gh} {w w' : World} (h : Ext A G w G' w') {b n : Nat} (hc : Cov G w b n) :
    Cov G' w' b n ∧ ∀ i, i < n → w'.cell? ⟨b, i, none⟩ = w.cell? ⟨b, i, none⟩ := by
  obtain ⟨hb, hk⟩ := hc
  rcases hk with hk | ⟨f, hk, hf⟩
  · obtain ⟨h1, h2⟩ := h.st b hb hk
    exact ⟨⟨Nat.lt_of_lt_of_le hb h.size, .inl h1⟩, fun i _ => cell_of_heap h2 i⟩
  · obtain ⟨f', hf', h1, h2⟩ := h.gr b f hb hk
    exact ⟨⟨Nat.lt_of_lt_of_le hb h.size, .inr ⟨f', h1, Nat.le_trans hf hf'⟩⟩, fun i hi => h2 i (Nat.lt_of_lt_of_le hi hf)⟩

theorem Ext.sizeOf {A : Nat → Prop} {G G' : Gh} {w w' : World} (h : Ext A G w G' w') {b n : Nat} (hb : G.k b = .mb)
    (hs : ∃ cs T fz, w.heap[b]? = some (.cells cs T fz) ∧ n ≤ cs.size) : ∃ cs T fz, w'.heap[b]? = some (.cells cs T fz) ∧ n ≤ cs.size := by
  obtain ⟨cs, T, fz, h1, h2⟩ := hs
  obtain ⟨_, h3⟩ := h.mb b (by rcases Nat.lt_or_ge b w.heap.size with hlt | hge; exact hlt; simp [Array.getElem?_eq_none hge] at h1) hb
  obtain ⟨cs', h4, h5⟩ := h3 cs T fz h1
  exact ⟨cs', T, fz, h4, by omega⟩

structure Valid (G : Gh) (w : World) (n : Nat) : Prop where
  lev : ∀ r x, G.m r = some x → r.lev < n
  inj : ∀ r r' x y, G.m r = some x → G.m r' = some y → x.1 = y.1 → r = r'
  mkk : ∀ r x, G.m r = some x → G.k x.1 = .mb ∧ x.1 < w.heap.size
  oinj : ∀ l l' b, G.o l = some b → G.o l' = some b → l = l'
  ok : ∀ l b, G.o l = some b → b < w.heap.size ∧ ((∃ f, G.k b = .gr f) ∨ G.k b = .un)

theorem RelV.ext {A : Nat → Prop} {G G' : Gh} {w w' : World} {n : Nat} (hv : Valid G w n) (h : Ext A G w G' w') {v : AV} {x : Value} (hr : RelV G w v x) : RelV G' w' v x := by
  induction hr with
  | undef x => exact .undef x
  | bool b => exact .bool b
  | int k n => exact .int k n
  | str x => exact .str x
  | opq x h => exact .opq x h
  | nilptr => exact .nilptr
  | nilsl => exact .nilsl
  | nilif => exact .nilif
  | nilfn => exact .nilfn
  | ptr r off b base hm => exact .ptr r off b base (h.mm _ _ hm)
  | elp cs b o X hc hf hx hr ih =>
    obtain ⟨hc', hcell⟩ := hc.ext h
    refine .elp cs b o X hc' hf (fun j v hj => ?_) ih
    rw [hcell _ ?_]
    · exact hx j v hj
    · have := (List.getElem?_eq_some_iff.1 hj).1; omega
  | gptr g => exact .gptr g
  | sl r z off len b base cap hm hl hs => exact .sl r z off len b base cap (h.mm _ _ hm) hl (h.sizeOf (hv.mkk _ _ hm).1 hs)
  | uniq z es x => exact .uniq z es x
  | lst ow z es b o cap X hu hl ht hc hz hf hx hr ih =>
    obtain ⟨hc', hcell⟩ := hc.ext h
    refine .lst ow z es b o cap X hu hl ht hc' hz hf (fun i e j v hi hj => ?_) ih
    rw [hcell _ ?_]
    · exact hx i e j v hi hj
    · have h1 := (List.getElem?_eq_some_iff.1 hi).1
      have h2 := (List.getElem?_eq_some_iff.1 hj).1
      rw [hz i e hi] at h2
      have : i * z + z ≤ es.length * z := by
        have := Nat.mul_le_mul_right z (Nat.succ_le_of_lt h1)
        rw [Nat.succ_mul] at this
        exact this
      omega
  | emp z a => exact .emp z a
  | agg cs xs hl hr ih => exact .agg cs xs hl ih
  | tup cs xs hl hr ih => exact .tup cs xs hl ih
  | fn f ds cs xs ys hl hm hr hs ih1 ih2 => exact .fn f ds cs xs ys hl hm ih1 ih2
  | ifc t v x hr ih => exact .ifc t v x ih
  | lenv n a cap => exact .lenv n a cap
  | anyi k n => exact .anyi k n

def OwnC (G : Gh) (w : World) (l : Loc) (ow : Own) (z : Nat) (es : List (List AV)) (x : Value) : Prop :=
  ∃ b o cap, x = .slice (some ⟨b, o, none⟩) es.length cap ∧ es.length ≤ cap ∧ G.o l = some b ∧
        (∃ cs T fz, w.heap[b]? = some (.cells cs T fz) ∧ o + cap * z ≤ cs.size ∧ ∀ i, o + es.length * z ≤ i → i < o + cap * z → ¬ (fz.1 ≤ i ∧ i < fz.2)) ∧
        (ow = .own → G.k b = .gr (o + es.length * z)) ∧
        (ow = .uniq → G.k b = .un ∧ (∃ cs T, w.heap[b]? = some (.cells cs T (0, 0))) ∧ ∃ X : Nat → Nat → Value, (∀ (i : Nat) (e : List AV), es[i]? = some e → e.length = z) ∧
          ∀ (i : Nat) (e : List AV) (j : Nat) (u : AV), es[i]? = some e → e[j]? = some u → refFree u = true ∧ w.cell? ⟨b, o + i * z + j, none⟩ = some (X i j) ∧ RelV G w u (X i j))
def HV (G : Gh) (w : World) (z : Nat) (es : List (List AV)) (x : Value) (z' : Nat) (es' : List (List AV)) (x' : Value) : Prop :=
  (z < 1000 ∧ z' = z ∧ es' = es ∧ x' = x) ∨ (1000 ≤ z ∧ z' = z - 1000 ∧ ∃ (cs : List AV) (xs : Array Value), es = cs :: es' ∧ x = .tuple xs ∧ xs[0]? = some x' ∧ xs.size = cs.length + 1 ∧ refFreeL cs = true ∧
    ∀ (j : Nat) (v : AV) (y : Value), cs[j]? = some v → xs[j + 1]? = some y → refFree v = true ∧ RelV G w v y)
theorem HV.map {G G' : Gh} {w w' : World} {z : Nat} {es : List (List AV)} {x : Value} {z' : Nat} {es' : List (List AV)} {x' : Value} (h : HV G w z es x z' es' x')
    (f : ∀ v y, refFree v = true → RelV G w v y → RelV G' w' v y) : HV G' w' z es x z' es' x' := by
  rcases h with h | ⟨h1, h2, cs, xs, h3, h4, h5, h6, h7, h8⟩
  · exact .inl h
  · exact .inr ⟨h1, h2, cs, xs, h3, h4, h5, h6, h7, fun j v y hv hy => ⟨(h8 j v y hv hy).1, f v y (h8 j v y hv hy).1 (h8 j v y hv hy).2⟩⟩
def OwnOk (G : Gh) (w : World) (l : Loc) (v : AV) (x : Value) : Prop :=
  match v with
  | .lst ow z es =>
    match ow with
    | .own => OwnC G w l .own z es x
    | .uniq => ∃ z' es' x', HV G w z es x z' es' x' ∧ OwnC G w l .uniq z' es' x'
    | _ => True
  | _ => True
theorem OwnOk.small {G : Gh} {w : World} {l : Loc} {z : Nat} {es : List (List AV)} {x : Value} (h : OwnOk G w l (.lst .uniq z es) x) (hz : z < 1000) : OwnC G w l .uniq z es x := by
  obtain ⟨z', es', x', hv, hc⟩ := h
  rcases hv with ⟨_, rfl, rfl, rfl⟩ | ⟨h1, _⟩
  · exact hc
  · omega
theorem OwnOk.mk_small {G : Gh} {w : World} {l : Loc} {z : Nat} {es : List (List AV)} {x : Value} (hz : z < 1000) (h : OwnC G w l .uniq z es x) : OwnOk G w l (.lst .uniq z es) x :=
  ⟨z, es, x, .inl ⟨hz, rfl, rfl, rfl⟩, h⟩
theorem OwnOk.of_not {G : Gh} {w : World} {l : Loc} {v : AV} {x : Value} (h : ∀ z es, v ≠ .lst .own z es ∧ v ≠ .lst .uniq z es) : OwnOk G w l v x := by
  unfold OwnOk
  split
  · rename_i ow z es
    cases ow <;> first | trivial | exact absurd rfl (h z es).1 | exact absurd rfl (h z es).2
  · trivial
theorem OwnOk.ext {A : Nat → Prop} {G G' : Gh} {w w' : World} {n : Nat} {l : Loc} {v : AV} {x : Value} (hv : Valid G w n) (h : Ext A G w G' w')
    (ho : OwnOk G w l v x) (hl : G'.o l = G.o l) (hA : ∀ b, G.o l = some b → ¬ A b) : OwnOk G' w' l v x := by
  unfold OwnOk at *
  split
  · rename_i ow z es
    cases ow with
    | none => trivial
    | tight => trivial
    | own =>
      obtain ⟨b, o, cap, hx, hcap, hob, ⟨cs, T, fz, h1, h2, h3⟩, h4, h5⟩ := ho
      have hb := (hv.ok _ _ hob)
      have hk := h4 rfl
      obtain ⟨h6, h7⟩ := h.keep b hb.1 (by rw [hk]; simp) (by rw [hk]; simp) (hA b hob)
      exact ⟨b, o, cap, hx, hcap, by rw [hl, hob], ⟨cs, T, fz, by rw [h7, h1], h2, h3⟩, (fun _ => by rw [h6, hk]), (fun h => by cases h)⟩
    | uniq =>
      obtain ⟨z', es', x', hvv, b, o, cap, hx, hcap, hob, ⟨cs, T, fz, h1, h2, h3⟩, h4, h5⟩ := ho
      have hb := (hv.ok _ _ hob)
      obtain ⟨hk, ⟨cs0, T0, hz0⟩, X, hz, hX⟩ := h5 rfl
      obtain ⟨h6, h7⟩ := h.keep b hb.1 (by rw [hk]; simp) (by rw [hk]; simp) (hA b hob)
      refine ⟨z', es', x', hvv.map (fun v y _ hr => hr.ext hv h), b, o, cap, hx, hcap, by rw [hl, hob], ⟨cs, T, fz, by rw [h7, h1], h2, h3⟩, (fun h => by cases h), fun _ => ⟨by rw [h6, hk], ⟨cs0, T0, by rw [h7, hz0]⟩, X, hz, fun i e j u hi hj => ?_⟩⟩
      obtain ⟨h8, h9, h10⟩ := hX i e j u hi hj
      exact ⟨h8, by rw [cell_of_heap h7]; exact h9, h10.ext hv h⟩
  · trivial

def Gh.below (G : Gh) (n : Nat) : Gh := { G with m := fun r => if r.lev < n then G.m r else none }
theorem RelV.mapG {G G' : Gh} {w : World} (hm : ∀ r x, G.m r = some x → G'.m r = some x) (hs : ∀ b, b < w.heap.size → G.k b = .st → G'.k b = .st)
    (hg : ∀ b f, b < w.heap.size → G.k b = .gr f → ∃ f', f ≤ f' ∧ G'.k b = .gr f') {v : AV} {x : Value} (hr : RelV G w v x) : RelV G' w v x := by
  have hcov : ∀ {b n}, Cov G w b n → Cov G' w b n := by
    rintro b n ⟨hb, h | ⟨f, h, hn⟩⟩
    · exact ⟨hb, .inl (hs b hb h)⟩
    · obtain ⟨f', h1, h2⟩ := hg b f hb h
      exact ⟨hb, .inr ⟨f', h2, Nat.le_trans hn h1⟩⟩
  induction hr with
  | undef x => exact .undef x
  | bool b => exact .bool b
  | int k n => exact .int k n
  | str x => exact .str x
  | opq x h => exact .opq x h
  | nilptr => exact .nilptr
  | nilsl => exact .nilsl
  | nilif => exact .nilif
  | nilfn => exact .nilfn
  | ptr r off b base h => exact .ptr r off b base (hm _ _ h)
  | elp cs b o X hc hf hx hr ih => exact .elp cs b o X (hcov hc) hf hx ih
  | gptr g => exact .gptr g
  | sl r z off len b base cap h hl hs => exact .sl r z off len b base cap (hm _ _ h) hl hs
  | uniq z es x => exact .uniq z es x
  | lst ow z es b o cap X hu hl ht hc hz hf hx hr ih => exact .lst ow z es b o cap X hu hl ht (hcov hc) hz hf hx ih
  | emp z a => exact .emp z a
  | agg cs xs hl hr ih => exact .agg cs xs hl ih
  | tup cs xs hl hr ih => exact .tup cs xs hl ih
  | fn f ds cs xs ys hl hm hr hs ih1 ih2 => exact .fn f ds cs xs ys hl hm ih1 ih2
  | ifc t v x hr ih => exact .ifc t v x ih
  | lenv n a cap => exact .lenv n a cap
  | anyi k n => exact .anyi k n
theorem RelV.of_below {G : Gh} {w : World} {n : Nat} {v : AV} {x : Value} (h : RelV (G.below n) w v x) : RelV G w v x :=
  RelV.mapG (G := G.below n) (G' := G) (fun r x hx => by simp only [Gh.below] at hx; split at hx; exact hx; cases hx) (fun _ _ h => h) (fun _ f _ h => ⟨f, Nat.le_refl _, h⟩) h
theorem RelV.to_below {G : Gh} {w : World} {n : Nat} {v : AV} {x : Value} (hv : ∀ r x, G.m r = some x → r.lev < n) (h : RelV G w v x) : RelV (G.below n) w v x :=
  RelV.mapG (G := G) (G' := G.below n) (fun r x hx => by simp only [Gh.below]; rw [if_pos (hv r x hx)]; exact hx) (fun _ _ h => h) (fun _ f _ h => ⟨f, Nat.le_refl _, h⟩) h
theorem Valid.below {G : Gh} {w : World} {n k : Nat} (h : Valid G w n) : Valid (G.below k) w n := by
  have hh : ∀ r x, (G.below k).m r = some x → G.m r = some x := fun r x hx => by simp only [Gh.below] at hx; split at hx; exact hx; cases hx
  exact ⟨fun r x hx => h.lev r x (hh r x hx), fun r r' x y hx hy => h.inj r r' x y (hh r x hx) (hh r' y hy), fun r x hx => h.mkk r x (hh r x hx), h.oinj, h.ok⟩
theorem Ext.below {A : Nat → Prop} {G G' : Gh} {w w' : World} {k : Nat} (h : Ext A G w G' w') : Ext A (G.below k) w (G'.below k) w' :=
  { os := h.os, tape := h.tape, output := h.output, size := h.size, st := h.st, gr := h.gr, keep := h.keep, mb := h.mb, mm := fun r x hx => by
      simp only [Gh.below] at hx ⊢
      split at hx
      · rename_i hl
        rw [if_pos hl]
        exact h.mm r x hx
      · cases hx }
def RelBlk (G : Gh) (w : World) (r : Ref) (b base : Nat) : Blk → Prop
  | .cells vs => ∃ cs T, w.heap[b]? = some (.cells cs T (0, 0)) ∧ base + vs.length ≤ cs.size ∧
      ∀ (i : Nat) (v : AV) (x : Value), vs[i]? = some v → cs[base + i]? = some x → RelV (G.below (r.lev + 1)) w v x ∧ OwnOk G w (.cell r i) v x
  | .iter s pos => ∃ s' : ByteArray, s'.data.toList = s ∧ w.heap[b]? = some (.stringIter s' pos) ∧ base = 0
  | .bld t e bs => (base = 0 ∧ e < 1000) ∧ ∃ p v, w.heap[b]? = some (.cells #[p, v] t (0, 0)) ∧ (p = .pointer none ∨ p = .pointer (some ⟨b, 0, none⟩)) ∧ w.ownsRow 0 e 1 v bs.length (Lib.byteCells bs) ∧ (bs = [] → v = .slice none 0 0) ∧
      ∀ g, v.ownBlock = some g → G.o (.cell r 1) = some g ∧ G.k g = .un
theorem ownsRow_ext {w w' : World} {e n : Nat} {v : Value} {xs : List Value} (h : w.ownsRow 0 e 1 v n xs) (hb : ∀ g, v.ownBlock = some g → w'.heap[g]? = w.heap[g]?) : w'.ownsRow 0 e 1 v n xs := by
  refine ⟨h.1, ?_⟩
  rcases h.2 with hn | ⟨g, cap, cur, rfl, h1, h2, h3⟩
  · exact .inl hn
  · exact .inr ⟨g, cap, cur, rfl, h1, (hb g rfl).trans h2, h3⟩
def RelHeap (G : Gh) (w : World) (hp : Heap) : Prop := ∀ r b base blk, G.m r = some (b, base) → hget hp r = some blk → RelBlk G w r b base blk
end Go.Proofs.YtjbgceogkgpjpaaGreatDoor.Sx
namespace Go.Proofs.YtjbgceogkgpjpaaGreatDoor.Sx
open Go

/-! ### arguments -/
def constOk : AV → Value → Bool
  | .undef, _ => true
  | .bool b, .bool c => b == c
  | .int k n, .int k' m => decide (k = k') && n == m
  | .str s, .string x => s == x.data.toList
  | .nilptr, .pointer none => true
  | .nilsl, .slice none n m => n == 0 && m == 0
  | .nilif, .nilIface => true
  | .nilfn, .nilFunc => true
  | _, _ => false
def argOk : XArg → Operand → Bool
  | .tmp t, .tmp u => t == u
  | .cst (.fn f [] []), .func g => f == g
  | .cst v, .const x => constOk v x
  | .glob g, .global h => g == h
  | _, _ => false
def argsOk : List XArg → List Operand → Bool
  | [], [] => true
  | a :: l, b :: m => argOk a b && argsOk l m
  | _, _ => false
def optOk : Option XArg → Option Operand → Bool
  | none, none => true
  | some a, some b => argOk a b
  | _, _ => false

section
variable {G : Gh} {w : World} {fr : List AV} {act : Act}

theorem RelV.uf {v : AV} {x : Value} (h : RelV G w v x) : RelV G w (uf v) x := by
  cases h with
  | lst ow z es b o cap X hu hl ht hc hz hf hx hr =>
    cases ow with
    | own => exact .lst .none z es b o cap X (by simp) hl (by simp) hc hz hf hx hr
    | uniq => exact absurd rfl hu
    | none => exact .lst .none z es b o cap X hu hl ht hc hz hf hx hr
    | tight => exact .lst .tight z es b o cap X hu hl ht hc hz hf hx hr
  | emp z a => exact .emp z a
  | uniq z es x => exact .undef x
  | undef x => exact .undef x
  | bool b => exact .bool b
  | int k n => exact .int k n
  | str x => exact .str x
  | opq x h => exact .opq x h
  | nilptr => exact .nilptr
  | nilsl => exact .nilsl
  | nilif => exact .nilif
  | nilfn => exact .nilfn
  | ptr r off b base hm => exact .ptr r off b base hm
  | elp cs b o X hc hf hx hr => exact .elp cs b o X hc hf hx hr
  | gptr g => exact .gptr g
  | sl r z off len b base cap hm hl hs => exact .sl r z off len b base cap hm hl hs
  | agg cs xs hl hr => exact .agg cs xs hl hr
  | tup cs xs hl hr => exact .tup cs xs hl hr
  | fn f ds cs xs ys hl hm hr hs => exact .fn f ds cs xs ys hl hm hr hs
  | ifc t v x hr => exact .ifc t v x hr
  | lenv n a cap => exact .lenv n a cap
  | anyi k n => exact .anyi k n
def noFlag : AV → Prop
  | .lst .own _ _ | .lst .uniq _ _ => False
  | _ => True
theorem noFlag_uf (v : AV) : noFlag (Sx.uf v) := by
  cases v <;> simp [Sx.uf, noFlag]
  rename_i o z es
  cases o <;> simp
theorem OwnOk.of_noFlag {l : Loc} {v : AV} {x : Value} (h : noFlag v) : OwnOk G w l v x := by
  refine OwnOk.of_not fun z es => ⟨?_, ?_⟩ <;> rintro rfl <;> exact h

theorem constOk_rel {v : AV} {x : Value} (h : constOk v x = true) : RelV G w v x := by
  unfold constOk at h
  split at h <;> first
    | exact .undef _
    | exact .nilptr
    | exact .nilif
    | exact .nilfn
    | (simp at h; done)
    | (simp only [beq_iff_eq] at h; subst h; exact .bool _)
    | (simp only [Bool.and_eq_true, decide_eq_true_eq, beq_iff_eq] at h; obtain ⟨rfl, rfl⟩ := h; exact .int _ _)
    | (simp only [beq_iff_eq] at h; subst h; exact .str _)
    | (simp only [Bool.and_eq_true, beq_iff_eq] at h; obtain ⟨rfl, rfl⟩ := h; exact .nilsl)
theorem constOk_noFlag {v : AV} {x : Value} (h : constOk v x = true) : noFlag v := by
  unfold constOk at h
  split at h <;> first | trivial | (simp at h; done)

def RelS (G : Gh) (w : World) (fr : List AV) (act : Act) (t : Nat) : Prop :=
  RelV G w (fget fr t) (act.tmps.getD t undef) ∧ OwnOk G w (.slot t) (fget fr t) (act.tmps.getD t undef)
def argTmp : XArg → List Nat
  | .tmp t => [t]
  | _ => []
theorem arg_rel {a : XArg} {b : Operand} (h : argOk a b = true) (hs : ∀ t ∈ argTmp a, RelS G w fr act t) : RelV G w (earg fr a) (act.eval b) := by
  unfold argOk at h
  split at h
  · rename_i t u
    simp only [beq_iff_eq] at h
    subst h
    exact (hs t (by simp [argTmp])).1.uf
  · rename_i f g
    simp only [beq_iff_eq] at h
    subst h
    exact .fn f [] [] #[] #[] rfl rfl (by simp) (by simp)
  · exact constOk_rel h
  · rename_i g hh
    simp only [beq_iff_eq] at h
    subst h
    exact .gptr g
  · simp at h
theorem earg_noFlag {a : XArg} {b : Operand} (h : argOk a b = true) : noFlag (earg fr a) := by
  unfold argOk at h
  split at h
  · exact noFlag_uf _
  · trivial
  · exact constOk_noFlag h
  · trivial
  · simp at h
end

/-! ### numbers -/
theorem wr_eq (k : IntKind) (n : Int) : k.wrap n = wr k n := by
  cases k <;> simp [IntKind.wrap, wr, IntKind.bits, IntKind.signed]
theorem bitsOf_eq (k : IntKind) : bitsOf k = k.bits := by cases k <;> rfl

/-! ### what an operation comes to -/
def Gives (P : Program) (G : Gh) (w : World) (act : Act) (o : Oper) (v : AV) : Prop :=
  ∃ y, (execOp act.eval o).run P w = .ok (.value y) w ∧ RelV G w v y
section
variable {P : Program} {G : Gh} {w : World} {fr : List AV} {act : Act} {o : Oper}

theorem run_typeInfo {t : TypeId} {i : TypeInfo} (h : P.info? t = some i) : (typeInfo t).run P w = .ok i w := by simp [typeInfo, h]
theorem run_underlying' {t : TypeId} {i : TypeDesc} (h : P.underlying t = some i) : (underlying t).run P w = .ok i w := by simp [underlying, h]
theorem run_sizeOf' {t : TypeId} {i : TypeInfo} (h : P.info? t = some i) : (sizeOf t).run P w = .ok i.size w := by simp [sizeOf, typeInfo, h]
theorem run_isAgg' {t : TypeId} {d : TypeDesc} (h : P.underlying t = some d) :
    (isAgg t).run P w = .ok (match d with | .struct _ => true | .array _ _ => true | _ => false) w := by
  simp only [isAgg, Sem.run_bind, run_underlying' h, Result.andThen_ok]
  cases d <;> rfl

theorem gives_mov {a : XArg} {b : Operand} (h : argOk a b = true) (ho : o.op = .move b ∨ o.op = .assign b) (hs : ∀ t ∈ argTmp a, RelS G w fr act t) :
    Gives P G w act o (earg fr a) := by
  refine ⟨act.eval b, ?_, arg_rel h hs⟩
  rcases ho with ho | ho <;> simp [execOp, ho]
theorem gives_own {s : Nat} (ho : o.op = .move (.tmp s) ∨ o.op = .assign (.tmp s)) :
    (execOp act.eval o).run P w = .ok (.value (act.tmps.getD s undef)) w := by
  rcases ho with ho | ho <;> simp [execOp, ho, Act.eval]
theorem gives_pick {c a b : XArg} {c' a' b' : Operand} {t : Bool} (hc : argOk c c' = true) (ha : argOk a a' = true) (hb : argOk b b' = true) (ho : o.op = .pick c' a' b')
    (hs : ∀ t ∈ argTmp c ++ argTmp a ++ argTmp b, RelS G w fr act t) (he : earg fr c = .bool t) : Gives P G w act o (if t then earg fr a else earg fr b) := by
  have h1 := arg_rel (w := w) (G := G) (fr := fr) (act := act) hc (fun t ht => hs t (by simp [ht]))
  rw [he] at h1
  cases h : act.eval c' <;> rw [h] at h1 <;> cases h1
  cases t
  · exact ⟨act.eval b', by simp [execOp, ho, Go.asBool, h], arg_rel hb (fun t ht => hs t (by simp [ht]))⟩
  · exact ⟨act.eval a', by simp [execOp, ho, Go.asBool, h], arg_rel ha (fun t ht => hs t (by simp [ht]))⟩

def xbin : XBin → BinOp
  | .add => .add | .sub => .sub | .mul => .mul | .quo => .quo | .rem => .rem | .and => .and | .or => .or | .xor => .xor | .andNot => .andNot
  | .shl => .shl | .shr => .shr | .eql => .eql | .neq => .neq | .lss => .lss | .leq => .leq | .gtr => .gtr | .geq => .geq
theorem bless_eq : ∀ x y : List UInt8, bless x y = Op.bytesLess x y
  | _, [] => by simp [bless, Op.bytesLess]
  | [], _ :: _ => by simp [bless, Op.bytesLess]
  | a :: x, b :: y => by simp [bless, Op.bytesLess, bless_eq x y]
def toV : AV → Value
  | .int k n => .int k n
  | .bool b => .bool b
  | .str s => .string ⟨s.toArray⟩
  | _ => Go.undef
def isNB : AV → Prop
  | .int _ _ | .bool _ | .str _ => True
  | _ => False
theorem toV_rel {v : AV} (h : isNB v) : RelV G w v (toV v) := by
  cases v <;> simp [isNB] at h
  · exact .bool _
  · exact .int _ _
  · rename_i s
    have := RelV.str (G := G) (w := w) ⟨s.toArray⟩
    simpa [toV] using this
theorem ints_run {k : IntKind} {b : XBin} {x y : Int} {v : AV} (h : ints k b x y = some v) (hk : b ≠ .shl ∧ b ≠ .shr) (T : TypeId) :
    (binOp (xbin b) T (.int k x) (.int k y)).run P w = .ok (toV v) w ∧ isNB v := by
  cases b
  case add => injection h with h; subst h; exact ⟨by simp [binOp, xbin, Op.intArith, wr_eq, toV], trivial⟩
  case sub => injection h with h; subst h; exact ⟨by simp [binOp, xbin, Op.intArith, wr_eq, toV], trivial⟩
  case mul => injection h with h; subst h; exact ⟨by simp [binOp, xbin, Op.intArith, wr_eq, toV], trivial⟩
  case quo =>
    simp only [ints] at h
    split at h
    · cases h
    · rename_i h1; injection h with h; subst h; exact ⟨by simp [binOp, xbin, Op.intDiv, h1, wr_eq, toV], trivial⟩
  case rem =>
    simp only [ints] at h
    split at h
    · cases h
    · rename_i h1; injection h with h; subst h; exact ⟨by simp [binOp, xbin, Op.intDiv, h1, wr_eq, toV], trivial⟩
  case and => injection h with h; subst h; cases k <;> exact ⟨by simp [binOp, xbin, Op.intBits, wr_eq, toV, IntKind.bits, bitsOf]; rfl, trivial⟩
  case or => injection h with h; subst h; cases k <;> exact ⟨by simp [binOp, xbin, Op.intBits, wr_eq, toV, IntKind.bits, bitsOf]; rfl, trivial⟩
  case xor => injection h with h; subst h; cases k <;> exact ⟨by simp [binOp, xbin, Op.intBits, wr_eq, toV, IntKind.bits, bitsOf]; rfl, trivial⟩
  case andNot => injection h with h; subst h; cases k <;> exact ⟨by simp [binOp, xbin, Op.intBits, wr_eq, toV, IntKind.bits, bitsOf]; rfl, trivial⟩
  case shl => exact absurd rfl hk.1
  case shr => exact absurd rfl hk.2
  case eql => injection h with h; subst h; exact ⟨by simp [binOp, xbin, Op.intCmp, toV], trivial⟩
  case neq => injection h with h; subst h; exact ⟨by simp [binOp, xbin, Op.intCmp, toV], trivial⟩
  case lss => injection h with h; subst h; exact ⟨by simp [binOp, xbin, Op.intCmp, toV], trivial⟩
  case leq => injection h with h; subst h; exact ⟨by simp [binOp, xbin, Op.intCmp, toV], trivial⟩
  case gtr => injection h with h; subst h; exact ⟨by simp [binOp, xbin, Op.intCmp, toV], trivial⟩
  case geq => injection h with h; subst h; exact ⟨by simp [binOp, xbin, Op.intCmp, toV], trivial⟩
theorem shift_run {k k' : IntKind} {b : XBin} {x y : Int} {v : AV} (h : ints k b x y = some v) (hk : b = .shl ∨ b = .shr) (T : TypeId) :
    (binOp (xbin b) T (.int k x) (.int k' y)).run P w = .ok (toV v) w ∧ isNB v := by
  rcases hk with rfl | rfl <;> simp only [ints] at h <;> split at h
  · cases h
  · rename_i h1; injection h with h; subst h; exact ⟨by simp [binOp, xbin, Op.shift, show ¬ y < 0 from h1, wr_eq, bitsOf_eq, toV], trivial⟩
  · cases h
  · rename_i h1; injection h with h; subst h; exact ⟨by simp [binOp, xbin, Op.shift, show ¬ y < 0 from h1, wr_eq, bitsOf_eq, toV], trivial⟩
theorem strs_run {b : XBin} {x y : ByteArray} {v : AV} (h : strs b x.data.toList y.data.toList = some v) (T : TypeId) :
    (binOp (xbin b) T (.string x) (.string y)).run P w = .ok (toV v) w ∧ isNB v := by
  cases b <;> simp only [strs] at h <;> first
    | (cases h; done)
    | (injection h with h; subst h; refine ⟨?_, trivial⟩; simp [binOp, xbin, Op.stringOp, ByteArray.toList_eq, bless_eq, toV]; done)
    | skip
  split at h
  · rename_i h1
    injection h with h; subst h
    refine ⟨?_, trivial⟩
    have e : IntKind.i64.max = 9223372036854775807 := rfl
    have e1 : x.size = x.data.toList.length := Array.length_toList.symm
    have e2 : y.size = y.data.toList.length := Array.length_toList.symm
    have hm : ¬ (((x.size + y.size : Nat) : Int) > IntKind.i64.max) := by rw [e, e1, e2]; omega
    simp only [binOp, xbin, Op.stringOp, if_neg hm, Sem.run_pure, toV]
    congr 2
  · cases h
theorem gives_bin {b : XBin} {x y : XArg} {x' y' : Operand} {T T2 : TypeId} {v : AV} (hx : argOk x x' = true) (hy : argOk y y' = true) (ho : o.op = .binOp (xbin b) T x' y' T2)
    (hs : ∀ t ∈ argTmp x ++ argTmp y, RelS G w fr act t) (he : binX b (earg fr x) (earg fr y) = some v) : Gives P G w act o v ∧ noFlag v := by
  have h1 := arg_rel (w := w) (G := G) (fr := fr) (act := act) hx (fun t ht => hs t (by simp [ht]))
  have h2 := arg_rel (w := w) (G := G) (fr := fr) (act := act) hy (fun t ht => hs t (by simp [ht]))
  have hn : ∀ v, isNB v → noFlag v := by intro v hv; cases v <;> simp [isNB] at hv <;> trivial
  unfold binX at he
  split at he
  · rename_i k n k' m e1 e2
    rw [e1] at h1; rw [e2] at h2
    cases h3 : act.eval x' <;> rw [h3] at h1 <;> cases h1
    cases h4 : act.eval y' <;> rw [h4] at h2 <;> cases h2
    have hg : (eqGuard (xbin b) T x' y' (.int k n) (.int k' m)).run P w = .ok () w := by
      unfold eqGuard
      simp only [Sem.run_bind, Sem.run_ite]
      cases b <;> simp [xbin]
    have key : (binOp (xbin b) T (.int k n) (.int k' m)).run P w = .ok (toV v) w ∧ isNB v := by
      split at he
      · rename_i hk
        by_cases hb : b = .shl ∨ b = .shr
        · exact shift_run he hb T
        · have : k = k' := by rcases hk with h | h | h <;> first | exact h | exact absurd (by simp [h]) hb
          subst this
          exact ints_run he (by simpa using hb) T
      · cases he
    exact ⟨⟨_, by simp only [execOp, ho, h3, h4, Sem.run_bind, hg, key.1, Result.andThen_ok, Sem.run_pure], toV_rel key.2⟩, hn _ key.2⟩
  · rename_i s t e1 e2
    rw [e1] at h1; rw [e2] at h2
    cases h3 : act.eval x' <;> rw [h3] at h1 <;> cases h1
    cases h4 : act.eval y' <;> rw [h4] at h2 <;> cases h2
    rename_i a c
    have hg : (eqGuard (xbin b) T x' y' (.string a) (.string c)).run P w = .ok () w := by
      unfold eqGuard
      simp only [Sem.run_bind, Sem.run_ite]
      cases b <;> simp [xbin]
    have key := strs_run (P := P) (w := w) he T
    exact ⟨⟨_, by simp only [execOp, ho, h3, h4, Sem.run_bind, hg, key.1, Result.andThen_ok, Sem.run_pure], toV_rel key.2⟩, hn _ key.2⟩
  · cases he
theorem eqGuard_pure {op : BinOp} {T : TypeId} {x y : Operand} {a b : Value} (h : ¬ (a = .nilIface ∧ b = .nilIface)) (h2 : ∀ l m, ¬ (a = .agg l ∧ b = .agg m)) :
    (eqGuard op T x y a b).run P w = .ok () w := by
  cases op <;> first
    | rfl
    | (cases a <;> cases b <;> first | rfl | exact absurd ⟨rfl, rfl⟩ h | exact absurd ⟨rfl, rfl⟩ (h2 _ _))
theorem run_equal {T : TypeId} {x y : Value} {r : Bool} (h : ∀ d, (Op.equalIn (d + 1) T x y).run P w = .ok r w) : (Op.equal T x y).run P w = .ok r w := h 9999
theorem gives_beq {n : Bool} {x y : XArg} {x' y' : Operand} {T T2 : TypeId} {a b : Bool} (hx : argOk x x' = true) (hy : argOk y y' = true)
    (ho : o.op = .binOp (if n then .neq else .eql) T x' y' T2) (hT : P.underlying T = some .bool)
    (hs : ∀ t ∈ argTmp x ++ argTmp y, RelS G w fr act t) (he : earg fr x = .bool a) (hf : earg fr y = .bool b) : Gives P G w act o (.bool ((a == b) != n)) := by
  have h1 := arg_rel (w := w) (G := G) (fr := fr) (act := act) hx (fun t ht => hs t (by simp [ht]))
  have h2 := arg_rel (w := w) (G := G) (fr := fr) (act := act) hy (fun t ht => hs t (by simp [ht]))
  rw [he] at h1; rw [hf] at h2
  cases h3 : act.eval x' <;> rw [h3] at h1 <;> cases h1
  cases h4 : act.eval y' <;> rw [h4] at h2 <;> cases h2
  have hq : (Op.equal T (.bool a) (.bool b)).run P w = .ok (a == b) w := by
    refine run_equal fun d => ?_
    simp only [Op.equalIn, Sem.run_bind, run_underlying' hT, Result.andThen_ok, Sem.run_pure]
  have hg : ∀ op, (eqGuard op T x' y' (.bool a) (.bool b)).run P w = .ok () w := fun op => eqGuard_pure (by simp) (by simp)
  cases n
  · exact ⟨.bool (a == b), by simp only [execOp, ho, h3, h4, Sem.run_bind, hg, Bool.false_eq_true, if_false, binOp, hq, Result.andThen_ok, Sem.run_pure], by cases a <;> cases b <;> exact .bool _⟩
  · exact ⟨.bool (!(a == b)), by simp only [execOp, ho, h3, h4, Sem.run_bind, hg, if_true, binOp, hq, Result.andThen_ok, Sem.run_pure], by cases a <;> cases b <;> exact .bool _⟩
theorem gives_not {x : XArg} {x' : Operand} {T : TypeId} {a : Bool} (hx : argOk x x' = true) (ho : o.op = .unOp .not T x') (hs : ∀ t ∈ argTmp x, RelS G w fr act t)
    (he : earg fr x = .bool a) : Gives P G w act o (.bool !a) := by
  have h1 := arg_rel (w := w) (G := G) hx hs
  rw [he] at h1
  cases h3 : act.eval x' <;> rw [h3] at h1 <;> cases h1
  exact ⟨.bool !a, by simp [execOp, ho, h3, Op.unary], .bool _⟩
theorem gives_neg {x : XArg} {x' : Operand} {T : TypeId} {k : IntKind} {n : Int} (hx : argOk x x' = true) (ho : o.op = .unOp .neg T x') (hs : ∀ t ∈ argTmp x, RelS G w fr act t)
    (he : earg fr x = .int k n) : Gives P G w act o (.int k (wr k (0 - n))) := by
  have h1 := arg_rel (w := w) (G := G) hx hs
  rw [he] at h1
  cases h3 : act.eval x' <;> rw [h3] at h1 <;> cases h1
  exact ⟨.int k (wr k (0 - n)), by simp [execOp, ho, h3, Op.unary, Op.intArith, wr_eq], .int _ _⟩
theorem gives_conv {k : IntKind} {x : XArg} {x' : Operand} {S D : TypeId} {j : IntKind} {n : Int} {sd : TypeDesc} (hx : argOk x x' = true) (ho : o.op = .convert S D x') (hS : P.underlying S = some sd)
    (hD : P.underlying D = some (.int k)) (hs : ∀ t ∈ argTmp x, RelS G w fr act t) (he : earg fr x = .int j n) : Gives P G w act o (.int k (wr k n)) := by
  have h1 := arg_rel (w := w) (G := G) hx hs
  rw [he] at h1
  cases h3 : act.eval x' <;> rw [h3] at h1 <;> cases h1
  refine ⟨.int k (wr k n), ?_, .int _ _⟩
  simp only [execOp, ho, h3, convert, Sem.run_bind, run_underlying' hS, run_underlying' hD, Result.andThen_ok]
  simp [Conv.intToInt, wr_eq]
theorem gives_mkif {x : XArg} {x' : Operand} {T : TypeId} {d : TypeDesc} (hx : argOk x x' = true) (ho : o.op = .makeInterface T x') (hT : P.underlying T = some d) (hd : ∀ ms, d ≠ .interface ms)
    (hs : ∀ t ∈ argTmp x, RelS G w fr act t) : Gives P G w act o (.ifc T (earg fr x)) := by
  have h1 := arg_rel (w := w) (G := G) hx hs
  refine ⟨.iface T (act.eval x'), ?_, .ifc _ _ _ h1⟩
  simp only [execOp, ho, Instr.makeInterface, Sem.run_bind, run_underlying' hT, Result.andThen_ok]
  cases d <;> first | rfl | exact absurd rfl (hd _)
theorem gives_ext {s i : Nat} {T : Operand} {vs : List AV} {v : AV} (ho : o.op = .extract (.tmp s) i) (hs : RelS G w fr act s) (he : fget fr s = .tup vs) (hi : vs[i]? = some v) :
    Gives P G w act o (uf v) := by
  have h1 := hs.1
  rw [he] at h1
  cases h3 : act.tmps.getD s undef <;> rw [h3] at h1 <;> cases h1
  rename_i xs hl hr
  have hlt := (List.getElem?_eq_some_iff.1 hi).1
  obtain ⟨x, hx⟩ : ∃ x, xs[i]? = some x := ⟨xs[i]'(by omega), by simp⟩
  refine ⟨x, ?_, (hr i v x hi hx).uf⟩
  have : act.eval (.tmp s) = .tuple xs := h3
  simp [execOp, ho, this, Instr.extract, hx]
theorem gives_exth {s i : Nat} {z : Nat} {cs : List AV} {es : List (List AV)} {v : AV} (ho : o.op = .extract (.tmp s) i) (hs : RelS G w fr act s) (he : fget fr s = .lst .uniq z (cs :: es)) (hz : 1000 ≤ z) (h1 : 1 ≤ i) (hi : cs[i - 1]? = some v) :
    Gives P G w act o (uf v) := by
  have h2 := hs.2
  rw [he] at h2
  obtain ⟨z', es', x', hv, _⟩ := h2
  rcases hv with ⟨h, _⟩ | ⟨_, _, cs2, xs, h3, h4, h5, h6, h7, h8⟩
  · exact absurd h (by omega)
  · injection h3 with h3a h3b
    subst h3a
    have hlt := (List.getElem?_eq_some_iff.1 hi).1
    obtain ⟨j, rfl⟩ : ∃ j, i = j + 1 := ⟨i - 1, by omega⟩
    rw [Nat.add_sub_cancel] at hi hlt
    obtain ⟨x, hx⟩ : ∃ x, xs[j + 1]? = some x := ⟨xs[j + 1]'(by omega), by simp⟩
    refine ⟨x, ?_, (h8 j v x hi hx).2.uf⟩
    have : act.eval (.tmp s) = .tuple xs := h4
    simp [execOp, ho, this, Instr.extract, hx]
end
end Go.Proofs.YtjbgceogkgpjpaaGreatDoor.Sx
namespace Go.Proofs.YtjbgceogkgpjpaaGreatDoor.Sx
open Go
section
variable {P : Program} {G : Gh} {w : World} {fr : List AV} {act : Act} {o : Oper}

def aggOf : TypeDesc → Bool
  | .struct _ => true
  | .array _ _ => true
  | _ => false
theorem run_isAgg2 {t : TypeId} {d : TypeDesc} (h : P.underlying t = some d) : (isAgg t).run P w = .ok (aggOf d) w := by
  rw [run_isAgg' h]
  cases d <;> rfl
theorem ldCells_noFlag {cs : List AV} {n : Nat} {agg : Bool} {v : AV} (h : ldCells cs n agg = some v) : noFlag v := by
  unfold ldCells at h
  split at h
  · split at h
    · injection h with h; subst h; trivial
    · split at h
      · injection h with h; subst h; exact noFlag_uf _
      · cases h
  · cases h
theorem add_eq (b o n : Nat) : (⟨b, o, none⟩ : Addr).add n = ⟨b, o + n, none⟩ := by
  unfold Addr.add
  split
  · simp_all
  · rfl
theorem ptr_form {r : Ref} {off : Nat} {y : Value} (h : RelV G w (.ptr r off) y) : ∃ b base, y = .pointer (some ⟨b, base + off, none⟩) ∧ G.m r = some (b, base) := by
  cases h with | ptr _ _ b base hm => exact ⟨b, base, rfl, hm⟩
theorem sl_form {r : Ref} {z off len : Nat} {y : Value} (h : RelV G w (.sl r z off len) y) : ∃ b base cap, y = .slice (some ⟨b, base + off, none⟩) len cap ∧ G.m r = some (b, base) ∧ len ≤ cap ∧
    ∃ cs T fz, w.heap[b]? = some (.cells cs T fz) ∧ base + off + cap * z ≤ cs.size := by
  cases h with | sl _ _ _ _ b base cap hm hl hs => exact ⟨b, base, cap, rfl, hm, hl, hs⟩
structure LstAt (G : Gh) (w : World) (z : Nat) (es : List (List AV)) (b o : Nat) (X : Nat → Nat → Value) : Prop where
  hc : Cov G w b (o + es.length * z)
  hz : ∀ (i : Nat) (e : List AV), es[i]? = some e → e.length = z
  hf : ∀ (i : Nat) (e : List AV) (j : Nat) (v : AV), es[i]? = some e → e[j]? = some v → refFree v = true
  hx : ∀ (i : Nat) (e : List AV) (j : Nat) (v : AV), es[i]? = some e → e[j]? = some v → w.cell? ⟨b, o + i * z + j, none⟩ = some (X i j)
  hr : ∀ (i : Nat) (e : List AV) (j : Nat) (v : AV), es[i]? = some e → e[j]? = some v → RelV G w v (X i j)
theorem lst_or {ow : Own} {z : Nat} {es : List (List AV)} {y : Value} (h : RelV G w (.lst ow z es) y) (hu : ow ≠ .uniq) :
    (∃ b o cap X, y = .slice (some ⟨b, o, none⟩) es.length cap ∧ es.length ≤ cap ∧ (ow = .tight → cap = es.length) ∧ LstAt G w z es b o X) ∨ (ow = .none ∧ es = [] ∧ ∃ a, y = .slice (some a) 0 0) := by
  cases h with
  | uniq => exact absurd rfl hu
  | lst _ _ _ b o cap X _ hl ht hc hz hf hx hr => exact .inl ⟨b, o, cap, X, rfl, hl, ht, hc, hz, hf, hx, hr⟩
  | emp z a => exact .inr ⟨rfl, rfl, a, rfl⟩
theorem lst_form {ow : Own} {z : Nat} {es : List (List AV)} {y : Value} (h : RelV G w (.lst ow z es) y) (hu : ow ≠ .uniq) (hn : 0 < es.length ∨ ow ≠ .none) :
    ∃ b o cap X, y = .slice (some ⟨b, o, none⟩) es.length cap ∧ es.length ≤ cap ∧ (ow = .tight → cap = es.length) ∧ LstAt G w z es b o X := by
  rcases lst_or h hu with h | ⟨h1, h2, _⟩
  · exact h
  · rcases hn with hn | hn
    · rw [h2] at hn; cases hn
    · exact absurd h1 hn
theorem lst_slice {ow : Own} {z : Nat} {es : List (List AV)} {y : Value} (h : RelV G w (.lst ow z es) y) (hu : ow ≠ .uniq) : ∃ a cap, y = .slice (some a) es.length cap := by
  rcases lst_or h hu with ⟨b, o, cap, X, h3, _⟩ | ⟨_, h2, a, h3⟩
  · exact ⟨_, _, h3⟩
  · exact ⟨a, 0, by rw [h3, h2]; rfl⟩
theorem noFlag_lst {ow : Own} {z : Nat} {es : List (List AV)} (h : noFlag (.lst ow z es)) : ow ≠ .own ∧ ow ≠ .uniq := by
  cases ow <;> simp [noFlag] at h ⊢
theorem elp_drop {cs : List AV} {b k off : Nat} (h : RelV G w (.elp cs) (.pointer (some ⟨b, k, none⟩))) (hle : off ≤ cs.length) :
    RelV G w (.elp (cs.drop off)) (.pointer (some ⟨b, k + off, none⟩)) := by
  cases h with
  | elp _ _ _ X hc hf' hx' hr =>
  refine .elp _ b (k + off) (fun j => X (off + j)) ⟨hc.1, ?_⟩ ?_ ?_ ?_
  · rcases hc.2 with h | ⟨g, h, hg⟩
    · exact .inl h
    · exact .inr ⟨g, h, by simp; omega⟩
  · intro j v hj; rw [List.getElem?_drop] at hj; exact hf' _ v hj
  · intro j v hj; rw [List.getElem?_drop] at hj; rw [Nat.add_assoc]; exact hx' _ v hj
  · intro j v hj; rw [List.getElem?_drop] at hj; exact hr _ v hj
theorem elp_form {cs : List AV} {y : Value} (h : RelV G w (.elp cs) y) : ∃ b k, y = .pointer (some ⟨b, k, none⟩) := by
  cases h with | elp _ b k X hc hf hx hr => exact ⟨b, k, rfl⟩
theorem gives_faddr {x : XArg} {x' : Operand} {S : TypeId} {j off : Nat} {fs : Array Field} {f : Field} {i : TypeInfo}
    (hx : argOk x x' = true) (ho : o.op = .fieldAddr S x' j) (hS : P.underlying S = some (.struct fs)) (hf : fs[j]? = some f) (hoff : f.offset = off)
    (hi : P.info? f.type = some i) (hn : i.size ≠ 0) (hs : ∀ t ∈ argTmp x, RelS G w fr act t) :
    (∀ r k, earg fr x = .ptr r k → Gives P G w act o (.ptr r (k + off))) ∧ (∀ cs, earg fr x = .elp cs → off ≤ cs.length → Gives P G w act o (.elp (cs.drop off))) := by
  have h1 := arg_rel (w := w) (G := G) hx hs
  subst hoff
  refine ⟨fun r k he => ?_, fun cs he hle => ?_⟩
  · rw [he] at h1
    obtain ⟨b, base, h3, hm⟩ := ptr_form h1
    refine ⟨.pointer (some ⟨b, base + (k + f.offset), none⟩), ?_, .ptr _ _ _ _ hm⟩
    simp only [execOp, ho, h3, Instr.fieldAt, Sem.run_bind, run_underlying' hS, Result.andThen_ok, hf, Instr.sureAddr, Sem.run_pure, fieldPlace, run_sizeOf' hi, if_neg hn, add_eq, Nat.add_assoc]
  · rw [he] at h1
    obtain ⟨b, k, h3⟩ := elp_form h1
    rw [h3] at h1
    refine ⟨_, ?_, elp_drop h1 hle⟩
    simp only [execOp, ho, h3, Instr.fieldAt, Sem.run_bind, run_underlying' hS, Result.andThen_ok, hf, Instr.sureAddr, Sem.run_pure, fieldPlace, run_sizeOf' hi, if_neg hn, add_eq]

/-! ### indexes -/
theorem asNat_rel {v : AV} {x : Value} {n : Nat} (h : asNat v = some n) (hr : RelV G w v x) : ∃ k, x = .int k n := by
  cases v <;> simp [asNat] at h
  rename_i k m
  cases hr
  obtain ⟨h1, h2⟩ := h
  exact ⟨k, by rw [← h2]; congr 1; omega⟩
theorem mul_lt_of {i n z : Nat} (h : i < n) : i * z + z ≤ n * z := by
  have := Nat.mul_le_mul_right z (Nat.succ_le_of_lt h)
  rw [Nat.succ_mul] at this
  exact this
theorem gives_iaddr {z : Nat} {x y : XArg} {x' y' : Operand} {T E : TypeId} {i : TypeInfo} {k : Nat} (hx : argOk x x' = true) (hy : argOk y y' = true) (ho : o.op = .indexAddr T x' y')
    (hT : P.underlying T = some (.slice E)) (hi : P.info? E = some i) (hz : i.size = z) (hs : ∀ t ∈ argTmp x ++ argTmp y, RelS G w fr act t) (hk : asNat (earg fr y) = some k) :
    (∀ ow es, earg fr x = .lst ow z es → k < es.length → Gives P G w act o (.elp (es.getD k []))) ∧
    (∀ r off len, earg fr x = .sl r z off len → k < len → Gives P G w act o (.ptr r (off + k * z))) := by
  have h1 := arg_rel (w := w) (G := G) (fr := fr) (act := act) hx (fun t ht => hs t (by simp [ht]))
  have h2 := arg_rel (w := w) (G := G) (fr := fr) (act := act) hy (fun t ht => hs t (by simp [ht]))
  obtain ⟨kk, h4⟩ := asNat_rel hk h2
  subst hz
  have key : ∀ (a : Addr) (len cap : Nat), act.eval x' = .slice (some a) len cap → k < len →
      (execOp act.eval o).run P w = .ok (.value (.pointer (some (a.add (k * i.size))))) w := by
    intro a len cap h3 hlt
    have hc : (0 ≤ (k : Int) ∧ (k : Int) < (len : Int)) := ⟨by omega, by omega⟩
    simp only [execOp, ho, h3, h4, Instr.indexAt, Go.asIntOf, Sem.run_bind, Sem.run_pure, run_underlying' hT, Result.andThen_ok, if_pos hc, run_sizeOf' hi, Int.toNat_natCast]
  refine ⟨fun ow es he hlt => ?_, fun r off len he hlt => ?_⟩
  · rw [he] at h1
    have hnf : noFlag (AV.lst ow i.size es) := he ▸ earg_noFlag hx
    obtain ⟨b, off, cap, X, h3, hl, ht, hc, hz', hf, hx', hr⟩ := lst_form h1 (noFlag_lst hnf).2 (.inl (by omega))
    refine ⟨_, key _ _ _ h3 hlt, ?_⟩
    rw [add_eq]
    have hke : es[k]? = some (es.getD k []) := by simp [List.getD, List.getElem?_eq_getElem hlt]
    have hlen := hz' k _ hke
    have hm := mul_lt_of (z := i.size) hlt
    refine .elp _ b _ (X k) ⟨hc.1, ?_⟩ ?_ ?_ ?_
    · rcases hc.2 with h | ⟨g, h, hg⟩
      · exact .inl h
      · exact .inr ⟨g, h, by omega⟩
    · exact fun j v hj => hf k _ j v hke hj
    · exact fun j v hj => hx' k _ j v hke hj
    · exact fun j v hj => hr k _ j v hke hj
  · rw [he] at h1
    obtain ⟨b, base, cap, h3, hm, hl, hs'⟩ := sl_form h1
    refine ⟨_, key _ _ _ h3 hlt, ?_⟩
    rw [add_eq, Nat.add_assoc]
    exact .ptr _ _ _ _ hm
theorem gives_idxs {x y : XArg} {x' y' : Operand} {T : TypeId} {s : List UInt8} {k : Nat} (hx : argOk x x' = true) (hy : argOk y y' = true) (ho : o.op = .index T x' y')
    (hT : P.underlying T = some .string) (hs : ∀ t ∈ argTmp x ++ argTmp y, RelS G w fr act t) (he : earg fr x = .str s) (hk : asNat (earg fr y) = some k) (hlt : k < s.length) :
    Gives P G w act o (.int .u8 (s.getD k 0).toNat) := by
  have h1 := arg_rel (w := w) (G := G) (fr := fr) (act := act) hx (fun t ht => hs t (by simp [ht]))
  have h2 := arg_rel (w := w) (G := G) (fr := fr) (act := act) hy (fun t ht => hs t (by simp [ht]))
  obtain ⟨kk, h4⟩ := asNat_rel hk h2
  rw [he] at h1
  cases h3 : act.eval x' <;> rw [h3] at h1 <;> cases h1
  rename_i q
  have eq : q.data.toList.length = q.size := Array.length_toList
  have hq : k < q.size := by omega
  refine ⟨.int .u8 q[k].toNat, ?_, ?_⟩
  · simp only [execOp, ho, h3, h4, Instr.index, Go.asIntOf, Sem.run_bind, Sem.run_pure, run_underlying' hT, Result.andThen_ok]
    simp [hq]
  · have : (q.data.toList.getD k 0).toNat = q[k].toNat := by
      rw [List.getD_eq_getElem?_getD, List.getElem?_eq_getElem hlt]
      rfl
    rw [this]
    exact .int _ _
/-! ### cuts -/
theorem sliceBound_run {k : IntKind} {n y : Nat} {c : BoundsCode} (h : n ≤ y) : (Instr.sliceBound (.int k (n : Int)) y c).run P w = .ok n w := by
  have hc : (0 ≤ (n : Int) ∧ (n : Int) ≤ (y : Int)) := ⟨by omega, by omega⟩
  simp only [Instr.sliceBound, Go.asIntOf, Sem.run_bind, Sem.run_pure, Result.andThen_ok, if_pos hc, Int.toNat_natCast]
theorem optNat_rel {a : Option XArg} {b : Option Operand} {d n : Nat} (h : optOk a b = true) (hs : ∀ x ∈ a, ∀ t ∈ argTmp x, RelS G w fr act t) (hn : optNat (a.map (earg fr)) d = some n) :
    (a = none ∧ b = none ∧ n = d) ∨ (∃ x y k, a = some x ∧ b = some y ∧ act.eval y = .int k (n : Int)) := by
  cases a <;> cases b <;> simp [optOk, optNat] at h hn
  · exact .inl ⟨rfl, rfl, hn.symm⟩
  · rename_i x y
    have h1 := arg_rel (w := w) (G := G) (fr := fr) (act := act) h (fun t ht => hs x rfl t ht)
    cases hx : earg fr x <;> rw [hx] at h1 hn <;> simp at hn
    rename_i k m
    obtain ⟨h2, h3⟩ := hn
    cases hy : act.eval y <;> rw [hy] at h1 <;> cases h1
    exact .inr ⟨x, y, k, rfl, rfl, by rw [hy, ← h3]; congr 1; omega⟩
theorem sliceBounds_run {isS : Bool} {len cap l h : Nat} {lo hi : Option XArg} {lo' hi' : Option Operand} (ho : optOk lo lo' = true) (hh : optOk hi hi' = true)
    (hs : ∀ x ∈ lo, ∀ t ∈ argTmp x, RelS G w fr act t) (hs2 : ∀ x ∈ hi, ∀ t ∈ argTmp x, RelS G w fr act t)
    (hl : optNat (lo.map (earg fr)) 0 = some l) (hhi : optNat (hi.map (earg fr)) len = some h) (h1 : l ≤ h) (h2 : h ≤ len) (h3 : len ≤ cap) :
    (Instr.sliceBounds isS len cap (lo'.map act.eval) (hi'.map act.eval) none).run P w = .ok (l, h, cap) w := by
  unfold Instr.sliceBounds
  rcases optNat_rel hh hs2 hhi with ⟨rfl, rfl, rfl⟩ | ⟨x, y, k, rfl, rfl, hy⟩ <;> rcases optNat_rel ho hs hl with ⟨rfl, rfl, rfl⟩ | ⟨x2, y2, k2, rfl, rfl, hy2⟩
  · simp only [Option.map_none, Sem.run_bind, Sem.run_pure, Result.andThen_ok]
  · simp only [Option.map_none, Option.map_some, Sem.run_bind, Sem.run_pure, Result.andThen_ok, hy2, sliceBound_run h1]
  · simp only [Option.map_none, Option.map_some, Sem.run_bind, Sem.run_pure, Result.andThen_ok, hy, sliceBound_run (Nat.le_trans h2 h3)]
  · simp only [Option.map_none, Option.map_some, Sem.run_bind, Sem.run_pure, Result.andThen_ok, hy, hy2, sliceBound_run (Nat.le_trans h2 h3), sliceBound_run h1]
theorem gives_sstr {x : XArg} {x' : Operand} {T : TypeId} {lo hi : Option XArg} {lo' hi' : Option Operand} {s : List UInt8} {l h : Nat} (hx : argOk x x' = true) (ho : o.op = .slice T x' lo' hi' none)
    (hT : P.underlying T = some .string) (hlo : optOk lo lo' = true) (hhi : optOk hi hi' = true) (hs0 : ∀ t ∈ argTmp x, RelS G w fr act t)
    (hs : ∀ x ∈ lo, ∀ t ∈ argTmp x, RelS G w fr act t) (hs2 : ∀ x ∈ hi, ∀ t ∈ argTmp x, RelS G w fr act t) (he : earg fr x = .str s)
    (hl : optNat (lo.map (earg fr)) 0 = some l) (hh : optNat (hi.map (earg fr)) s.length = some h) (h1 : l ≤ h) (h2 : h ≤ s.length) : Gives P G w act o (.str ((s.take h).drop l)) := by
  have hr := arg_rel (w := w) (G := G) hx hs0
  rw [he] at hr
  cases h3 : act.eval x' <;> rw [h3] at hr <;> cases hr
  rename_i q
  have hq : q.data.toList.length = q.size := Array.length_toList
  rw [hq] at hh h2
  have hb := sliceBounds_run (P := P) (isS := false) (cap := q.size) hlo hhi hs hs2 hl hh h1 h2 (Nat.le_refl _)
  refine ⟨.string (q.extract l h), ?_, ?_⟩
  · simp only [execOp, ho, h3, Instr.sliceAt, Instr.slice, Sem.run_bind, Sem.run_pure, run_underlying' hT, Result.andThen_ok, Option.isSome_none, Bool.false_eq_true, if_false, Option.map_none, hb]
  · have : (q.extract l h).data.toList = (q.data.toList.take h).drop l := by
      rw [ByteArray.data_extract]
      simp [Array.toList_extract, List.extract_eq_take_drop, List.drop_take]
    rw [← this]
    exact .str _
end
end Go.Proofs.YtjbgceogkgpjpaaGreatDoor.Sx
namespace Go.Proofs.YtjbgceogkgpjpaaGreatDoor.Sx
open Go
section
variable {P : Program} {G : Gh} {w : World} {fr : List AV} {act : Act} {o : Oper}

theorem cut_get {es : List (List AV)} {l h i : Nat} {e : List AV} (he : ((es.take h).drop l)[i]? = some e) : es[l + i]? = some e := by
  rw [List.getElem?_drop, List.getElem?_take] at he
  split at he
  · exact he
  · cases he
theorem lst_cut {z : Nat} {es : List (List AV)} {b q l h : Nat} {X : Nat → Nat → Value} (hA : LstAt G w z es b q X) (h1 : l ≤ h) (h2 : h ≤ es.length) :
    LstAt G w z ((es.take h).drop l) b (q + l * z) (fun i j => X (l + i) j) := by
  have hlen : ((es.take h).drop l).length = h - l := by simp; omega
  have hm : q + l * z + (h - l) * z ≤ q + es.length * z := by
    have : l * z + (h - l) * z = h * z := by rw [← Nat.add_mul]; congr 1; omega
    have := Nat.mul_le_mul_right z h2
    omega
  refine ⟨⟨hA.hc.1, ?_⟩, fun i e he => hA.hz _ e (cut_get he), fun i e j v he hv => hA.hf _ e j v (cut_get he) hv, fun i e j v he hv => ?_, fun i e j v he hv => hA.hr _ e j v (cut_get he) hv⟩
  · rcases hA.hc.2 with h | ⟨g, h, hg⟩
    · exact .inl h
    · exact .inr ⟨g, h, by rw [hlen]; omega⟩
  · rw [← hA.hx _ e j v (cut_get he) hv]
    congr 2
    rw [Nat.add_mul]; omega
theorem lst_nil {z : Nat} {es : List (List AV)} {b q : Nat} {X : Nat → Nat → Value} (hA : LstAt G w z es b q X) : LstAt G w z [] b q X := by
  refine ⟨⟨hA.hc.1, ?_⟩, by simp, by simp, by simp, by simp⟩
  rcases hA.hc.2 with h | ⟨g, h, hg⟩
  · exact .inl h
  · exact .inr ⟨g, h, by simp; omega⟩
theorem LstAt.rel {z : Nat} {es : List (List AV)} {b q cap : Nat} {X : Nat → Nat → Value} {ow : Own} (hA : LstAt G w z es b q X) (hu : ow ≠ .uniq) (hl : es.length ≤ cap) (ht : ow = .tight → cap = es.length) :
    RelV G w (.lst ow z es) (.slice (some ⟨b, q, none⟩) es.length cap) := .lst ow z es b q cap X hu hl ht hA.hc hA.hz hA.hf hA.hx hA.hr
theorem gives_ssl {x : XArg} {x' : Operand} {T E : TypeId} {i : TypeInfo} {lo hi : Option XArg} {lo' hi' : Option Operand} {ow : Own} {z : Nat} {es : List (List AV)} {l h : Nat} (hx : argOk x x' = true)
    (ho : o.op = .slice T x' lo' hi' none) (hT : P.underlying T = some (.slice E)) (hi0 : P.info? E = some i) (hz : i.size = z) (hlo : optOk lo lo' = true) (hhi : optOk hi hi' = true)
    (hs0 : ∀ t ∈ argTmp x, RelS G w fr act t) (hs : ∀ x ∈ lo, ∀ t ∈ argTmp x, RelS G w fr act t) (hs2 : ∀ x ∈ hi, ∀ t ∈ argTmp x, RelS G w fr act t) (he : earg fr x = .lst ow z es)
    (hl : optNat (lo.map (earg fr)) 0 = some l) (hh : optNat (hi.map (earg fr)) es.length = some h) (h1 : l ≤ h) (h2 : h ≤ es.length) :
    Gives P G w act o (.lst (if ow = .tight ∧ hi.isNone then .tight else .none) z ((es.take h).drop l)) := by
  have hr := arg_rel (w := w) (G := G) hx hs0
  rw [he] at hr
  have hnf : noFlag (AV.lst ow z es) := he ▸ earg_noFlag hx
  rcases lst_or hr (noFlag_lst hnf).2 with ⟨b, q, cap, X, h3, hcap, htight, hA⟩ | ⟨rfl, rfl, a0, h3⟩
  case inr =>
    have hh0 : h = 0 := by simpa using h2
    subst hh0
    have hl0 : l = 0 := by omega
    subst hl0
    have hb := sliceBounds_run (P := P) (isS := true) (cap := 0) hlo hhi hs hs2 hl hh h1 h2 (Nat.le_refl 0)
    refine ⟨.slice (some a0) 0 0, ?_, ?_⟩
    · simp only [List.length_nil] at hb
      simp only [execOp, ho, h3, Instr.sliceAt, Instr.slice, Sem.run_bind, Sem.run_pure, run_underlying' hT, Result.andThen_ok, Option.map_none, hb, run_sizeOf' hi0, Option.map_some, add_eq]
      simp
    · simpa using RelV.emp z a0
  have hb := sliceBounds_run (P := P) (isS := true) (cap := cap) hlo hhi hs hs2 hl hh h1 h2 hcap
  have hlen : ((es.take h).drop l).length = h - l := by simp; omega
  have hrun : (execOp act.eval o).run P w = .ok (.value (.slice (if cap = l then some ⟨b, q, none⟩ else some ⟨b, q + l * z, none⟩) (h - l) (cap - l))) w := by
    subst hz
    simp only [execOp, ho, h3, Instr.sliceAt, Instr.slice, Sem.run_bind, Sem.run_pure, run_underlying' hT, Result.andThen_ok, Option.map_none, hb, run_sizeOf' hi0, Option.map_some, add_eq]
  refine ⟨_, hrun, ?_⟩
  have hne : (if ow = .tight ∧ hi.isNone = true then Own.tight else Own.none) ≠ .uniq := by split <;> simp
  have hti : (if ow = .tight ∧ hi.isNone = true then Own.tight else Own.none) = .tight → cap - l = h - l := by
    split
    · rename_i hc
      intro _
      have : hi = none := by simpa using hc.2
      subst this
      simp [optNat] at hh
      rw [htight hc.1, hh]
    · intro h; cases h
  by_cases hcl : cap = l
  · rw [if_pos hcl]
    have hz0 : (es.take h).drop l = [] := List.eq_nil_of_length_eq_zero (by omega)
    have hl0 : h - l = 0 := by omega
    rw [hz0, hl0]
    rw [hl0] at hti
    exact (lst_nil hA).rel hne (by simp) hti
  · rw [if_neg hcl, ← hlen]
    rw [← hlen] at hti
    exact (lst_cut hA h1 h2).rel hne (by omega) hti
theorem gives_ssl3 {x m : XArg} {x' m' y' : Operand} {T E : TypeId} {i : TypeInfo} {lo : Option XArg} {y : XArg} {lo' : Option Operand} {ow : Own} {z : Nat} {es : List (List AV)} {l h : Nat} (hx : argOk x x' = true)
    (hy : argOk y y' = true) (hm : argOk m m' = true)
    (ho : o.op = .slice T x' lo' (some y') (some m')) (hT : P.underlying T = some (.slice E)) (hi0 : P.info? E = some i) (hz : i.size = z) (hlo : optOk lo lo' = true)
    (hs0 : ∀ t ∈ argTmp x ++ argTmp y ++ argTmp m, RelS G w fr act t) (hs : ∀ x ∈ lo, ∀ t ∈ argTmp x, RelS G w fr act t) (he : earg fr x = .lst ow z es)
    (hl : optNat (lo.map (earg fr)) 0 = some l) (hh : optNat (some (earg fr y)) es.length = some h) (hmm : optNat (some (earg fr m)) 0 = some h) (h1 : l ≤ h) (h2 : h ≤ es.length) (hne : es ≠ []) :
    Gives P G w act o (.lst .tight z ((es.take h).drop l)) := by
  have hr := arg_rel (w := w) (G := G) (fr := fr) (act := act) hx (fun t ht => hs0 t (by simp [ht]))
  rw [he] at hr
  have hnf : noFlag (AV.lst ow z es) := he ▸ earg_noFlag hx
  obtain ⟨b, q, cap, X, h3, hcap, htight, hA⟩ := lst_form hr (noFlag_lst hnf).2 (.inl (List.length_pos_iff.2 hne))
  have hlen : ((es.take h).drop l).length = h - l := by simp; omega
  obtain ⟨k1, e1⟩ : ∃ k, act.eval y' = .int k (h : Int) := by
    rcases optNat_rel (a := some y) (b := some y') (d := es.length) (n := h) (G := G) (w := w) (fr := fr) (act := act) hy (fun x hx t ht => hs0 t (by cases hx; simp [ht])) hh with ⟨h, _⟩ | ⟨x, y, k, h4, h5, h6⟩
    · cases h
    · cases h5; exact ⟨k, h6⟩
  obtain ⟨k2, e2⟩ : ∃ k, act.eval m' = .int k (h : Int) := by
    rcases optNat_rel (a := some m) (b := some m') (d := 0) (n := h) (G := G) (w := w) (fr := fr) (act := act) hm (fun x hx t ht => hs0 t (by cases hx; simp [ht])) hmm with ⟨h, _⟩ | ⟨x, y, k, h4, h5, h6⟩
    · cases h
    · cases h5; exact ⟨k, h6⟩
  have hb : (Instr.sliceBounds true es.length cap (lo'.map act.eval) (some (act.eval y')) (some (act.eval m'))).run P w = .ok (l, h, h) w := by
    unfold Instr.sliceBounds
    rcases optNat_rel hlo hs hl with ⟨rfl, rfl, rfl⟩ | ⟨x2, y2, k3, rfl, rfl, hy2⟩
    · simp only [Option.map_none, Sem.run_bind, Sem.run_pure, Result.andThen_ok, e1, e2, sliceBound_run (Nat.le_trans h2 hcap), sliceBound_run (Nat.le_refl h)]
    · simp only [Option.map_some, Sem.run_bind, Sem.run_pure, Result.andThen_ok, e1, e2, hy2, sliceBound_run (Nat.le_trans h2 hcap), sliceBound_run (Nat.le_refl h), sliceBound_run h1]
  have hrun : (execOp act.eval o).run P w = .ok (.value (.slice (if h = l then some ⟨b, q, none⟩ else some ⟨b, q + l * z, none⟩) (h - l) (h - l))) w := by
    subst hz
    simp only [execOp, ho, h3, Instr.sliceAt, Instr.slice, Sem.run_bind, Sem.run_pure, run_underlying' hT, Result.andThen_ok, Option.map_some, hb, run_sizeOf' hi0, add_eq]
  refine ⟨_, hrun, ?_⟩
  split
  · have hz0 : (es.take h).drop l = [] := List.eq_nil_of_length_eq_zero (by omega)
    have hl0 : h - l = 0 := by omega
    rw [hz0, hl0]
    exact (lst_nil hA).rel (by simp) (by simp) (fun _ => rfl)
  · rw [← hlen]
    exact (lst_cut hA h1 h2).rel (by simp) (Nat.le_refl _) (fun _ => rfl)
theorem gives_sslnil {x : XArg} {x' : Operand} {T E : TypeId} {i : TypeInfo} {lo hi : Option XArg} {lo' hi' : Option Operand} (hx : argOk x x' = true)
    (ho : o.op = .slice T x' lo' hi' none) (hT : P.underlying T = some (.slice E)) (hi0 : P.info? E = some i) (hlo : optOk lo lo' = true) (hhi : optOk hi hi' = true)
    (hs0 : ∀ t ∈ argTmp x, RelS G w fr act t) (hs : ∀ x ∈ lo, ∀ t ∈ argTmp x, RelS G w fr act t) (hs2 : ∀ x ∈ hi, ∀ t ∈ argTmp x, RelS G w fr act t) (he : earg fr x = .nilsl)
    (hl : optNat (lo.map (earg fr)) 0 = some 0) (hh : optNat (hi.map (earg fr)) 0 = some 0) : Gives P G w act o .nilsl := by
  have hr := arg_rel (w := w) (G := G) hx hs0
  rw [he] at hr
  cases h3 : act.eval x' <;> rw [h3] at hr <;> cases hr
  have hb := sliceBounds_run (P := P) (isS := true) (len := 0) (cap := 0) hlo hhi hs hs2 hl hh (Nat.le_refl _) (Nat.le_refl _) (Nat.le_refl _)
  refine ⟨.slice none 0 0, ?_, .nilsl⟩
  simp only [execOp, ho, h3, Instr.sliceAt, Instr.slice, Sem.run_bind, Sem.run_pure, run_underlying' hT, Result.andThen_ok, Option.map_none, hb, run_sizeOf' hi0, Nat.sub_self, if_true]
theorem gives_sslsl {x : XArg} {x' : Operand} {T E : TypeId} {i : TypeInfo} {lo hi : Option XArg} {lo' hi' : Option Operand} {r : Ref} {z off len l h : Nat} (hx : argOk x x' = true)
    (ho : o.op = .slice T x' lo' hi' none) (hT : P.underlying T = some (.slice E)) (hi0 : P.info? E = some i) (hz : i.size = z) (hlo : optOk lo lo' = true) (hhi : optOk hi hi' = true)
    (hs0 : ∀ t ∈ argTmp x, RelS G w fr act t) (hs : ∀ x ∈ lo, ∀ t ∈ argTmp x, RelS G w fr act t) (hs2 : ∀ x ∈ hi, ∀ t ∈ argTmp x, RelS G w fr act t) (he : earg fr x = .sl r z off len)
    (hl : optNat (lo.map (earg fr)) 0 = some l) (hh : optNat (hi.map (earg fr)) len = some h) (h1 : l ≤ h) (h2 : h ≤ len) (hpos : l < len ∨ l = 0) :
    Gives P G w act o (.sl r z (off + l * z) (h - l)) := by
  have hr := arg_rel (w := w) (G := G) hx hs0
  rw [he] at hr
  obtain ⟨b, base, cap, h3, hm, hcap, cs, T', fz, hc1, hc2⟩ := sl_form hr
  have hb := sliceBounds_run (P := P) (isS := true) (cap := cap) hlo hhi hs hs2 hl hh h1 h2 hcap
  have hrun : (execOp act.eval o).run P w = .ok (.value (.slice (if cap = l then some ⟨b, base + off, none⟩ else some ⟨b, base + off + l * z, none⟩) (h - l) (cap - l))) w := by
    subst hz
    simp only [execOp, ho, h3, Instr.sliceAt, Instr.slice, Sem.run_bind, Sem.run_pure, run_underlying' hT, Result.andThen_ok, Option.map_none, hb, run_sizeOf' hi0, Option.map_some, add_eq]
  refine ⟨_, hrun, ?_⟩
  have hsum : l * z + (cap - l) * z = cap * z := by rw [← Nat.add_mul]; congr 1; omega
  have e : (if cap = l then (some ⟨b, base + off, none⟩ : Option Addr) else some ⟨b, base + off + l * z, none⟩) = some ⟨b, base + (off + l * z), none⟩ := by
    split
    · have : l = 0 := by omega
      subst this; simp
    · rw [Nat.add_assoc]
  rw [e]
  exact .sl r z (off + l * z) (h - l) b base (cap - l) hm (by omega) ⟨cs, T', fz, hc1, by omega⟩
/-! ### lengths, the greater and the smaller, carries -/
theorem call_builtin (b : Builtin) (args : Array Operand) (ts : Array TypeId) (ho : o.op = .call { callee := .builtin b, args := args, argTypes := ts }) :
    ∃ c, execOp act.eval o = builtin b ts o.type c (args.map act.eval) := by
  refine ⟨args.map fun | .const _ => true | _ => false, ?_⟩
  simp only [execOp, ho, resolve, invoke]
  rfl
def lenX : AV → Option Nat
  | .str s => some s.length
  | .lst o z es => if lenB o z = true then some es.length else none
  | .nilsl => some 0
  | .sl _ _ _ n => some n
  | .lenv n => some n
  | _ => none
theorem slot_slice {s : Nat} {ow : Own} {z : Nat} {es : List (List AV)} (hs : RelS G w fr act s) (he : fget fr s = .lst ow z es) (hl : lenB ow z = true) : ∃ a cap, act.tmps.getD s undef = .slice a es.length cap := by
  obtain ⟨h1, h2⟩ := hs
  rw [he] at h1 h2
  by_cases hu : ow = .uniq
  · subst hu
    obtain ⟨b, q, cap, hx, _⟩ := h2.small (of_decide_eq_true hl)
    exact ⟨_, cap, hx⟩
  · obtain ⟨a, cap, hx⟩ := lst_slice h1 hu
    exact ⟨_, cap, hx⟩
theorem raw_rel {a : XArg} {b : Operand} (h : argOk a b = true) (hs : ∀ t ∈ argTmp a, RelS G w fr act t) : RelV G w (rawArg fr a) (act.eval b) := by
  cases a with
  | tmp t =>
    cases b <;> simp [argOk] at h
    subst h
    exact (hs t (by simp [argTmp])).1
  | cst v => exact arg_rel (a := .cst v) h hs
  | glob g => exact arg_rel (a := .glob g) h hs
theorem gives_lens {x : XArg} {x' : Operand} {t : TypeId} {d : TypeDesc} {n : Nat} (hx : argOk x x' = true) (ho : o.op = .call { callee := .builtin .len, args := #[x'], argTypes := #[t] })
    (hT : P.underlying t = some d) (hd : (d = .string ∧ ∃ s, rawArg fr x = .str s) ∨ ((∃ e, d = .slice e) ∧ ∀ s, rawArg fr x ≠ .str s)) (hs : ∀ t ∈ argTmp x, RelS G w fr act t) (he : lenX (rawArg fr x) = some n) : Gives P G w act o (.int .i64 n) := by
  obtain ⟨c, hc⟩ := call_builtin (act := act) (o := o) _ _ _ ho
  have key : (Builtin.len_ #[t] o.type #[act.eval x']).run P w = .ok (goInt n) w := by
    have h1 := raw_rel (w := w) (G := G) hx hs
    simp only [Builtin.len_]
    rcases hd with ⟨rfl, s, hst⟩ | ⟨⟨e, rfl⟩, hst⟩
    · rw [hst] at h1 he
      simp [lenX] at he
      subst he
      cases h3 : act.eval x' <;> rw [h3] at h1 <;> cases h1
      rename_i q
      simp [run_underlying' hT, Array.length_toList]
    · cases hv : rawArg fr x <;> rw [hv] at h1 he <;> simp [lenX] at he
      · exact absurd hv (hst _)
      · cases h3 : act.eval x' <;> rw [h3] at h1 <;> cases h1
        subst he
        simp [run_underlying' hT]
      · obtain ⟨b, base, cap, h3, _⟩ := sl_form h1
        subst he
        simp [run_underlying' hT, h3]
      · rename_i ow z es
        obtain ⟨hlB, he⟩ := he
        have : ∃ a cap, act.eval x' = .slice a es.length cap := by
          cases x with
          | tmp s =>
            cases x' <;> simp [argOk] at hx
            subst hx
            exact slot_slice (hs s (by simp [argTmp])) hv hlB
          | cst v => simp only [rawArg] at hv; subst hv; cases x' <;> simp [argOk, constOk] at hx
          | glob g => simp [rawArg] at hv
        obtain ⟨a, cap, h3⟩ := this
        subst he
        simp [run_underlying' hT, h3]
      · cases h3 : act.eval x' <;> rw [h3] at h1 <;> cases h1
        subst he
        simp [run_underlying' hT]
  exact ⟨goInt n, by rw [hc]; simp [builtin, key], .int _ _⟩
theorem gives_mx {x y : XArg} {x' y' : Operand} {ts : Array TypeId} {k : IntKind} {a b : Int} (hx : argOk x x' = true) (hy : argOk y y' = true) (hs : ∀ t ∈ argTmp x ++ argTmp y, RelS G w fr act t)
    (he : earg fr x = .int k a) (hf : earg fr y = .int k b) :
    (o.op = .call { callee := .builtin .max, args := #[x', y'], argTypes := ts } → Gives P G w act o (.int k (if b > a then b else a))) ∧
    (o.op = .call { callee := .builtin .min, args := #[x', y'], argTypes := ts } → Gives P G w act o (.int k (if b < a then b else a))) := by
  have h1 := arg_rel (w := w) (G := G) (fr := fr) (act := act) hx (fun t ht => hs t (by simp [ht]))
  have h2 := arg_rel (w := w) (G := G) (fr := fr) (act := act) hy (fun t ht => hs t (by simp [ht]))
  rw [he] at h1; rw [hf] at h2
  cases h3 : act.eval x' <;> rw [h3] at h1 <;> cases h1
  cases h4 : act.eval y' <;> rw [h4] at h2 <;> cases h2
  refine ⟨fun ho => ?_, fun ho => ?_⟩
  · obtain ⟨c, hc⟩ := call_builtin (act := act) (o := o) _ _ _ ho
    exact ⟨.int k (if b > a then b else a), by rw [hc]; simp [builtin, Builtin.max_, Builtin.max2, h3, h4], .int _ _⟩
  · obtain ⟨c, hc⟩ := call_builtin (act := act) (o := o) _ _ _ ho
    exact ⟨.int k (if b < a then b else a), by rw [hc]; simp [builtin, Builtin.min_, Builtin.min2, h3, h4], .int _ _⟩
end
end Go.Proofs.YtjbgceogkgpjpaaGreatDoor.Sx
namespace Go.Proofs.YtjbgceogkgpjpaaGreatDoor.Sx
open Go
section
variable {P : Program} {G : Gh} {w : World} {fr : List AV} {act : Act} {o : Oper}

def nilKind : Nat → TypeDesc → Bool
  | 0, .interface _ => true
  | 1, .slice _ => true
  | 2, .pointer _ => true
  | _, _ => false
def nilConst : Nat → Value → Bool
  | 0, .nilIface => true
  | 1, .slice none n m => n == 0 && m == 0
  | 2, .pointer none => true
  | _, _ => false
theorem equal_nil {kd : Nat} {v : AV} {x c : Value} {r : Bool} {T : TypeId} {d : TypeDesc} (hT : P.underlying T = some d) (hk : nilKind kd d = true) (hc : nilConst kd c = true)
    (hr : RelV G w v x) (hn : isNil kd v = some r) : (Op.equal T x c).run P w = .ok r w := by
  refine run_equal fun e => ?_
  cases v <;> simp [isNil] at hn
  case nilif =>
    obtain ⟨rfl, rfl⟩ := hn
    cases hr
    cases d <;> simp [nilKind] at hk
    cases c <;> simp [nilConst] at hc
    simp only [Op.equalIn, Sem.run_bind, run_underlying' hT, Result.andThen_ok, Sem.run_pure]
  case ifc t v =>
    obtain ⟨rfl, rfl⟩ := hn
    cases hr
    cases d <;> simp [nilKind] at hk
    cases c <;> simp [nilConst] at hc
    simp only [Op.equalIn, Sem.run_bind, run_underlying' hT, Result.andThen_ok, Sem.run_pure]
  case nilsl =>
    obtain ⟨rfl, rfl⟩ := hn
    cases hr
    cases d <;> simp [nilKind] at hk
    unfold nilConst at hc
    split at hc <;> simp_all
    simp only [Op.equalIn, Sem.run_bind, run_underlying' hT, Result.andThen_ok, Sem.run_pure, Option.isNone_none]
  case lst ow z es =>
    obtain ⟨⟨rfl, hu⟩, rfl⟩ := hn
    obtain ⟨a, cap, rfl⟩ := lst_slice hr hu
    cases d <;> simp [nilKind] at hk
    unfold nilConst at hc
    split at hc <;> simp_all
    simp only [Op.equalIn, Sem.run_bind, run_underlying' hT, Result.andThen_ok, Sem.run_pure]
  case sl r z off len =>
    obtain ⟨rfl, rfl⟩ := hn
    obtain ⟨b, base, cap, rfl, _⟩ := sl_form hr
    cases d <;> simp [nilKind] at hk
    unfold nilConst at hc
    split at hc <;> simp_all
    simp only [Op.equalIn, Sem.run_bind, run_underlying' hT, Result.andThen_ok, Sem.run_pure]
  case nilptr =>
    obtain ⟨rfl, rfl⟩ := hn
    cases hr
    cases d <;> simp [nilKind] at hk
    unfold nilConst at hc
    split at hc <;> simp_all
    simp only [Op.equalIn, Sem.run_bind, run_underlying' hT, Result.andThen_ok, Sem.run_pure, Option.isNone_none]
  case ptr r off =>
    obtain ⟨rfl, rfl⟩ := hn
    obtain ⟨b, base, rfl, _⟩ := ptr_form hr
    cases d <;> simp [nilKind] at hk
    unfold nilConst at hc
    split at hc <;> simp_all
    simp only [Op.equalIn, Sem.run_bind, run_underlying' hT, Result.andThen_ok, Sem.run_pure]
  case elp cs =>
    obtain ⟨rfl, rfl⟩ := hn
    obtain ⟨b, k, rfl⟩ := elp_form hr
    cases d <;> simp [nilKind] at hk
    unfold nilConst at hc
    split at hc <;> simp_all
    simp only [Op.equalIn, Sem.run_bind, run_underlying' hT, Result.andThen_ok, Sem.run_pure]
  case gptr g =>
    obtain ⟨rfl, rfl⟩ := hn
    cases hr
    cases d <;> simp [nilKind] at hk
    unfold nilConst at hc
    split at hc <;> simp_all
    simp only [Op.equalIn, Sem.run_bind, run_underlying' hT, Result.andThen_ok, Sem.run_pure]
theorem isNil_notNB {kd : Nat} {v : AV} {x : Value} {r : Bool} (hr : RelV G w v x) (hn : isNil kd v = some r) :
    (∃ t y, x = .iface t y) ∨ x = .nilIface ∨ (∃ a n m, x = .slice a n m) ∨ (∃ a, x = .pointer a) := by
  cases v <;> simp [isNil] at hn
  case nilif => cases hr; exact .inr (.inl rfl)
  case ifc => cases hr; exact .inl ⟨_, _, rfl⟩
  case nilsl => cases hr; exact .inr (.inr (.inl ⟨_, _, _, rfl⟩))
  case lst => obtain ⟨a, cap, rfl⟩ := lst_slice hr hn.1.2; exact .inr (.inr (.inl ⟨_, _, _, rfl⟩))
  case sl => obtain ⟨b, base, cap, rfl, _⟩ := sl_form hr; exact .inr (.inr (.inl ⟨_, _, _, rfl⟩))
  case nilptr => cases hr; exact .inr (.inr (.inr ⟨_, rfl⟩))
  case ptr => obtain ⟨b, base, rfl, _⟩ := ptr_form hr; exact .inr (.inr (.inr ⟨_, rfl⟩))
  case elp => obtain ⟨b, base, rfl⟩ := elp_form hr; exact .inr (.inr (.inr ⟨_, rfl⟩))
  case gptr => cases hr; exact .inr (.inr (.inr ⟨_, rfl⟩))
theorem gives_eqnil {kd : Nat} {n r : Bool} {x : XArg} {x' : Operand} {c : Value} {T T2 : TypeId} {d : TypeDesc} (hx : argOk x x' = true)
    (ho : o.op = .binOp (if n then .neq else .eql) T x' (.const c) T2) (hT : P.underlying T = some d) (hk : nilKind kd d = true) (hc : nilConst kd c = true)
    (hs : ∀ t ∈ argTmp x, RelS G w fr act t) (he : isNil kd (earg fr x) = some r) : Gives P G w act o (.bool (r != n)) := by
  have h1 := arg_rel (w := w) (G := G) hx hs
  have hq := equal_nil hT hk hc h1 he
  have hcv : act.eval (.const c) = c := rfl
  have hg : (eqGuard (if n then .neq else .eql) T x' (.const c) (act.eval x') c).run P w = .ok () w := by
    unfold nilConst at hc
    rcases isNil_notNB h1 he with ⟨t, y, hy⟩ | hy | ⟨a, p, q, hy⟩ | ⟨a, hy⟩ <;> rw [hy] <;> cases n <;> split at hc <;> simp_all [eqGuard]
  have hb : ∀ (op : BinOp), (op = .eql ∨ op = .neq) → binOp op T (act.eval x') c = (match op with | .eql => do pure (.bool (← Op.equal T (act.eval x') c)) | _ => do pure (.bool (!(← Op.equal T (act.eval x') c)))) := by
    intro op hop
    unfold nilConst at hc
    rcases isNil_notNB h1 he with ⟨t, y, hy⟩ | hy | ⟨a, p, q, hy⟩ | ⟨a, hy⟩ <;> rw [hy] <;> rcases hop with rfl | rfl <;> split at hc <;> first | rfl | (simp at hc; done)
  cases n
  · refine ⟨.bool r, ?_, by cases r <;> exact .bool _⟩
    simp only [Bool.false_eq_true, if_false] at ho hg
    simp only [execOp, ho, hcv, Sem.run_bind, hg, Result.andThen_ok, hb .eql (.inl rfl), hq, Sem.run_pure]
  · refine ⟨.bool (!r), ?_, by cases r <;> exact .bool _⟩
    simp only [if_true] at ho hg
    simp only [execOp, ho, hcv, Sem.run_bind, hg, Result.andThen_ok, hb .neq (.inr rfl), hq, Sem.run_pure]
def intT (P : Program) (t : TypeId) : Bool := match P.underlying t, P.info? t with | some (.int _), some i => i.comparable | _, _ => false
theorem equal_if {ts : List Nat} {v v' : AV} {x x' : Value} {r : Bool} {T : TypeId} {m : _} (hT : P.underlying T = some (.interface m)) (hts : ts.all (intT P) = true)
    (hr : RelV G w v x) (hr' : RelV G w v' x') (hn : eqIfV ts v v' = some r) : (Op.equal T x x').run P w = .ok r w := by
  refine (show ∀ e, (Op.equalIn (e + 1 + 1) T x x').run P w = .ok r w from fun e => ?_) 9998
  unfold eqIfV at hn
  split at hn
  · cases hr; cases hr'; cases hn
    simp only [Op.equalIn, Sem.run_bind, run_underlying' hT, Result.andThen_ok, Sem.run_pure]
  · cases hr; cases hr'; cases hn
    simp only [Op.equalIn, Sem.run_bind, run_underlying' hT, Result.andThen_ok, Sem.run_pure]
  · rename_i t u t' u'
    cases hr with | ifc _ _ z hz => ?_
    cases hr' with | ifc _ _ z' hz' => ?_
    split at hn
    · rename_i htt
      subst htt
      split at hn
      · rename_i hm
        have hi := List.all_eq_true.1 hts t (by simpa using hm)
        unfold intT at hi
        split at hi
        · rename_i kk ii hu hinf
          split at hn
          · rename_i k a k' b
            split at hn
            · rename_i hk
              subst hk
              cases hz; cases hz'; cases hn
              rw [Op.equalIn]
              simp only [Sem.run_bind, run_underlying' hT, Result.andThen_ok, Sem.run_pure, run_typeInfo hinf, hi, ne_eq, not_true_eq_false, if_false, Bool.not_true, Bool.false_eq_true]
              simp only [Op.equalIn, Sem.run_bind, run_underlying' hu, Result.andThen_ok, Sem.run_pure, if_true]
            · cases hn
          · cases hn
        · cases hi
      · cases hn
    · rename_i htt
      cases hn
      simp only [Op.equalIn, Sem.run_bind, run_underlying' hT, Result.andThen_ok, Sem.run_pure, ne_eq, htt, not_false_eq_true, if_true]
  · cases hn
theorem eqIf_form {ts : List Nat} {v v' : AV} {x x' : Value} {r : Bool} (hr : RelV G w v x) (hr' : RelV G w v' x') (hn : eqIfV ts v v' = some r) :
    (∃ t y, x = .iface t y ∧ x' = .nilIface) ∨ (∃ t y, x = .nilIface ∧ x' = .iface t y) ∨ (∃ t y t' y', x = .iface t y ∧ x' = .iface t' y') := by
  unfold eqIfV at hn
  split at hn
  · cases hr; cases hr'; exact .inr (.inl ⟨_, _, rfl, rfl⟩)
  · cases hr; cases hr'; exact .inl ⟨_, _, rfl, rfl⟩
  · cases hr; cases hr'; exact .inr (.inr ⟨_, _, _, _, rfl, rfl⟩)
  · cases hn
theorem gives_eqif {n r : Bool} {ts : List Nat} {x y : XArg} {x' y' : Operand} {T T2 : TypeId} {m : _} (hx : argOk x x' = true) (hy : argOk y y' = true)
    (ho : o.op = .binOp (if n then .neq else .eql) T x' y' T2) (hT : P.underlying T = some (.interface m)) (hts : ts.all (intT P) = true)
    (hs : ∀ t ∈ argTmp x ++ argTmp y, RelS G w fr act t) (he : eqIfV ts (earg fr x) (earg fr y) = some r) : Gives P G w act o (.bool (r != n)) := by
  have h1 := arg_rel (w := w) (G := G) (fr := fr) (act := act) hx (fun t ht => hs t (by simp [ht]))
  have h2 := arg_rel (w := w) (G := G) (fr := fr) (act := act) hy (fun t ht => hs t (by simp [ht]))
  have hq := equal_if hT hts h1 h2 he
  have hg : ∀ op, (eqGuard op T x' y' (act.eval x') (act.eval y')).run P w = .ok () w := by
    intro op
    rcases eqIf_form h1 h2 he with ⟨t, z, e1, e2⟩ | ⟨t, z, e1, e2⟩ | ⟨t, z, t', z', e1, e2⟩ <;> rw [e1, e2] <;> exact eqGuard_pure (by simp) (by simp)
  have hb : ∀ (op : BinOp), (op = .eql ∨ op = .neq) → binOp op T (act.eval x') (act.eval y') = (match op with | .eql => do pure (.bool (← Op.equal T (act.eval x') (act.eval y'))) | _ => do pure (.bool (!(← Op.equal T (act.eval x') (act.eval y'))))) := by
    intro op hop
    rcases eqIf_form h1 h2 he with ⟨t, z, e1, e2⟩ | ⟨t, z, e1, e2⟩ | ⟨t, z, t', z', e1, e2⟩ <;> rw [e1, e2] <;> rcases hop with rfl | rfl <;> rfl
  cases n
  · refine ⟨.bool r, ?_, by cases r <;> exact .bool _⟩
    simp only [Bool.false_eq_true, if_false] at ho
    simp only [execOp, ho, Sem.run_bind, hg, Result.andThen_ok, hb .eql (.inl rfl), hq, Sem.run_pure]
  · refine ⟨.bool (!r), ?_, by cases r <;> exact .bool _⟩
    simp only [if_true] at ho
    simp only [execOp, ho, Sem.run_bind, hg, Result.andThen_ok, hb .neq (.inr rfl), hq, Sem.run_pure]
end
end Go.Proofs.YtjbgceogkgpjpaaGreatDoor.Sx
namespace Go.Proofs.YtjbgceogkgpjpaaGreatDoor.Sx
open Go

/-! ### structs compared -/
def eqFs (f : TypeId → Option (List Nat)) : List Field → Nat → Option (List Nat)
  | [], _ => some []
  | x :: l, off => if x.name ≠ "_" ∧ x.offset = off then match f x.type with
      | some s => match eqFs f l (off + s.length) with | some s' => some (s ++ s') | none => none
      | none => none else none
def rep (s : List Nat) : Nat → List Nat
  | 0 => []
  | n + 1 => s ++ rep s n
def eqT (P : Program) : Nat → TypeId → Option (List Nat)
  | 0, _ => none
  | d + 1, t => match P.info? t with
    | none => none
    | some i => match P.underlying t with
      | some .bool => if i.size = 1 then some [0] else none
      | some (.int _) => if i.size = 1 then some [1] else none
      | some .string => if i.size = 1 then some [2] else none
      | some (.struct fs) => if P.stoodInHeld t = false then match eqFs (eqT P d) fs.toList 0 with | some s => if s.length = i.size then some s else none | none => none else none
      | some (.array n e) => match eqT P d e, P.info? e with | some s, some j => if i.size = n * s.length ∧ j.size = s.length then some (rep s n) else none | _, _ => none
      | _ => none
theorem rep_length (s : List Nat) (n : Nat) : (rep s n).length = n * s.length := by
  induction n with
  | zero => simp [rep]
  | succ n ih => simp [rep, ih, Nat.succ_mul, Nat.add_comm]

theorem eqCells_app : ∀ {s l m s' l' m'} {r : Bool}, s.length = l.length → l.length = m.length → eqCells (s ++ s') (l ++ l') (m ++ m') = some r →
    ∃ r1 r2, eqCells s l m = some r1 ∧ eqCells s' l' m' = some r2 ∧ r = (r1 && r2)
  | [], [], [], s', l', m', r, _, _, h => ⟨true, r, rfl, h, by simp⟩
  | [], _ :: _, _, _, _, _, _, h, _, _ => by simp at h
  | _ :: _, [], _, _, _, _, _, h, _, _ => by simp at h
  | _, [], _ :: _, _, _, _, _, _, h, _ => by simp at h
  | _, _ :: _, [], _, _, _, _, _, h, _ => by simp at h
  | c :: s, a :: l, b :: m, s', l', m', r, hs, h, he => by
    have key : ∀ {r}, eqCells (s ++ s') (l ++ l') (m ++ m') = some r → ∃ r1 r2, eqCells s l m = some r1 ∧ eqCells s' l' m' = some r2 ∧ r = (r1 && r2) :=
      fun h' => eqCells_app (by simpa using hs) (by simpa using h) h'
    simp only [List.cons_append] at he
    unfold eqCells at he
    split at he <;> try (cases he; done)
    · rename_i h1 h2 h3; cases h1
    · rename_i s1 k x l1 k' y m1 h0 h1 h2
      injection h0 with h0 h0'; injection h1 with h1 h1'; injection h2 with h2 h2'; subst h0 h0' h1 h1' h2 h2'
      split at he
      · rename_i hk
        obtain ⟨r0, h0, rfl⟩ := Option.map_eq_some_iff.1 he
        obtain ⟨r1, r2, h3, h4, rfl⟩ := key h0
        exact ⟨(x == y) && r1, r2, by simp only [eqCells, hk, if_true, h3, Option.map_some], h4, by simp [Bool.and_assoc]⟩
      · cases he
    · rename_i s1 x l1 y m1 h0 h1 h2
      injection h0 with h0 h0'; injection h1 with h1 h1'; injection h2 with h2 h2'; subst h0 h0' h1 h1' h2 h2'
      obtain ⟨r0, h0, rfl⟩ := Option.map_eq_some_iff.1 he
      obtain ⟨r1, r2, h3, h4, rfl⟩ := key h0
      exact ⟨(x == y) && r1, r2, by simp only [eqCells, h3, Option.map_some], h4, by simp [Bool.and_assoc]⟩
    · rename_i s1 x l1 y m1 h0 h1 h2
      injection h0 with h0 h0'; injection h1 with h1 h1'; injection h2 with h2 h2'; subst h0 h0' h1 h1' h2 h2'
      obtain ⟨r0, h0, rfl⟩ := Option.map_eq_some_iff.1 he
      obtain ⟨r1, r2, h3, h4, rfl⟩ := key h0
      exact ⟨(x == y) && r1, r2, by simp only [eqCells, h3, Option.map_some], h4, by simp [Bool.and_assoc]⟩
theorem eqCells_split {cs ds : List AV} {a : Nat} {s t : List Nat} {r : Bool} (hl : a + s.length + t.length ≤ cs.length) (hm : cs.length = ds.length)
    (h : eqCells (s ++ t) ((cs.drop a).take (s ++ t).length) ((ds.drop a).take (s ++ t).length) = some r) :
    ∃ r1 r2, eqCells s ((cs.drop a).take s.length) ((ds.drop a).take s.length) = some r1 ∧ eqCells t ((cs.drop (a + s.length)).take t.length) ((ds.drop (a + s.length)).take t.length) = some r2 ∧ r = (r1 && r2) := by
  have e : ∀ l : List AV, (l.drop a).take (s ++ t).length = (l.drop a).take s.length ++ (l.drop (a + s.length)).take t.length := by
    intro l
    rw [List.length_append, List.take_add, List.drop_drop]
  rw [e, e] at h
  exact eqCells_app (by simp; omega) (by simp; omega) h

section
variable {P : Program} {G : Gh} {w : World} {fr : List AV} {act : Act} {o : Oper}
def partV (d : TypeDesc) (xs : Array Value) (off n : Nat) : Value := if aggOf d then .agg (xs.extract off (off + n)) else xs.getD off undef
theorem part_partV {T : TypeId} {i : TypeInfo} {d : TypeDesc} {xs : Array Value} {off n : Nat} (hi : P.info? T = some i) (hd : P.underlying T = some d) (hn : i.size = n) (hl : off + n ≤ xs.size) (h0 : aggOf d = false → n = 1) :
    (part T xs off).run P w = .ok (partV d xs off n) w := by
  subst hn
  unfold partV
  cases ha : aggOf d
  · have := h0 ha
    simp only [part, Sem.run_bind, run_isAgg2 hd, ha, Result.andThen_ok, Bool.false_eq_true, if_false]
    have : xs[off]? = some (xs.getD off undef) := by simp [Array.getD_eq_getD_getElem?, Array.getElem?_eq_getElem (show off < xs.size by omega)]
    rw [this]
    rfl
  · simp only [part, Sem.run_bind, run_isAgg2 hd, ha, Result.andThen_ok, if_true, run_sizeOf' hi, Sem.run_pure]
theorem eq1 {cs : List AV} {xs : Array Value} {off : Nat} (hl : off + 1 ≤ cs.length) (hr : ∀ (j : Nat) (v : AV) (x : Value), cs[j]? = some v → xs[j]? = some x → RelV G w v x) (hs : cs.length = xs.size) :
    ∃ v, (cs.drop off).take 1 = [v] ∧ RelV G w v (xs.getD off undef) := by
  refine ⟨cs[off], ?_, hr off _ _ (by simp) ?_⟩
  · rw [List.drop_eq_getElem_cons (by omega)]; rfl
  · simp [Array.getD_eq_getD_getElem?, Array.getElem?_eq_getElem (show off < xs.size by omega)]
def eqElems (d : Nat) (e : TypeId) (n : Nat) (xs ys : Array Value) : List Nat → Sem Bool
  | [] => pure true
  | i :: l => do
    let a ← part e xs (i * n)
    let b ← part e ys (i * n)
    let r ← Op.equalIn d e a b
    if (!r) = true then pure false else eqElems d e n xs ys l
theorem run_equalIn_array (d : Nat) (t e : TypeId) (len : Nat) (i : TypeInfo) (xs ys : Array Value) (ht : P.underlying t = some (.array len e)) (hi : P.info? e = some i) :
    (Op.equalIn (d + 1) t (.agg xs) (.agg ys)).run P w = (eqElems d e i.size xs ys (List.range' 0 len)).run P w := by
  simp only [Op.equalIn, Sem.run_bind, run_underlying' ht, Result.andThen_ok, run_sizeOf' hi]
  rw [Std.Legacy.Range.forIn_eq_forIn_range']
  simp only [Std.Legacy.Range.size, Nat.sub_zero, Nat.add_sub_cancel, Nat.div_one]
  generalize List.range' 0 len = l
  clear ht
  induction l generalizing w with
  | nil => simp [eqElems]
  | cons f fs ih =>
    simp only [List.forIn_cons, eqElems, Sem.run_bind, Sem.run_ite]
    generalize (part e xs (f * i.size)).run P w = r1
    cases r1 with
    | ok a w1 =>
      simp only [Result.andThen_ok]
      generalize (part e ys (f * i.size)).run P w1 = r2
      cases r2 with
      | ok b w2 =>
        simp only [Result.andThen_ok]
        generalize (Op.equalIn d e a b).run P w2 = r3
        cases r3 with
        | ok r w3 =>
          cases r
          · simp only [Result.andThen_ok, Bool.not_false, if_true, Sem.run_pure]
          · simp only [Result.andThen_ok, Bool.not_true, Bool.false_eq_true, if_false, Sem.run_pure]
            exact ih
        | halt x w3 => simp [Result.andThen]
      | halt x w2 => simp [Result.andThen]
    | halt x w1 => simp [Result.andThen]
theorem equalIn_flat : ∀ (d : Nat) (t : TypeId) (s : List Nat), eqT P d t = some s → ∀ (cs ds : List AV) (xs ys : Array Value) (off : Nat) (r : Bool), off + s.length ≤ cs.length → cs.length = xs.size → ds.length = ys.size → cs.length = ds.length →
    (∀ (j : Nat) (v : AV) (x : Value), cs[j]? = some v → xs[j]? = some x → RelV G w v x) → (∀ (j : Nat) (v : AV) (x : Value), ds[j]? = some v → ys[j]? = some x → RelV G w v x) →
    eqCells s ((cs.drop off).take s.length) ((ds.drop off).take s.length) = some r →
    ∃ i de, P.info? t = some i ∧ P.underlying t = some de ∧ i.size = s.length ∧ (aggOf de = false → s.length = 1) ∧
      ∀ e, (Op.equalIn (d + e) t (partV de xs off s.length) (partV de ys off s.length)).run P w = .ok r w := by
  intro d
  induction d with
  | zero => intro t n h; simp [eqT] at h
  | succ d ih =>
    intro t s h cs ds xs ys off r hl hx hy hxy hrx hry he
    unfold eqT at h
    split at h
    · cases h
    rename_i i hi
    split at h
    case h_4 fs hu =>
      split at h
      · rename_i hst
        split at h
        · rename_i s0 hfs
          split at h
          · rename_i hsz
            injection h with h
            subst h
            refine ⟨i, _, hi, hu, hsz.symm, (by simp [aggOf]), fun e => ?_⟩
            have hfo : P.fieldsOf t = fs := by simp [Program.fieldsOf, hu]
            simp only [partV, aggOf, if_true]
            rw [show d + 1 + e = (d + e) + 1 by omega, run_equalIn_struct w (d + e) t _ _ (by rw [hfo]; exact hu) hst, hfo]
            have key : ∀ (l : List Field) (a : Nat) (s : List Nat) (r : Bool), eqFs (eqT P d) l a = some s → a + s.length = s0.length → eqCells s ((cs.drop (off + a)).take s.length) ((ds.drop (off + a)).take s.length) = some r →
                (Op.eqFields (d + e) (xs.extract off (off + s0.length)) (ys.extract off (off + s0.length)) l).run P w = .ok r w := by
              intro l
              induction l with
              | nil =>
                intro a s r ha hle hr
                simp only [eqFs, Option.some.injEq] at ha
                subst ha
                simp [eqCells] at hr
                subst hr
                simp [Op.eqFields]
              | cons f l ihl =>
                intro a s r ha hle hr
                simp only [eqFs] at ha
                split at ha
                · rename_i hf
                  obtain ⟨hn, rfl⟩ := hf
                  split at ha
                  · rename_i k hk
                    split at ha
                    · rename_i k' hk'
                      injection ha with ha
                      subst ha
                      rw [List.length_append] at hle
                      obtain ⟨r1, r2, h1, h2, rfl⟩ := eqCells_split (a := off + f.offset) (by omega) hxy hr
                      obtain ⟨j, de, hj, hde, hjs, hj0, hq⟩ := ih f.type k hk cs ds xs ys (off + f.offset) r1 (by omega) hx hy hxy hrx hry h1
                      have hp : ∀ zs : Array Value, off + s0.length ≤ zs.size → (part f.type (zs.extract off (off + s0.length)) f.offset).run P w = .ok (partV de zs (off + f.offset) k.length) w := by
                        intro zs hz
                        rw [part_partV hj hde hjs (by simp; omega) hj0]
                        congr 1
                        unfold partV
                        split
                        · congr 1
                          rw [Array.extract_extract]
                          congr 1 <;> omega
                        · rename_i hag
                          have := hj0 (by simpa using hag)
                          simp [Array.getD_eq_getD_getElem?, Array.getElem?_extract]
                          split
                          · rfl
                          · omega
                      rw [Op.eqFields]
                      simp only [if_pos hn, Sem.run_bind, hp xs (by omega), hp ys (by omega), Result.andThen_ok, hq e]
                      have h3 := ihl (f.offset + k.length) k' r2 hk' (by omega) (by rw [← Nat.add_assoc]; exact h2)
                      cases r1
                      · simp
                      · simpa using h3
                    · cases ha
                  · cases ha
                · cases ha
            exact key fs.toList 0 s0 r hfs (by simp) (by simpa using he)
          · cases h
        · cases h
      · cases h
    case h_5 m et hu =>
      split at h
      · rename_i s0 j hs0 hj
        split at h
        · rename_i hsz
          obtain ⟨hsz, hjs⟩ := hsz
          injection h with h
          subst h
          have hrl := rep_length s0 m
          refine ⟨i, _, hi, hu, by rw [hrl]; exact hsz, (by simp [aggOf]), fun e => ?_⟩
          simp only [partV, aggOf, if_true]
          rw [show d + 1 + e = (d + e) + 1 by omega, run_equalIn_array (d + e) t et m j _ _ hu hj]
          have key : ∀ (q k : Nat) (r : Bool), k + q = m → eqCells (rep s0 q) ((cs.drop (off + k * s0.length)).take (rep s0 q).length) ((ds.drop (off + k * s0.length)).take (rep s0 q).length) = some r →
              (eqElems (d + e) et j.size (xs.extract off (off + (rep s0 m).length)) (ys.extract off (off + (rep s0 m).length)) (List.range' k q)).run P w = .ok r w := by
            intro q
            induction q with
            | zero =>
              intro k r hk hr
              simp [rep, eqCells] at hr
              subst hr
              simp [eqElems]
            | succ q ihq =>
              intro k r hk hr
              have hm1 : k * s0.length + s0.length + (rep s0 q).length = m * s0.length := by
                rw [rep_length]
                have : m = k + 1 + q := by omega
                rw [this, Nat.add_mul, Nat.add_mul]; omega
              obtain ⟨r1, r2, h1, h2, rfl⟩ := eqCells_split (s := s0) (t := rep s0 q) (a := off + k * s0.length) (by omega) hxy hr
              obtain ⟨j', de, hj', hde, hjs', hj0, hq⟩ := ih et s0 hs0 cs ds xs ys (off + k * s0.length) r1 (by omega) hx hy hxy hrx hry h1
              have hp : ∀ zs : Array Value, off + (rep s0 m).length ≤ zs.size → (part et (zs.extract off (off + (rep s0 m).length)) (k * j.size)).run P w = .ok (partV de zs (off + k * s0.length) s0.length) w := by
                intro zs hz
                rw [part_partV hj' hde hjs' (by simp [hjs]; omega) hj0]
                congr 1
                unfold partV
                split
                · congr 1
                  rw [Array.extract_extract, hjs]
                  congr 1 <;> omega
                · rename_i hag
                  have := hj0 (by simpa using hag)
                  rw [hjs]
                  simp [Array.getD_eq_getD_getElem?, Array.getElem?_extract]
                  split
                  · rfl
                  · omega
              rw [List.range'_succ, eqElems]
              simp only [Sem.run_bind, hp xs (by omega), hp ys (by omega), Result.andThen_ok, hq e]
              have h3 := ihq (k + 1) r2 (by omega) (by rw [Nat.succ_mul, ← Nat.add_assoc]; exact h2)
              cases r1
              · simp
              · simpa using h3
          exact key m 0 r (by omega) (by simpa using he)
        · cases h
      · cases h
    case h_1 hu =>
      split at h
      · rename_i hs; injection h with h; subst h
        obtain ⟨v, hv, hrv⟩ := eq1 hl hrx hx
        obtain ⟨u, hu', hru⟩ := eq1 (off := off) (by simp at hl ⊢; omega) hry hy
        simp only [List.length_singleton] at he
        rw [hv, hu'] at he
        refine ⟨i, _, hi, hu, hs, fun _ => rfl, fun e => ?_⟩
        simp only [partV, aggOf, Bool.false_eq_true, if_false]
        cases v <;> cases u <;> simp [eqCells] at he
        subst he
        generalize xs.getD off undef = x at *
        generalize ys.getD off undef = y at *
        cases hrv; cases hru
        rw [show d + 1 + e = (d + e) + 1 by omega, run_equalIn_bool w (d + e) t _ _ hu]
      · cases h
    case h_2 k hu =>
      split at h
      · rename_i hs; injection h with h; subst h
        obtain ⟨v, hv, hrv⟩ := eq1 hl hrx hx
        obtain ⟨u, hu', hru⟩ := eq1 (off := off) (by simp at hl ⊢; omega) hry hy
        simp only [List.length_singleton] at he
        rw [hv, hu'] at he
        refine ⟨i, _, hi, hu, hs, fun _ => rfl, fun e => ?_⟩
        simp only [partV, aggOf, Bool.false_eq_true, if_false]
        cases v <;> cases u <;> simp [eqCells] at he
        obtain ⟨rfl, rfl⟩ := he
        generalize xs.getD off undef = x at *
        generalize ys.getD off undef = y at *
        cases hrv; cases hru
        rw [show d + 1 + e = (d + e) + 1 by omega, run_equalIn_int w (d + e) t _ _ _ _ hu]
      · cases h
    case h_3 hu =>
      split at h
      · rename_i hs; injection h with h; subst h
        obtain ⟨v, hv, hrv⟩ := eq1 hl hrx hx
        obtain ⟨u, hu', hru⟩ := eq1 (off := off) (by simp at hl ⊢; omega) hry hy
        simp only [List.length_singleton] at he
        rw [hv, hu'] at he
        refine ⟨i, _, hi, hu, hs, fun _ => rfl, fun e => ?_⟩
        simp only [partV, aggOf, Bool.false_eq_true, if_false]
        cases v <;> cases u <;> simp [eqCells] at he
        subst he
        generalize xs.getD off undef = x at *
        generalize ys.getD off undef = y at *
        cases hrv; cases hru
        rw [show d + 1 + e = (d + e) + 1 by omega, run_equalIn_string w (d + e) t _ _ hu, ByteArray.toList_eq, ByteArray.toList_eq]
      · cases h
    · cases h
end
end Go.Proofs.YtjbgceogkgpjpaaGreatDoor.Sx
namespace Go.Proofs.YtjbgceogkgpjpaaGreatDoor.Sx
open Go
section
variable {P : Program} {G : Gh} {w : World} {fr : List AV} {act : Act} {o : Oper}

theorem eqCells_len : ∀ {s : List Nat} {l m : List AV} {r : Bool}, eqCells s l m = some r → l.length = s.length ∧ m.length = s.length
  | s, l, m, r, h => by
    unfold eqCells at h
    split at h
    · exact ⟨rfl, rfl⟩
    · split at h
      · obtain ⟨r0, h0, _⟩ := Option.map_eq_some_iff.1 h
        have := eqCells_len h0
        simp; omega
      · cases h
    · obtain ⟨r0, h0, _⟩ := Option.map_eq_some_iff.1 h
      have := eqCells_len h0
      simp; omega
    · obtain ⟨r0, h0, _⟩ := Option.map_eq_some_iff.1 h
      have := eqCells_len h0
      simp; omega
    · cases h
theorem gives_eqagg {n r : Bool} {sh : List Nat} {x y : XArg} {x' y' : Operand} {T T2 : TypeId} {l m : List AV} {D : Nat} (hx : argOk x x' = true) (hy : argOk y y' = true)
    (ho : o.op = .binOp (if n then .neq else .eql) T x' y' T2) (hT : eqT P D T = some sh) (hD : D ≤ 10000) (hg0 : P.eqGuardType P.depth T = false) (hag : ∃ d, P.underlying T = some d ∧ aggOf d = true)
    (hs : ∀ t ∈ argTmp x ++ argTmp y, RelS G w fr act t) (he : earg fr x = .agg l) (hf : earg fr y = .agg m) (hq : eqCells sh l m = some r) : Gives P G w act o (.bool (r != n)) := by
  have h1 := arg_rel (w := w) (G := G) (fr := fr) (act := act) hx (fun t ht => hs t (by simp [ht]))
  have h2 := arg_rel (w := w) (G := G) (fr := fr) (act := act) hy (fun t ht => hs t (by simp [ht]))
  rw [he] at h1; rw [hf] at h2
  cases h3 : act.eval x' <;> rw [h3] at h1 <;> (try (cases h1; done))
  cases h4 : act.eval y' <;> rw [h4] at h2 <;> (try (cases h2; done))
  rename_i xs ys
  cases h1 with
  | agg _ _ hl1 hr1 =>
  cases h2 with
  | agg _ _ hl2 hr2 =>
  obtain ⟨e1, e2⟩ := eqCells_len hq
  obtain ⟨i, de, hi, hde, hsz, _, hrun⟩ := equalIn_flat (P := P) (G := G) (w := w) D T sh hT l m xs ys 0 r (by omega) hl1 hl2 (by omega) hr1 hr2
    (by rw [List.drop_zero, List.drop_zero, ← e1, List.take_length, show l.length = m.length by omega, List.take_length]; exact hq)
  obtain ⟨d, hd, hda⟩ := hag
  have : de = d := by rw [hde] at hd; injection hd
  subst this
  have hex : ∀ zs : Array Value, zs.size = sh.length → partV de zs 0 sh.length = .agg zs := by
    intro zs hz
    unfold partV
    rw [if_pos hda, Nat.zero_add, ← hz, Array.extract_size]
  rw [hex xs (by omega), hex ys (by omega)] at hrun
  have hE : (Op.equal T (.agg xs) (.agg ys)).run P w = .ok r w := by
    have := hrun (10000 - D)
    rw [show D + (10000 - D) = 10000 by omega] at this
    exact this
  have hg : ∀ op, (eqGuard op T x' y' (.agg xs) (.agg ys)).run P w = .ok () w := fun op => run_eqGuard_agg w op T x' y' xs ys hg0
  cases n
  · simp only [Bool.false_eq_true, if_false] at ho
    exact ⟨.bool r, by simp only [execOp, ho, h3, h4, Sem.run_bind, hg, Result.andThen_ok, binOp, hE, Sem.run_pure], by cases r <;> exact .bool _⟩
  · simp only [if_true] at ho
    exact ⟨.bool (!r), by simp only [execOp, ho, h3, h4, Sem.run_bind, hg, Result.andThen_ok, binOp, hE, Sem.run_pure], by cases r <;> exact .bool _⟩

theorem eargs_rel : ∀ {as : List XArg} {bs : List Operand}, argsOk as bs = true → (∀ a ∈ as, ∀ t ∈ argTmp a, RelS G w fr act t) →
    (eargs fr as).length = bs.length ∧ ∀ (j : Nat) (v : AV) (x : Value), (eargs fr as)[j]? = some v → (bs.map act.eval)[j]? = some x → RelV G w v x
  | [], [], _, _ => ⟨rfl, by simp [eargs]⟩
  | [], _ :: _, h, _ => by simp [argsOk] at h
  | _ :: _, [], h, _ => by simp [argsOk] at h
  | a :: as, b :: bs, h, hs => by
    simp [argsOk] at h
    obtain ⟨h1, h2⟩ := eargs_rel h.2 (fun a ha => hs a (by simp [ha]))
    refine ⟨by simp [eargs, h1], fun j v x hv hx => ?_⟩
    cases j with
    | zero =>
      simp [eargs] at hv hx
      subst hv hx
      exact arg_rel h.1 (fun t ht => hs a (by simp) t ht)
    | succ j =>
      simp [eargs] at hv
      exact h2 j v x hv (by simpa using hx)
theorem gives_mkfn {f : Nat} {ds cs : List XArg} {ds' cs' : Array Operand} (hd : argsOk ds ds'.toList = true) (hc : argsOk cs cs'.toList = true) (ho : o.op = .makeFunc (.func f) ds' cs')
    (hs : ∀ a ∈ ds ++ cs, ∀ t ∈ argTmp a, RelS G w fr act t) : Gives P G w act o (.fn f (eargs fr ds) (eargs fr cs)) := by
  obtain ⟨h1, h2⟩ := eargs_rel (w := w) (G := G) (fr := fr) (act := act) hd (fun a ha => hs a (by simp [ha]))
  obtain ⟨h3, h4⟩ := eargs_rel (w := w) (G := G) (fr := fr) (act := act) hc (fun a ha => hs a (by simp [ha]))
  refine ⟨.func (.func f) (ds'.map act.eval) (cs'.map act.eval), by simp [execOp, ho, Instr.makeFunc], .fn _ _ _ _ _ (by simpa using h1) (by simpa using h3) ?_ ?_⟩
  · intro j v x hv hx
    exact h2 j v x hv (by rw [← hx]; simp)
  · intro j v x hv hx
    exact h4 j v x hv (by rw [← hx]; simp)
end
end Go.Proofs.YtjbgceogkgpjpaaGreatDoor.Sx
namespace Go.Proofs.YtjbgceogkgpjpaaGreatDoor.Sx
open Go

theorem splice_length : ∀ (l : List AV) (off : Nat) (vs : List AV), (splice l off vs).length = l.length
  | l, off, [] => by cases l <;> simp [splice]
  | [], off, _ :: _ => by simp [splice]
  | x :: l, n + 1, v :: vs => by simp [splice, splice_length l n (v :: vs)]
  | _ :: l, 0, v :: vs => by simp [splice, splice_length l 0 vs]
theorem splice_get : ∀ (l : List AV) (off : Nat) (vs : List AV) (j : Nat), off + vs.length ≤ l.length →
    (splice l off vs)[j]? = if off ≤ j ∧ j < off + vs.length then vs[j - off]? else l[j]?
  | l, off, [], j, _ => by
    have : ¬ (off ≤ j ∧ j < off + 0) := by omega
    simp only [List.length_nil, if_neg this]
    cases l <;> simp [splice]
  | [], off, v :: vs, j, h => by simp at h
  | x :: l, n + 1, v :: vs, j, h => by
    cases j with
    | zero => simp [splice]
    | succ j =>
      simp only [splice, List.getElem?_cons_succ]
      rw [splice_get l n (v :: vs) j (by simp at h ⊢; omega)]
      by_cases hc : n ≤ j ∧ j < n + (v :: vs).length
      · rw [if_pos hc, if_pos (by omega)]; congr 1; omega
      · rw [if_neg hc, if_neg (by omega)]
  | x :: l, 0, v :: vs, j, h => by
    cases j with
    | zero => simp [splice]
    | succ j =>
      simp only [splice, List.getElem?_cons_succ]
      rw [splice_get l 0 vs j (by simp at h ⊢; omega)]
      by_cases hc : 0 ≤ j ∧ j < 0 + vs.length
      · rw [if_pos hc, if_pos (by simp; omega)]; simp
      · rw [if_neg hc, if_neg (by simp at hc ⊢; omega)]
def putCells (off : Nat) (zs cells : Array Value) : Array Value := zs.zipIdx.foldl (fun cs (c, j) => cs.setIfInBounds (off + j) c) cells
theorem putList : ∀ (l : List Value) (k off : Nat) (cells : Array Value) (j : Nat), off + k + l.length ≤ cells.size →
    ((l.zipIdx k).foldl (fun cs (p : Value × Nat) => cs.setIfInBounds (off + p.2) p.1) cells).size = cells.size ∧
    ((l.zipIdx k).foldl (fun cs (p : Value × Nat) => cs.setIfInBounds (off + p.2) p.1) cells)[j]? = if off + k ≤ j ∧ j < off + k + l.length then l[j - (off + k)]? else cells[j]?
  | [], k, off, cells, j, _ => by
    have : ¬ (off + k ≤ j ∧ j < off + k + 0) := by omega
    simp only [List.length_nil, if_neg this]
    simp
  | v :: l, k, off, cells, j, h => by
    simp only [List.zipIdx_cons, List.foldl_cons, List.length_cons] at h ⊢
    obtain ⟨h1, h2⟩ := putList l (k + 1) off (cells.setIfInBounds (off + k) v) j (by simp; omega)
    refine ⟨by rw [h1]; simp, ?_⟩
    rw [h2]
    by_cases hc : off + (k + 1) ≤ j ∧ j < off + (k + 1) + l.length
    · rw [if_pos hc, if_pos (by omega)]
      rw [show j - (off + k) = (j - (off + (k + 1))) + 1 by omega]
      simp
    · rw [if_neg hc]
      by_cases he : j = off + k
      · subst he
        rw [if_pos (by omega)]
        simp [Array.getElem?_setIfInBounds]
        omega
      · rw [if_neg (by omega)]
        simp [Array.getElem?_setIfInBounds, Ne.symm he]
theorem putCells_get (off : Nat) (zs cells : Array Value) (j : Nat) (h : off + zs.size ≤ cells.size) :
    (putCells off zs cells).size = cells.size ∧ (putCells off zs cells)[j]? = if off ≤ j ∧ j < off + zs.size then zs[j - off]? else cells[j]? := by
  have := putList zs.toList 0 off cells j (by simpa using h)
  unfold putCells
  rw [← Array.foldl_toList, Array.toList_zipIdx]
  simpa using this

section
variable {P : Program} {G : Gh} {w : World} {fr : List AV} {act : Act} {o : Oper}
def RelCs (G : Gh) (w : World) (cs : List AV) (xs : Array Value) : Prop :=
  cs.length = xs.size ∧ ∀ (j : Nat) (v : AV) (x : Value), cs[j]? = some v → xs[j]? = some x → RelV G w v x
theorem RelCs.put {cs vs : List AV} {xs zs : Array Value} {off : Nat} (h : RelCs G w cs xs) (hv : RelCs G w vs zs) (hl : off + vs.length ≤ cs.length) :
    RelCs G w (splice cs off vs) (putCells off zs xs) := by
  have h1 := h.1
  have h2 := hv.1
  refine ⟨by rw [splice_length, (putCells_get off zs xs 0 (by omega)).1, h1], fun j v x hj hx => ?_⟩
  rw [splice_get _ _ _ _ hl] at hj
  rw [(putCells_get off zs xs j (by omega)).2] at hx
  by_cases hc : off ≤ j ∧ j < off + vs.length
  · rw [if_pos hc] at hj
    rw [if_pos (by omega)] at hx
    exact hv.2 _ v x hj hx
  · rw [if_neg hc] at hj
    rw [if_neg (by omega)] at hx
    exact h.2 _ v x hj hx
theorem plain1_one {v : AV} {x : Value} (h : plain1 v = true) (hr : RelV G w v x) : x.oneCell' = true ∧ x.cells = #[x] := by
  cases hr <;> simp [plain1] at h <;> first
    | exact ⟨rfl, rfl⟩
    | (rename_i h1; cases x <;> simp [Value.oneCell'] at h1 <;> exact ⟨rfl, rfl⟩)
theorem cellsOf_rel {v : AV} {x : Value} (h : solid v = true) (hr : RelV G w v x) : RelCs G w (cellsOf v) x.cells := by
  by_cases ha : ∃ cs, v = .agg cs
  · obtain ⟨cs, rfl⟩ := ha
    cases hr with
    | agg _ xs hl hr =>
    refine ⟨by simpa [cellsOf, Value.cells] using hl, fun j v x hv hx => ?_⟩
    simp only [cellsOf, List.getElem?_map] at hv
    obtain ⟨u, hu, rfl⟩ := Option.map_eq_some_iff.1 hv
    exact (hr j u x hu hx).uf
  · have hp : plain1 v = true := by cases v <;> simp [solid] at h <;> first | exact h | exact absurd ⟨_, rfl⟩ ha
    have hc : cellsOf v = [v] := by cases v <;> first | rfl | exact absurd ⟨_, rfl⟩ ha
    rw [hc, (plain1_one hp hr).2]
    refine ⟨rfl, fun j u y hu hy => ?_⟩
    cases j with
    | zero => simp at hu hy; subst hu hy; exact hr
    | succ j => simp at hu
theorem cellsOf_noFlag {v : AV} (h : noFlag v) : ∀ u ∈ cellsOf v, noFlag u := by
  intro u hu
  by_cases ha : ∃ cs, v = .agg cs
  · obtain ⟨cs, rfl⟩ := ha
    simp only [cellsOf, List.mem_map] at hu
    obtain ⟨c, _, rfl⟩ := hu
    exact noFlag_uf _
  · have hc : cellsOf v = [v] := by cases v <;> first | rfl | exact absurd ⟨_, rfl⟩ ha
    rw [hc] at hu
    simp at hu
    subst hu
    exact h
def partsOk (place : Nat → Option (Nat × Nat)) : List (Nat × Nat × XArg) → List (Nat × Operand) → Bool
  | [], [] => true
  | (off, n, a) :: l, (i, b) :: m => (match place i with | some (p, q) => p == off && q == n | none => false) && argOk a b && partsOk place l m
  | _, _ => false
theorem fill_rel {place : Nat → Option (Nat × Nat)} : ∀ {ps : List (Nat × Nat × XArg)} {qs : List (Nat × Operand)} {cs cs' : List AV} {xs : Array Value}, partsOk place ps qs = true → (∀ p ∈ ps, ∀ t ∈ argTmp p.2.2, RelS G w fr act t) →
    RelCs G w cs xs → fillX fr ps cs = some cs' → ∃ xs', Instr.fill place xs (qs.map fun p => (p.1, act.eval p.2)) = some xs' ∧ RelCs G w cs' xs'
  | [], [], cs, cs', xs, _, _, hr, he => by
    simp [fillX] at he
    subst he
    exact ⟨xs, rfl, hr⟩
  | [], _ :: _, _, _, _, h, _, _, _ => by simp [partsOk] at h
  | (_, _, _) :: _, [], _, _, _, h, _, _, _ => by simp [partsOk] at h
  | (off, n, a) :: l, (i, b) :: m, cs, cs', xs, h, hs, hr, he => by
    simp only [partsOk, Bool.and_eq_true] at h
    obtain ⟨⟨h1, h2⟩, h3⟩ := h
    have ha := arg_rel (w := w) (G := G) (fr := fr) (act := act) h2 (fun t ht => hs (off, n, a) (by simp) t ht)
    simp only [fillX] at he
    split at he
    · rename_i hc
      obtain ⟨hc1, hc2, hc3⟩ := hc
      have hcr := cellsOf_rel hc3 ha
      cases hp : place i with
      | none => rw [hp] at h1; simp at h1
      | some pq =>
        obtain ⟨p, q⟩ := pq
        rw [hp] at h1
        simp at h1
        obtain ⟨rfl, rfl⟩ := h1
        have hsz := hcr.1
        have hlen := hr.1
        obtain ⟨xs', h4, h5⟩ := fill_rel (place := place) h3 (fun p hp => hs p (by simp [hp])) (hr.put hcr (by omega)) he
        refine ⟨xs', ?_, h5⟩
        simp only [List.map_cons, Instr.fill, hp]
        rw [if_neg (by simp; omega)]
        exact h4
    · cases he
def constCells : List AV → List Value → Bool
  | [], [] => true
  | a :: l, b :: m => constOk a b && plain1 a && constCells l m
  | _, _ => false
theorem constCells_rel : ∀ {cs : List AV} {xs : List Value}, constCells cs xs = true → RelCs G w cs xs.toArray ∧ (∀ v ∈ cs, plain1 v = true ∧ noFlag v)
  | [], [], _ => ⟨⟨rfl, by simp⟩, by simp⟩
  | [], _ :: _, h => by simp [constCells] at h
  | _ :: _, [], h => by simp [constCells] at h
  | a :: l, b :: m, h => by
    simp only [constCells, Bool.and_eq_true] at h
    obtain ⟨⟨h1, h2⟩, h3⟩ := h
    obtain ⟨⟨h4, h5⟩, h6⟩ := constCells_rel h3
    refine ⟨⟨by simpa using h4, fun j v x hv hx => ?_⟩, ?_⟩
    · cases j with
      | zero => simp at hv hx; subst hv hx; exact constOk_rel h1
      | succ j => exact h5 j v x (by simpa using hv) (by simpa using hx)
    · intro v hv
      rcases List.mem_cons.1 hv with rfl | hv
      · exact ⟨h2, constOk_noFlag h1⟩
      · exact h6 v hv
def zeroOk (P : Program) (t : TypeId) (zs : List AV) : Bool :=
  match P.info? t with
  | some i => match i.zero with | some v => constCells zs v.cells.toList | none => false
  | none => false
theorem zeroOk_run {t : TypeId} {zs : List AV} (h : zeroOk P t zs = true) : ∃ z, (zeroValue t).run P w = .ok z w ∧ RelCs G w zs z.cells ∧ ∀ v ∈ zs, plain1 v = true ∧ noFlag v := by
  unfold zeroOk at h
  split at h
  · rename_i i hi
    split at h
    · rename_i v hv
      obtain ⟨h1, h2⟩ := constCells_rel (G := G) (w := w) h
      exact ⟨v, by simp [zeroValue, typeInfo, hi, hv], by simpa using h1, h2⟩
    · cases h
  · cases h
def structPlaces (P : Program) (fs : Array Field) (i : Nat) : Option (Nat × Nat) :=
  match fs[i]? with
  | some f => match P.info? f.type with | some j => some (f.offset, j.size) | none => none
  | none => none
theorem run_places (fs : Array Field) (h : ∀ f ∈ fs.toList, (P.info? f.type).isSome = true) :
    ∃ ps : Array (Nat × Nat), (fs.mapM fun f => (do pure (f.offset, ← sizeOf f.type) : Sem (Nat × Nat))).run P w = .ok ps w ∧ ∀ i, ps[i]? = structPlaces P fs i := by
  have key : ∀ l : List Field, (∀ f ∈ l, (P.info? f.type).isSome = true) → ∃ ps : List (Nat × Nat), (l.mapM fun f => (do pure (f.offset, ← sizeOf f.type) : Sem (Nat × Nat))).run P w = .ok ps w ∧
      ∀ i : Nat, ps[i]? = (match l[i]? with | some f => (match P.info? f.type with | some j => some (f.offset, j.size) | none => none) | none => none) := by
    intro l
    induction l with
    | nil => intro _; exact ⟨[], by simp, by simp⟩
    | cons f l ih =>
      intro h
      obtain ⟨ps, h1, h2⟩ := ih (fun f hf => h f (by simp [hf]))
      obtain ⟨j, hj⟩ := Option.isSome_iff_exists.1 (h f (by simp))
      refine ⟨(f.offset, j.size) :: ps, ?_, fun i => ?_⟩
      · rw [List.mapM_cons]
        simp only [Sem.run_bind, run_sizeOf' hj, Result.andThen_ok, Sem.run_pure, h1]
      · cases i with
        | zero => simp [hj]
        | succ i => simpa using h2 i
  obtain ⟨ps, h1, h2⟩ := key fs.toList h
  refine ⟨ps.toArray, ?_, fun i => ?_⟩
  · rw [Array.mapM_eq_mapM_toList]
    simp only [Sem.run_map, h1, Result.andThen_ok]
  · simp only [List.getElem?_toArray, h2, structPlaces, Array.getElem?_toList]
theorem gives_build {zs cs : List AV} {ps : List (Nat × Nat × XArg)} {T : TypeId} {qs : Array (Nat × Operand)} {d : TypeDesc} (ho : o.op = .build T qs) (hz : zeroOk P T zs = true) (hd : P.underlying T = some d)
    (hk : (∃ fs, d = .struct fs ∧ (∀ f ∈ fs.toList, (P.info? f.type).isSome = true) ∧ partsOk (structPlaces P fs) ps qs.toList = true) ∨
      (∃ n e i, d = .array n e ∧ P.info? e = some i ∧ partsOk (fun k => some (k * i.size, i.size)) ps qs.toList = true))
    (hs : ∀ p ∈ ps, ∀ t ∈ argTmp p.2.2, RelS G w fr act t) (he : fillX fr ps zs = some cs) : Gives P G w act o (.agg cs) := by
  obtain ⟨z, h1, h2, _⟩ := zeroOk_run (G := G) (w := w) hz
  have hmap : (qs.map fun (p : Nat × Operand) => (p.1, act.eval p.2)).toList = qs.toList.map fun p => (p.1, act.eval p.2) := by simp
  rcases hk with ⟨fs, rfl, hf, hp⟩ | ⟨n, e, i, rfl, hi, hp⟩
  · obtain ⟨pl, h3, h4⟩ := run_places (P := P) (w := w) fs hf
    obtain ⟨xs, h5, h6⟩ := fill_rel hp hs h2 he
    refine ⟨.agg xs, ?_, .agg _ _ h6.1 h6.2⟩
    have h7 : Instr.fill (fun k => pl[k]?) z.cells (qs.map fun (p : Nat × Operand) => (p.1, act.eval p.2)).toList = some xs := by
      rw [hmap, show (fun k => pl[k]?) = structPlaces P fs from funext h4]; exact h5
    simp only [execOp, ho, Instr.build, Sem.run_bind, h1, Result.andThen_ok, run_underlying' hd, h3]
    rw [h7]
    rfl
  · obtain ⟨xs, h5, h6⟩ := fill_rel hp hs h2 he
    refine ⟨.agg xs, ?_, .agg _ _ h6.1 h6.2⟩
    have h7 : Instr.fill (fun k => some (k * i.size, i.size)) z.cells (qs.map fun (p : Nat × Operand) => (p.1, act.eval p.2)).toList = some xs := by
      rw [hmap]; exact h5
    simp only [execOp, ho, Instr.build, Sem.run_bind, h1, Result.andThen_ok, run_underlying' hd, run_sizeOf' hi]
    rw [h7]
    rfl
end
end Go.Proofs.YtjbgceogkgpjpaaGreatDoor.Sx
namespace Go.Proofs.YtjbgceogkgpjpaaGreatDoor.Sx
open Go

/-! ### worlds -/
theorem Ext.of_same {A : Nat → Prop} {G G' : Gh} {w w' : World} (hos : w'.os = w.os) (ht : w'.tape = w.tape) (hout : w'.output = w.output) (hsz : w.heap.size ≤ w'.heap.size)
    (hh : ∀ b, b < w.heap.size → w'.heap[b]? = w.heap[b]?) (hk : ∀ b, b < w.heap.size → G'.k b = G.k b) (hm : ∀ r x, G.m r = some x → G'.m r = some x) : Ext A G w G' w' where
  os := hos
  tape := ht
  output := hout
  size := hsz
  st := fun b hb h => ⟨by rw [hk b hb, h], hh b hb⟩
  gr := fun b f hb h => ⟨f, Nat.le_refl _, by rw [hk b hb, h], fun i _ => cell_of_heap (hh b hb) i⟩
  keep := fun b hb _ _ _ => ⟨hk b hb, hh b hb⟩
  mm := hm
  mb := fun b hb h => ⟨by rw [hk b hb, h], fun cs T fz hc => ⟨cs, by rw [hh b hb, hc], rfl⟩⟩
theorem heap_alloc_lt (w : World) (ob : Obj) (b : Nat) (h : b < w.heap.size) : (w.alloc ob).heap[b]? = w.heap[b]? := by
  simp only [World.alloc, Array.getElem?_push]
  rw [if_neg (by omega)]
theorem heap_alloc_eq (w : World) (ob : Obj) : (w.alloc ob).heap[w.heap.size]? = some ob := by
  show (w.heap.push ob)[w.heap.size]? = some ob
  simp
def upd {α : Type} (f : Nat → α) (n : Nat) (v : α) : Nat → α := fun i => if i = n then v else f i
theorem Ext.of_alloc {A : Nat → Prop} {G G' : Gh} {w : World} {ob : Obj} (hk : ∀ b, b < w.heap.size → G'.k b = G.k b) (hm : ∀ r x, G.m r = some x → G'.m r = some x) : Ext A G w G' (w.alloc ob) :=
  .of_same rfl rfl rfl (by simp) (fun b hb => heap_alloc_lt w ob b hb) hk hm
theorem RelBlk.ext {A : Nat → Prop} {G G' : Gh} {w w' : World} {n : Nat} {r : Ref} {b base : Nat} {blk : Blk} (hv : Valid G w n) (h : Ext A G w G' w') (hb : w'.heap[b]? = w.heap[b]?)
    (ho : ∀ i, G'.o (.cell r i) = G.o (.cell r i)) (hA : ∀ i c, G.o (.cell r i) = some c → ¬ A c) (hr : RelBlk G w r b base blk) : RelBlk G' w' r b base blk := by
  cases blk with
  | cells vs =>
    obtain ⟨cs, T, h1, h2, h3⟩ := hr
    refine ⟨cs, T, by rw [hb, h1], h2, fun i v x hi hx => ?_⟩
    obtain ⟨h4, h5⟩ := h3 i v x hi hx
    exact ⟨h4.ext hv.below h.below, h5.ext hv h (ho i) (hA i)⟩
  | iter s pos =>
    obtain ⟨s', h1, h2, h3⟩ := hr
    exact ⟨s', h1, by rw [hb, h2], h3⟩
  | bld t e bs =>
    obtain ⟨h0, p, v, h1, h2, h3, hn, h4⟩ := hr
    have hk : ∀ g, v.ownBlock = some g → G'.k g = .un ∧ w'.heap[g]? = w.heap[g]? := fun g hg => by
      obtain ⟨h5, h6⟩ := h4 g hg
      have := h.keep g (hv.ok _ _ h5).1 (by rw [h6]; simp) (by rw [h6]; simp) (hA 1 g h5)
      exact ⟨by rw [this.1, h6], this.2⟩
    exact ⟨h0, p, v, by rw [hb, h1], h2, ownsRow_ext h3 fun g hg => (hk g hg).2, hn, fun g hg => ⟨by rw [ho, (h4 g hg).1], (hk g hg).1⟩⟩
theorem RelS.ext {A : Nat → Prop} {G G' : Gh} {w w' : World} {n : Nat} {fr : List AV} {act : Act} {t : Nat} (hv : Valid G w n) (h : Ext A G w G' w') (hr : RelS G w fr act t)
    (ho : G'.o (.slot t) = G.o (.slot t)) (hA : ∀ c, G.o (.slot t) = some c → ¬ A c) : RelS G' w' fr act t :=
  ⟨hr.1.ext hv h, hr.2.ext hv h ho hA⟩

def addB (G : Gh) (b : Nat) (k : BK) (r : Option Ref) (l : Option Loc) : Gh where
  m := fun r' => if r = some r' then some (b, 0) else G.m r'
  k := upd G.k b k
  o := fun l' => if l = some l' then some b else G.o l'
theorem addB_k_lt (G : Gh) (w : World) (k : BK) (r : Option Ref) (l : Option Loc) (b : Nat) (h : b < w.heap.size) : (addB G w.heap.size k r l).k b = G.k b := by
  simp [addB, upd]; omega
theorem Valid.addB {G : Gh} {w w' : World} {n : Nat} {k : BK} {r : Option Ref} {l : Option Loc} (h : Valid G w n) (hs : w'.heap.size = w.heap.size + 1) (hr : ∀ q, r = some q → q.lev < n ∧ k = .mb)
    (hl : ∀ q, l = some q → (∃ f, k = .gr f) ∨ k = .un) : Valid (addB G w.heap.size k r l) w' n where
  lev := fun q x hx => by
    simp only [Sx.addB] at hx
    split at hx
    · rename_i e; exact (hr q e).1
    · exact h.lev q x hx
  inj := fun q q' x y hx hy he => by
    simp only [Sx.addB] at hx hy
    split at hx <;> split at hy
    · rename_i e1 e2; rw [e1] at e2; injection e2
    · injection hx with hx; subst hx
      have := (h.mkk _ _ hy).2
      simp at he; omega
    · injection hy with hy; subst hy
      have := (h.mkk _ _ hx).2
      simp at he; omega
    · exact h.inj q q' x y hx hy he
  mkk := fun q x hx => by
    simp only [Sx.addB] at hx
    split at hx
    · rename_i e
      injection hx with hx
      subst hx
      exact ⟨by simp [Sx.addB, upd, (hr q e).2], by omega⟩
    · have := h.mkk q x hx
      exact ⟨by rw [addB_k_lt _ _ _ _ _ _ this.2]; exact this.1, by omega⟩
  oinj := fun l1 l2 b h1 h2 => by
    simp only [Sx.addB] at h1 h2
    split at h1 <;> split at h2
    · rename_i e1 e2; rw [e1] at e2; injection e2
    · injection h1 with h1; have := (h.ok _ _ h2).1; omega
    · injection h2 with h2; have := (h.ok _ _ h1).1; omega
    · exact h.oinj _ _ b h1 h2
  ok := fun l1 b h1 => by
    simp only [Sx.addB] at h1
    split at h1
    · rename_i e
      injection h1 with h1
      subst h1
      refine ⟨by omega, ?_⟩
      simpa [Sx.addB, upd] using hl l1 e
    · obtain ⟨h2, h3⟩ := h.ok _ _ h1
      exact ⟨by omega, by rw [addB_k_lt _ _ _ _ _ _ h2]; exact h3⟩

section
variable {P : Program} {G : Gh} {w : World} {fr : List AV} {act : Act} {o : Oper}
theorem run_alloc {zs : List AV} {T : TypeId} (ho : o.op = .alloc T) (hz : zeroOk P T zs = true) :
    ∃ xs, (execOp act.eval o).run P w = .ok (.value (.pointer (some ⟨w.heap.size, 0, none⟩))) (w.alloc (.cells xs T)) ∧ RelCs G w zs xs ∧ ∀ v ∈ zs, plain1 v = true ∧ noFlag v := by
  obtain ⟨z, h1, h2, h3⟩ := zeroOk_run (G := G) (w := w) hz
  refine ⟨z.cells, ?_, h2, h3⟩
  simp only [execOp, ho, Instr.alloc, Sem.run_bind, h1, Result.andThen_ok, newVar, newRow, run_newObj, Sem.run_pure]
  rfl
theorem run_box {x : XArg} {x' : Operand} {T : TypeId} (hx : argOk x x' = true) (ho : o.op = .box T x') (hs : ∀ t ∈ argTmp x, RelS G w fr act t) (hp : (cellsOf (earg fr x)).all plain1 = true) :
    ∃ xs, (execOp act.eval o).run P w = .ok (.value (.pointer (some ⟨w.heap.size, 0, none⟩))) (w.alloc (.cells xs T)) ∧ RelCs G w (cellsOf (earg fr x)) xs := by
  have h1 := arg_rel (w := w) (G := G) hx hs
  have hsol : solid (earg fr x) = true := by
    cases h : earg fr x <;> rw [h] at hp <;> simp_all [solid, cellsOf]
  refine ⟨(act.eval x').cells, ?_, cellsOf_rel hsol h1⟩
  simp only [execOp, ho, Instr.box, newVar, newRow, Sem.run_bind, run_newObj, Result.andThen_ok, Sem.run_pure]
  rfl
theorem relBlk_new {cs : List AV} {xs : Array Value} {T : TypeId} {n : Nat} {r : Ref} {G' : Gh} (hv : Valid G w n) (hn : r.lev + 1 = n) (h : RelCs G w cs xs) (hf : ∀ v ∈ cs, noFlag v)
    (he : Ext (fun _ => False) G w G' (w.alloc (.cells xs T))) : RelBlk G' (w.alloc (.cells xs T)) r w.heap.size 0 (.cells cs) := by
  refine ⟨xs, T, heap_alloc_eq w _, by have := h.1; omega, fun i v x hi hx => ?_⟩
  rw [Nat.zero_add] at hx
  exact ⟨(RelV.to_below (n := r.lev + 1) (fun q y hq => by rw [hn]; exact hv.lev q y hq) (h.2 i v x hi hx)).ext hv.below he.below, .of_noFlag (hf v (List.mem_of_getElem? hi))⟩
end
end Go.Proofs.YtjbgceogkgpjpaaGreatDoor.Sx
namespace Go.Proofs.YtjbgceogkgpjpaaGreatDoor.Sx
open Go
section
variable {P : Program} {G : Gh} {w : World} {fr : List AV} {act : Act} {o : Oper}

def MemAt (G : Gh) (w : World) (cs : List AV) (b q : Nat) : Prop :=
  ∀ (j : Nat) (v : AV), cs[j]? = some v → ∃ x, w.cell? ⟨b, q + j, none⟩ = some x ∧ RelV G w v x
theorem MemAt.drop {cs : List AV} {b q k : Nat} (h : MemAt G w cs b q) : MemAt G w (cs.drop k) b (q + k) := by
  intro j v hj
  rw [List.getElem?_drop] at hj
  obtain ⟨x, h1, h2⟩ := h _ v hj
  exact ⟨x, by rw [Nat.add_assoc]; exact h1, h2⟩
theorem run_load1 {a : Addr} {x : Value} (h : w.cell? a = some x) : (load a).run P w = .ok x w := by simp [h]
theorem run_loadCellsFrom {b q : Nat} : ∀ (n i : Nat) (acc : Array Value) (X : Nat → Value), (∀ j, j < n → w.cell? ⟨b, q + (i + j), none⟩ = some (X (i + j))) →
    (loadCellsFrom ⟨b, q, none⟩ i n acc).run P w = .ok (acc ++ ((List.range n).map fun j => X (i + j)).toArray) w
  | 0, i, acc, X, _ => by simp [loadCellsFrom]
  | n + 1, i, acc, X, h => by
    have h0 := h 0 (by omega)
    simp only [Nat.add_zero] at h0
    simp only [loadCellsFrom, Sem.run_bind, add_eq, run_load1 h0, Result.andThen_ok]
    rw [run_loadCellsFrom n (i + 1) (acc.push (X i)) X (fun j hj => by
      have := h (j + 1) (by omega)
      rw [show i + 1 + j = i + (j + 1) by omega]; exact this)]
    congr 1
    rw [List.range_succ_eq_map]
    simp [Function.comp_def, Nat.add_comm, Nat.add_left_comm]
theorem run_loadCells {b q n : Nat} {X : Nat → Value} (h : ∀ j, j < n → w.cell? ⟨b, q + j, none⟩ = some (X j)) :
    (loadCells ⟨b, q, none⟩ n).run P w = .ok ((List.range n).map X).toArray w := by
  unfold loadCells
  rw [run_loadCellsFrom n 0 #[] X (by simpa using h)]
  simp
theorem MemAt.choose {cs : List AV} {b q : Nat} (h : MemAt G w cs b q) : ∃ X : Nat → Value, ∀ (j : Nat) (v : AV), cs[j]? = some v → w.cell? ⟨b, q + j, none⟩ = some (X j) ∧ RelV G w v (X j) := by
  refine ⟨fun j => (w.cell? ⟨b, q + j, none⟩).getD undef, fun j v hj => ?_⟩
  obtain ⟨x, h1, h2⟩ := h j v hj
  simp only [h1, Option.getD_some]
  exact ⟨trivial, h2⟩
theorem loadVar_rel {cs : List AV} {b q n : Nat} {agg : Bool} {v : AV} {T : TypeId} {i : TypeInfo} {d : TypeDesc} (h : MemAt G w cs b q) (hi : P.info? T = some i) (hd : P.underlying T = some d) (hn : i.size = n)
    (ha : aggOf d = agg) (he : ldCells cs n agg = some v) : ∃ y, (loadVar T ⟨b, q, none⟩).run P w = .ok y w ∧ RelV G w v y := by
  obtain ⟨X, hX⟩ := h.choose
  unfold ldCells at he
  split at he
  · rename_i hlen
    cases agg with
    | true =>
      simp only [if_true] at he
      injection he with he
      subst he hn
      refine ⟨.agg ((List.range i.size).map X).toArray, ?_, .agg _ _ (by simp; omega) ?_⟩
      · simp only [loadVar, Sem.run_bind, run_isAgg2 hd, ha, Result.andThen_ok, if_true, run_sizeOf' hi]
        rw [run_loadCells (X := X) (fun j hj => (hX j _ (List.getElem?_eq_getElem (by omega))).1)]
        simp
      · intro j v x hv hx
        simp only [List.getElem?_map, List.getElem?_take] at hv
        split at hv
        · rename_i hj
          obtain ⟨u, hu, rfl⟩ := Option.map_eq_some_iff.1 hv
          simp [hj] at hx
          subst hx
          exact (hX j u hu).2.uf
        · simp at hv
    | false =>
      simp only [Bool.false_eq_true, if_false] at he
      cases cs with
      | nil => cases he
      | cons u l =>
        simp only [Option.some.injEq] at he
        subst he
        obtain ⟨h1, h2⟩ := hX 0 u rfl
        refine ⟨X 0, ?_, h2.uf⟩
        simp only [loadVar, Sem.run_bind, run_isAgg2 hd, ha, Result.andThen_ok, Bool.false_eq_true, if_false]
        exact run_load1 h1
  · cases he
theorem RelBlk.mem {r : Ref} {b base : Nat} {vs : List AV} (h : RelBlk G w r b base (.cells vs)) : MemAt G w vs b base := by
  obtain ⟨cs, T, h1, h2, h3⟩ := h
  intro j v hj
  have hlt := (List.getElem?_eq_some_iff.1 hj).1
  have hx : cs[base + j]? = some (cs[base + j]'(by omega)) := Array.getElem?_eq_getElem (by omega)
  exact ⟨_, by simp [World.cell?, h1, hx], (h3 j v _ hj hx).1.of_below⟩
def GlOk (G : Gh) (w : World) (gl : Nat → List AV) : Prop := ∀ g, gl g = [] ∨ (g < w.heap.size ∧ G.k g = .st ∧ refFreeL (gl g) = true ∧ MemAt G w (gl g) g 0 ∧ ∃ cs T fz, w.heap[g]? = some (.cells cs T fz) ∧ cs.size = (gl g).length)
theorem GlOk.mem {gl : Nat → List AV} (h : GlOk G w gl) (g : Nat) : MemAt G w (gl g) g 0 := by
  rcases h g with h | h
  · rw [h]; intro j v hj; simp at hj
  · exact h.2.2.2.1
theorem GlOk.ext {A : Nat → Prop} {gl : Nat → List AV} {G' : Gh} {w' : World} {n : Nat} (hv : Valid G w n) (hE : Ext A G w G' w') (h : GlOk G w gl) : GlOk G' w' gl := by
  intro g
  rcases h g with h | ⟨h1, h2, h3, h4, h9⟩
  · exact .inl h
  · obtain ⟨h5, h6⟩ := hE.st g h1 h2
    refine .inr ⟨Nat.lt_of_lt_of_le h1 hE.size, h5, h3, fun j v hj => ?_, by rw [h6]; exact h9⟩
    obtain ⟨x, h7, h8⟩ := h4 j v hj
    exact ⟨x, by rw [cell_of_heap h6]; exact h7, h8.ext hv hE⟩
theorem gives_load {gl : Nat → List AV} {hp : Heap} {x : XArg} {x' : Operand} {T : TypeId} {i : TypeInfo} {d : TypeDesc} {n : Nat} {agg : Bool} {v : AV} (hx : argOk x x' = true) (ho : o.op = .load T x')
    (hi : P.info? T = some i) (hd : P.underlying T = some d) (hn : i.size = n) (ha : aggOf d = agg) (hs : ∀ t ∈ argTmp x, RelS G w fr act t)
    (hh : ∀ r off, earg fr x = .ptr r off → ∀ b base blk, G.m r = some (b, base) → hget hp r = some blk → RelBlk G w r b base blk) (hg : GlOk G w gl)
    (he : ldAt gl hp (earg fr x) n agg = some v) : Gives P G w act o v ∧ noFlag v := by
  have h1 := arg_rel (w := w) (G := G) hx hs
  have key : ∀ (b q : Nat) (cs : List AV), act.eval x' = .pointer (some ⟨b, q, none⟩) → MemAt G w cs b q → ldCells cs n agg = some v → Gives P G w act o v ∧ noFlag v := by
    intro b q cs h2 h3 h4
    obtain ⟨y, h5, h6⟩ := loadVar_rel h3 hi hd hn ha h4
    refine ⟨⟨y, ?_, h6⟩, ldCells_noFlag h4⟩
    simp only [execOp, ho, h2, Instr.loadAt, Instr.sureAddr, Sem.run_bind, Sem.run_pure, Result.andThen_ok, h5]
  unfold ldAt at he
  split at he
  · rename_i r off hv
    rw [hv] at h1
    obtain ⟨b, base, h2, h3⟩ := ptr_form h1
    split at he
    · rename_i vs hc
      unfold cellsAt at hc
      split at hc
      · rename_i vs' hb
        injection hc with hc
        subst hc
        exact key b (base + off) _ h2 ((hh r off hv b base _ h3 hb).mem.drop) he
      · cases hc
    · cases he
  · rename_i cs hv
    rw [hv] at h1
    cases h2 : act.eval x' <;> rw [h2] at h1 <;> (try (cases h1; done))
    cases h1 with
    | elp _ b q X hc hf hx hr => exact key b q cs h2 (fun j u hj => ⟨_, hx j u hj, hr j u hj⟩) he
  · rename_i g hv
    rw [hv] at h1
    cases h2 : act.eval x' <;> rw [h2] at h1 <;> (try (cases h1; done))
    cases h1
    exact key g 0 _ h2 (hg.mem g) he
  · cases he

/-! ### stores -/
structure SetB (w w' : World) (b : Nat) (ob : Obj) : Prop where
  os : w'.os = w.os
  tape : w'.tape = w.tape
  output : w'.output = w.output
  size : w'.heap.size = w.heap.size
  new : w'.heap[b]? = some ob
  old : ∀ c, c ≠ b → w'.heap[c]? = w.heap[c]?
theorem setCell_setB {b q : Nat} {v : Value} {cs : Array Value} {T : TypeId} {fz : Nat × Nat} (h : w.heap[b]? = some (.cells cs T fz)) :
    SetB w (w.setCell ⟨b, q, none⟩ v) b (.cells (cs.setIfInBounds q v) T fz) where
  os := rfl
  tape := rfl
  output := rfl
  size := by simp
  new := by
    simp only [World.setCell, Array.getElem?_modify, if_true, h, Option.map_some]
    obtain ⟨lo, hi⟩ := fz
    simp
  old := fun c hc => by
    simp only [World.setCell, Array.getElem?_modify]
    rw [if_neg (Ne.symm hc)]
theorem run_storeCells {b q : Nat} {T : TypeId} {fz : Nat × Nat} : ∀ (l : List Value) (i : Nat) (w : World) (cs : Array Value), w.heap[b]? = some (.cells cs T fz) → q + i + l.length ≤ cs.size →
    (∀ v ∈ l, v.oneCell' = true) → (∀ j, q + i ≤ j → j < q + i + l.length → ¬ (fz.1 ≤ j ∧ j < fz.2)) →
    ∃ w' cs', (storeCells ⟨b, q, none⟩ l i).run P w = .ok () w' ∧ SetB w w' b (.cells cs' T fz) ∧ cs'.size = cs.size ∧ ∀ j : Nat, cs'[j]? = if q + i ≤ j ∧ j < q + i + l.length then l[j - (q + i)]? else cs[j]?
  | [], i, w, cs, h, _, _, _ => ⟨w, cs, by simp [storeCells], ⟨rfl, rfl, rfl, rfl, h, fun _ _ => rfl⟩, rfl, fun j => by rw [if_neg (by simp only [List.length_nil]; omega)]⟩
  | v :: l, i, w, cs, h, hsz, h1, hfz => by
    have hlen : (v :: l).length = l.length + 1 := rfl
    rw [hlen] at hsz
    have hc : w.cell? ⟨b, q + i, none⟩ = some (cs[q + i]'(by omega)) := by
      simp [World.cell?, h, Array.getElem?_eq_getElem (show q + i < cs.size by omega)]
    have hnf : w.frozen? ⟨b, q + i, none⟩ = false := by
      have := hfz (q + i) (by omega) (by rw [hlen]; omega)
      obtain ⟨lo, hi⟩ := fz
      simp only [World.frozen?, h]
      simp at this ⊢
      exact this
    have hst : (store ⟨b, q + i, none⟩ v).run P w = .ok () (w.setCell ⟨b, q + i, none⟩ v) := by
      rw [run_store P w _ v _ (h1 v (by simp)), hc]
      simp [hnf]
    have hB := setCell_setB (q := q + i) (v := v) h
    obtain ⟨w', cs', h2, h3, h4, h5⟩ := run_storeCells (q := q) l (i + 1) _ _ hB.new (by rw [Array.size_setIfInBounds]; omega) (fun u hu => h1 u (by simp [hu])) (fun j hj hj' => hfz j (by omega) (by rw [hlen]; omega))
    refine ⟨w', cs', ?_, ⟨h3.os.trans hB.os, h3.tape.trans hB.tape, h3.output.trans hB.output, h3.size.trans hB.size, h3.new, fun c hc => (h3.old c hc).trans (hB.old c hc)⟩, by rw [h4]; simp, fun j => ?_⟩
    · simp only [storeCells, Sem.run_bind, add_eq, hst, Result.andThen_ok, h2]
    · rw [h5 j]
      by_cases hc : q + (i + 1) ≤ j ∧ j < q + (i + 1) + l.length
      · rw [if_pos hc, if_pos (by rw [hlen]; omega)]
        rw [show j - (q + i) = (j - (q + (i + 1))) + 1 by omega]
        simp
      · rw [if_neg hc]
        by_cases he : j = q + i
        · subst he
          rw [if_pos (by rw [hlen]; omega)]
          simp [Array.getElem?_setIfInBounds]
          omega
        · rw [if_neg (by rw [hlen]; omega)]
          simp [Array.getElem?_setIfInBounds, Ne.symm he]
end
end Go.Proofs.YtjbgceogkgpjpaaGreatDoor.Sx
