/- SX, part B: how values without memory stand to the machine's values and worlds. -/
import Derived.Test.YtpfollpbkpgglaaSxA
import Derived.Orders
import Derived.Laws.World
import Derived.Laws.Sem
set_option linter.unusedVariables false
set_option linter.unusedSimpArgs false
namespace Go.Proofs.Ytpfollpbkpgglaa.Sx
open Go

/-- What a block is to us: of fixed contents; growing (what stands below the frontier is fixed); a block of the call's own; a list that nobody else sees; somebody else's. -/
inductive BK where
  | st | gr (f : Nat) | mb | un | al
  deriving DecidableEq
inductive Loc where
  | slot (t : Nat) | cell (r : Ref) (i : Nat) | res
  deriving DecidableEq
structure Gh where
  m : Ref → Option (Nat × Nat)
  k : Nat → BK
  o : Loc → Option Nat

/-- So many cells of a block are fixed. -/
def Cov (G : Gh) (w : World) (b n : Nat) : Prop := b < w.heap.size ∧ (G.k b = .st ∨ ∃ f, G.k b = .gr f ∧ n ≤ f)

inductive RelV (G : Gh) (w : World) : AV → Value → Prop where
  | undef (x : Value) : RelV G w .undef x
  | bool (b : Bool) : RelV G w (.bool b) (.bool b)
  | int (k : IntKind) (n : Int) : RelV G w (.int k n) (.int k n)
  | str (x : ByteArray) : RelV G w (.str x.data.toList) (.string x)
  | opq (x : Value) (h : x.oneCell' = true) : RelV G w (.opq x) x
  | nilptr : RelV G w .nilptr (.pointer none)
  | nilsl : RelV G w .nilsl (.slice none 0 0)
  | nilif : RelV G w .nilif .nilIface
  | nilfn : RelV G w .nilfn .nilFunc
  | ptr (r : Ref) (off b base : Nat) (h : G.m r = some (b, base)) : RelV G w (.ptr r off) (.pointer (some ⟨b, base + off, none⟩))
  | elp (cs : List AV) (b o : Nat) (X : Nat → Value) (hc : Cov G w b (o + cs.length))
      (hf : ∀ (j : Nat) (v : AV), cs[j]? = some v → refFree v = true) (hx : ∀ (j : Nat) (v : AV), cs[j]? = some v → w.cell? ⟨b, o + j, none⟩ = some (X j))
      (hr : ∀ (j : Nat) (v : AV), cs[j]? = some v → RelV G w v (X j)) : RelV G w (.elp cs) (.pointer (some ⟨b, o, none⟩))
  | gptr (g : Nat) : RelV G w (.gptr g) (.pointer (some ⟨g, 0, none⟩))
  | sl (r : Ref) (z off len b base cap : Nat) (h : G.m r = some (b, base)) (hl : len ≤ cap)
      (hs : ∃ cs T fz, w.heap[b]? = some (.cells cs T fz) ∧ base + off + cap * z ≤ cs.size) :
      RelV G w (.sl r z off len) (.slice (some ⟨b, base + off, none⟩) len cap)
  | uniq (z : Nat) (es : List (List AV)) (x : Value) : RelV G w (.lst .uniq z es) x
  | lst (ow : Own) (z : Nat) (es : List (List AV)) (b o cap : Nat) (X : Nat → Nat → Value) (hu : ow ≠ .uniq) (hl : es.length ≤ cap) (ht : ow = .tight → cap = es.length)
      (hc : Cov G w b (o + es.length * z)) (hz : ∀ (i : Nat) (e : List AV), es[i]? = some e → e.length = z)
      (hf : ∀ (i : Nat) (e : List AV) (j : Nat) (v : AV), es[i]? = some e → e[j]? = some v → refFree v = true)
      (hx : ∀ (i : Nat) (e : List AV) (j : Nat) (v : AV), es[i]? = some e → e[j]? = some v → w.cell? ⟨b, o + i * z + j, none⟩ = some (X i j))
      (hr : ∀ (i : Nat) (e : List AV) (j : Nat) (v : AV), es[i]? = some e → e[j]? = some v → RelV G w v (X i j)) :
      RelV G w (.lst ow z es) (.slice (some ⟨b, o, none⟩) es.length cap)
  | agg (cs : List AV) (xs : Array Value) (hl : cs.length = xs.size) (hr : ∀ (j : Nat) (v : AV) (x : Value), cs[j]? = some v → xs[j]? = some x → RelV G w v x) :
      RelV G w (.agg cs) (.agg xs)
  | tup (cs : List AV) (xs : Array Value) (hl : cs.length = xs.size) (hr : ∀ (j : Nat) (v : AV) (x : Value), cs[j]? = some v → xs[j]? = some x → RelV G w v x) :
      RelV G w (.tup cs) (.tuple xs)
  | fn (f : Nat) (ds cs : List AV) (xs ys : Array Value) (hl : ds.length = xs.size) (hm : cs.length = ys.size)
      (hr : ∀ (j : Nat) (v : AV) (x : Value), ds[j]? = some v → xs[j]? = some x → RelV G w v x) (hs : ∀ (j : Nat) (v : AV) (x : Value), cs[j]? = some v → ys[j]? = some x → RelV G w v x) :
      RelV G w (.fn f ds cs) (.func (.func f) xs ys)
  | ifc (t : Nat) (v : AV) (x : Value) (hr : RelV G w v x) : RelV G w (.ifc t v) (.iface t x)

/-- From one world to a later one; A: the owned blocks that may have been written. -/
structure Ext (A : Nat → Prop) (G : Gh) (w : World) (G' : Gh) (w' : World) : Prop where
  os : w'.os = w.os
  tape : w'.tape = w.tape
  output : w'.output = w.output
  size : w.heap.size ≤ w'.heap.size
  st : ∀ b, b < w.heap.size → G.k b = .st → G'.k b = .st ∧ w'.heap[b]? = w.heap[b]?
  gr : ∀ b f, b < w.heap.size → G.k b = .gr f → ∃ f', f ≤ f' ∧ G'.k b = .gr f' ∧ (∀ i, i < f → w'.cell? ⟨b, i, none⟩ = w.cell? ⟨b, i, none⟩)
  keep : ∀ b, b < w.heap.size → G.k b ≠ .st → G.k b ≠ .mb → ¬ A b → G'.k b = G.k b ∧ w'.heap[b]? = w.heap[b]?
  mm : ∀ r x, G.m r = some x → G'.m r = some x
  mb : ∀ b, b < w.heap.size → G.k b = .mb → G'.k b = .mb ∧ (∀ cs T fz, w.heap[b]? = some (.cells cs T fz) → ∃ cs', w'.heap[b]? = some (.cells cs' T fz) ∧ cs'.size = cs.size)

theorem Ext.refl (A : Nat → Prop) (G : Gh) (w : World) : Ext A G w G w where
  os := rfl
  tape := rfl
  output := rfl
  size := Nat.le_refl _
  st := fun _ _ h => ⟨h, rfl⟩
  gr := fun _ f _ h => ⟨f, Nat.le_refl _, h, fun _ _ => rfl⟩
  keep := fun _ _ _ _ _ => ⟨rfl, rfl⟩
  mm := fun _ _ h => h
  mb := fun _ _ h => ⟨h, fun cs _ _ hh => ⟨cs, hh, rfl⟩⟩

theorem Ext.mono {A B : Nat → Prop} {G G' : Gh} {w w' : World} (h : Ext A G w G' w') (hab : ∀ b, b < w.heap.size → A b → B b) : Ext B G w G' w' :=
  { h with keep := fun b hb h1 h2 h3 => h.keep b hb h1 h2 (fun ha => h3 (hab b hb ha)) }

theorem cell_of_heap {w w' : World} {b : Nat} (h : w'.heap[b]? = w.heap[b]?) (i : Nat) : w'.cell? ⟨b, i, none⟩ = w.cell? ⟨b, i, none⟩ := by
  simp [World.cell?, h]

theorem Ext.trans {A B : Nat → Prop} {G G' G'' : Gh} {w w' w'' : World} (h : Ext A G w G' w') (h' : Ext B G' w' G'' w'')
    (hab : ∀ b, b < w.heap.size → B b → A b) : Ext A G w G'' w'' where
  os := h'.os.trans h.os
  tape := h'.tape.trans h.tape
  output := h'.output.trans h.output
  size := Nat.le_trans h.size h'.size
  st := fun b hb hk => by
    obtain ⟨h1, h2⟩ := h.st b hb hk
    obtain ⟨h3, h4⟩ := h'.st b (Nat.lt_of_lt_of_le hb h.size) h1
    exact ⟨h3, h4.trans h2⟩
  gr := fun b f hb hk => by
    obtain ⟨f1, hf, h1, h2⟩ := h.gr b f hb hk
    obtain ⟨f2, hf2, h3, h4⟩ := h'.gr b f1 (Nat.lt_of_lt_of_le hb h.size) h1
    exact ⟨f2, Nat.le_trans hf hf2, h3, fun i hi => (h4 i (Nat.lt_of_lt_of_le hi hf)).trans (h2 i hi)⟩
  keep := fun b hb h1 h2 h3 => by
    obtain ⟨h4, h5⟩ := h.keep b hb h1 h2 h3
    obtain ⟨h6, h7⟩ := h'.keep b (Nat.lt_of_lt_of_le hb h.size) (by rw [h4]; exact h1) (by rw [h4]; exact h2) (fun hB => h3 (hab b hb hB))
    exact ⟨h6.trans h4, h7.trans h5⟩
  mm := fun r x hx => h'.mm r x (h.mm r x hx)
  mb := fun b hb hk => by
    obtain ⟨h1, h2⟩ := h.mb b hb hk
    obtain ⟨h3, h4⟩ := h'.mb b (Nat.lt_of_lt_of_le hb h.size) h1
    refine ⟨h3, fun cs T fz hc => ?_⟩
    obtain ⟨cs1, h5, h6⟩ := h2 cs T fz hc
    obtain ⟨cs2, h7, h8⟩ := h4 cs1 T fz h5
    exact ⟨cs2, h7, h8.trans h6⟩

theorem Cov.ext {A : Nat → Prop} {G G' : Gh} {w w' : World} (h : Ext A G w G' w') {b n : Nat} (hc : Cov G w b n) :
    Cov G' w' b n ∧ ∀ i, i < n → w'.cell? ⟨b, i, none⟩ = w.cell? ⟨b, i, none⟩ := by
  obtain ⟨hb, hk⟩ := hc
  rcases hk with hk | ⟨f, hk, hf⟩
  · obtain ⟨h1, h2⟩ := h.st b hb hk
    exact ⟨⟨Nat.lt_of_lt_of_le hb h.size, .inl h1⟩, fun i _ => cell_of_heap h2 i⟩
  · obtain ⟨f', hf', h1, h2⟩ := h.gr b f hb hk
    exact ⟨⟨Nat.lt_of_lt_of_le hb h.size, .inr ⟨f', h1, Nat.le_trans hf hf'⟩⟩, fun i hi => h2 i (Nat.lt_of_lt_of_le hi hf)⟩

theorem Ext.sizeOf {A : Nat → Prop} {G G' : Gh} {w w' : World} (h : Ext A G w G' w') {b n : Nat} (hb : G.k b = .mb)
    (hs : ∃ cs T fz, w.heap[b]? = some (.cells cs T fz) ∧ n ≤ cs.size) : ∃ cs T fz, w'.heap[b]? = some (.cells cs T fz) ∧ n ≤ cs.size := by
  obtain ⟨cs, T, fz, h1, h2⟩ := hs
  obtain ⟨_, h3⟩ := h.mb b (by rcases Nat.lt_or_ge b w.heap.size with hlt | hge; exact hlt; simp [Array.getElem?_eq_none hge] at h1) hb
  obtain ⟨cs', h4, h5⟩ := h3 cs T fz h1
  exact ⟨cs', T, fz, h4, by omega⟩

/-- The ghost fits the world; n: how many levels there are. -/
structure Valid (G : Gh) (w : World) (n : Nat) : Prop where
  lev : ∀ r x, G.m r = some x → r.lev < n
  inj : ∀ r r' x y, G.m r = some x → G.m r' = some y → x.1 = y.1 → r = r'
  mkk : ∀ r x, G.m r = some x → G.k x.1 = .mb ∧ x.1 < w.heap.size
  oinj : ∀ l l' b, G.o l = some b → G.o l' = some b → l = l'
  ok : ∀ l b, G.o l = some b → b < w.heap.size ∧ ((∃ f, G.k b = .gr f) ∨ G.k b = .un)

theorem RelV.ext {A : Nat → Prop} {G G' : Gh} {w w' : World} {n : Nat} (hv : Valid G w n) (h : Ext A G w G' w') {v : AV} {x : Value} (hr : RelV G w v x) : RelV G' w' v x := by
  induction hr with
  | undef x => exact .undef x
  | bool b => exact .bool b
  | int k n => exact .int k n
  | str x => exact .str x
  | opq x h => exact .opq x h
  | nilptr => exact .nilptr
  | nilsl => exact .nilsl
  | nilif => exact .nilif
  | nilfn => exact .nilfn
  | ptr r off b base hm => exact .ptr r off b base (h.mm _ _ hm)
  | elp cs b o X hc hf hx hr ih =>
    obtain ⟨hc', hcell⟩ := hc.ext h
    refine .elp cs b o X hc' hf (fun j v hj => ?_) ih
    rw [hcell _ ?_]
    · exact hx j v hj
    · have := (List.getElem?_eq_some_iff.1 hj).1; omega
  | gptr g => exact .gptr g
  | sl r z off len b base cap hm hl hs => exact .sl r z off len b base cap (h.mm _ _ hm) hl (h.sizeOf (hv.mkk _ _ hm).1 hs)
  | uniq z es x => exact .uniq z es x
  | lst ow z es b o cap X hu hl ht hc hz hf hx hr ih =>
    obtain ⟨hc', hcell⟩ := hc.ext h
    refine .lst ow z es b o cap X hu hl ht hc' hz hf (fun i e j v hi hj => ?_) ih
    rw [hcell _ ?_]
    · exact hx i e j v hi hj
    · have h1 := (List.getElem?_eq_some_iff.1 hi).1
      have h2 := (List.getElem?_eq_some_iff.1 hj).1
      rw [hz i e hi] at h2
      have : i * z + z ≤ es.length * z := by
        have := Nat.mul_le_mul_right z (Nat.succ_le_of_lt h1)
        rw [Nat.succ_mul] at this
        exact this
      omega
  | agg cs xs hl hr ih => exact .agg cs xs hl ih
  | tup cs xs hl hr ih => exact .tup cs xs hl ih
  | fn f ds cs xs ys hl hm hr hs ih1 ih2 => exact .fn f ds cs xs ys hl hm ih1 ih2
  | ifc t v x hr ih => exact .ifc t v x ih

/-- What a list's holder knows of its block. -/
def OwnOk (G : Gh) (w : World) (l : Loc) (v : AV) (x : Value) : Prop :=
  match v with
  | .lst ow z es =>
    match ow with
    | .own | .uniq => ∃ b o cap, x = .slice (some ⟨b, o, none⟩) es.length cap ∧ es.length ≤ cap ∧ G.o l = some b ∧
        (∃ cs T fz, w.heap[b]? = some (.cells cs T fz) ∧ o + cap * z ≤ cs.size ∧ ∀ i, o + es.length * z ≤ i → i < o + cap * z → ¬ (fz.1 ≤ i ∧ i < fz.2)) ∧
        (ow = .own → G.k b = .gr (o + es.length * z)) ∧
        (ow = .uniq → G.k b = .un ∧ (∃ cs T, w.heap[b]? = some (.cells cs T (0, 0))) ∧ ∃ X : Nat → Nat → Value, (∀ (i : Nat) (e : List AV), es[i]? = some e → e.length = z) ∧
          ∀ (i : Nat) (e : List AV) (j : Nat) (u : AV), es[i]? = some e → e[j]? = some u → refFree u = true ∧ w.cell? ⟨b, o + i * z + j, none⟩ = some (X i j) ∧ RelV G w u (X i j))
    | _ => True
  | _ => True
theorem OwnOk.of_not {G : Gh} {w : World} {l : Loc} {v : AV} {x : Value} (h : ∀ z es, v ≠ .lst .own z es ∧ v ≠ .lst .uniq z es) : OwnOk G w l v x := by
  unfold OwnOk
  split
  · rename_i ow z es
    cases ow <;> first | trivial | exact absurd rfl (h z es).1 | exact absurd rfl (h z es).2
  · trivial
theorem OwnOk.ext {A : Nat → Prop} {G G' : Gh} {w w' : World} {n : Nat} {l : Loc} {v : AV} {x : Value} (hv : Valid G w n) (h : Ext A G w G' w')
    (ho : OwnOk G w l v x) (hl : G'.o l = G.o l) (hA : ∀ b, G.o l = some b → ¬ A b) : OwnOk G' w' l v x := by
  unfold OwnOk at *
  split
  · rename_i ow z es
    cases ow with
    | none => trivial
    | tight => trivial
    | own =>
      obtain ⟨b, o, cap, hx, hcap, hob, ⟨cs, T, fz, h1, h2, h3⟩, h4, h5⟩ := ho
      have hb := (hv.ok _ _ hob)
      have hk := h4 rfl
      obtain ⟨h6, h7⟩ := h.keep b hb.1 (by rw [hk]; simp) (by rw [hk]; simp) (hA b hob)
      exact ⟨b, o, cap, hx, hcap, by rw [hl, hob], ⟨cs, T, fz, by rw [h7, h1], h2, h3⟩, (fun _ => by rw [h6, hk]), (fun h => by cases h)⟩
    | uniq =>
      obtain ⟨b, o, cap, hx, hcap, hob, ⟨cs, T, fz, h1, h2, h3⟩, h4, h5⟩ := ho
      have hb := (hv.ok _ _ hob)
      obtain ⟨hk, ⟨cs0, T0, hz0⟩, X, hz, hX⟩ := h5 rfl
      obtain ⟨h6, h7⟩ := h.keep b hb.1 (by rw [hk]; simp) (by rw [hk]; simp) (hA b hob)
      refine ⟨b, o, cap, hx, hcap, by rw [hl, hob], ⟨cs, T, fz, by rw [h7, h1], h2, h3⟩, (fun h => by cases h), fun _ => ⟨by rw [h6, hk], ⟨cs0, T0, by rw [h7, hz0]⟩, X, hz, fun i e j u hi hj => ?_⟩⟩
      obtain ⟨h8, h9, h10⟩ := hX i e j u hi hj
      exact ⟨h8, by rw [cell_of_heap h7]; exact h9, h10.ext hv h⟩
  · trivial

/-- Names of lower levels alone. -/
def Gh.below (G : Gh) (n : Nat) : Gh := { G with m := fun r => if r.lev < n then G.m r else none }
theorem RelV.mapG {G G' : Gh} {w : World} (hm : ∀ r x, G.m r = some x → G'.m r = some x) (hs : ∀ b, b < w.heap.size → G.k b = .st → G'.k b = .st)
    (hg : ∀ b f, b < w.heap.size → G.k b = .gr f → ∃ f', f ≤ f' ∧ G'.k b = .gr f') {v : AV} {x : Value} (hr : RelV G w v x) : RelV G' w v x := by
  have hcov : ∀ {b n}, Cov G w b n → Cov G' w b n := by
    rintro b n ⟨hb, h | ⟨f, h, hn⟩⟩
    · exact ⟨hb, .inl (hs b hb h)⟩
    · obtain ⟨f', h1, h2⟩ := hg b f hb h
      exact ⟨hb, .inr ⟨f', h2, Nat.le_trans hn h1⟩⟩
  induction hr with
  | undef x => exact .undef x
  | bool b => exact .bool b
  | int k n => exact .int k n
  | str x => exact .str x
  | opq x h => exact .opq x h
  | nilptr => exact .nilptr
  | nilsl => exact .nilsl
  | nilif => exact .nilif
  | nilfn => exact .nilfn
  | ptr r off b base h => exact .ptr r off b base (hm _ _ h)
  | elp cs b o X hc hf hx hr ih => exact .elp cs b o X (hcov hc) hf hx ih
  | gptr g => exact .gptr g
  | sl r z off len b base cap h hl hs => exact .sl r z off len b base cap (hm _ _ h) hl hs
  | uniq z es x => exact .uniq z es x
  | lst ow z es b o cap X hu hl ht hc hz hf hx hr ih => exact .lst ow z es b o cap X hu hl ht (hcov hc) hz hf hx ih
  | agg cs xs hl hr ih => exact .agg cs xs hl ih
  | tup cs xs hl hr ih => exact .tup cs xs hl ih
  | fn f ds cs xs ys hl hm hr hs ih1 ih2 => exact .fn f ds cs xs ys hl hm ih1 ih2
  | ifc t v x hr ih => exact .ifc t v x ih
theorem RelV.of_below {G : Gh} {w : World} {n : Nat} {v : AV} {x : Value} (h : RelV (G.below n) w v x) : RelV G w v x :=
  RelV.mapG (G := G.below n) (G' := G) (fun r x hx => by simp only [Gh.below] at hx; split at hx; exact hx; cases hx) (fun _ _ h => h) (fun _ f _ h => ⟨f, Nat.le_refl _, h⟩) h
theorem RelV.to_below {G : Gh} {w : World} {n : Nat} {v : AV} {x : Value} (hv : ∀ r x, G.m r = some x → r.lev < n) (h : RelV G w v x) : RelV (G.below n) w v x :=
  RelV.mapG (G := G) (G' := G.below n) (fun r x hx => by simp only [Gh.below]; rw [if_pos (hv r x hx)]; exact hx) (fun _ _ h => h) (fun _ f _ h => ⟨f, Nat.le_refl _, h⟩) h
theorem Valid.below {G : Gh} {w : World} {n k : Nat} (h : Valid G w n) : Valid (G.below k) w n := by
  have hh : ∀ r x, (G.below k).m r = some x → G.m r = some x := fun r x hx => by simp only [Gh.below] at hx; split at hx; exact hx; cases hx
  exact ⟨fun r x hx => h.lev r x (hh r x hx), fun r r' x y hx hy => h.inj r r' x y (hh r x hx) (hh r' y hy), fun r x hx => h.mkk r x (hh r x hx), h.oinj, h.ok⟩
theorem Ext.below {A : Nat → Prop} {G G' : Gh} {w w' : World} {k : Nat} (h : Ext A G w G' w') : Ext A (G.below k) w (G'.below k) w' :=
  { os := h.os, tape := h.tape, output := h.output, size := h.size, st := h.st, gr := h.gr, keep := h.keep, mb := h.mb, mm := fun r x hx => by
      simp only [Gh.below] at hx ⊢
      split at hx
      · rename_i hl
        rw [if_pos hl]
        exact h.mm r x hx
      · cases hx }
/-- A block of the call's own, and the machine's block. -/
def RelBlk (G : Gh) (w : World) (r : Ref) (b base : Nat) : Blk → Prop
  | .cells vs => ∃ cs T, w.heap[b]? = some (.cells cs T (0, 0)) ∧ base + vs.length ≤ cs.size ∧
      ∀ (i : Nat) (v : AV) (x : Value), vs[i]? = some v → cs[base + i]? = some x → RelV (G.below (r.lev + 1)) w v x ∧ OwnOk G w (.cell r i) v x
  | .iter s pos => ∃ s' : ByteArray, s'.data.toList = s ∧ w.heap[b]? = some (.stringIter s' pos) ∧ base = 0
def RelHeap (G : Gh) (w : World) (hp : Heap) : Prop := ∀ r b base blk, G.m r = some (b, base) → hget hp r = some blk → RelBlk G w r b base blk
end Go.Proofs.Ytpfollpbkpgglaa.Sx
