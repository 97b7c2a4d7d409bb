/- SX, part O: one operation's effect. -/
import Derived.Test.YtpfollpbkpgglaaSxN
import Derived.Calls
set_option linter.unusedVariables false
set_option linter.unusedSimpArgs false
namespace Go.Proofs.Ytpfollpbkpgglaa.Sx
open Go
def Touch (x : XO) (fr : List AV) (l : Loc) : Prop := (∃ t, t ∈ x.wr ∧ l = .slot t) ∨ (cls x.op = 3 ∧ ∃ r i, footR fr x.op r ∧ l = .cell r i)
def nv : Heap → Nat → Nat
  | [], _ => 0
  | l :: _, s => nextVer l s
def newRef (x : XO) (hp : Heap) : Ref := ⟨hp.length - 1, x.dst.getD 0, nv hp (x.dst.getD 0)⟩
def finX (x : XO) (fr : List AV) (v : AV) : List AV := match x.dst with | some d => fput fr d v | none => fr
structure Next (x : XO) (fr : List AV) (hp : Heap) (G : Gh) (act : Act) (w : World) (N : Nat) (fr' : List AV) (hp' : Heap) (G' : Gh) (act' : Act) (w' : World) : Prop where
  ext : Ext (fun b => ∃ l, Touch x fr l ∧ G.o l = some b) G w G' w'
  valid : Valid G' w' N
  size : act'.tmps.size = act.tmps.size
  defers : act'.defers = act.defers
  tmps : ∀ t, x.dst ≠ some t → act'.tmps.getD t undef = act.tmps.getD t undef
  slots : ∀ t ∈ x.wr, RelS G' w' fr' act' t
  oo : ∀ l, ¬ Touch x fr l → G'.o l = G.o l
  on : ∀ l b, Touch x fr l → G'.o l = some b → (∃ l', Touch x fr l' ∧ G.o l' = some b) ∨ w.heap.size ≤ b
  mm : cls x.op ≠ 2 → G'.m = G.m
  mnew : ∀ r, G.m r = none → G'.m r ≠ none → cls x.op = 2 ∧ r = newRef x hp ∧ hget hp' r ≠ none ∧ ∀ b base blk, G'.m r = some (b, base) → hget hp' r = some blk → RelBlk G' w' r b base blk
  mfr : ∀ r b base, G.m r = none → G'.m r = some (b, base) → ¬ (b < w.heap.size ∧ G.k b = .mb)
  mbk : ∀ r b base, G.m r = some (b, base) → ¬ (cls x.op = 3 ∧ footR fr x.op r) → w'.heap[b]? = w.heap[b]?
  blk : cls x.op = 3 → ∀ r b base blk, footR fr x.op r → G'.m r = some (b, base) → hget hp' r = some blk → RelBlk G' w' r b base blk
section
variable {P : Program} {G : Gh} {w : World} {N : Nat} {x : XO} {fr : List AV} {hp : Heap} {act : Act} {o : Oper} {v : AV} {y : Value}
theorem put_size (act : Act) (d : Option Tmp) (y : Value) : (act.put d y).tmps.size = act.tmps.size := by cases d <;> simp [Act.put]
theorem put_defers (act : Act) (d : Option Tmp) (y : Value) : (act.put d y).defers = act.defers := by cases d <;> simp [Act.put]
theorem put_ne (act : Act) (d : Option Tmp) (y : Value) (t : Nat) (h : d ≠ some t) : (act.put d y).tmps.getD t undef = act.tmps.getD t undef := by
  cases d with
  | none => rfl
  | some d => simp [Act.put, Array.getElem?_setIfInBounds_ne (show d ≠ t from fun e => h (by rw [e]))]
theorem put_eq (act : Act) (d : Nat) (y : Value) (h : d < act.tmps.size) : (act.put (some d) y).tmps.getD d undef = y := by
  simp [Act.put, h]
theorem RelV.sameMK {G G' : Gh} (hm : ∀ r a, G.m r = some a → G'.m r = some a) (hk : ∀ b, b < w.heap.size → G'.k b = G.k b) {v : AV} {y : Value} (h : RelV G w v y) : RelV G' w v y :=
  h.mapG hm (fun b hb hh => by rw [hk b hb, hh]) (fun b f hb hh => ⟨f, Nat.le_refl _, by rw [hk b hb, hh]⟩)
theorem RelV.withO {f : Loc → Option Nat} {v : AV} {y : Value} (h : RelV G w v y) : RelV { G with o := f } w v y :=
  RelV.sameMK (G := G) (G' := { G with o := f }) (fun _ _ h => h) (fun _ _ => rfl) h
/-- An operation that only gives a value without memory of its own. -/
theorem next_val (hv : Valid G w N) (h2 : cls x.op ≠ 2) (h3 : cls x.op ≠ 3) (hm : mvs x.op = []) (hr : RelV G w v y) (hno : noFlag v) (hd : ∀ d, x.dst = some d → d < act.tmps.size) :
    ∃ G', Next x fr hp G act w N (finX x fr v) hp G' (act.put x.dst y) w := by
  have hwr : ∀ t, t ∈ x.wr ↔ x.dst = some t := by
    intro t
    cases h : x.dst <;> simp [XO.wr, hm, h, eq_comm]
  refine ⟨{ G with o := fun l => if ∃ t, x.dst = some t ∧ l = .slot t then none else G.o l }, ?_⟩
  have ht : ∀ l, Touch x fr l ↔ ∃ t, x.dst = some t ∧ l = .slot t := by
    intro l
    constructor
    · rintro (⟨t, h, rfl⟩ | ⟨h, _⟩)
      · exact ⟨t, (hwr t).1 h, rfl⟩
      · exact absurd h h3
    · rintro ⟨t, h, rfl⟩
      exact .inl ⟨t, (hwr t).2 h, rfl⟩
  refine ⟨.of_same rfl rfl rfl (Nat.le_refl _) (fun _ _ => rfl) (fun _ _ => rfl) (fun _ _ h => h), ⟨hv.lev, hv.inj, hv.mkk, ?_, ?_⟩, put_size .., put_defers .., fun t h => put_ne _ _ _ _ h, ?_, ?_, ?_, fun _ => rfl, ?_, fun r b base h1 h2 => (by rw [show G.m r = some (b, base) from h2] at h1; cases h1), fun _ _ _ _ _ => rfl, fun h => absurd h h3⟩
  · intro l l' b h1 h2
    simp only at h1 h2
    split at h1
    · cases h1
    · split at h2
      · cases h2
      · exact hv.oinj _ _ b h1 h2
  · intro l b h1
    simp only at h1
    split at h1
    · cases h1
    · exact hv.ok _ _ h1
  · intro t h
    have hdt := (hwr t).1 h
    have e1 : fget (finX x fr v) t = v := by simp [finX, hdt, fget_fput]
    have e2 : (act.put x.dst y).tmps.getD t undef = y := by rw [hdt]; exact put_eq _ _ _ (hd t hdt)
    unfold RelS
    rw [e1, e2]
    exact ⟨hr.withO, .of_noFlag hno⟩
  · intro l h
    show (if _ then _ else _) = _
    rw [if_neg (fun hh => h ((ht l).2 hh))]
  · intro l b h h1
    simp only at h1
    rw [if_pos ((ht l).1 h)] at h1
    cases h1
  · intro r h1 h2
    exact absurd h1 h2
/-- What stays in a slot whose list was handed on. -/
theorem drop1_rel {G' : Gh} {w' : World} {s t : Nat} {y : Value} (h : RelV G w (fget fr t) y) (hts : t ≠ s → OwnOk G' w' (.slot t) (fget fr t) y)
    (hG : ∀ v, RelV G w v y → RelV G' w' v y) : RelV G' w' (fget (drop1 fr (.tmp s)) t) y ∧ OwnOk G' w' (.slot t) (fget (drop1 fr (.tmp s)) t) y := by
  by_cases hs : t = s
  · subst hs
    simp only [drop1]
    split
    · rename_i z es hv
      rw [fget_fput, if_pos rfl]
      rw [hv] at h
      exact ⟨hG _ (h.uf), .of_noFlag trivial⟩
    · rw [fget_fput, if_pos rfl]
      exact ⟨.undef _, .of_noFlag trivial⟩
    · rename_i h1 h2
      exact ⟨hG _ h, .of_not fun z es => ⟨h1 z es, h2 z es⟩⟩
  · have : fget (drop1 fr (.tmp s)) t = fget fr t := by
      simp only [drop1]
      split <;> first | rw [fget_fput, if_neg hs] | rfl
    rw [this]
    exact ⟨hG _ h, hts hs⟩
theorem OwnOk.sameK {G G' : Gh} {l l' : Loc} {v : AV} {y : Value} (hm : ∀ r a, G.m r = some a → G'.m r = some a) (hk : ∀ b, G'.k b = G.k b) (hl : G'.o l' = G.o l) (h : OwnOk G w l v y) : OwnOk G' w l' v y := by
  unfold OwnOk at *
  split
  · rename_i ow z es
    cases ow with
    | none => trivial
    | tight => trivial
    | own =>
      obtain ⟨b, o, cap, hx, hcap, hob, hc, h4, h5⟩ := h
      exact ⟨b, o, cap, hx, hcap, by rw [hl, hob], hc, (fun _ => by rw [hk, h4 rfl]), (fun h => by cases h)⟩
    | uniq =>
      obtain ⟨b, o, cap, hx, hcap, hob, hc, h4, h5⟩ := h
      obtain ⟨h6, hz0, X, hz, hX⟩ := h5 rfl
      refine ⟨b, o, cap, hx, hcap, by rw [hl, hob], hc, (fun h => by cases h), fun _ => ⟨by rw [hk, h6], hz0, X, hz, fun i e j u hi hj => ?_⟩⟩
      obtain ⟨h8, h9, h10⟩ := hX i e j u hi hj
      exact ⟨h8, h9, h10.sameMK hm (fun b _ => hk b)⟩
  · trivial
theorem OwnOk.withO {f : Loc → Option Nat} {l l' : Loc} {v : AV} {y : Value} (h : OwnOk G w l v y) (hl : f l' = G.o l) : OwnOk { G with o := f } w l' v y :=
  OwnOk.sameK (G := G) (G' := { G with o := f }) (fun _ _ h => h) (fun _ => rfl) hl h
/-- A list handed on from slot to slot. -/
theorem next_own {s : Nat} (hmx : mvs x.op = [s]) (h2 : cls x.op ≠ 2) (h3 : cls x.op ≠ 3) (hv : Valid G w N) (hs : RelS G w fr act s) (hd : ∀ d, x.dst = some d → d < act.tmps.size) :
    ∃ G', Next x fr hp G act w N (finX x (drop1 fr (.tmp s)) (fget fr s)) hp G' (act.put x.dst (act.tmps.getD s undef)) w := by
  have hwr : ∀ t, t ∈ x.wr ↔ x.dst = some t ∨ t = s := by
    intro t
    cases h : x.dst <;> simp [XO.wr, hmx, h, eq_comm]
  let f : Loc → Option Nat := fun l => if ∃ t, x.dst = some t ∧ l = .slot t then G.o (.slot s) else if l = .slot s then none else G.o l
  have hf : ∀ l b, f l = some b → ∃ l', G.o l' = some b ∧ (l' = l ∧ ¬ (∃ t, x.dst = some t ∧ l = .slot t) ∧ l ≠ .slot s ∨ l' = .slot s ∧ ∃ t, x.dst = some t ∧ l = .slot t) := by
    intro l b h
    simp only [f] at h
    split at h
    · rename_i h1; exact ⟨_, h, .inr ⟨rfl, h1⟩⟩
    · split at h
      · cases h
      · rename_i h1 h2; exact ⟨_, h, .inl ⟨rfl, h1, h2⟩⟩
  have ht : ∀ l, Touch x fr l ↔ ∃ t, (x.dst = some t ∨ t = s) ∧ l = .slot t := by
    intro l
    constructor
    · rintro (⟨t, h, rfl⟩ | ⟨h, _⟩)
      · exact ⟨t, (hwr t).1 h, rfl⟩
      · exact absurd h h3
    · rintro ⟨t, h, rfl⟩
      exact .inl ⟨t, (hwr t).2 h, rfl⟩
  refine ⟨{ G with o := f }, ?_⟩
  refine ⟨.of_same rfl rfl rfl (Nat.le_refl _) (fun _ _ => rfl) (fun _ _ => rfl) (fun _ _ h => h), ⟨hv.lev, hv.inj, hv.mkk, ?_, ?_⟩, put_size .., put_defers .., fun t h => put_ne _ _ _ _ h, ?_, ?_, ?_, fun _ => rfl, ?_, fun r b base h1 h2 => (by rw [show G.m r = some (b, base) from h2] at h1; cases h1), fun _ _ _ _ _ => rfl, fun h => absurd h h3⟩
  · intro l l' b h1 h2
    obtain ⟨l1, h4, h5⟩ := hf l b h1
    obtain ⟨l2, h6, h7⟩ := hf l' b h2
    have := hv.oinj _ _ b h4 h6
    subst this
    rcases h5 with ⟨rfl, h8, h9⟩ | ⟨rfl, t, h8, rfl⟩ <;> rcases h7 with ⟨h10, h11, h12⟩ | ⟨h10, u, h11, rfl⟩
    · exact h10
    · exact absurd h10 h9
    · exact absurd h10.symm h12
    · rw [h8] at h11; injection h11 with h11; rw [h11]
  · intro l b h1
    obtain ⟨l1, h4, h5⟩ := hf l b h1
    exact hv.ok _ _ h4
  · intro t h
    by_cases hdt : x.dst = some t
    · have e1 : fget (finX x (drop1 fr (.tmp s)) (fget fr s)) t = fget fr s := by simp [finX, hdt, fget_fput]
      have e2 : (act.put x.dst (act.tmps.getD s undef)).tmps.getD t undef = act.tmps.getD s undef := by rw [hdt]; exact put_eq _ _ _ (hd t hdt)
      unfold RelS
      rw [e1, e2]
      exact ⟨hs.1.withO, hs.2.withO (by simp only [f]; rw [if_pos ⟨t, hdt, rfl⟩])⟩
    · have hts : t = s := ((hwr t).1 h).resolve_left hdt
      subst hts
      have e1 : fget (finX x (drop1 fr (.tmp t)) (fget fr t)) t = fget (drop1 fr (.tmp t)) t := by
        simp only [finX]
        split
        · rename_i d hd'; rw [fget_fput, if_neg (fun e => hdt (by rw [hd', e]))]
        · rfl
      have e2 : (act.put x.dst (act.tmps.getD t undef)).tmps.getD t undef = act.tmps.getD t undef := put_ne _ _ _ _ hdt
      unfold RelS
      rw [e1, e2]
      exact drop1_rel hs.1 (fun h => absurd rfl h) (fun _ h => h.withO)
  · intro l h
    show f l = _
    simp only [f]
    rw [if_neg (fun ⟨t, h1, h2⟩ => h ((ht l).2 ⟨t, .inl h1, h2⟩)), if_neg (fun h1 => h ((ht l).2 ⟨s, .inr rfl, h1⟩))]
  · intro l b h h1
    obtain ⟨l1, h4, h5⟩ := hf l b h1
    refine .inl ⟨l1, ?_, h4⟩
    rcases h5 with ⟨rfl, h8, h9⟩ | ⟨rfl, t, h8, rfl⟩
    · exact h
    · exact (ht _).2 ⟨s, .inr rfl, rfl⟩
  · intro r h1 h2
    exact absurd h1 h2
theorem mkBlk_spec {d : Nat} {b : Blk} {r : Ref} {hp' : Heap} (h : mkBlk hp d b = some (r, hp')) :
    ∃ l t, hp = l :: t ∧ r = ⟨t.length, d, nextVer l d⟩ ∧ hp' = lput l d (some (nextVer l d, b)) :: t := by
  cases hp with
  | nil => cases h
  | cons l t =>
    simp only [mkBlk, Option.some.injEq, Prod.mk.injEq] at h
    exact ⟨l, t, rfl, h.1.symm, h.2.symm⟩
end
theorem mkBlk_facts {hp hp' : Heap} {d : Nat} {b : Blk} {r : Ref} (h : mkBlk hp d b = some (r, hp')) :
    hp'.length = hp.length ∧ (∀ s, nv hp s ≤ nv hp' s) ∧ r = ⟨hp.length - 1, d, nv hp d⟩ ∧ hp ≠ [] ∧ hget hp' r ≠ none ∧ ∀ q blk, hget hp' q = some blk → q ≠ r → hget hp q = some blk := by
  obtain ⟨l, t, rfl, rfl, rfl⟩ := mkBlk_spec h
  refine ⟨by simp, fun s => ?_, by simp [nv], by simp, by simp [hget, lget_lput], fun q blk hq hne => ?_⟩
  · simp only [nv, nextVer, lget_lput]
    by_cases hs : s = d
    · rw [if_pos hs, hs]
      split <;> simp_all
    · rw [if_neg hs]; exact Nat.le_refl _
  · simp only [hget] at hq ⊢
    by_cases hl : q.lev = t.length
    · rw [if_pos hl] at hq ⊢
      rw [lget_lput] at hq
      by_cases hs : q.site = d
      · rw [if_pos hs] at hq
        simp only at hq
        split at hq
        · rename_i e
          exact absurd (by cases q; simp_all) hne
        · cases hq
      · rw [if_neg hs] at hq
        exact hq
    · rw [if_neg hl] at hq ⊢
      exact hq
section
variable {P : Program} {G : Gh} {w : World} {N : Nat} {x : XO} {fr : List AV} {hp : Heap} {act : Act} {o : Oper} {v : AV} {y : Value}
/-- A new block. -/
theorem next_new0 {blk0 : Blk} {ob : Obj} {r : Ref} {hp' : Heap} (hv : Valid G w N) (hN : hp.length = N) (h2 : cls x.op = 2) (hm : mvs x.op = []) (hb : mkBlk hp (x.dst.getD 0) blk0 = some (r, hp'))
    (hfresh : G.m (newRef x hp) = none)
    (hr : ∀ (f : Loc → Option Nat) (G' : Gh), r.lev + 1 = N → Valid { G with o := f } w N → Ext (fun _ => False) { G with o := f } w G' (w.alloc ob) → RelBlk G' (w.alloc ob) r w.heap.size 0 blk0) (hd : ∀ d, x.dst = some d → d < act.tmps.size) :
    ∃ G', Next x fr hp G act w N (finX x fr (.ptr r 0)) hp' G' (act.put x.dst (.pointer (some ⟨w.heap.size, 0, none⟩))) (w.alloc ob) := by
  obtain ⟨l, t, rfl, hrr, rfl⟩ := mkBlk_spec hb
  have hnr : newRef x (l :: t) = r := hrr.symm
  rw [hnr] at hfresh
  have hwr : ∀ t, t ∈ x.wr ↔ x.dst = some t := by
    intro t
    cases h : x.dst <;> simp [XO.wr, hm, h, eq_comm]
  have h3 : cls x.op ≠ 3 := by omega
  let G1 : Gh := { G with o := fun l => if ∃ t, x.dst = some t ∧ l = .slot t then none else G.o l }
  have hv1 : Valid G1 w N := by
    refine ⟨hv.lev, hv.inj, hv.mkk, ?_, ?_⟩
    · intro l l' b h1 h2
      simp only [G1] at h1 h2
      split at h1
      · cases h1
      · split at h2
        · cases h2
        · exact hv.oinj _ _ b h1 h2
    · intro l b h1
      simp only [G1] at h1
      split at h1
      · cases h1
      · exact hv.ok _ _ h1
  have hlev : r.lev + 1 = N := by rw [hrr, ← hN]; simp
  have ht : ∀ l, Touch x fr l ↔ ∃ t, x.dst = some t ∧ l = .slot t := by
    intro l
    constructor
    · rintro (⟨t, h, rfl⟩ | ⟨h, _⟩)
      · exact ⟨t, (hwr t).1 h, rfl⟩
      · exact absurd h h3
    · rintro ⟨t, h, rfl⟩
      exact .inl ⟨t, (hwr t).2 h, rfl⟩
  have hext : ∀ A, Ext A G w (addB G1 w.heap.size .mb (some r) none) (w.alloc ob) := fun A =>
    .of_alloc (fun b hb => addB_k_lt G1 w .mb (some r) none b hb) (fun q a hq => by
      simp only [addB]
      rw [if_neg (fun e => by injection e with e; subst e; rw [hfresh] at hq; cases hq)]
      exact hq)
  have hext1 : Ext (fun _ => False) G1 w (addB G1 w.heap.size .mb (some r) none) (w.alloc ob) := 
    .of_alloc (fun b hb => addB_k_lt G1 w .mb (some r) none b hb) (fun q a hq => by
      simp only [addB]
      rw [if_neg (fun e => by injection e with e; subst e; rw [show G1.m r = none from hfresh] at hq; cases hq)]
      exact hq)
  refine ⟨addB G1 w.heap.size .mb (some r) none, hext _, hv1.addB (by simp) (fun q h => by injection h with h; subst h; exact ⟨by omega, rfl⟩) (fun q h => by cases h), put_size .., put_defers .., fun t h => put_ne _ _ _ _ h, ?_, ?_, ?_, fun h => absurd h2 h, ?_, ?_, ?_, fun h => absurd h h3⟩
  · intro t h
    have hdt := (hwr t).1 h
    unfold RelS
    rw [show fget (finX x fr (.ptr r 0)) t = .ptr r 0 by simp [finX, hdt, fget_fput], hdt, put_eq _ _ _ (hd t hdt)]
    exact ⟨.ptr r 0 w.heap.size 0 (by simp [addB]), .of_noFlag trivial⟩
  · intro l h
    simp only [addB, G1]
    rw [if_neg (by simp), if_neg (fun hh => h ((ht l).2 hh))]
  · intro l b h h1
    simp only [addB] at h1
    rw [if_neg (by simp)] at h1
    simp only [G1] at h1
    rw [if_pos ((ht l).1 h)] at h1
    cases h1
  · intro q h1 h4
    have hq : q = r := by
      simp only [addB] at h4
      split at h4
      · rename_i e; injection e with e; exact e.symm
      · exact absurd h1 h4
    subst hq
    refine ⟨h2, hnr.symm, (by rw [hrr]; simp [hget, lget_lput]), fun b base blk h5 h6 => ?_⟩
    simp only [addB, if_true] at h5
    injection h5 with h5
    injection h5 with h5 h7
    subst h5 h7
    have : blk = blk0 := by
      rw [hrr] at h6
      simp only [hget, if_true, lget_lput] at h6
      injection h6 with h6
      exact h6.symm
    subst this
    exact hr _ _ hlev hv1 hext1
  · intro q b base h1 h4 h5
    simp only [addB] at h4
    split at h4
    · injection h4 with h4; injection h4 with h4 _; omega
    · rw [show G.m q = some (b, base) from h4] at h1; cases h1
  · intro q b base h _
    exact heap_alloc_lt w _ b (hv.mkk _ _ h).2
/-- A new block of cells. -/
theorem next_new {cs : List AV} {xs : Array Value} {T : TypeId} {r : Ref} {hp' : Heap} (hv : Valid G w N) (hN : hp.length = N) (h2 : cls x.op = 2) (hm : mvs x.op = []) (hb : mkBlk hp (x.dst.getD 0) (.cells cs) = some (r, hp'))
    (hfresh : G.m (newRef x hp) = none) (hr : RelCs G w cs xs) (hno : ∀ v ∈ cs, noFlag v) (hd : ∀ d, x.dst = some d → d < act.tmps.size) :
    ∃ G', Next x fr hp G act w N (finX x fr (.ptr r 0)) hp' G' (act.put x.dst (.pointer (some ⟨w.heap.size, 0, none⟩))) (w.alloc (.cells xs T)) :=
  next_new0 hv hN h2 hm hb hfresh (fun f G' hlev hv1 hE => relBlk_new hv1 hlev ⟨hr.1, fun j u a h8 h9 => (hr.2 j u a h8 h9).withO⟩ hno hE) hd
end
end Go.Proofs.Ytpfollpbkpgglaa.Sx
