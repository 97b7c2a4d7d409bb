/- SX, part T: regions, whatever order their operations run in. -/
import Derived.Test.YtpfollpbkpgglaaSxS
import Derived.Orders
set_option linter.unusedVariables false
set_option linter.unusedSimpArgs false
namespace Go.Proofs.Ytpfollpbkpgglaa.Sx
open Go
def Wr (x : XO) (fr : List AV) (r : Ref) : Prop := cls x.op = 3 ∧ footR fr x.op r
def Conf (S : Nat → List AV × Heap) (i : Nat) (x : XO) (j : Nat) (y : XO) : Prop :=
  (∃ t, t ∈ x.wr ∧ t ∈ y.nm) ∨ (∃ t, t ∈ y.wr ∧ t ∈ x.nm) ∨ (∃ r, Wr x (S i).1 r ∧ footR (S j).1 y.op r) ∨ (∃ r, Wr y (S j).1 r ∧ footR (S i).1 x.op r) ∨
  (cls x.op = 2 ∧ cls y.op = 3) ∨ (cls x.op = 3 ∧ cls y.op = 2)
theorem Conf.symm {S : Nat → List AV × Heap} {i j : Nat} {x y : XO} (h : Conf S i x j y) : Conf S j y i x := by
  rcases h with h | h | h | h | h | h
  · exact .inr (.inl h)
  · exact .inl h
  · exact .inr (.inr (.inr (.inl h)))
  · exact .inr (.inr (.inl h))
  · exact .inr (.inr (.inr (.inr (.inr ⟨h.2, h.1⟩))))
  · exact .inr (.inr (.inr (.inr (.inl ⟨h.2, h.1⟩))))
structure Reg (P : Program) (C : CallT) (gl : Nat → List AV) (prims : List (Nat × Nat)) (nt N : Nat) (xs : List XO) (ops : Array Oper) (S : Nat → List AV × Heap) : Prop where
  len : xs.length = ops.size
  sup : ∀ (i : Nat) (x : XO), xs[i]? = some x → supOp x.op = true
  chk : ∀ (i : Nat) (x : XO) (o : Oper), xs[i]? = some x → ops[i]? = some o → chkXO P prims nt ops.toList x o = true
  ev : ∀ (i : Nat) (x : XO), xs[i]? = some x → evO C gl x (S i).1 (S i).2 = some (S (i + 1))
  hN : (S 0).2.length = N
structure RInv (xs : List XO) (S : Nat → List AV × Heap) (N : Nat) (G0 : Gh) (w0 : World) (sz : Nat) (df : List Deferred) (L : Nat → Prop) (G : Gh) (act : Act) (w : World) : Prop where
  valid : Valid G w N
  size : act.tmps.size = sz
  defers : act.defers = df
  slot : ∀ (t p : Nat), p ≤ xs.length → (∀ (j : Nat) (x : XO), j < p → xs[j]? = some x → t ∈ x.wr → L j) → (∀ (j : Nat) (x : XO), p ≤ j → xs[j]? = some x → t ∈ x.wr → ¬ L j) → RelS G w (S p).1 act t
  heap : ∀ (r : Ref) (p : Nat), p ≤ xs.length → (∀ (j : Nat) (x : XO), j < p → xs[j]? = some x → Wr x (S j).1 r → L j) → (∀ (j : Nat) (x : XO), p ≤ j → xs[j]? = some x → Wr x (S j).1 r → ¬ L j) →
    ∀ b base blk, G.m r = some (b, base) → hget (S p).2 r = some blk → RelBlk G w r b base blk
  names : ∀ r, G.m r ≠ none → G0.m r ≠ none ∨ ∃ (j : Nat) (x : XO), L j ∧ xs[j]? = some x ∧ cls x.op = 2 ∧ r = newRef x (S j).2 ∧ hget (S (j + 1)).2 r ≠ none
  ext : Ext (fun b => ∃ l, G0.o l = some b) G0 w0 G w
  own : ∀ l b, G.o l = some b → (∃ l', G0.o l' = some b) ∨ w0.heap.size ≤ b
  fresh : ∀ r b base, G.m r = some (b, base) → G0.m r = some (b, base) ∨ ¬ (b < w0.heap.size ∧ G0.k b = .mb)
section
variable {P : Program} {C : CallT} {gl : Nat → List AV} {prims : List (Nat × Nat)} {nt N : Nat} {xs : List XO} {ops : Array Oper} {S : Nat → List AV × Heap} {G0 : Gh} {w0 : World} {sz : Nat} {df : List Deferred}
theorem Reg.facts (h : Reg P C gl prims nt N xs ops S) {i : Nat} {x : XO} (hx : xs[i]? = some x) : EvFacts x (S i).1 (S i).2 (S (i + 1)).1 (S (i + 1)).2 :=
  evO_facts (h.sup i x hx) (h.ev i x hx)
theorem Reg.getx (h : Reg P C gl prims nt N xs ops S) {i : Nat} (hi : i < xs.length) : ∃ x, xs[i]? = some x := ⟨xs[i], by simp [hi]⟩
theorem Reg.lenN (h : Reg P C gl prims nt N xs ops S) : ∀ {p : Nat}, p ≤ xs.length → (S p).2.length = N
  | 0, _ => h.hN
  | p + 1, hp => by
    obtain ⟨x, hx⟩ := h.getx (show p < xs.length from hp)
    rw [(h.facts hx).len]
    exact h.lenN (Nat.le_of_succ_le hp)
theorem Reg.nvle (h : Reg P C gl prims nt N xs ops S) {p : Nat} (s : Nat) : ∀ {q : Nat}, p ≤ q → q ≤ xs.length → nv (S p).2 s ≤ nv (S q).2 s
  | 0, hpq, _ => by rw [Nat.le_zero.1 hpq]; exact Nat.le_refl _
  | q + 1, hpq, hq => by
    rcases Nat.lt_or_ge p (q + 1) with hlt | hge
    · obtain ⟨x, hx⟩ := h.getx (show q < xs.length from hq)
      exact Nat.le_trans (h.nvle s (Nat.le_of_lt_succ hlt) (Nat.le_of_succ_le hq)) ((h.facts hx).ver s)
    · rw [Nat.le_antisymm hpq hge]; exact Nat.le_refl _
theorem idx_lt {i : Nat} {x : XO} (hx : xs[i]? = some x) : i < xs.length := (List.getElem?_eq_some_iff.1 hx).1
/-- A block's name lies below the count of its place. -/
theorem Reg.verlt (h : Reg P C gl prims nt N xs ops S) {i : Nat} {x : XO} (hx : xs[i]? = some x) (hn : hget (S (i + 1)).2 (newRef x (S i).2) ≠ none) {q : Nat} (hq : i < q) (hq2 : q ≤ xs.length) :
    (newRef x (S i).2).ver < nv (S q).2 (newRef x (S i).2).site := by
  obtain ⟨b, hb⟩ := Option.ne_none_iff_exists'.1 hn
  have hi := idx_lt hx
  have hpos : 0 < N := by
    have : (S (i + 1)).2 ≠ [] := fun e => by rw [e] at hb; cases hb
    rw [← h.lenN (show i + 1 ≤ xs.length from hi)]
    exact List.length_pos_iff.2 this
  have h1 := hget_ver hb (by
    show (S i).2.length - 1 + 1 = _
    rw [h.lenN (Nat.le_of_lt hi), h.lenN (show i + 1 ≤ xs.length from hi)]
    omega)
  exact Nat.lt_of_lt_of_le h1 (h.nvle _ hq hq2)
theorem Reg.newne (h : Reg P C gl prims nt N xs ops S) {i j : Nat} {x y : XO} (hx : xs[i]? = some x) (hy : xs[j]? = some y) (hn : hget (S (i + 1)).2 (newRef x (S i).2) ≠ none) (hij : i < j) :
    newRef x (S i).2 ≠ newRef y (S j).2 := by
  intro e
  have h1 := h.verlt hx hn hij (Nat.le_of_lt (idx_lt hy))
  have e1 : (newRef x (S i).2).ver = (newRef y (S j).2).ver := by rw [e]
  have e2 : (newRef x (S i).2).site = (newRef y (S j).2).site := by rw [e]
  rw [e1, e2] at h1
  exact absurd h1 (Nat.lt_irrefl _)
/-- A slot that nobody writes in between. -/
theorem Reg.slotStays (h : Reg P C gl prims nt N xs ops S) {t p : Nat} : ∀ {q : Nat}, p ≤ q → q ≤ xs.length → (∀ (j : Nat) (x : XO), p ≤ j → j < q → xs[j]? = some x → t ∉ x.wr) → fget (S q).1 t = fget (S p).1 t
  | 0, hpq, _, _ => by rw [Nat.le_zero.1 hpq]
  | q + 1, hpq, hq, hw => by
    rcases Nat.lt_or_ge p (q + 1) with hlt | hge
    · obtain ⟨x, hx⟩ := h.getx (show q < xs.length from hq)
      rw [(h.facts hx).off t (hw q x (Nat.le_of_lt_succ hlt) (Nat.lt_succ_self q) hx)]
      exact h.slotStays (Nat.le_of_lt_succ hlt) (Nat.le_of_succ_le hq) (fun j x h1 h2 => hw j x h1 (Nat.lt_succ_of_lt h2))
    · rw [Nat.le_antisymm hpq hge]
/-- A block that nobody writes or makes in between. -/
theorem Reg.blkStays (h : Reg P C gl prims nt N xs ops S) {r : Ref} {p : Nat} {blk : Blk} : ∀ {q : Nat}, p ≤ q → q ≤ xs.length → (∀ (j : Nat) (x : XO), p ≤ j → j < q → xs[j]? = some x → ¬ Wr x (S j).1 r) →
    (∀ (j : Nat) (x : XO), p ≤ j → j < q → xs[j]? = some x → cls x.op = 2 → hget (S (j + 1)).2 r ≠ none → r ≠ newRef x (S j).2) → hget (S q).2 r = some blk → hget (S p).2 r = some blk
  | 0, hpq, _, _, _, hg => by rw [Nat.le_zero.1 hpq]; exact hg
  | q + 1, hpq, hq, hw, hn, hg => by
    rcases Nat.lt_or_ge p (q + 1) with hlt | hge
    · obtain ⟨x, hx⟩ := h.getx (show q < xs.length from hq)
      have hp := Nat.le_of_lt_succ hlt
      rcases (h.facts hx).heap r blk (hw q x hp (Nat.lt_succ_self q) hx) hg with h1 | ⟨h1, h2⟩
      · exact h.blkStays hp (Nat.le_of_succ_le hq) (fun j x h1 h2 => hw j x h1 (Nat.lt_succ_of_lt h2)) (fun j x h1 h2 => hn j x h1 (Nat.lt_succ_of_lt h2)) h1
      · exact absurd h2 (hn q x hp (Nat.lt_succ_self q) hx h1 (by rw [hg]; simp))
    · rw [Nat.le_antisymm hpq hge]; exact hg
theorem wr_nm {x : XO} {t : Nat} (h : t ∈ x.wr) : t ∈ x.nm := by simp [XO.nm, h]
theorem inv_step (h : Reg P C gl prims nt N xs ops S) (hC : CallOk P gl C) (hP : PrimOk P prims) (hg : GlOk G0 w0 gl) (hv0 : Valid G0 w0 N) (hnt : nt ≤ sz) (hf0 : ∀ r, G0.m r ≠ none → r.lev + 1 = N → r.ver < nv (S 0).2 r.site)
    {L : Nat → Prop} {G : Gh} {act : Act} {w : World} (hI : RInv xs S N G0 w0 sz df L G act w) {i : Nat} {x : XO} (hx : xs[i]? = some x) (hiL : ¬ L i)
    (hord : ∀ (j : Nat) (y : XO), xs[j]? = some y → Conf S i x j y → (j < i → L j) ∧ (i < j → ¬ L j)) {K : Act → World → Prop} {Q : Exit → Act → World → Prop}
    (hK : ∀ G' act' w', RInv xs S N G0 w0 sz df (fun j => L j ∨ j = i) G' act' w' → K act' w') : wpOp P ops Q i K act w := by
  have hi := idx_lt hx
  obtain ⟨o, ho⟩ : ∃ o, ops[i]? = some o := ⟨ops[i]'(by rw [← h.len]; exact hi), by simp⟩
  have hNpos : ∀ r, G0.m r ≠ none → r.lev + 1 = N → ∀ q, q ≤ xs.length → r.ver < nv (S q).2 r.site := fun r h1 h2 q hq => Nat.lt_of_lt_of_le (hf0 r h1 h2) (h.nvle _ (Nat.zero_le q) hq)
  have hlevnew : ∀ (j : Nat) (y : XO), xs[j]? = some y → 0 < N → (newRef y (S j).2).lev + 1 = N := by
    intro j y hy hpos
    show (S j).2.length - 1 + 1 = N
    rw [h.lenN (Nat.le_of_lt (idx_lt hy))]
    omega
  have hNp : ∀ {q : Nat} {r : Ref}, q ≤ xs.length → hget (S q).2 r ≠ none → 0 < N := by
    intro q r hq hr
    rw [← h.lenN hq]
    refine List.length_pos_iff.2 fun e => hr ?_
    rw [e]; rfl
  -- no name of before, and no name of an operation that has run, is the name that one that has not run will give
  have hnotnew : ∀ (j : Nat) (y : XO), xs[j]? = some y → ¬ L j → hget (S (j + 1)).2 (newRef y (S j).2) ≠ none → G.m (newRef y (S j).2) = none := by
    intro j y hy hj hne
    cases hgm : G.m (newRef y (S j).2) with
    | none => rfl
    | some a =>
      exfalso
      rcases hI.names (newRef y (S j).2) (by rw [hgm]; simp) with h1 | ⟨k, z, h1, h2, h3, h4, h5⟩
      · exact absurd (hNpos _ h1 (hlevnew j y hy (hNp (show j + 1 ≤ xs.length from idx_lt hy) hne)) j (Nat.le_of_lt (idx_lt hy))) (Nat.lt_irrefl _)
      · rcases Nat.lt_trichotomy j k with hlt | heq | hgt
        · exact h.newne hy h2 hne hlt h4
        · rw [heq] at hj; exact hj h1
        · exact h.newne h2 hy (by rw [← h4]; exact h5) hgt h4.symm
  refine step_xo ho (h.sup i x hx) hC hP (h.chk i x o hx ho) (by rw [hI.size]; exact hnt) (h.ev i x hx) hI.valid (h.lenN (Nat.le_of_lt hi)) ?_ ?_ (hg.ext hv0 hI.ext) (fun _ _ hne => hnotnew i x hx hiL hne) ?_
  · intro t ht
    refine hI.slot t i (Nat.le_of_lt hi) (fun j y hj hy hw => (hord j y hy (.inr (.inl ⟨t, hw, ht⟩))).1 hj) (fun j y hj hy hw => ?_)
    rcases Nat.lt_or_eq_of_le hj with hlt | heq
    · exact (hord j y hy (.inr (.inl ⟨t, hw, ht⟩))).2 hlt
    · exact heq ▸ hiL
  · intro r hr b base blk hm hb
    refine hI.heap r i (Nat.le_of_lt hi) (fun j y hj hy hw => (hord j y hy (.inr (.inr (.inr (.inl ⟨r, hw, hr⟩))))).1 hj) (fun j y hj hy hw => ?_) b base blk hm hb
    rcases Nat.lt_or_eq_of_le hj with hlt | heq
    · exact (hord j y hy (.inr (.inr (.inr (.inl ⟨r, hw, hr⟩))))).2 hlt
    · exact heq ▸ hiL
  · intro G' act' w' hn
    refine hK G' act' w' ⟨hn.valid, hn.size.trans hI.size, hn.defers.trans hI.defers, ?_, ?_, ?_, ?_, ?_, ?_⟩
    · intro t p hp h1 h2
      by_cases ht : t ∈ x.wr
      · have hip : i < p := Nat.lt_of_not_le fun hle => h2 i x hle hx ht (.inr rfl)
        have hst := hn.slots t ht
        have e : fget (S p).1 t = fget (S (i + 1)).1 t := h.slotStays hip hp fun j y hj hjp hy hw => by
          have hc : Conf S i x j y := .inl ⟨t, ht, wr_nm hw⟩
          rcases h1 j y hjp hy hw with h3 | h3
          · exact (hord j y hy hc).2 hj h3
          · omega
        unfold RelS at hst ⊢
        rw [e]
        exact hst
      · have hd : x.dst ≠ some t := fun e => ht (by simp [XO.wr, e])
        have hst : RelS G w (S p).1 act t := by
          refine hI.slot t p hp (fun j y hj hy hw => ?_) (fun j y hj hy hw hL => h2 j y hj hy hw (.inl hL))
          rcases h1 j y hj hy hw with h3 | h3
          · exact h3
          · subst h3
            rw [hx] at hy
            injection hy with hy
            subst hy
            exact absurd hw ht
        have hnt' : ¬ Touch x (S i).1 (.slot t) := by
          rintro (⟨u, hu, e⟩ | ⟨_, r, k, _, e⟩)
          · injection e with e; subst e; exact ht hu
          · cases e
        have := hst.ext hI.valid hn.ext (hn.oo _ hnt') (fun c hc ⟨l, hl, hl2⟩ => hnt' (by rw [hI.valid.oinj _ _ c hc hl2]; exact hl))
        unfold RelS at this ⊢
        rw [hn.tmps t hd]
        exact this
    · intro r p hp h1 h2 b base blk hm hb
      by_cases hw : Wr x (S i).1 r
      · have hip : i < p := Nat.lt_of_not_le fun hle => h2 i x hle hx hw (.inr rfl)
        have hmm : G'.m = G.m := hn.mm (by rw [hw.1]; decide)
        have hgm : G.m r ≠ none := by rw [← hmm, hm]; simp
        have e : hget (S (i + 1)).2 r = some blk := h.blkStays hip hp (fun j y hj hjp hy hwy => by
            have hc : Conf S i x j y := .inr (.inr (.inl ⟨r, hw, hwy.2⟩))
            rcases h1 j y hjp hy hwy with h3 | h3
            · exact (hord j y hy hc).2 hj h3
            · omega) (fun j y hj hjp hy hc2 hne e => by
            have hc : Conf S i x j y := .inr (.inr (.inr (.inr (.inr ⟨hw.1, hc2⟩))))
            have hjL := (hord j y hy hc).2 hj
            exact hgm (e ▸ hnotnew j y hy hjL (e ▸ hne))) hb
        exact hn.blk hw.1 r b base blk hw.2 hm e
      · by_cases hgm : G.m r = none
        · obtain ⟨hc2, hr, hne, hrel⟩ := hn.mnew r hgm (by rw [hm]; simp)
          have hpos := hNp (show i + 1 ≤ xs.length from hi) hne
          have hip : i < p := Nat.lt_of_not_le fun hle => by
            have h3 := hget_ver hb (by rw [h.lenN hp, hr]; exact hlevnew i x hx hpos)
            have h4 := h.nvle r.site hle (Nat.le_of_lt hi)
            rw [hr] at h3 h4
            exact absurd (Nat.lt_of_lt_of_le h3 h4) (Nat.lt_irrefl _)
          refine hrel b base blk hm (h.blkStays hip hp (fun j y hj hjp hy hwy => ?_) (fun j y hj hjp hy hc hne' e => h.newne hx hy (hr ▸ hne) hj (hr ▸ e)) hb)
          have hc : Conf S i x j y := .inr (.inr (.inr (.inr (.inl ⟨hc2, hwy.1⟩))))
          rcases h1 j y hjp hy hwy with h3 | h3
          · exact (hord j y hy hc).2 hj h3
          · omega
        · obtain ⟨a, ha⟩ := Option.ne_none_iff_exists'.1 hgm
          have : a = (b, base) := Option.some.inj ((hn.ext.mm r a ha).symm.trans hm)
          subst this
          have hrel : RelBlk G w r b base blk := by
            refine hI.heap r p hp (fun j y hj hy hwy => ?_) (fun j y hj hy hwy hL => h2 j y hj hy hwy (.inl hL)) b base blk ha hb
            rcases h1 j y hj hy hwy with h3 | h3
            · exact h3
            · subst h3
              rw [hx] at hy
              injection hy with hy
              subst hy
              exact absurd hwy hw
          have hnt' : ∀ k, ¬ Touch x (S i).1 (.cell r k) := by
            rintro k (⟨u, hu, e⟩ | ⟨h3, q, k', h4, e⟩)
            · cases e
            · injection e with e1 e2; subst e1; exact hw ⟨h3, h4⟩
          exact hrel.ext hI.valid hn.ext (hn.mbk r b base ha hw) (fun k => hn.oo _ (hnt' k)) (fun k c hc ⟨l, hl, hl2⟩ => hnt' k (by rw [hI.valid.oinj _ _ c hc hl2]; exact hl))
    · intro r hr
      by_cases hgm : G.m r = none
      · obtain ⟨hc2, hrr, hne, _⟩ := hn.mnew r hgm hr
        exact .inr ⟨i, x, .inr rfl, hx, hc2, hrr, hne⟩
      · rcases hI.names r hgm with h1 | ⟨k, z, h1, h2⟩
        · exact .inl h1
        · exact .inr ⟨k, z, .inl h1, h2⟩
    · exact hI.ext.trans hn.ext fun b hb ⟨l, _, hl⟩ => (hI.own l b hl).resolve_right (by omega)
    · intro l b hl
      by_cases ht : Touch x (S i).1 l
      · rcases hn.on l b ht hl with ⟨l', _, h1⟩ | h1
        · exact hI.own l' b h1
        · exact .inr (Nat.le_trans hI.ext.size h1)
      · rw [hn.oo l ht] at hl
        exact hI.own l b hl
    · intro r b base hr
      cases hgm : G.m r with
      | none => exact .inr fun ⟨e1, e2⟩ => hn.mfr r b base hgm hr ⟨Nat.lt_of_lt_of_le e1 hI.ext.size, (hI.ext.mb b e1 e2).1⟩
      | some a =>
        have : a = (b, base) := Option.some.inj ((hn.ext.mm r a hgm).symm.trans hr)
        subst this
        exact hI.fresh r b base hgm
end
end Go.Proofs.Ytpfollpbkpgglaa.Sx
