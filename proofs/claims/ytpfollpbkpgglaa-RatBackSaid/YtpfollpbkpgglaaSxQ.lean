/- SX, part Q: calls that are handed no block, and told answers. -/
import Derived.Test.YtpfollpbkpgglaaSxP
set_option linter.unusedVariables false
set_option linter.unusedSimpArgs false
namespace Go.Proofs.Ytpfollpbkpgglaa.Sx
open Go
/-- What a call is to do. -/
def CallOk (P : Program) (gl : Nat → List AV) (C : CallT) : Prop :=
  ∀ (f : Nat) (args : List AV) (hp : Heap) (v : AV) (hp' : Heap), C f args hp = some (v, hp') → ∀ (G : Gh) (w : World) (xs : Array Value), Valid G w hp.length → args.length = xs.size →
    (∀ (j : Nat) (u : AV) (z : Value), args[j]? = some u → xs[j]? = some z → RelV G w u z ∧ OwnOk G w (.slot j) u z) → RelHeap G w hp → GlOk G w gl →
    bodied P f = true ∧ Calls P f xs w fun e w' => ∃ z G', e = .returned z ∧ Ext (fun b => ∃ l, G.o l = some b) G w G' w' ∧ Valid G' w' hp.length ∧ RelV G' w' v z ∧ OwnOk G' w' .res v z ∧ RelHeap G' w' hp' ∧ G'.m = G.m ∧
      (∀ l b, G'.o l = some b → (∃ l', G.o l' = some b) ∨ w.heap.size ≤ b)
/-- The told answers of a program's functions. -/
def PrimOk (P : Program) (prims : List (Nat × Nat)) : Prop :=
  ∀ p ∈ prims, ∀ (as : List AV) (v : AV), primX p.2 as = some v → ∀ (G : Gh) (w : World) (xs : Array Value), as.length = xs.size → (∀ (j : Nat) (u : AV) (z : Value), as[j]? = some u → xs[j]? = some z → RelV G w u z) →
    ∃ z, (callFunc p.1 xs).run P w = .ok (.value z) w ∧ RelV G w v z ∧ noFlag v
section
variable {P : Program} {G : Gh} {w : World} {N : Nat} {x : XO} {fr : List AV} {hp : Heap} {act : Act} {o : Oper} {K : Act → World → Prop} {Q : Exit → Act → World → Prop}
theorem run_call {g : Nat} {bs : List Operand} (h : callFn o.op = some (g, bs)) : (execOp act.eval o).run P w = (callFunc g (bs.map act.eval).toArray).run P w := by
  cases ho : o.op <;> rw [ho] at h <;> simp only [callFn] at h <;> (try (cases h; done))
  rename_i c
  split at h
  · rename_i g' hg
    injection h with h
    injection h with h1 h2
    subst h1 h2
    rw [show (c.args.toList.map act.eval).toArray = c.args.map act.eval by rw [← Array.toList_map]]
    simp [execOp, ho, resolve, hg, Deferred.ofValue, Act.eval, invoke]
  · cases h
theorem run_enter {g : Nat} {xs : Array Value} (h : bodied P g = true) : (callFunc g xs).run P w = .ok (.enter g xs) w := by
  unfold bodied at h
  split at h
  · rename_i fn hf
    simp only [Bool.and_eq_true, Option.isSome_iff_exists, Bool.not_eq_true', beq_eq_false_iff_ne, ne_eq] at h
    obtain ⟨⟨c, h1⟩, h2⟩ := h
    simp [callFunc, hf, h1, h2]
  · cases h
theorem eargs_noFlag : ∀ {as : List XArg} {bs : List Operand}, argsOk as bs = true → ∀ v ∈ eargs fr as, noFlag v
  | [], [], _, v, hv => by simp [eargs] at hv
  | [], _ :: _, h, _, _ => by simp [argsOk] at h
  | _ :: _, [], h, _, _ => by simp [argsOk] at h
  | a :: as, b :: bs, h, v, hv => by
    simp only [argsOk, Bool.and_eq_true] at h
    simp only [eargs, List.mem_cons] at hv
    rcases hv with rfl | hv
    · exact earg_noFlag h.1
    · exact eargs_noFlag h.2 v hv
theorem OwnOk.mapG {G G' : Gh} {l l' : Loc} {v : AV} {y : Value} (hs : ∀ b, b < w.heap.size → G.k b = .st → G'.k b = .st)
    (hg : ∀ b f, b < w.heap.size → G.k b = .gr f → ∃ f', f ≤ f' ∧ G'.k b = .gr f') (hl : ∀ b, G.o l = some b → G'.o l' = some b ∧ G'.k b = G.k b) (h : OwnOk G w l v y) : OwnOk G' w l' v y := by
  unfold OwnOk at *
  split
  · rename_i ow z es
    cases ow with
    | none => trivial
    | tight => trivial
    | own =>
      obtain ⟨b, o, cap, hx, hcap, hob, hc, h4, h5⟩ := h
      exact ⟨b, o, cap, hx, hcap, (hl b hob).1, hc, (fun _ => by rw [(hl b hob).2, h4 rfl]), (fun h => by cases h)⟩
    | uniq =>
      obtain ⟨b, o, cap, hx, hcap, hob, hc, h4, h5⟩ := h
      obtain ⟨h6, hz0, X, hz, hX⟩ := h5 rfl
      refine ⟨b, o, cap, hx, hcap, (hl b hob).1, hc, (fun h => by cases h), fun _ => ⟨by rw [(hl b hob).2, h6], hz0, X, hz, fun i e j u hi hj => ?_⟩⟩
      obtain ⟨h8, h9, h10⟩ := hX i e j u hi hj
      exact ⟨h8, h9, h10.noRef2 hs hg h8⟩
  · trivial
/-- The ghost that a call sees which is handed no block. -/
def away (G : Gh) : Gh where
  m := fun _ => none
  k := fun b => if G.k b = .mb then .al else G.k b
  o := fun _ => none
theorem away_valid : Valid (away G) w 0 := ⟨fun _ _ h => (by cases h), fun _ _ _ _ h => (by cases h), fun _ _ h => (by cases h), fun _ _ _ h => (by cases h), fun _ _ h => (by cases h)⟩
theorem away_st {b : Nat} (h : G.k b = .st) : (away G).k b = .st := by simp [away, h]
theorem away_gr {b f : Nat} (h : G.k b = .gr f) : (away G).k b = .gr f := by simp [away, h]
theorem away_rel {v : AV} {y : Value} (h : RelV G w v y) (hf : refFree v = true) : RelV (away G) w v y :=
  h.noRef2 (fun _ _ h => away_st h) (fun _ f _ h => ⟨f, Nat.le_refl _, away_gr h⟩) hf
theorem away_gl {gl : Nat → List AV} (h : GlOk G w gl) : GlOk (away G) w gl := by
  intro g
  rcases h g with h | ⟨h1, h2, h3, h4⟩
  · exact .inl h
  · refine .inr ⟨h1, away_st h2, h3, fun j v hj => ?_⟩
    obtain ⟨x, h5, h6⟩ := h4 j v hj
    exact ⟨x, h5, away_rel h6 (refFreeL_mem h3 _ (List.mem_of_getElem? hj))⟩
/-- A new block that the value speaks of, owned by the place that the value goes to, or by nobody; lists that the operation takes up lose their owners. -/
theorem next_newblk {k : BK} {own : Bool} {w' : World} {fr1 : List AV} {v : AV} {y : Value} (hv : Valid G w N) (h2 : cls x.op ≠ 2) (h3 : cls x.op ≠ 3) (hos : w'.os = w.os) (ht : w'.tape = w.tape) (hout : w'.output = w.output)
    (hsz : w'.heap.size = w.heap.size + 1) (hold : ∀ b, b < w.heap.size → w'.heap[b]? = w.heap[b]?) (hkm : k ≠ .mb) (hko : own = true → (∃ f, k = .gr f) ∨ k = .un)
    (hd : ∀ d, x.dst = some d → d < act.tmps.size)
    (hfr : ∀ t ∈ mvs x.op, RelV G w (fget fr1 t) (act.tmps.getD t undef) ∧ noFlag (fget fr1 t))
    (hrel : ∀ G' : Gh, G'.m = G.m → (∀ b, b < w.heap.size → G'.k b = G.k b) → G'.k w.heap.size = k → (own = true → ∀ d, x.dst = some d → G'.o (.slot d) = some w.heap.size) →
      Ext (fun _ => False) G w { G' with o := G.o } w' → RelV G' w' v y ∧ (if own then ∀ d, x.dst = some d → OwnOk G' w' (.slot d) v y else noFlag v)) :
    ∃ G', Next x fr hp G act w N (finX x fr1 v) hp G' (act.put x.dst y) w' := by
  let f : Loc → Option Nat := fun l => if ∃ t, x.dst = some t ∧ l = .slot t then (if own then some w.heap.size else none) else if ∃ t, t ∈ mvs x.op ∧ l = .slot t then none else G.o l
  have hf : ∀ l b, f l = some b → ((∃ t, x.dst = some t ∧ l = .slot t) ∧ own = true ∧ b = w.heap.size) ∨ (G.o l = some b ∧ ¬ (∃ t, x.dst = some t ∧ l = .slot t)) := by
    intro l b h
    simp only [f] at h
    split at h
    · rename_i h1
      split at h
      · injection h with h; exact .inl ⟨h1, by assumption, h.symm⟩
      · cases h
    · rename_i h1
      split at h
      · cases h
      · exact .inr ⟨h, h1⟩
  have hwr : ∀ t, t ∈ x.wr ↔ x.dst = some t ∨ t ∈ mvs x.op := by
    intro t
    cases h : x.dst <;> simp [XO.wr, h, eq_comm]
  have htouch : ∀ l, Touch x fr l ↔ ∃ t, (x.dst = some t ∨ t ∈ mvs x.op) ∧ l = .slot t := by
    intro l
    constructor
    · rintro (⟨t, h, rfl⟩ | ⟨h, _⟩)
      · exact ⟨t, (hwr t).1 h, rfl⟩
      · exact absurd h h3
    · rintro ⟨t, h, rfl⟩
      exact .inl ⟨t, (hwr t).2 h, rfl⟩
  let G' : Gh := { m := G.m, k := upd G.k w.heap.size k, o := f }
  have hk1 : ∀ b, b < w.heap.size → G'.k b = G.k b := fun b hb => by simp only [G', upd]; rw [if_neg (by omega)]
  have hk2 : G'.k w.heap.size = k := by simp [G', upd]
  have hE : ∀ A, Ext A G w G' w' := fun A => .of_same hos ht hout (by omega) hold hk1 (fun _ _ h => h)
  have hE0 : Ext (fun _ => False) G w { G' with o := G.o } w' := .of_same hos ht hout (by omega) hold hk1 (fun _ _ h => h)
  obtain ⟨hR, hO⟩ := hrel G' rfl hk1 hk2 (fun ho d hd' => by simp only [G', f]; rw [if_pos ⟨d, hd', rfl⟩, if_pos ho]) hE0
  refine ⟨G', hE _, ⟨hv.lev, hv.inj, fun r a h => ⟨by rw [hk1 _ (hv.mkk r a h).2]; exact (hv.mkk r a h).1, by have := (hv.mkk r a h).2; omega⟩, ?_, ?_⟩, put_size .., put_defers .., fun t h => put_ne _ _ _ _ h, ?_, ?_, ?_, fun _ => rfl, fun r h1 h2 => absurd h1 h2,
    fun r b base h1 h2 => (by rw [show G.m r = some (b, base) from h2] at h1; cases h1), fun r b base h _ => hold b (hv.mkk _ _ h).2, fun h => absurd h h3⟩
  · intro l l' b h1 h2
    rcases hf l b h1 with ⟨⟨t, h4, rfl⟩, _, rfl⟩ | ⟨h4, h5⟩ <;> rcases hf l' _ h2 with ⟨⟨u, h6, rfl⟩, _, h7⟩ | ⟨h6, h7⟩
    · rw [h4] at h6; injection h6 with h6; rw [h6]
    · have := (hv.ok _ _ h6).1; omega
    · have := (hv.ok _ _ h4).1; omega
    · exact hv.oinj _ _ b h4 h6
  · intro l b h1
    rcases hf l b h1 with ⟨_, ho, rfl⟩ | ⟨h4, _⟩
    · exact ⟨by omega, by rw [hk2]; exact hko ho⟩
    · have := hv.ok _ _ h4
      exact ⟨by omega, by rw [hk1 b this.1]; exact this.2⟩
  · intro t h
    unfold RelS
    by_cases hdt : x.dst = some t
    · rw [show fget (finX x fr1 v) t = v by simp [finX, hdt, fget_fput], hdt, put_eq _ _ _ (hd t hdt)]
      refine ⟨hR, ?_⟩
      split at hO
      · exact hO t hdt
      · exact .of_noFlag hO
    · have hm := ((hwr t).1 h).resolve_left hdt
      have e1 : fget (finX x fr1 v) t = fget fr1 t := by
        simp only [finX]
        split
        · rename_i d hd'; rw [fget_fput, if_neg (fun e => hdt (by rw [hd', e]))]
        · rfl
      rw [e1, put_ne _ _ _ _ hdt]
      exact ⟨(hfr t hm).1.ext hv (hE fun _ => False), .of_noFlag (hfr t hm).2⟩
  · intro l h
    show f l = _
    simp only [f]
    rw [if_neg (fun ⟨t, h1, h2⟩ => h ((htouch l).2 ⟨t, .inl h1, h2⟩)), if_neg (fun ⟨t, h1, h2⟩ => h ((htouch l).2 ⟨t, .inr h1, h2⟩))]
  · intro l b h h1
    rcases hf l b h1 with ⟨_, _, rfl⟩ | ⟨h4, _⟩
    · exact .inr (Nat.le_refl _)
    · exact .inl ⟨l, h, h4⟩
/-- A call that is handed no block. -/
theorem next_callq {C : CallT} {gl : Nat → List AV} {f : Nat} {bs : List Operand} {v : AV} {hq : Heap} (hC : CallOk P gl C) (h2 : cls x.op ≠ 2) (h3 : cls x.op ≠ 3) (hm : mvs x.op = []) (hxd : x.dst = o.dst)
    (hv : Valid G w N) (hb : bodied P f = true) (hrun : (execOp act.eval o).run P w = (callFunc f (bs.map act.eval).toArray).run P w)
    {vs : List AV} (hlen : vs.length = bs.length) (hrel : ∀ (j : Nat) (u : AV) (z : Value), vs[j]? = some u → (bs.map act.eval)[j]? = some z → RelV G w u z) (hnf : ∀ u ∈ vs, noFlag u) (hfree : refFreeL vs = true)
    (hgl : GlOk G w gl) (hc : C f vs [] = some (v, hq)) (hd : ∀ d, x.dst = some d → d < act.tmps.size)
    (hK : ∀ G' act' w', Next x fr hp G act w N (finX x fr v) hp G' act' w' → K act' w') : o.wp P act w K Q := by
  unfold Oper.wp
  rw [hrun, run_enter hb]
  show Calls P f _ w _
  refine Calls.mono (hC f vs [] v hq hc (away G) w _ away_valid (by simp [hlen]) ?_ (fun r b base blk h => by cases h) (away_gl hgl)).2 ?_
  · intro j u z hu hz
    have hz' : (bs.map act.eval)[j]? = some z := by simpa using hz
    exact ⟨away_rel (hrel j u z hu hz') (refFreeL_mem hfree _ (List.mem_of_getElem? hu)), .of_noFlag (hnf u (List.mem_of_getElem? hu))⟩
  · rintro e w' ⟨z, G1, rfl, hE, hV, hR, hO, _, hM, hOn⟩
    show K (act.put o.dst z) w'
    rw [← hxd]
    have hwr : ∀ t, t ∈ x.wr ↔ x.dst = some t := by
      intro t
      cases h : x.dst <;> simp [XO.wr, hm, h, eq_comm]
    have htouch : ∀ l, Touch x fr l ↔ ∃ t, x.dst = some t ∧ l = .slot t := by
      intro l
      constructor
      · rintro (⟨t, h, rfl⟩ | ⟨h, _⟩)
        · exact ⟨t, (hwr t).1 h, rfl⟩
        · exact absurd h h3
      · rintro ⟨t, h, rfl⟩
        exact .inl ⟨t, (hwr t).2 h, rfl⟩
    have hA : ∀ b, ¬ ∃ l, (away G).o l = some b := by rintro b ⟨l, h⟩; cases h
    have hkeep : ∀ b, b < w.heap.size → G.k b ≠ .st → (away G).k b = G1.k b ∧ w'.heap[b]? = w.heap[b]? := by
      intro b hb hs
      have h1 : (away G).k b ≠ .st := by simp only [away]; split; simp; exact hs
      have h2 : (away G).k b ≠ .mb := by simp only [away]; split; simp; assumption
      obtain ⟨h5, h6⟩ := hE.keep b hb h1 h2 (hA b)
      exact ⟨h5.symm, h6⟩
    have hst : ∀ b, b < w.heap.size → G.k b = .st → G1.k b = .st ∧ w'.heap[b]? = w.heap[b]? := fun b hb h => hE.st b hb (away_st h)
    have hheap : ∀ b, b < w.heap.size → w'.heap[b]? = w.heap[b]? := by
      intro b hb
      by_cases h : G.k b = .st
      · exact (hst b hb h).2
      · exact (hkeep b hb h).2
    have hfresh : ∀ l b, G1.o l = some b → w.heap.size ≤ b := fun l b h => (hOn l b h).resolve_left (fun ⟨l', h'⟩ => by cases h')
    let G' : Gh := { m := G.m, k := fun b => if b < w.heap.size ∧ G.k b = .mb then .mb else G1.k b, o := fun l => if ∃ t, x.dst = some t ∧ l = .slot t then G1.o .res else G.o l }
    have hk' : ∀ b, b < w.heap.size → G'.k b = G.k b := by
      intro b hb
      simp only [G']
      by_cases h : G.k b = .mb
      · rw [if_pos ⟨hb, h⟩, h]
      · rw [if_neg (fun e => h e.2)]
        by_cases h' : G.k b = .st
        · rw [(hst b hb h').1, h']
        · rw [← (hkeep b hb h').1]; simp [away, h]
    have hk1 : ∀ b, w.heap.size ≤ b → G'.k b = G1.k b := fun b hb => by simp only [G']; rw [if_neg (by omega)]
    have hm1 : ∀ r a, G1.m r = some a → G'.m r = some a := fun r a h => by rw [hM] at h; cases h
    have hs1 : ∀ b, b < w'.heap.size → G1.k b = .st → G'.k b = .st := by
      intro b _ h
      rcases Nat.lt_or_ge b w.heap.size with hb | hb
      · rw [hk' b hb]
        by_cases h' : G.k b = .st
        · exact h'
        · have := (hkeep b hb h').1
          rw [h] at this
          simp only [away] at this
          split at this <;> first | cases this | exact this
      · rw [hk1 b hb, h]
    have hg1 : ∀ b f, b < w'.heap.size → G1.k b = .gr f → ∃ f', f ≤ f' ∧ G'.k b = .gr f' := by
      intro b f _ h
      rcases Nat.lt_or_ge b w.heap.size with hb | hb
      · refine ⟨f, Nat.le_refl _, ?_⟩
        rw [hk' b hb]
        by_cases h' : G.k b = .st
        · rw [(hst b hb h').1] at h; cases h
        · have := (hkeep b hb h').1
          rw [h] at this
          simp only [away] at this
          split at this <;> first | cases this | exact this
      · exact ⟨f, Nat.le_refl _, by rw [hk1 b hb, h]⟩
    refine hK G' _ _ ⟨.of_same hE.os hE.tape hE.output hE.size hheap hk' (fun _ _ h => h), ⟨hv.lev, hv.inj, fun r a h => ⟨by rw [hk' _ (hv.mkk r a h).2]; exact (hv.mkk r a h).1, Nat.lt_of_lt_of_le (hv.mkk r a h).2 hE.size⟩, ?_, ?_⟩, put_size .., put_defers .., fun t h => put_ne _ _ _ _ h, ?_, ?_, ?_, fun _ => rfl, fun r h1 h2 => absurd h1 h2, fun r b base h1 h2 => (by rw [show G.m r = some (b, base) from h2] at h1; cases h1), fun r b base h _ => hheap b (hv.mkk _ _ h).2, fun h => absurd h h3⟩
    · intro l l' b h1 h2
      simp only [G'] at h1 h2
      split at h1 <;> split at h2
      · rename_i a1 a2
        obtain ⟨t, a1, rfl⟩ := a1
        obtain ⟨u, a2, rfl⟩ := a2
        rw [a1] at a2; injection a2 with a2; rw [a2]
      · have := hfresh _ _ h1; have := (hv.ok _ _ h2).1; omega
      · have := hfresh _ _ h2; have := (hv.ok _ _ h1).1; omega
      · exact hv.oinj _ _ b h1 h2
    · intro l b h1
      simp only [G'] at h1
      split at h1
      · have h4 := hV.ok _ _ h1
        rw [hk1 b (hfresh _ _ h1)]
        exact h4
      · have h4 := hv.ok _ _ h1
        rw [hk' b h4.1]
        exact ⟨Nat.lt_of_lt_of_le h4.1 hE.size, h4.2⟩
    · intro t h
      have hdt := (hwr t).1 h
      unfold RelS
      rw [show fget (finX x fr v) t = v by simp [finX, hdt, fget_fput], hdt, put_eq _ _ _ (hd t hdt)]
      refine ⟨hR.mapG hm1 hs1 hg1, hO.mapG hs1 hg1 fun b hb => ⟨?_, hk1 b (hfresh _ _ hb)⟩⟩
      simp only [G']
      rw [if_pos ⟨t, hdt, rfl⟩]
      exact hb
    · intro l h
      simp only [G']
      rw [if_neg (fun hh => h ((htouch l).2 hh))]
    · intro l b h h1
      simp only [G'] at h1
      rw [if_pos ((htouch l).1 h)] at h1
      exact .inr (hfresh _ _ h1)
end
end Go.Proofs.Ytpfollpbkpgglaa.Sx
