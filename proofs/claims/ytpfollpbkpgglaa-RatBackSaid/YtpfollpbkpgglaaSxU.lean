/- SX, part U: regions. -/
import Derived.Test.YtpfollpbkpgglaaSxT
set_option linter.unusedVariables false
set_option linter.unusedSimpArgs false
namespace Go.Proofs.Ytpfollpbkpgglaa.Sx
open Go
structure FInv (N : Nat) (G0 : Gh) (w0 : World) (sz : Nat) (df : List Deferred) (fr : List AV) (hp : Heap) (G : Gh) (act : Act) (w : World) : Prop where
  valid : Valid G w N
  size : act.tmps.size = sz
  defers : act.defers = df
  slot : ∀ t, RelS G w fr act t
  heap : RelHeap G w hp
  names : ∀ r, G.m r ≠ none → r.lev + 1 = N → r.ver < nv hp r.site
  ext : Ext (fun b => ∃ l, G0.o l = some b) G0 w0 G w
  own : ∀ l b, G.o l = some b → (∃ l', G0.o l' = some b) ∨ w0.heap.size ≤ b
  fresh : ∀ r b base, G.m r = some (b, base) → G0.m r = some (b, base) ∨ ¬ (b < w0.heap.size ∧ G0.k b = .mb)
  low : ∀ r, G.m r ≠ none → G0.m r ≠ none ∨ r.lev + 1 = N
  hN : hp.length = N
theorem trace {C : CallT} {gl : Nat → List AV} : ∀ {xs : List XO} {fr fr' : List AV} {hp hp' : Heap}, evOps C gl xs fr hp = some (fr', hp') →
    ∃ S : Nat → List AV × Heap, S 0 = (fr, hp) ∧ S xs.length = (fr', hp') ∧ ∀ (i : Nat) (x : XO), xs[i]? = some x → evO C gl x (S i).1 (S i).2 = some (S (i + 1))
  | [], fr, fr', hp, hp', h => by
    simp only [evOps, Option.some.injEq, Prod.mk.injEq] at h
    exact ⟨fun _ => (fr, hp), rfl, by rw [h.1, h.2], fun i x hx => by simp at hx⟩
  | x :: xs, fr, fr', hp, hp', h => by
    simp only [evOps] at h
    split at h
    · rename_i fr1 hp1 he
      obtain ⟨S, h1, h2, h3⟩ := trace h
      refine ⟨fun i => match i with | 0 => (fr, hp) | i + 1 => S i, rfl, h2, fun i y hy => ?_⟩
      cases i with
      | zero =>
        simp only [List.getElem?_cons_zero, Option.some.injEq] at hy
        subst hy
        show evO C gl x fr hp = some (S 0)
        rw [h1]; exact he
      | succ i => exact h3 i y (by simpa using hy)
    · cases h
theorem chkOps_spec {P : Program} {prims : List (Nat × Nat)} {nt : Nat} {all : List Oper} : ∀ {xs : List XO} {os : List Oper}, chkOps P prims nt all xs os = true →
    xs.length = os.length ∧ ∀ (i : Nat) (x : XO) (o : Oper), xs[i]? = some x → os[i]? = some o → chkXO P prims nt all x o = true
  | [], [], _ => ⟨rfl, fun i x o h => by simp at h⟩
  | [], _ :: _, h => by simp [chkOps] at h
  | _ :: _, [], h => by simp [chkOps] at h
  | x :: xs, o :: os, h => by
    simp only [chkOps, Bool.and_eq_true] at h
    obtain ⟨h1, h2⟩ := chkOps_spec h.2
    refine ⟨by simp [h1], fun i y q hy hq => ?_⟩
    cases i with
    | zero => simp at hy hq; subst hy hq; exact h.1
    | succ i => exact h2 i y q (by simpa using hy) (by simpa using hq)
theorem countP_lt {p q : Nat → Bool} : ∀ {l : List Nat}, (∀ j ∈ l, q j = true → p j = true) → ∀ {a : Nat}, a ∈ l → p a = true → q a = false → l.countP q < l.countP p
  | [], _, _, ha, _, _ => by cases ha
  | b :: l, h, a, ha, hp, hq => by
    have hle : l.countP q ≤ l.countP p := List.countP_mono_left (fun j hj hj2 => h j (by simp [hj]) hj2)
    rw [List.countP_cons, List.countP_cons]
    rcases List.mem_cons.1 ha with rfl | ha
    · simp only [hp, hq, if_true, Bool.false_eq_true, if_false]; omega
    · have ih := countP_lt (fun j hj hj2 => h j (by simp [hj]) hj2) ha hp hq
      have hb : q b = true → p b = true := h b (by simp)
      cases hqb : q b with
      | false => simp only [Bool.false_eq_true, if_false]; split <;> omega
      | true => simp only [hb hqb, if_true]; omega
theorem testBit_pow_eq {e i : Nat} (h : (2 ^ e).testBit i = true) : i = e := by
  rw [Nat.testBit_two_pow] at h
  have h' : e = i := by simpa using h
  exact h'.symm
theorem masks_spec : ∀ (l : List Oper) (acc : List Nat), ∃ ext, masks l acc = acc ++ ext ∧ ext.length = l.length ∧ ∀ (k : Nat) (o : Oper), l[k]? = some o → ∀ i, (ext.getD k 0).testBit i = true →
    ∃ e ∈ edges o, i = e ∨ ((acc ++ ext.take k).getD e 0).testBit i = true
  | [], acc => ⟨[], by simp [masks], rfl, fun k o h => by simp at h⟩
  | o :: l, acc => by
    obtain ⟨ext, h1, h2, h3⟩ := masks_spec l (acc ++ [(edges o).foldl (fun s e => s ||| (2 ^ e ||| acc.getD e 0)) 0])
    refine ⟨(edges o).foldl (fun s e => s ||| (2 ^ e ||| acc.getD e 0)) 0 :: ext, (by simp only [masks]; rw [h1, List.append_assoc]; rfl), by simp [h2], fun k q hk i hi => ?_⟩
    cases k with
    | zero =>
      simp only [List.getElem?_cons_zero, Option.some.injEq] at hk
      subst hk
      have key : ∀ (es : List Nat) (s : Nat), (es.foldl (fun s e => s ||| (2 ^ e ||| acc.getD e 0)) s).testBit i = true → s.testBit i = true ∨ ∃ e ∈ es, i = e ∨ (acc.getD e 0).testBit i = true := by
        intro es
        induction es with
        | nil => intro s h; exact .inl h
        | cons e es ih =>
          intro s h
          rcases ih _ h with h | ⟨e', h4, h5⟩
          · simp only [Nat.testBit_or, Bool.or_eq_true] at h
            rcases h with h | h | h
            · exact .inl h
            · exact .inr ⟨e, by simp, .inl (testBit_pow_eq h)⟩
            · exact .inr ⟨e, by simp, .inr h⟩
          · exact .inr ⟨e', by simp [h4], h5⟩
      rcases key _ _ hi with h | ⟨e, h4, h5⟩
      · simp at h
      · exact ⟨e, h4, h5.imp id (fun h => by simpa using h)⟩
    | succ k =>
      obtain ⟨e, h4, h5⟩ := h3 k q (by simpa using hk) i (by simpa using hi)
      exact ⟨e, h4, h5.imp id (fun h => by simpa [List.append_assoc] using h)⟩
/-- What a mask tells is reached over the edges. -/
theorem masks_reach {os : List Oper} {L : Nat → Prop} (hcl : ∀ (j : Nat) (o : Oper), os[j]? = some o → L j → ∀ e ∈ edges o, L e) (hlt : ∀ (j : Nat) (o : Oper), os[j]? = some o → ∀ e ∈ edges o, e < j) :
    ∀ (j : Nat) (o : Oper), os[j]? = some o → (∀ e ∈ edges o, L e) → ∀ i, ((masks os []).getD j 0).testBit i = true → L i := by
  obtain ⟨ext, h1, h2, h3⟩ := masks_spec os []
  intro j
  induction j using Nat.strongRecOn with
  | _ j ih =>
    intro o ho he i hi
    rw [h1, List.nil_append] at hi
    obtain ⟨e, h4, h5⟩ := h3 j o ho i hi
    rcases h5 with rfl | h5
    · exact he _ h4
    · have hej := hlt j o ho e h4
      have hjl : j < os.length := (List.getElem?_eq_some_iff.1 ho).1
      have hoe : os[e]? = some (os[e]'(by omega)) := List.getElem?_eq_getElem (by omega)
      refine ih e hej _ hoe (hcl e _ hoe (he e h4)) i ?_
      rw [h1, List.nil_append]
      simpa [List.getD, List.getElem?_take, hej] using h5
theorem foot_cls {fr : List AV} {x : XOp} {r : Ref} (h : footR fr x r) : 1 ≤ cls x := by
  cases x <;> simp [footR, cls] at h ⊢
theorem conf_conflict {S : Nat → List AV × Heap} {i j : Nat} {x y : XO} (h : Conf S i x j y) : conflict x y = true := by
  have hm : ∀ (a b : List Nat) (t : Nat), t ∈ a → t ∈ b → meets a b = true := fun a b t h1 h2 => by
    simp only [meets, List.any_eq_true]
    exact ⟨t, h1, by simpa using h2⟩
  unfold conflict
  rcases h with ⟨t, h1, h2⟩ | ⟨t, h1, h2⟩ | ⟨r, h1, h2⟩ | ⟨r, h1, h2⟩ | ⟨h1, h2⟩ | ⟨h1, h2⟩
  · simp [hm _ _ t h1 h2]
  · simp [hm _ _ t h1 h2]
  · simp [h1.1, foot_cls h2]
  · simp [h1.1, foot_cls h2]
  · simp [h1, h2]
  · simp [h1, h2]
theorem conflict_comm (x y : XO) : conflict x y = conflict y x := by
  simp only [conflict]
  generalize meets x.wr y.nm = a
  generalize meets y.wr x.nm = b
  generalize (cls x.op == 3 && decide (1 ≤ cls y.op)) = c
  generalize (cls y.op == 3 && decide (1 ≤ cls x.op)) = d
  cases a <;> cases b <;> cases c <;> cases d <;> rfl
theorem ptrOf_uf (v : AV) : ptrOf (uf v) = ptrOf v := by
  cases v <;> try rfl
  rename_i o z es
  cases o <;> rfl
section
variable {P : Program} {C : CallT} {gl : Nat → List AV} {prims : List (Nat × Nat)} {nt N : Nat} {xs : List XO} {ops : Array Oper} {S : Nat → List AV × Heap} {G0 G : Gh} {w0 w : World} {sz : Nat} {df : List Deferred} {act : Act}
theorem exempt_apart (h : Reg P C gl prims nt N xs ops S) {aps : List (Nat × Nat)} (ha : apsOk (S xs.length).1 aps = true) {i j : Nat} {x y : XO} (hx : xs[i]? = some x) (hy : xs[j]? = some y) (he : exempt xs aps i j x y = true) : ¬ Conf S i x j y := by
  simp only [exempt, Bool.and_eq_true, Bool.not_eq_true'] at he
  obtain ⟨⟨h1, h2⟩, h3⟩ := he
  have hm : ∀ (a b : List Nat) (t : Nat), t ∈ a → t ∈ b → meets a b = true := fun a b t h1 h2 => by
    simp only [meets, List.any_eq_true]
    exact ⟨t, h1, by simpa using h2⟩
  split at h3
  · rename_i a b ea eb
    simp only [Bool.and_eq_true] at h3
    obtain ⟨⟨h4, h5⟩, h6⟩ := h3
    have hstay : ∀ (k a : Nat), standing xs k a = true → k ≤ xs.length → fget (S xs.length).1 a = fget (S k).1 a := by
      intro k a hst hk
      refine h.slotStays hk (Nat.le_refl _) fun q z h7 h8 hz hw => ?_
      have := List.all_eq_true.1 hst z (by
        refine List.mem_of_getElem? (i := q - k) ?_
        rw [List.getElem?_drop, show k + (q - k) = q by omega]
        exact hz)
      simp at this
      exact this hw
    have hfoot : ∀ (fr : List AV) (z : XO) (c : Nat) (r : Ref), ptrSlot z.op = some c → footR fr z.op r → ptrOf (fget fr c) = some r := by
      intro fr z c r hc hf
      cases hz : z.op <;> rw [hz] at hc hf <;> (try (cases hc; done))
      case load a n agg => cases a <;> simp [ptrSlot] at hc; subst hc; simpa [footR, earg, ptrOf_uf] using hf
      case lown a => cases a <;> simp [ptrSlot] at hc; subst hc; simpa [footR, earg, ptrOf_uf] using hf
      case store a y n => cases a <;> simp [ptrSlot] at hc; subst hc; simpa [footR, earg, ptrOf_uf] using hf
    have hap : ∀ (l : List (Nat × Nat)), apsOk (S xs.length).1 l = true → (a, b) ∈ l → apartV (fget (S xs.length).1 a) (fget (S xs.length).1 b) = true := by
      intro l
      induction l with
      | nil => intro _ hm; cases hm
      | cons p l ih =>
        obtain ⟨c, d⟩ := p
        intro hl hm
        simp only [apsOk, Bool.and_eq_true] at hl
        rcases List.mem_cons.1 hm with e | hm
        · injection e with e1 e2; subst e1 e2; exact hl.1
        · exact ih hl.2 hm
    have hne := hap aps ha (by simpa using h4)
    rw [hstay i a h5 (Nat.le_of_lt (idx_lt hx)), hstay j b h6 (Nat.le_of_lt (idx_lt hy))] at hne
    have hnn : ∀ r, ptrOf (fget (S i).1 a) = some r → ptrOf (fget (S j).1 b) = some r → False := by
      intro r h7 h8
      cases hu : fget (S i).1 a <;> rw [hu] at h7 hne <;> simp [ptrOf] at h7
      cases hv : fget (S j).1 b <;> rw [hv] at h8 hne <;> simp [ptrOf] at h8
      simp [apartV] at hne
      exact hne (h7.trans h8.symm)
    have hc2 : ∀ (z : XO) (c : Nat), ptrSlot z.op = some c → cls z.op ≠ 2 := by
      intro z c hc
      cases hz : z.op <;> rw [hz] at hc <;> first | (cases hc; done) | simp [cls]
    rintro (⟨t, h7, h8⟩ | ⟨t, h7, h8⟩ | ⟨r, h7, h8⟩ | ⟨r, h7, h8⟩ | ⟨h7, h8⟩ | ⟨h7, h8⟩)
    · rw [hm _ _ t h7 h8] at h1; cases h1
    · rw [hm _ _ t h7 h8] at h2; cases h2
    · exact hnn r (hfoot _ _ _ r ea h7.2) (hfoot _ _ _ r eb h8)
    · exact hnn r (hfoot _ _ _ r ea h8) (hfoot _ _ _ r eb h7.2)
    · exact hc2 x a ea h7
    · exact hc2 y b eb h8
  · cases h3
theorem rinv_init (h : Reg P C gl prims nt N xs ops S) (hF : FInv N G0 w0 sz df (S 0).1 (S 0).2 G act w) : RInv xs S N G w sz df (fun _ => False) G act w where
  valid := hF.valid
  size := hF.size
  defers := hF.defers
  slot := fun t p hp h1 _ => by
    have := hF.slot t
    unfold RelS at this ⊢
    rw [h.slotStays (Nat.zero_le p) hp (fun j x _ hj hx hw => h1 j x hj hx hw)]
    exact this
  heap := fun r p hp h1 _ b base blk hm hb => by
    refine hF.heap r b base blk hm (h.blkStays (Nat.zero_le p) hp (fun j x _ hj hx hw => h1 j x hj hx hw) (fun j x _ hj hx hc hne e => ?_) hb)
    have hNp : 0 < N := by
      rw [← h.lenN (show j + 1 ≤ xs.length from idx_lt hx)]
      refine List.length_pos_iff.2 fun e => hne ?_
      rw [e]; rfl
    have hl : r.lev + 1 = N := by
      rw [e]
      show (S j).2.length - 1 + 1 = N
      rw [h.lenN (Nat.le_of_lt (idx_lt hx))]
      omega
    have h3 := Nat.lt_of_lt_of_le (hF.names r (by rw [hm]; simp) hl) (h.nvle r.site (Nat.zero_le j) (Nat.le_of_lt (idx_lt hx)))
    rw [e] at h3
    exact Nat.lt_irrefl _ h3
  names := fun r hr => .inl hr
  ext := .refl _ _ _
  own := fun l b h => .inl ⟨l, h⟩
  fresh := fun r b base h => .inl h
theorem rinv_done (h : Reg P C gl prims nt N xs ops S) (hF : FInv N G0 w0 sz df (S 0).1 (S 0).2 G act w) {L : Nat → Prop} (hL : ∀ (j : Nat) (x : XO), xs[j]? = some x → L j) {G' : Gh} {act' : Act} {w' : World}
    (hI : RInv xs S N G w sz df L G' act' w') : FInv N G0 w0 sz df (S xs.length).1 (S xs.length).2 G' act' w' where
  valid := hI.valid
  size := hI.size
  defers := hI.defers
  slot := fun t => hI.slot t xs.length (Nat.le_refl _) (fun j x _ hx _ => hL j x hx) (fun j x hj hx _ => absurd (idx_lt hx) (Nat.not_lt.2 hj))
  heap := fun r b base blk hm hb => hI.heap r xs.length (Nat.le_refl _) (fun j x _ hx _ => hL j x hx) (fun j x hj hx _ => absurd (idx_lt hx) (Nat.not_lt.2 hj)) b base blk hm hb
  names := fun r hr hl => by
    rcases hI.names r hr with h1 | ⟨j, x, _, hx, _, e, hne⟩
    · exact Nat.lt_of_lt_of_le (hF.names r h1 hl) (h.nvle _ (Nat.zero_le _) (Nat.le_refl _))
    · have := h.verlt hx (e ▸ hne) (idx_lt hx) (Nat.le_refl _)
      rw [e]; exact this
  ext := hF.ext.trans hI.ext fun b hb ⟨l, hl⟩ => (hF.own l b hl).resolve_right (by omega)
  own := fun l b hl => by
    rcases hI.own l b hl with ⟨l', h1⟩ | h1
    · exact hF.own l' b h1
    · exact .inr (Nat.le_trans hF.ext.size h1)
  fresh := fun r b base hr => by
    rcases hI.fresh r b base hr with h1 | h1
    · exact hF.fresh r b base h1
    · exact .inr fun ⟨e1, e2⟩ => h1 ⟨Nat.lt_of_lt_of_le e1 hF.ext.size, (hF.ext.mb b e1 e2).1⟩
  low := fun r hr => by
    rcases hI.names r hr with h1 | ⟨j, x, _, hx, _, e, hne⟩
    · exact hF.low r h1
    · refine .inr ?_
      have hNp : 0 < N := by
        rw [← h.lenN (show j + 1 ≤ xs.length from idx_lt hx)]
        refine List.length_pos_iff.2 fun e => hne ?_
        rw [e]; rfl
      rw [e]
      show (S j).2.length - 1 + 1 = N
      rw [h.lenN (Nat.le_of_lt (idx_lt hx))]
      omega
  hN := h.lenN (Nat.le_refl _)
/-- Regions in the text's order. -/
theorem rinv_text (h : Reg P C gl prims nt N xs ops S) (hC : CallOk P gl C) (hP : PrimOk P prims) (hg : GlOk G w gl) (hv : Valid G w N) (hnt : nt ≤ sz) (hf0 : ∀ r, G.m r ≠ none → r.lev + 1 = N → r.ver < nv (S 0).2 r.site)
    {Q : Exit → Act → World → Prop} (hQ : ∀ G' act' w', RInv xs S N G w sz df (fun j => j < xs.length) G' act' w' → Q .normal act' w') :
    ∀ (k i : Nat), i + k = xs.length → ∀ {G' : Gh} {act' : Act} {w' : World}, RInv xs S N G w sz df (fun j => j < i) G' act' w' → wpOps P ops Q (List.range' i k) act' w'
  | 0, i, hk, G', act', w', hI => by
    have e : i = xs.length := by omega
    subst e
    exact hQ _ _ _ hI
  | k + 1, i, hk, G', act', w', hI => by
    rw [List.range'_succ, wpOps_cons]
    obtain ⟨x, hx⟩ := h.getx (show i < xs.length by omega)
    refine inv_step h hC hP hg hv hnt hf0 hI hx (Nat.lt_irrefl _) (fun j y hy _ => ⟨fun h => h, fun h => by omega⟩) fun G2 act2 w2 hI2 => ?_
    refine rinv_text h hC hP hg hv hnt hf0 hQ k (i + 1) (by omega) (G' := G2) ?_
    have e : (fun j => j < i ∨ j = i) = (fun j => j < i + 1) := funext fun j => propext (by omega)
    rw [← e]
    exact hI2
/-- Regions in any order. -/
theorem rinv_any (h : Reg P C gl prims nt N xs ops S) (hC : CallOk P gl C) (hP : PrimOk P prims) (hg : GlOk G w gl) (hv : Valid G w N) (hnt : nt ≤ sz) (hf0 : ∀ r, G.m r ≠ none → r.lev + 1 = N → r.ver < nv (S 0).2 r.site)
    {aps : List (Nat × Nat)} (hdraw : drawOk xs ops.toList aps = true) (haps : apsOk (S xs.length).1 aps = true)
    {Q : Exit → Act → World → Prop} (hQ : ∀ (L : Nat → Prop) G' act' w', (∀ (j : Nat) (x : XO), xs[j]? = some x → L j) → RInv xs S N G w sz df L G' act' w' → Q .normal act' w') :
    ∀ (k : Nat) (listed : Array Bool), listed.size = ops.size → (List.range ops.size).countP (fun j => !(listed.getD j false)) ≤ k →
      (∀ (j : Nat) (o : Oper), ops[j]? = some o → listed.getD j false = true → ∀ e ∈ edges o, listed.getD e false = true) →
      ∀ {G' : Gh} {act' : Act} {w' : World}, RInv xs S N G w sz df (fun j => listed.getD j false = true) G' act' w' → wpAny P .any ops Q k listed act' w' := by
  have hedge : ∀ (o : Oper) (e : Nat), e ∈ edges o ↔ ∃ d ∈ o.after, Region.binds .any d = true ∧ d.on = e := by
    intro o e
    simp only [edges, List.mem_filterMap]
    constructor
    · rintro ⟨d, h1, h2⟩
      split at h2
      · rename_i hb; injection h2 with h2; exact ⟨d, by simpa using h1, hb, h2⟩
      · cases h2
    · rintro ⟨d, h1, h2, h3⟩
      exact ⟨d, by simpa using h1, by rw [if_pos h2, h3]⟩
  have hd : ∀ j, j < xs.length → (∀ o, ops[j]? = some o → ∀ e ∈ edges o, e < j) ∧ ∀ i x y, i < j → xs[i]? = some x → xs[j]? = some y → conflict x y = true → ((masks ops.toList []).getD j 0).testBit i = true ∨ exempt xs aps i j x y = true := by
    intro j hj
    have := List.all_eq_true.1 hdraw j (by simpa using hj)
    simp only [Bool.and_eq_true] at this
    obtain ⟨h1, h2⟩ := this
    refine ⟨fun o ho e he => ?_, fun i x y hi hx hy hc => ?_⟩
    · have ho' : ops.toList[j]? = some o := by simpa using ho
      rw [ho'] at h1
      simp only [Option.map_some, Option.getD_some] at h1
      exact of_decide_eq_true (List.all_eq_true.1 h1 e he)
    · have := List.all_eq_true.1 h2 i (by simpa using hi)
      rw [hx, hy] at this
      simp only [hc, Bool.not_true, Bool.false_or, Bool.or_eq_true] at this
      exact this
  have hlt : ∀ (j : Nat) (o : Oper), ops.toList[j]? = some o → ∀ e ∈ edges o, e < j := fun j o ho => (hd j (by rw [h.len]; have := (List.getElem?_eq_some_iff.1 ho).1; simpa using this)).1 o (by simpa using ho)
  -- nothing ready: all has run
  have hall : ∀ (listed : Array Bool), listed.size = ops.size → Region.ready .any ops listed = [] → ∀ (j : Nat) (x : XO), xs[j]? = some x → listed.getD j false = true := by
    intro listed hsz hr j
    induction j using Nat.strongRecOn with
    | _ j ih =>
      intro x hx
      have hj := idx_lt hx
      rw [h.len] at hj
      cases hb : listed.getD j false with
      | true => rfl
      | false =>
        exfalso
        have : j ∈ Region.ready .any ops listed := by
          rw [mem_ready]
          refine ⟨?_, ops[j], by simp [hj], fun e he hbind => ?_⟩
          · simp [hsz, hj] at hb ⊢
            exact hb
          · have he' : e.on ∈ edges ops[j] := (hedge _ _).2 ⟨e, he, hbind, rfl⟩
            have hej := hlt j ops[j] (by simp [hj]) e.on he'
            obtain ⟨y, hy⟩ := h.getx (show e.on < xs.length by rw [h.len]; omega)
            exact ih e.on hej y hy
        rw [hr] at this
        cases this
  intro k
  induction k with
  | zero =>
    intro listed hsz hcnt hcl G' act' w' hI
    have hz : ∀ j, j < ops.size → listed.getD j false = true := by
      intro j hj
      have h0 := List.countP_eq_zero.1 (Nat.le_zero.1 hcnt) j (by simpa using hj)
      simpa using h0
    refine ⟨?_, hQ _ _ _ _ (fun j x hx => hz j (by rw [← h.len]; exact idx_lt hx)) hI⟩
    cases hr : Region.ready .any ops listed with
    | nil => rfl
    | cons i l =>
      exfalso
      have hi : i ∈ Region.ready .any ops listed := by rw [hr]; simp
      obtain ⟨h1, o, ho, _⟩ := mem_ready.1 hi
      have hi2 := (Array.getElem?_eq_some_iff.1 ho).1
      have := hz i hi2
      simp [hsz, hi2] at h1 this
      rw [this] at h1
      cases h1
  | succ k ih =>
    intro listed hsz hcnt hcl G' act' w' hI
    refine ⟨fun hr => hQ _ _ _ _ (hall listed hsz hr) hI, fun i hi => ?_⟩
    obtain ⟨h1, o, ho, h2⟩ := mem_ready.1 hi
    have hi2 := (Array.getElem?_eq_some_iff.1 ho).1
    obtain ⟨x, hx⟩ := h.getx (show i < xs.length by rw [h.len]; exact hi2)
    have hiL : ¬ listed.getD i false = true := by
      simp [hsz, hi2] at h1 ⊢
      exact h1
    have hed : ∀ e ∈ edges o, listed.getD e false = true := fun e he => by
      obtain ⟨d, h3, h4, h5⟩ := (hedge o e).1 he
      rw [← h5]; exact h2 d h3 h4
    have hreach : ∀ (j : Nat) (q : Oper), ops[j]? = some q → (∀ e ∈ edges q, listed.getD e false = true) → ∀ i, ((masks ops.toList []).getD j 0).testBit i = true → listed.getD i false = true :=
      fun j q hq he => masks_reach (L := fun j => listed.getD j false = true) (fun j o ho => hcl j o (by simpa using ho)) hlt j q (by simpa using hq) he
    refine inv_step h hC hP hg hv hnt hf0 hI hx hiL (fun j y hy hc => ⟨fun hji => ?_, fun hij hL => ?_⟩) fun G2 act2 w2 hI2 => ?_
    · rcases (hd i (idx_lt hx)).2 j y x hji hy hx (conf_conflict hc.symm) with h3 | h3
      · exact hreach i o ho hed j h3
      · exact absurd hc.symm (exempt_apart h haps hy hx h3)
    · rcases (hd j (idx_lt hy)).2 i x y hij hx hy (conf_conflict hc) with h3 | h3
      · have hj2 : j < ops.size := by rw [← h.len]; exact idx_lt hy
        exact hiL (hreach j ops[j] (by simp [hj2]) (hcl j ops[j] (by simp [hj2]) hL) i h3)
      · exact exempt_apart h haps hx hy h3 hc
    · have hset : ∀ j, (listed.setIfInBounds i true).getD j false = true ↔ listed.getD j false = true ∨ j = i := by
        intro j
        by_cases e : i = j
        · subst e
          simp [hsz, hi2]
        · rw [getD_set_ne false e]
          exact ⟨.inl, fun h => h.resolve_right (fun h => e h.symm)⟩
      refine ih (listed.setIfInBounds i true) (by simpa using hsz) ?_ ?_ (G' := G2) ?_
      · have hlt2 : (List.range ops.size).countP (fun j => !((listed.setIfInBounds i true).getD j false)) < (List.range ops.size).countP (fun j => !(listed.getD j false)) := by
          refine countP_lt (a := i) (fun j _ hj => ?_) (by simpa using hi2) (by simpa using hiL) (by
            have := (hset i).2 (.inr rfl)
            rw [this]; rfl)
          cases hlj : listed.getD j false with
          | false => rfl
          | true => rw [(hset j).2 (.inl hlj)] at hj; cases hj
        omega
      · intro j q hq hj e he
        rw [hset] at hj ⊢
        rcases hj with hj | rfl
        · exact .inl (hcl j q hq hj e he)
        · rw [ho] at hq
          injection hq with hq
          subst hq
          exact .inl (hed e he)
      · have e : (fun j => (listed.setIfInBounds i true).getD j false = true) = (fun j => listed.getD j false = true ∨ j = i) := funext fun j => propext (hset j)
        rw [e]
        exact hI2
end
end Go.Proofs.Ytpfollpbkpgglaa.Sx
