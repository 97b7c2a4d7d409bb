/- SX, part P: stores. -/
import Derived.Test.YtpfollpbkpgglaaSxO
set_option linter.unusedVariables false
set_option linter.unusedSimpArgs false
namespace Go.Proofs.Ytpfollpbkpgglaa.Sx
open Go
theorem hget_hput : ∀ {hp : Heap} {r q : Ref} {b b0 : Blk}, hget hp r = some b0 → hget (hput hp r b) q = if q = r then some b else hget hp q
  | [], _, _, _, _, h => by cases h
  | l :: t, r, q, b, b0, h => by
    simp only [hget, hput] at h ⊢
    by_cases hr : r.lev = t.length
    · rw [if_pos hr] at h
      rw [if_pos hr]
      simp only [hget]
      by_cases hq : q.lev = t.length
      · rw [if_pos hq, if_pos hq, lget_lput]
        by_cases hs : q.site = r.site
        · rw [if_pos hs]
          simp only
          by_cases hv : r.ver = q.ver
          · rw [if_pos hv, if_pos (by cases q; cases r; simp_all)]
          · rw [if_neg hv, if_neg (fun e => hv (by rw [e]))]
            rw [hs]
            split at h
            · rename_i v b' hl
              split at h
              · rename_i e; simp [e, hv]
              · cases h
            · cases h
        · rw [if_neg hs, if_neg (fun e => hs (by rw [e]))]
      · rw [if_neg hq, if_neg hq, if_neg (fun e => hq (by rw [e]; exact hr))]
    · rw [if_neg hr] at h
      rw [if_neg hr]
      simp only [hget]
      have hlen : ∀ (t : Heap) (r : Ref) (b : Blk), (hput t r b).length = t.length := by
        intro t
        induction t with
        | nil => intro r b; rfl
        | cons l t ih => intro r b; simp only [hput]; split <;> simp [ih]
      rw [hlen]
      by_cases hq : q.lev = t.length
      · rw [if_pos hq, if_pos hq, if_neg (fun e => hr (by rw [← e]; exact hq))]
      · rw [if_neg hq, if_neg hq]
        exact hget_hput h
theorem hput_length : ∀ (t : Heap) (r : Ref) (b : Blk), (hput t r b).length = t.length
  | [], _, _ => rfl
  | l :: t, r, b => by simp only [hput]; split <;> simp [hput_length t]
section
variable {P : Program} {G : Gh} {w : World} {N : Nat} {x : XO} {fr : List AV} {hp : Heap} {act : Act} {o : Oper}
/-- What names no block is what it is whatever the names are. -/
theorem RelV.noRef2 {G' : Gh} (hs : ∀ b, b < w.heap.size → G.k b = .st → G'.k b = .st) (hg : ∀ b f, b < w.heap.size → G.k b = .gr f → ∃ f', f ≤ f' ∧ G'.k b = .gr f')
    {v : AV} {y : Value} (h : RelV G w v y) : refFree v = true → RelV G' w v y := by
  have hcov : ∀ {b n}, Cov G w b n → Cov G' w b n := by
    rintro b n ⟨hb, h | ⟨f, h, hn⟩⟩
    · exact ⟨hb, .inl (hs b hb h)⟩
    · obtain ⟨f', h1, h2⟩ := hg b f hb h
      exact ⟨hb, .inr ⟨f', h2, Nat.le_trans hn h1⟩⟩
  induction h with
  | undef x => exact fun _ => .undef x
  | bool b => exact fun _ => .bool b
  | int k n => exact fun _ => .int k n
  | str x => exact fun _ => .str x
  | opq x h => exact fun _ => .opq x h
  | nilptr => exact fun _ => .nilptr
  | nilsl => exact fun _ => .nilsl
  | nilif => exact fun _ => .nilif
  | nilfn => exact fun _ => .nilfn
  | ptr r off b base h => intro h; cases h
  | elp cs b o X hc hf hx hr ih => exact fun _ => .elp cs b o X (hcov hc) hf hx (fun j v hj => ih j v hj (hf j v hj))
  | gptr g => exact fun _ => .gptr g
  | sl r z off len b base cap h hl hs => intro h; cases h
  | uniq z es x => exact fun _ => .uniq z es x
  | lst ow z es b o cap X hu hl ht hc hz hf hx hr ih => exact fun _ => .lst ow z es b o cap X hu hl ht (hcov hc) hz hf hx (fun i e j v hi hj => ih i e j v hi hj (hf i e j v hi hj))
  | agg cs xs hl hr ih => exact fun h => .agg cs xs hl (fun j v x hv hx => ih j v x hv hx (refFreeL_mem h _ (List.mem_of_getElem? hv)))
  | tup cs xs hl hr ih => intro h; cases h
  | fn f ds cs xs ys hl hm hr hs ih1 ih2 =>
    intro h
    simp only [refFree, Bool.and_eq_true] at h
    exact .fn f ds cs xs ys hl hm (fun j v x hv hx => ih1 j v x hv hx (refFreeL_mem h.1 _ (List.mem_of_getElem? hv))) (fun j v x hv hx => ih2 j v x hv hx (refFreeL_mem h.2 _ (List.mem_of_getElem? hv)))
  | ifc t v x hr ih => exact fun h => .ifc t v x (ih h)
theorem RelV.noRef {G' : Gh} (hk : ∀ b, G'.k b = G.k b) {v : AV} {y : Value} (h : RelV G w v y) (hf : refFree v = true) : RelV G' w v y :=
  h.noRef2 (fun b _ h => by rw [hk, h]) (fun b f _ h => ⟨f, Nat.le_refl _, by rw [hk, h]⟩) hf
theorem solid_of_plain {v : AV} (h : (cellsOf v).all plain1 = true) : solid v = true := by
  cases v <;> simp_all [solid, cellsOf]
theorem Ext.setB {G G' : Gh} {w w' : World} {b : Nat} {cs cs' : Array Value} {T : TypeId} {fz : Nat × Nat} (hB : SetB w w' b (.cells cs' T fz)) (h0 : w.heap[b]? = some (.cells cs T fz)) (hs : cs'.size = cs.size) (hk : ∀ c, G'.k c = G.k c) (hkb : G.k b = .mb)
    (hm : ∀ r x, G.m r = some x → G'.m r = some x) (A : Nat → Prop) : Ext A G w G' w' where
  os := hB.os
  tape := hB.tape
  output := hB.output
  size := by rw [hB.size]; exact Nat.le_refl _
  st := fun c _ h => ⟨by rw [hk, h], hB.old c (fun e => by rw [e, hkb] at h; cases h)⟩
  gr := fun c f _ h => ⟨f, Nat.le_refl _, by rw [hk, h], fun i _ => cell_of_heap (hB.old c (fun e => by rw [e, hkb] at h; cases h)) i⟩
  keep := fun c _ _ h _ => ⟨hk c, hB.old c (fun e => h (by rw [e, hkb]))⟩
  mm := hm
  mb := fun c _ h => ⟨by rw [hk, h], fun ds S f hh => by
    by_cases e : c = b
    · subst e
      rw [h0] at hh
      injection hh with hh
      injection hh with h1 h2 h3
      subst h1 h2 h3
      exact ⟨cs', hB.new, hs⟩
    · exact ⟨ds, by rw [hB.old c e, hh], rfl⟩⟩
theorem zeroCells_rel {zero : List AV} {zc : Array Value} (h : RelCs G w zero zc) (n : Nat) : RelCs G w (List.replicate n zero).flatten (Builtin.zeroCells zc n) := by
  have hz : ∀ (i : Nat) (e : List AV), (List.replicate n zero)[i]? = some e → e.length = zero.length := by
    intro i e he
    rw [List.getElem?_replicate] at he
    split at he
    · injection he with he; rw [← he]
    · cases he
  have hfl := flatten_get hz
  have hs : (Builtin.zeroCells zc n).size = n * zc.size := by simp [Builtin.zeroCells]
  refine ⟨by rw [hfl.1, hs, List.length_replicate, h.1], fun j u x hu hx => ?_⟩
  have hj := (List.getElem?_eq_some_iff.1 hu).1
  rw [hfl.1, List.length_replicate] at hj
  have hzp : 0 < zero.length := Nat.pos_of_ne_zero (fun e => by rw [e] at hj; simp at hj)
  have hij : j = j / zero.length * zero.length + j % zero.length := by rw [Nat.mul_comm]; exact (Nat.div_add_mod j _).symm
  have hm := Nat.mod_lt j hzp
  have hu' : zero[j % zero.length]? = some u := by
    rw [hij, hfl.2 _ _ hm, List.getElem?_replicate] at hu
    split at hu
    · simpa using hu
    · simp at hu
  have hx' : zc[j % zero.length]? = some x := by
    simp only [Builtin.zeroCells, Array.getElem?_map, Array.getElem?_range] at hx
    split at hx
    · simp only [Option.map_some, Option.some.injEq] at hx
      rw [h.1]
      rw [← h.1] at hx
      have : j % zero.length < zc.size := by rw [← h.1]; exact hm
      rw [← hx, ← h.1]
      simp [this]
    · cases hx
  exact h.2 _ u x hu' hx'
def argOwn (G : Gh) : XArg → Option Nat
  | .tmp s => G.o (.slot s)
  | _ => none
theorem next_store {a y : XArg} {n : Nat} {T : TypeId} {a' c' : Operand} {i : TypeInfo} {hp' : Heap} {K : Act → World → Prop} {Q : Exit → Act → World → Prop} (hx : x.op = .store a y n) (hxd : x.dst = o.dst) (hv : Valid G w N) (hN : hp.length = N)
    (ho : o.op = .store T a' c') (ha : argOk a a' = true) (hc : argOk y c' = true) (hi : P.info? T = some i) (hin : i.size = n) (hs : ∀ t ∈ ats [a, y], RelS G w fr act t)
    (hh : ∀ r, footR fr x.op r → ∀ b base blk, G.m r = some (b, base) → hget hp r = some blk → RelBlk G w r b base blk)
    (hd : ∀ d, x.dst = some d → d < act.tmps.size) (hlen : (cellsOf (rawArg fr y)).length = n) (hpl : (cellsOf (rawArg fr y)).all plain1 = true) (he : stAt hp (earg fr a) (cellsOf (rawArg fr y)) = some hp')
    (hK : ∀ G' act' w', Next x fr hp G act w N (finX x (drop1 fr y) .undef) hp' G' act' w' → K act' w') : o.wp P act w K Q := by
  have hs2 := ats2 hs
  have h1 := arg_rel (w := w) (G := G) (fr := fr) (act := act) ha (fun t ht => hs2 t (by simp [ht]))
  have h2 := raw_rel (w := w) (G := G) (fr := fr) (act := act) hc (fun t ht => hs2 t (by simp [ht]))
  have hcs := cellsOf_rel (solid_of_plain hpl) h2
  generalize hvs : cellsOf (rawArg fr y) = vs at *
  unfold stAt at he
  split at he
  · rename_i r off hae
    rw [hae] at h1
    obtain ⟨b, base, h3, hm⟩ := ptr_form h1
    split at he
    · rename_i ds hds
      split at he
      · rename_i hcond
        obtain ⟨hfit, hlev⟩ := hcond
        injection he with he
        subst he
        have hget0 : hget hp r = some (.cells ds) := by
          unfold cellsAt at hds
          split at hds
          · rename_i vs' hb; injection hds with hds; subst hds; exact hb
          · cases hds
        have hfoot : footR fr x.op r := by rw [hx]; simp [footR, hae, ptrOf]
        obtain ⟨cs, TT, h4, h5, h6⟩ := hh r hfoot b base _ hm hget0
        have hone : ∀ z ∈ (act.eval c').cells.toList, z.oneCell' = true := by
          intro z hz
          obtain ⟨j, hj, rfl⟩ := List.getElem_of_mem hz
          have hjv : j < vs.length := by rw [hcs.1]; simpa using hj
          have e1 : vs[j]? = some vs[j] := by simp [hjv]
          have e2 : (act.eval c').cells[j]? = some ((act.eval c').cells.toList[j]) := by simp
          have hp1 : plain1 vs[j] = true := List.all_eq_true.1 hpl _ (List.getElem_mem hjv)
          exact (plain1_one hp1 (hcs.2 j _ _ e1 e2)).1
        have hszv : (act.eval c').cells.toList.length = vs.length := by rw [Array.length_toList]; exact hcs.1.symm
        obtain ⟨w', cs', h7, h8, h9, h10⟩ := run_storeCells (P := P) (b := b) (q := base + off) (act.eval c').cells.toList 0 w cs h4 (by rw [hszv]; omega) hone (by intro j _ _ hj; exact Nat.not_lt_zero _ hj.2)
        have hrun : (execOp act.eval o).run P w = .ok .skip w' := by
          have hsz : (act.eval c').cells.size = i.size := by rw [← Array.length_toList, hszv, hlen, hin]
          simp only [execOp, ho, h3, Instr.storeAt, Instr.sureAddr, storeVar, Sem.run_bind, Sem.run_pure, Result.andThen_ok, run_sizeOf' hi, hsz]
          simp [h7]
        unfold Oper.wp
        rw [hrun]
        show K (act.put o.dst undef) w'
        rw [← hxd]
        have hmb := (hv.mkk _ _ hm).1
        let f : Loc → Option Nat := fun l => match l with
          | .cell q j => if q = r ∧ off ≤ j ∧ j < off + vs.length then (if j = off then argOwn G y else none) else G.o l
          | .slot t => if t ∈ ats [y] ∨ x.dst = some t then none else G.o l
          | .res => G.o l
        have hft : ∀ t, f (.slot t) = if t ∈ ats [y] ∨ x.dst = some t then none else G.o (.slot t) := fun _ => rfl
        have hfc : ∀ q j, f (.cell q j) = if q = r ∧ off ≤ j ∧ j < off + vs.length then (if j = off then argOwn G y else none) else G.o (.cell q j) := fun _ _ => rfl
        have hf : ∀ l c, f l = some c → ∃ l', G.o l' = some c ∧ ((l' = l ∧ (∀ t, l = .slot t → ¬ (t ∈ ats [y] ∨ x.dst = some t)) ∧ (∀ q j, l = .cell q j → ¬ (q = r ∧ off ≤ j ∧ j < off + vs.length))) ∨
            (l = .cell r off ∧ ∃ s, y = .tmp s ∧ l' = .slot s)) := by
          intro l c h
          cases l with
          | slot t =>
            rw [hft] at h
            split at h
            · cases h
            · rename_i h0
              exact ⟨_, h, .inl ⟨rfl, fun u hu => (by injection hu with hu; rw [← hu]; exact h0), fun q j hq => by cases hq⟩⟩
          | cell q j =>
            rw [hfc] at h
            split at h
            · rename_i h0
              split at h
              · rename_i hj
                cases y with
                | tmp s => exact ⟨_, h, .inr ⟨by rw [h0.1, hj], s, rfl, rfl⟩⟩
                | cst _ => cases h
                | glob _ => cases h
              · cases h
            · rename_i h0
              exact ⟨_, h, .inl ⟨rfl, fun u hu => (by cases hu), fun q' j' hq => (by injection hq with e1 e2; rw [← e1, ← e2]; exact h0)⟩⟩
          | res => exact ⟨_, h, .inl ⟨rfl, fun u hu => (by cases hu), fun q j hq => by cases hq⟩⟩
        have hwr : ∀ t, t ∈ x.wr ↔ x.dst = some t ∨ t ∈ ats [y] := by
          intro t
          cases h : x.dst <;> simp [XO.wr, hx, mvs, h, eq_comm]
        have h3c : cls x.op = 3 := by rw [hx]; rfl
        have htouch : ∀ l, Touch x fr l ↔ (∃ t, (x.dst = some t ∨ t ∈ ats [y]) ∧ l = .slot t) ∨ ∃ j, l = .cell r j := by
          intro l
          constructor
          · rintro (⟨t, h, rfl⟩ | ⟨_, q, j, hq, rfl⟩)
            · exact .inl ⟨t, (hwr t).1 h, rfl⟩
            · rw [hx] at hq
              simp only [footR, hae, ptrOf, Option.some.injEq] at hq
              exact .inr ⟨j, by rw [hq]⟩
          · rintro (⟨t, h, rfl⟩ | ⟨j, rfl⟩)
            · exact .inl ⟨t, (hwr t).2 h, rfl⟩
            · exact .inr ⟨h3c, r, j, hfoot, rfl⟩
        have hv1 : Valid { G with o := f } w N := by
          refine ⟨hv.lev, hv.inj, hv.mkk, ?_, ?_⟩
          · intro l l' c e1 e2
            obtain ⟨l1, g1, g2⟩ := hf l c e1
            obtain ⟨l2, g3, g4⟩ := hf l' c e2
            have := hv.oinj _ _ c g1 g3
            subst this
            rcases g2 with ⟨rfl, g5, g6⟩ | ⟨rfl, s, g5, rfl⟩ <;> rcases g4 with ⟨g7, g8, g9⟩ | ⟨rfl, u, g7, g8⟩
            · exact g7
            · exact absurd (.inl (by rw [g7]; simp [ats])) (g5 u g8)
            · exact absurd (.inl (by rw [g5]; simp [ats])) (g8 s g7.symm)
            · rfl
          · intro l c e1
            obtain ⟨l1, g1, _⟩ := hf l c e1
            exact hv.ok _ _ g1
        have hext0 : ∀ A, Ext A G w { G with o := f } w' := fun A => Ext.setB (G := G) (G' := { G with o := f }) h8 h4 h9 (fun _ => rfl) hmb (fun _ _ h => h) A
        have hext1 : Ext (fun _ => False) { G with o := f } w { G with o := f } w' := Ext.setB (G := { G with o := f }) (G' := { G with o := f }) h8 h4 h9 (fun _ => rfl) hmb (fun _ _ h => h) _
        have hv2 : Valid { G with o := f } w' N := ⟨hv1.lev, hv1.inj, fun q z h => ⟨(hv1.mkk q z h).1, by rw [h8.size]; exact (hv1.mkk q z h).2⟩, hv1.oinj, fun l c h => ⟨by rw [h8.size]; exact (hv1.ok l c h).1, (hv1.ok l c h).2⟩⟩
        refine hK { G with o := f } _ _ ⟨hext0 _, hv2, put_size .., put_defers .., fun t h => put_ne _ _ _ _ h, ?_, ?_, ?_, fun _ => rfl, fun q e1 e2 => absurd e1 e2, fun r b base h1 h2 => (by rw [show G.m r = some (b, base) from h2] at h1; cases h1), ?_, ?_⟩
        · intro t h
          by_cases hdt : x.dst = some t
          · unfold RelS
            rw [show fget (finX x (drop1 fr y) .undef) t = .undef by simp [finX, hdt, fget_fput], hdt]
            exact ⟨.undef _, .of_noFlag trivial⟩
          · have hty := ((hwr t).1 h).resolve_left hdt
            cases y with
            | cst _ => simp [ats] at hty
            | glob _ => simp [ats] at hty
            | tmp s =>
              simp [ats] at hty
              subst hty
              have e1 : fget (finX x (drop1 fr (.tmp t)) .undef) t = fget (drop1 fr (.tmp t)) t := by
                simp only [finX]
                split
                · rename_i d hd'; rw [fget_fput, if_neg (fun e => hdt (by rw [hd', e]))]
                · rfl
              unfold RelS
              rw [e1, put_ne _ _ _ _ hdt]
              exact drop1_rel (hs2 t (by simp [argTmp])).1 (fun h => absurd rfl h) (fun _ h => h.ext hv (hext0 (fun _ => False)))
        · intro l h
          show f l = _
          cases l with
          | slot t => rw [hft, if_neg (fun e => h ((htouch _).2 (.inl ⟨t, e.symm, rfl⟩)))]
          | cell q j => rw [hfc, if_neg (fun e => h ((htouch _).2 (.inr ⟨j, by rw [e.1]⟩)))]
          | res => rfl
        · intro l c h e
          obtain ⟨l1, g1, g2⟩ := hf l c e
          refine .inl ⟨l1, ?_, g1⟩
          rcases g2 with ⟨rfl, _, _⟩ | ⟨rfl, s, rfl, rfl⟩
          · exact h
          · exact (htouch _).2 (.inl ⟨s, .inr (by simp [ats]), rfl⟩)
        · intro q b2 base2 hq hnf
          refine h8.old b2 (fun e => hnf ⟨h3c, ?_⟩)
          have := hv.inj q r _ _ hq hm e
          rw [this]
          exact hfoot
        · intro _ q b2 base2 blk hq hm2 hg2
          have hqr : q = r := by
            rw [hx] at hq
            simp only [footR, hae, ptrOf, Option.some.injEq] at hq
            exact hq.symm
          subst hqr
          have hbb : (b2, base2) = (b, base) := Option.some.inj (hm2.symm.trans hm)
          injection hbb with e1 e2
          subst e1 e2
          rw [hget_hput hget0, if_pos rfl] at hg2
          injection hg2 with hg2
          subst hg2
          refine ⟨cs', TT, h8.new, by rw [h9, splice_length]; exact h5, fun j u z hu hz => ?_⟩
          rw [splice_get _ _ _ _ hfit] at hu
          rw [h10, hszv] at hz
          by_cases hj : off ≤ j ∧ j < off + vs.length
          · rw [if_pos hj] at hu
            rw [if_pos (by omega), show base2 + j - (base2 + off + 0) = j - off by omega, Array.getElem?_toList] at hz
            have hr0 : RelV G w u z := hcs.2 _ u z hu hz
            have hr1 : RelV (Gh.below { G with o := f } (q.lev + 1)) w u z := by
              rcases hlev with hl | hl
              · exact RelV.to_below (n := q.lev + 1) (fun p e hp => by rw [hl, hN]; exact hv1.lev p e hp) hr0.withO
              · exact RelV.noRef (G := G) (G' := Gh.below { G with o := f } (q.lev + 1)) (fun _ => rfl) hr0 (refFreeL_mem hl _ (List.mem_of_getElem? hu))
            refine ⟨hr1.ext hv1.below hext1.below, ?_⟩
            have hown : OwnOk { G with o := f } w (.cell q j) u z := by
              by_cases hnf : noFlag u
              · exact .of_noFlag hnf
              · have hone2 : vs = [rawArg fr y] ∧ ¬ noFlag (rawArg fr y) := by
                  rw [← hvs] at hu
                  cases hy : rawArg fr y with
                  | agg us =>
                    rw [hy] at hu
                    simp only [cellsOf, List.getElem?_map, Option.map_eq_some_iff] at hu
                    obtain ⟨u', _, rfl⟩ := hu
                    exact absurd (noFlag_uf _) hnf
                  | _ =>
                    rw [hy] at hu
                    simp only [cellsOf] at hu
                    have e0 : j - off = 0 := by
                      rcases Nat.eq_zero_or_pos (j - off) with e | e
                      · exact e
                      · rw [List.getElem?_eq_none (by simp; omega)] at hu; cases hu
                    rw [e0] at hu
                    simp at hu
                    subst hu
                    exact ⟨by rw [← hvs, hy]; rfl, hnf⟩
                obtain ⟨hone3, hnf3⟩ := hone2
                have hlen1 : vs.length = 1 := by rw [hone3]; rfl
                have hjo : j = off := by omega
                cases y with
                | cst c =>
                  refine absurd ?_ hnf3
                  have := earg_noFlag (fr := fr) hc
                  exact this
                | glob g => exact absurd trivial hnf3
                | tmp s =>
                  have hss := hs2 s (by simp [argTmp])
                  have e1 : u = fget fr s := by
                    rw [hone3, hjo] at hu
                    simp [rawArg] at hu
                    exact hu.symm
                  have e2 : z = act.tmps.getD s undef := by
                    cases c' <;> simp [argOk] at hc
                    subst hc
                    have h1c : (act.eval (.tmp s)).cells = #[act.tmps.getD s undef] := by
                      have hpl1 : plain1 (fget fr s) = true := by
                        rw [hone3] at hpl
                        simpa [rawArg] using hpl
                      exact (plain1_one hpl1 hss.1).2
                    rw [h1c, hjo] at hz
                    simp at hz
                    rw [← hz]; simp
                  rw [e1, e2]
                  refine hss.2.withO ?_
                  rw [hfc, if_pos ⟨rfl, hj⟩, if_pos hjo]
                  rfl
            exact hown.ext hv1 hext1 rfl (fun _ _ h => h)
          · rw [if_neg hj] at hu
            rw [if_neg (by omega)] at hz
            obtain ⟨g1, g2⟩ := h6 j u z hu hz
            have g3 : RelV (Gh.below { G with o := f } (q.lev + 1)) w u z := g1.withO (f := f)
            refine ⟨g3.ext hv1.below hext1.below, ?_⟩
            have g4 : OwnOk { G with o := f } w (.cell q j) u z := g2.withO (by rw [hfc, if_neg (fun e => hj e.2)])
            exact g4.ext hv1 hext1 rfl (fun _ _ h => h)
      · cases he
    · cases he
  · cases he
/-- Cells of one block written: by what an argument holds. -/
theorem next_put {y : XArg} {r : Ref} {off b base : Nat} {ds : List AV} {cs cs' : Array Value} {TT : TypeId} {vs : List AV} {zs : Array Value} {w' : World} {v : AV} {u0 : Value} (hmvs : mvs x.op = ats [y]) (h3c : cls x.op = 3) (hfootr : ∀ q, footR fr x.op q ↔ q = r)
    (hv : Valid G w N) (hN : hp.length = N) (hm : G.m r = some (b, base)) (hget0 : hget hp r = some (.cells ds)) (h4 : w.heap[b]? = some (.cells cs TT (0, 0))) (h5 : base + ds.length ≤ cs.size)
    (h6 : ∀ (i : Nat) (v : AV) (x : Value), ds[i]? = some v → cs[base + i]? = some x → RelV (G.below (r.lev + 1)) w v x ∧ OwnOk G w (.cell r i) v x)
    (hcs : RelCs G w vs zs) (hfit : off + vs.length ≤ ds.length) (hlev : r.lev + 1 = hp.length ∨ refFreeL vs = true)
    (h8 : SetB w w' b (.cells cs' TT (0, 0))) (h9 : cs'.size = cs.size) (h10 : ∀ j : Nat, cs'[j]? = if base + off ≤ j ∧ j < base + off + vs.length then zs.toList[j - (base + off)]? else cs[j]?)
    (hsy : ∀ t ∈ ats [y], RelS G w fr act t)
    (hflag : ∀ (j : Nat) (u : AV) (z : Value), vs[j]? = some u → zs[j]? = some z → ¬ noFlag u → j = 0 ∧ vs.length = 1 ∧ ∃ s, y = .tmp s ∧ u = fget fr s ∧ z = act.tmps.getD s undef)
    (hd : ∀ d, x.dst = some d → d < act.tmps.size) (hv0 : RelV G w v u0) (hno0 : noFlag v) :
    ∃ G', Next x fr hp G act w N (finX x (drop1 fr y) v) (hput hp r (.cells (splice ds off vs))) G' (act.put x.dst u0) w' := by
  have hmb := (hv.mkk _ _ hm).1
  let f : Loc → Option Nat := fun l => match l with
    | .cell q j => if q = r ∧ off ≤ j ∧ j < off + vs.length then (if j = off then argOwn G y else none) else G.o l
    | .slot t => if t ∈ ats [y] ∨ x.dst = some t then none else G.o l
    | .res => G.o l
  have hft : ∀ t, f (.slot t) = if t ∈ ats [y] ∨ x.dst = some t then none else G.o (.slot t) := fun _ => rfl
  have hfc : ∀ q j, f (.cell q j) = if q = r ∧ off ≤ j ∧ j < off + vs.length then (if j = off then argOwn G y else none) else G.o (.cell q j) := fun _ _ => rfl
  have hf : ∀ l c, f l = some c → ∃ l', G.o l' = some c ∧ ((l' = l ∧ (∀ t, l = .slot t → ¬ (t ∈ ats [y] ∨ x.dst = some t)) ∧ (∀ q j, l = .cell q j → ¬ (q = r ∧ off ≤ j ∧ j < off + vs.length))) ∨
      (l = .cell r off ∧ ∃ s, y = .tmp s ∧ l' = .slot s)) := by
    intro l c h
    cases l with
    | slot t =>
      rw [hft] at h
      split at h
      · cases h
      · rename_i h0
        exact ⟨_, h, .inl ⟨rfl, fun u hu => (by injection hu with hu; rw [← hu]; exact h0), fun q j hq => by cases hq⟩⟩
    | cell q j =>
      rw [hfc] at h
      split at h
      · rename_i h0
        split at h
        · rename_i hj
          cases y with
          | tmp s => exact ⟨_, h, .inr ⟨by rw [h0.1, hj], s, rfl, rfl⟩⟩
          | cst _ => cases h
          | glob _ => cases h
        · cases h
      · rename_i h0
        exact ⟨_, h, .inl ⟨rfl, fun u hu => (by cases hu), fun q' j' hq => (by injection hq with e1 e2; rw [← e1, ← e2]; exact h0)⟩⟩
    | res => exact ⟨_, h, .inl ⟨rfl, fun u hu => (by cases hu), fun q j hq => by cases hq⟩⟩
  have hwr : ∀ t, t ∈ x.wr ↔ x.dst = some t ∨ t ∈ ats [y] := by
    intro t
    cases h : x.dst <;> simp [XO.wr, hmvs, h, eq_comm]
  have htouch : ∀ l, Touch x fr l ↔ (∃ t, (x.dst = some t ∨ t ∈ ats [y]) ∧ l = .slot t) ∨ ∃ j, l = .cell r j := by
    intro l
    constructor
    · rintro (⟨t, h, rfl⟩ | ⟨_, q, j, hq, rfl⟩)
      · exact .inl ⟨t, (hwr t).1 h, rfl⟩
      · exact .inr ⟨j, by rw [(hfootr q).1 hq]⟩
    · rintro (⟨t, h, rfl⟩ | ⟨j, rfl⟩)
      · exact .inl ⟨t, (hwr t).2 h, rfl⟩
      · exact .inr ⟨h3c, r, j, (hfootr r).2 rfl, rfl⟩
  have hv1 : Valid { G with o := f } w N := by
    refine ⟨hv.lev, hv.inj, hv.mkk, ?_, ?_⟩
    · intro l l' c e1 e2
      obtain ⟨l1, g1, g2⟩ := hf l c e1
      obtain ⟨l2, g3, g4⟩ := hf l' c e2
      have := hv.oinj _ _ c g1 g3
      subst this
      rcases g2 with ⟨rfl, g5, g6⟩ | ⟨rfl, s, g5, rfl⟩ <;> rcases g4 with ⟨g7, g8, g9⟩ | ⟨rfl, u, g7, g8⟩
      · exact g7
      · exact absurd (.inl (by rw [g7]; simp [ats])) (g5 u g8)
      · exact absurd (.inl (by rw [g5]; simp [ats])) (g8 s g7.symm)
      · rfl
    · intro l c e1
      obtain ⟨l1, g1, _⟩ := hf l c e1
      exact hv.ok _ _ g1
  have hext0 : ∀ A, Ext A G w { G with o := f } w' := fun A => Ext.setB (G := G) (G' := { G with o := f }) h8 h4 h9 (fun _ => rfl) hmb (fun _ _ h => h) A
  have hext1 : Ext (fun _ => False) { G with o := f } w { G with o := f } w' := Ext.setB (G := { G with o := f }) (G' := { G with o := f }) h8 h4 h9 (fun _ => rfl) hmb (fun _ _ h => h) _
  have hv2 : Valid { G with o := f } w' N := ⟨hv1.lev, hv1.inj, fun q z h => ⟨(hv1.mkk q z h).1, by rw [h8.size]; exact (hv1.mkk q z h).2⟩, hv1.oinj, fun l c h => ⟨by rw [h8.size]; exact (hv1.ok l c h).1, (hv1.ok l c h).2⟩⟩
  refine ⟨{ G with o := f }, hext0 _, hv2, put_size .., put_defers .., fun t h => put_ne _ _ _ _ h, ?_, ?_, ?_, fun _ => rfl, fun q e1 e2 => absurd e1 e2, fun r b base h1 h2 => (by rw [show G.m r = some (b, base) from h2] at h1; cases h1), ?_, ?_⟩
  · intro t h
    by_cases hdt : x.dst = some t
    · unfold RelS
      rw [show fget (finX x (drop1 fr y) v) t = v by simp [finX, hdt, fget_fput], hdt, put_eq _ _ _ (hd t hdt)]
      exact ⟨hv0.ext hv (hext0 (fun _ => False)), .of_noFlag hno0⟩
    · have hty := ((hwr t).1 h).resolve_left hdt
      cases y with
      | cst _ => simp [ats] at hty
      | glob _ => simp [ats] at hty
      | tmp s =>
        simp [ats] at hty
        subst hty
        have e1 : fget (finX x (drop1 fr (.tmp t)) v) t = fget (drop1 fr (.tmp t)) t := by
          simp only [finX]
          split
          · rename_i d hd'; rw [fget_fput, if_neg (fun e => hdt (by rw [hd', e]))]
          · rfl
        unfold RelS
        rw [e1, put_ne _ _ _ _ hdt]
        exact drop1_rel (hsy t (by simp [ats])).1 (fun h => absurd rfl h) (fun _ h => h.ext hv (hext0 (fun _ => False)))
  · intro l h
    show f l = _
    cases l with
    | slot t => rw [hft, if_neg (fun e => h ((htouch _).2 (.inl ⟨t, e.symm, rfl⟩)))]
    | cell q j => rw [hfc, if_neg (fun e => h ((htouch _).2 (.inr ⟨j, by rw [e.1]⟩)))]
    | res => rfl
  · intro l c h e
    obtain ⟨l1, g1, g2⟩ := hf l c e
    refine .inl ⟨l1, ?_, g1⟩
    rcases g2 with ⟨rfl, _, _⟩ | ⟨rfl, s, rfl, rfl⟩
    · exact h
    · exact (htouch _).2 (.inl ⟨s, .inr (by simp [ats]), rfl⟩)
  · intro q b2 base2 hq hnf
    refine h8.old b2 (fun e => hnf ⟨h3c, ?_⟩)
    have := hv.inj q r _ _ hq hm e
    rw [this]
    exact (hfootr r).2 rfl
  · intro _ q b2 base2 blk hq hm2 hg2
    have hqr : q = r := (hfootr q).1 hq
    subst hqr
    have hbb : (b2, base2) = (b, base) := Option.some.inj (hm2.symm.trans hm)
    injection hbb with e1 e2
    subst e1 e2
    rw [hget_hput hget0, if_pos rfl] at hg2
    injection hg2 with hg2
    subst hg2
    refine ⟨cs', TT, h8.new, by rw [h9, splice_length]; exact h5, fun j u z hu hz => ?_⟩
    rw [splice_get _ _ _ _ hfit] at hu
    rw [h10] at hz
    by_cases hj : off ≤ j ∧ j < off + vs.length
    · rw [if_pos hj] at hu
      rw [if_pos (by omega), show base2 + j - (base2 + off) = j - off by omega, Array.getElem?_toList] at hz
      have hr0 : RelV G w u z := hcs.2 _ u z hu hz
      have hr1 : RelV (Gh.below { G with o := f } (q.lev + 1)) w u z := by
        rcases hlev with hl | hl
        · exact RelV.to_below (n := q.lev + 1) (fun p e hp => by rw [hl, hN]; exact hv1.lev p e hp) hr0.withO
        · exact RelV.noRef (G := G) (G' := Gh.below { G with o := f } (q.lev + 1)) (fun _ => rfl) hr0 (refFreeL_mem hl _ (List.mem_of_getElem? hu))
      refine ⟨hr1.ext hv1.below hext1.below, ?_⟩
      have hown : OwnOk { G with o := f } w (.cell q j) u z := by
        by_cases hnf : noFlag u
        · exact .of_noFlag hnf
        · obtain ⟨e0, e1, s, rfl, rfl, rfl⟩ := hflag _ u z hu hz hnf
          have hjo : j = off := by omega
          refine (hsy s (by simp [ats])).2.withO ?_
          rw [hfc, if_pos ⟨rfl, hj⟩, if_pos hjo]
          rfl
      exact hown.ext hv1 hext1 rfl (fun _ _ h => h)
    · rw [if_neg hj] at hu
      rw [if_neg (by omega)] at hz
      obtain ⟨g1, g2⟩ := h6 j u z hu hz
      have g3 : RelV (Gh.below { G with o := f } (q.lev + 1)) w u z := g1.withO (f := f)
      refine ⟨g3.ext hv1.below hext1.below, ?_⟩
      have g4 : OwnOk { G with o := f } w (.cell q j) u z := g2.withO (by rw [hfc, if_neg (fun e => hj e.2)])
      exact g4.ext hv1 hext1 rfl (fun _ _ h => h)
end
end Go.Proofs.Ytpfollpbkpgglaa.Sx
