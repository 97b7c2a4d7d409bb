/- SX, part R: any operation. -/
import Derived.Test.YtjbgceogkgpjpaaGreatDoorSxQ
import Derived.Laws.MakeOwn
set_option linter.unusedVariables false
set_option linter.unusedSimpArgs false
namespace Go.Proofs.YtjbgceogkgpjpaaGreatDoor.Sx
open Go
theorem mkBlk_new {x : XO} {hp hp' : Heap} {b : Blk} {r : Ref} (h : mkBlk hp (x.dst.getD 0) b = some (r, hp')) : r = newRef x hp := (mkBlk_facts h).2.2.1
section
variable {P : Program} {G : Gh} {w : World} {N : Nat} {x : XO} {fr : List AV} {hp : Heap} {act : Act} {o : Oper} {K : Act → World → Prop} {Q : Exit → Act → World → Prop}
  {C : CallT} {gl : Nat → List AV} {d : Nat} {v : AV} {fr1 : List AV} {hp1 : Heap} {prims : List (Nat × Nat)}
theorem op_pure {x : XOp} (hx : pureOp x = true) (hc : chkOp P prims x o = true) (he : evOp C gl d x fr hp = some (v, fr1, hp1)) (hs : ∀ t ∈ rds x, RelS G w fr act t)
    (hh : ∀ r, footR fr x r → ∀ b base blk, G.m r = some (b, base) → hget hp r = some blk → RelBlk G w r b base blk) (hg : GlOk G w gl) : OpGives P G w act o v fr fr1 hp hp1 := by
  cases x <;> (try (cases hx; done))
  case mov => exact op_mov hc he hs
  case pick => exact op_pick hc he hs
  case build => exact op_build hc he hs
  case load => exact op_load hc he hs hh hg
  case bin => exact op_bin hc he hs
  case beq => exact op_beq hc he hs
  case eqnil => exact op_eqnil hc he hs
  case eqagg => exact op_eqagg hc he hs
  case eqif => exact op_eqif hc he hs
  case neg => exact op_neg hc he hs
  case not => exact op_not hc he hs
  case conv => exact op_conv hc he hs
  case mkif => exact op_mkif hc he hs
  case mkfn => exact op_mkfn hc he hs
  case sstr => exact op_sstr hc he hs
  case ssl => exact op_ssl hc he hs
  case faddr => exact op_faddr hc he hs
  case iaddr => exact op_iaddr hc he hs
  case idxs => exact op_idxs hc he hs
  case ext => exact op_ext hc he hs
  case lens => exact op_lens hc he hs
  case mx => exact op_mx hc he hs
  case bstr => exact op_bstr hc he hs hh
theorem pure_cls {x : XOp} (hx : pureOp x = true) : cls x ≠ 2 ∧ cls x ≠ 3 ∧ mvs x = [] := by
  cases x <;> (try (cases hx; done)) <;> simp [cls, mvs]
def supOp (x : XOp) : Bool := pureOp x || (match x with
  | .own _ | .alloc _ | .allocb _ _ | .box _ _ | .store _ _ _ | .callq _ _ | .prim _ _ _ | .bslice _ _ _ | .rngs _ | .nexts _ | .callw _ _ | .calld _ _ | .lown _ | .strb _ | .app _ _ _ _ _ | .appstr _ _ _ => true
  | _ => false)
theorem RelBlk.withO {f : Loc → Option Nat} {r : Ref} {b base : Nat} {blk : Blk} (h : RelBlk G w r b base blk) (hf : ∀ i, f (.cell r i) = G.o (.cell r i)) : RelBlk { G with o := f } w r b base blk := by
  cases blk with
  | cells vs =>
    obtain ⟨cs, T, h1, h2, h3⟩ := h
    refine ⟨cs, T, h1, h2, fun i v z hi hz => ?_⟩
    obtain ⟨h4, h5⟩ := h3 i v z hi hz
    exact ⟨h4.withO (f := f), h5.withO (hf i)⟩
  | iter s pos => exact h
  | bld t e bs =>
    obtain ⟨h0, p, v, h1, h2, h3, hn, h4⟩ := h
    exact ⟨h0, p, v, h1, h2, h3, hn, fun g hg => ⟨(hf 1).trans (h4 g hg).1, (h4 g hg).2⟩⟩
theorem next_keep {v : AV} {y : Value} (hv : Valid G w N) (hs : ∀ t ∈ x.wr, x.dst ≠ some t → RelS G w fr act t) (hh : ∀ r, footR fr x.op r → ∀ b base blk, G.m r = some (b, base) → hget hp r = some blk → RelBlk G w r b base blk)
    (hd : ∀ d, x.dst = some d → d < act.tmps.size) (hr : RelV G w v y) (hno : noFlag v) : ∃ G', Next x fr hp G act w N (finX x fr v) hp G' (act.put x.dst y) w := by
  let f : Loc → Option Nat := fun l => if ∃ t, x.dst = some t ∧ l = .slot t then none else G.o l
  have hfn : ∀ l b, f l = some b → G.o l = some b := by
    intro l b h
    simp only [f] at h
    split at h
    · cases h
    · exact h
  refine ⟨{ G with o := f }, .of_same rfl rfl rfl (Nat.le_refl _) (fun _ _ => rfl) (fun _ _ => rfl) (fun _ _ h => h), ⟨hv.lev, hv.inj, hv.mkk, fun l l' b h1 h2 => hv.oinj _ _ b (hfn _ _ h1) (hfn _ _ h2), fun l b h => hv.ok _ _ (hfn _ _ h)⟩,
    put_size .., put_defers .., fun t h => put_ne _ _ _ _ h, ?_, ?_, fun l b h1 h2 => .inl ⟨l, h1, hfn _ _ h2⟩, fun _ => rfl, fun r h1 h2 => absurd h1 h2, fun r b base h1 h2 => (by rw [show G.m r = some (b, base) from h2] at h1; cases h1), fun _ _ _ _ _ => rfl, ?_⟩
  · intro t ht
    unfold RelS
    by_cases hdt : x.dst = some t
    · rw [show fget (finX x fr v) t = v by simp [finX, hdt, fget_fput], hdt, put_eq _ _ _ (hd t hdt)]
      exact ⟨hr.withO, .of_noFlag hno⟩
    · have e1 : fget (finX x fr v) t = fget fr t := by
        simp only [finX]
        split
        · rename_i d hd'; rw [fget_fput, if_neg (fun e => hdt (by rw [hd', e]))]
        · rfl
      rw [e1, put_ne _ _ _ _ hdt]
      obtain ⟨h1, h2⟩ := hs t ht hdt
      exact ⟨h1.withO, h2.withO (by simp only [f]; rw [if_neg (fun ⟨u, h3, h4⟩ => hdt (by injection h4 with h4; rw [h4]; exact h3))])⟩
  · intro l h
    simp only [f]
    rw [if_neg]
    rintro ⟨t, h1, rfl⟩
    exact h (.inl ⟨t, by simp [XO.wr, h1], rfl⟩)
  · intro _ r b base blk h1 h2 h3
    exact (hh r h1 b base blk h2 h3).withO (fun i => by simp only [f]; rw [if_neg (fun ⟨u, _, h4⟩ => by cases h4)])
theorem next_skip (hv : Valid G w N) (hs : ∀ t ∈ x.nm, RelS G w fr act t) (hh : ∀ r, footR fr x.op r → ∀ b base blk, G.m r = some (b, base) → hget hp r = some blk → RelBlk G w r b base blk)
    (hd : ∀ d, x.dst = some d → d < act.tmps.size) : ∃ G', Next x fr hp G act w N (finX x fr (.tup [])) hp G' (act.put x.dst undef) w :=
  next_keep hv (fun t ht _ => hs t (by simp [XO.nm, ht])) hh hd (.tup [] #[] rfl (by simp)) trivial
theorem wp_of_run {y : Value} {w' : World} (h : (execOp act.eval o).run P w = .ok (.value y) w') (hK : K (act.put o.dst y) w') : o.wp P act w K Q := by
  unfold Oper.wp
  rw [h]
  exact hK
theorem fillX_length : ∀ {ps : List (Nat × Nat × XArg)} {zs cs : List AV}, fillX fr ps zs = some cs → cs.length = zs.length
  | [], zs, cs, h => by simp only [fillX, Option.some.injEq] at h; rw [h]
  | (off, n, a) :: l, zs, cs, h => by
    simp only [fillX] at h
    split at h
    · rw [fillX_length h, splice_length]
    · cases h
theorem MemAt.withO {f : Loc → Option Nat} {cs : List AV} {b q : Nat} (h : MemAt G w cs b q) : MemAt { G with o := f } w cs b q := fun j v hj => by
  obtain ⟨x, h1, h2⟩ := h j v hj
  exact ⟨x, h1, h2.withO⟩
theorem bare_rel {G G' : Gh} {u : AV} {y : Value} (hb : bareV u = true) (h : RelV G w u y) : RelV G' w u y := by
  cases h <;> (try (cases hb; done))
  · exact .bool _
  · exact .int _ _
  · exact .str _
  · exact .nilptr
  · exact .nilsl
  · exact .nilif
  · exact .nilfn
theorem bare_free {u : AV} (hb : bareV u = true) : refFree u = true := by
  cases u <;> (try (cases hb; done)) <;> rfl
def cellG (G : Gh) : Gh := { G with o := fun l => match l with | .cell r i => G.o (.cell r i) | _ => none }
theorem next_callw {f : Nat} {zs : List Value} {vs : List AV} (hC : CallOk P gl C) (h3 : cls x.op = 3) (hft : ∀ r, footR fr x.op r) (hm : mvs x.op = []) (hxd : x.dst = o.dst) (hv : Valid G w N) (hN : hp.length = N)
    (hrun : (execOp act.eval o).run P w = (callFunc f zs.toArray).run P w) (hlen : vs.length = zs.length)
    (hrel : ∀ (j : Nat) (u : AV) (z : Value), vs[j]? = some u → zs[j]? = some z → RelV G w u z) (hnf : ∀ u ∈ vs, noFlag u)
    (hh : ∀ r, footR fr x.op r → ∀ b base blk, G.m r = some (b, base) → hget hp r = some blk → RelBlk G w r b base blk) (hgl : GlOk G w gl) (hc : C f vs hp = some (v, hp1)) (hd : ∀ d, x.dst = some d → d < act.tmps.size)
    (hK : ∀ G' act' w', Next x fr hp G act w N (finX x fr v) hp1 G' act' w' → K act' w') : o.wp P act w K Q := by
  have hco : ∀ l b, (cellG G).o l = some b → ∃ r i, l = .cell r i ∧ G.o (.cell r i) = some b := by
    intro l b h
    cases l with
    | slot t => cases h
    | res => cases h
    | cell r i => exact ⟨r, i, rfl, h⟩
  have hv0 : Valid (cellG G) w hp.length := by
    rw [hN]
    refine ⟨hv.lev, hv.inj, hv.mkk, fun l l' b h1 h2 => ?_, fun l b h => ?_⟩
    · obtain ⟨r, i, rfl, h3⟩ := hco l b h1
      obtain ⟨q, j, rfl, h4⟩ := hco l' b h2
      exact hv.oinj _ _ b h3 h4
    · obtain ⟨r, i, rfl, h3⟩ := hco l b h
      exact hv.ok _ b h3
  have hcall := hC f vs hp v hp1 hc (cellG G) w zs.toArray hv0 (by simp [hlen]) ?_ ?_ ?_
  unfold Oper.wp
  rw [hrun, run_enter hcall.1]
  show Calls P f _ w _
  refine Calls.mono hcall.2 ?_
  rotate_left
  · intro j u z hu hz
    exact ⟨(hrel j u z hu (by simpa using hz)).withO, .of_noFlag (hnf u (List.mem_of_getElem? hu))⟩
  · intro r b base blk h1 h2
    exact (hh r (hft r) b base blk h1 h2).withO (fun _ => rfl)
  · intro g
    rcases hgl g with h | ⟨h1, h2, h4, h5, h6⟩
    · exact .inl h
    · exact .inr ⟨h1, h2, h4, h5.withO, h6⟩
  · rintro e w' ⟨z, G1, rfl, hE, hV, hR, hO, hH, hM, hOn⟩
    show K (act.put o.dst z) w'
    rw [← hxd]
    have hM' : G1.m = G.m := hM
    have hwr : ∀ t, t ∈ x.wr ↔ x.dst = some t := by
      intro t
      cases h : x.dst <;> simp [XO.wr, hm, h, eq_comm]
    have htc : ∀ r i, Touch x fr (.cell r i) := fun r i => .inr ⟨h3, r, i, hft r, rfl⟩
    let g : Loc → Option Nat := fun l => match l with
      | .slot t => if x.dst = some t then G1.o .res else G.o (.slot t)
      | .cell r i => G1.o (.cell r i)
      | .res => G.o .res
    -- owners behind the call: of the call's own, or as before
    have hg : ∀ l b, g l = some b → (∃ l', G1.o l' = some b ∧ ((l' = .res ∧ ∃ t, x.dst = some t ∧ l = .slot t) ∨ (l' = l ∧ ∃ r i, l = .cell r i))) ∨ (G.o l = some b ∧ ((∃ t, l = .slot t ∧ x.dst ≠ some t) ∨ l = .res)) := by
      intro l b h
      cases l with
      | slot t =>
        simp only [g] at h
        split at h
        · rename_i e; exact .inl ⟨_, h, .inl ⟨rfl, t, e, rfl⟩⟩
        · rename_i e; exact .inr ⟨h, .inl ⟨t, rfl, e⟩⟩
      | cell r i => exact .inl ⟨_, h, .inr ⟨rfl, r, i, rfl⟩⟩
      | res => exact .inr ⟨h, .inr rfl⟩
    have hdis : ∀ l1 l2 b, G1.o l1 = some b → G.o l2 = some b → (∃ r i, l2 = .cell r i) := by
      intro l1 l2 b h1 h2
      rcases hOn l1 b h1 with ⟨l', h4⟩ | h4
      · obtain ⟨r, i, rfl, h5⟩ := hco l' b h4
        exact ⟨r, i, hv.oinj _ _ b h2 h5⟩
      · have := (hv.ok _ _ h2).1; omega
    have hA : ∀ b, (∃ l, (cellG G).o l = some b) → ∃ l, Touch x fr l ∧ G.o l = some b := by
      rintro b ⟨l, h⟩
      obtain ⟨r, i, rfl, h5⟩ := hco l b h
      exact ⟨_, htc r i, h5⟩
    refine hK { G1 with o := g } _ _ ⟨⟨hE.os, hE.tape, hE.output, hE.size, hE.st, hE.gr, fun b h1 h2 h4 h5 => hE.keep b h1 h2 h4 (fun h => h5 (hA b h)), hE.mm, hE.mb⟩, ⟨fun r a h => ?_, hV.inj, hV.mkk, ?_, ?_⟩, put_size .., put_defers .., fun t h => put_ne _ _ _ _ h, ?_, ?_, ?_,
      fun _ => hM', fun r h1 h2 => absurd (show G1.m r = none by rw [hM', h1]) h2, fun r b base h1 h2 => (by have h2' : G1.m r = some (b, base) := h2; rw [hM', h1] at h2'; cases h2'), fun r b base _ h2 => absurd ⟨h3, hft r⟩ h2, fun _ r b base blk _ h1 h2 => (hH r b base blk h1 h2).withO (fun _ => rfl)⟩
    · have := hV.lev r a h; rw [hN] at this; exact this
    · intro l1 l2 b h1 h2
      rcases hg l1 b h1 with ⟨l1', h4, h5⟩ | ⟨h4, h5⟩ <;> rcases hg l2 b h2 with ⟨l2', h6, h7⟩ | ⟨h6, h7⟩
      · have := hV.oinj _ _ b h4 h6
        subst this
        rcases h5 with ⟨rfl, t, h8, rfl⟩ | ⟨rfl, r, i, rfl⟩ <;> rcases h7 with ⟨h9, u, h10, rfl⟩ | ⟨h9, q, j, h10⟩
        · rw [h8] at h10; injection h10 with h10; rw [h10]
        · rw [← h9] at h10; cases h10
        · cases h9
        · exact h9
      · obtain ⟨r, i, e⟩ := hdis _ _ b h4 h6
        rcases h7 with ⟨t, h7, _⟩ | h7 <;> rw [h7] at e <;> cases e
      · obtain ⟨r, i, e⟩ := hdis _ _ b h6 h4
        rcases h5 with ⟨t, h5, _⟩ | h5 <;> rw [h5] at e <;> cases e
      · exact hv.oinj _ _ b h4 h6
    · intro l b h1
      rcases hg l b h1 with ⟨l', h4, _⟩ | ⟨h4, h5⟩
      · exact hV.ok _ _ h4
      · have h6 := hv.ok _ _ h4
        have hnot : ¬ ∃ l, (cellG G).o l = some b := by
          rintro ⟨l', h7⟩
          obtain ⟨r, i, rfl, h8⟩ := hco l' b h7
          have := hv.oinj _ _ b h4 h8
          rcases h5 with ⟨t, h5, _⟩ | h5 <;> rw [h5] at this <;> cases this
        have hk : (cellG G).k b ≠ .st ∧ (cellG G).k b ≠ .mb := by
          rcases h6.2 with ⟨k, h7⟩ | h7 <;> exact ⟨by rw [show (cellG G).k b = G.k b from rfl, h7]; simp, by rw [show (cellG G).k b = G.k b from rfl, h7]; simp⟩
        obtain ⟨h8, _⟩ := hE.keep b h6.1 hk.1 hk.2 hnot
        refine ⟨Nat.lt_of_lt_of_le h6.1 hE.size, ?_⟩
        show (∃ f, G1.k b = .gr f) ∨ G1.k b = .un
        rw [h8]
        exact h6.2
    · intro t h
      have hdt := (hwr t).1 h
      unfold RelS
      rw [show fget (finX x fr v) t = v by simp [finX, hdt, fget_fput], hdt, put_eq _ _ _ (hd t hdt)]
      exact ⟨hR.withO, hO.withO (by simp only [g]; rw [if_pos hdt])⟩
    · intro l h
      cases l with
      | slot t =>
        show g (.slot t) = _
        simp only [g]
        rw [if_neg (fun e => h (.inl ⟨t, (hwr t).2 e, rfl⟩))]
      | cell r i => exact absurd (htc r i) h
      | res => rfl
    · intro l b h h1
      rcases hg l b h1 with ⟨l', h4, _⟩ | ⟨h4, h5⟩
      · rcases hOn l' b h4 with h6 | h6
        · exact .inl (hA b h6)
        · exact .inr h6
      · exact .inl ⟨l, h, h4⟩
theorem run_callVal {h : Operand} {bs : List Operand} {f : Nat} {xs ys : Array Value} (hc : callVal o.op = some (h, bs)) (hf : act.eval h = .func (.func f) xs ys) :
    (execOp act.eval o).run P w = (callFunc f (xs.toList ++ bs.map act.eval ++ ys.toList).toArray).run P w := by
  cases ho : o.op <;> rw [ho] at hc <;> simp only [callVal] at hc <;> (try (cases hc; done))
  rename_i c
  split at hc
  · rename_i g' hg
    injection hc with hc
    injection hc with h1 h2
    subst h1 h2
    simp only [execOp, ho, resolve, hg, hf, Deferred.ofValue, Sem.run_bind, Sem.run_pure, Result.andThen_ok, invoke]
    congr 2
    apply Array.ext'
    simp [List.append_assoc]
  · cases hc
theorem fn_form {f : Nat} {ds cs : List AV} {y : Value} (h : RelV G w (.fn f ds cs) y) : ∃ xs ys, y = .func (.func f) xs ys ∧ ds.length = xs.size ∧ cs.length = ys.size ∧
    (∀ (j : Nat) (v : AV) (x : Value), ds[j]? = some v → xs[j]? = some x → RelV G w v x) ∧ (∀ (j : Nat) (v : AV) (x : Value), cs[j]? = some v → ys[j]? = some x → RelV G w v x) := by
  cases h with | fn _ _ _ xs ys hl hm hr hs => exact ⟨xs, ys, rfl, hl, hm, hr, hs⟩
theorem step_calld {g : XArg} {as : List XArg} (hC : CallOk P gl C) (hx : x.op = .calld g as) (hchk : chkOp P prims (.calld g as) o = true) (hxd : x.dst = o.dst) (hd : ∀ d, x.dst = some d → d < act.tmps.size)
    (he : evOp C gl (x.dst.getD 0) (.calld g as) fr hp = some (v, fr1, hp1)) (hv : Valid G w N) (hN : hp.length = N) (hs : ∀ t ∈ rds (.calld g as), RelS G w fr act t)
    (hh : ∀ r, footR fr x.op r → ∀ b base blk, G.m r = some (b, base) → hget hp r = some blk → RelBlk G w r b base blk) (hg : GlOk G w gl)
    (hK : ∀ G' act' w', Next x fr hp G act w N (finX x fr1 v) hp1 G' act' w' → K act' w') : o.wp P act w K Q := by
  simp only [chkOp] at hchk
  split at hchk
  · rename_i h bs hcall
    simp only [Bool.and_eq_true] at hchk
    obtain ⟨h1, h2⟩ := hchk
    have hr := arg_rel (w := w) (G := G) (fr := fr) (act := act) h1 (fun t ht => hs t (mem_ats (a := g) (by simp) ht))
    simp only [evOp] at he
    split at he
    · rename_i f ds cs hf
      rw [hf] at hr
      split at he
      · rename_i v' hq hc
        split at he
        · simp only [Option.some.injEq, Prod.mk.injEq] at he
          obtain ⟨rfl, rfl, rfl⟩ := he
          obtain ⟨xs, ys, hy, hl, hm, hr1, hr2⟩ := fn_form hr
          obtain ⟨h3, h4⟩ := eargs_rel h2 (fun a ha t ht => hs t (mem_ats (a := a) (by simp [ha]) ht))
          refine next_callw (zs := xs.toList ++ bs.map act.eval ++ ys.toList) hC (by rw [hx]; rfl) (fun r => by rw [hx]; simp [footR, cls]) (by rw [hx]; rfl) hxd hv hN (run_callVal hcall hy) (by simp [hl, hm, h3]) ?_ ?_ hh hg hc hd hK
          · intro j u z hu hz
            rw [List.getElem?_map, Option.map_eq_some_iff] at hu
            obtain ⟨u0, hu, rfl⟩ := hu
            refine RelV.uf ?_
            have e1 : ds.length = xs.toList.length := by simpa using hl
            have e2 : (eargs fr as).length = (bs.map act.eval).length := by simpa using h3
            rw [List.append_assoc] at hu hz
            rcases Nat.lt_or_ge j ds.length with hj | hj
            · rw [List.getElem?_append_left hj] at hu
              rw [List.getElem?_append_left (by omega)] at hz
              exact hr1 j u0 z hu (by simpa using hz)
            · rw [List.getElem?_append_right hj] at hu
              rw [List.getElem?_append_right (by omega), ← e1] at hz
              rcases Nat.lt_or_ge (j - ds.length) (eargs fr as).length with hk | hk
              · rw [List.getElem?_append_left hk] at hu
                rw [List.getElem?_append_left (by omega)] at hz
                exact h4 _ u0 z hu hz
              · rw [List.getElem?_append_right hk] at hu
                rw [List.getElem?_append_right (by omega), ← e2] at hz
                exact hr2 _ u0 z hu (by simpa using hz)
          · intro u hu
            obtain ⟨u0, _, rfl⟩ := List.mem_map.1 hu
            exact noFlag_uf u0
        · cases he
      · cases he
    · cases he
  · cases hchk
theorem step_callw {f : Nat} {as : List XArg} (hC : CallOk P gl C) (hx : x.op = .callw f as) (hchk : chkOp P prims (.callw f as) o = true) (hxd : x.dst = o.dst) (hd : ∀ d, x.dst = some d → d < act.tmps.size)
    (he : evOp C gl (x.dst.getD 0) (.callw f as) fr hp = some (v, fr1, hp1)) (hv : Valid G w N) (hN : hp.length = N) (hs : ∀ t ∈ rds (.callw f as), RelS G w fr act t)
    (hh : ∀ r, footR fr x.op r → ∀ b base blk, G.m r = some (b, base) → hget hp r = some blk → RelBlk G w r b base blk) (hg : GlOk G w gl)
    (hK : ∀ G' act' w', Next x fr hp G act w N (finX x fr1 v) hp1 G' act' w' → K act' w') : o.wp P act w K Q := by
  simp only [chkOp] at hchk
  split at hchk
  · rename_i g bs hcall
    simp only [Bool.and_eq_true, beq_iff_eq] at hchk
    obtain ⟨⟨rfl, h1⟩, h2⟩ := hchk
    simp only [evOp] at he
    split at he
    · rename_i v' hq hc
      split at he
      · simp only [Option.some.injEq, Prod.mk.injEq] at he
        obtain ⟨rfl, rfl, rfl⟩ := he
        obtain ⟨h3, h4⟩ := eargs_rel h1 (fun a ha t ht => hs t (mem_ats ha ht))
        exact next_callw hC (by rw [hx]; rfl) (fun r => by rw [hx]; simp [footR, cls]) (by rw [hx]; rfl) hxd hv hN (run_call hcall) (by simp [h3]) h4 (eargs_noFlag h1) hh hg hc hd hK
      · cases he
    · cases he
  · cases hchk
theorem next_lown {a : XArg} {r : Ref} {off b base z : Nat} {cs : List AV} {es : List (List AV)} {y : Value} (hx : x.op = .lown a) (hv : Valid G w N) (hr : ptrOf (earg fr a) = some r) (hm : G.m r = some (b, base)) (hg : hget hp r = some (.cells cs))
    (hblk : RelBlk G w r b base (.cells cs)) (hcs : cs[off]? = some (.lst .own z es)) (hy : w.cell? ⟨b, base + off, none⟩ = some y) (hd : ∀ d, x.dst = some d → d < act.tmps.size) :
    ∃ G', Next x fr hp G act w N (finX x fr (.lst .own z es)) (hput hp r (.cells (splice cs off [.lst .none z es]))) G' (act.put x.dst y) w := by
  have h3c : cls x.op = 3 := by rw [hx]; rfl
  have hwr : ∀ t, t ∈ x.wr ↔ x.dst = some t := by
    intro t
    cases h : x.dst <;> simp [XO.wr, hx, mvs, h, eq_comm]
  have hfoot : ∀ q, footR fr x.op q ↔ q = r := fun q => by
    rw [hx]
    simp only [footR, hr, Option.some.injEq]
    exact eq_comm
  have htouch : ∀ l, Touch x fr l ↔ (∃ t, x.dst = some t ∧ l = .slot t) ∨ ∃ j, l = .cell r j := by
    intro l
    constructor
    · rintro (⟨t, h, rfl⟩ | ⟨_, q, j, hq, rfl⟩)
      · exact .inl ⟨t, (hwr t).1 h, rfl⟩
      · exact .inr ⟨j, by rw [(hfoot q).1 hq]⟩
    · rintro (⟨t, h, rfl⟩ | ⟨j, rfl⟩)
      · exact .inl ⟨t, (hwr t).2 h, rfl⟩
      · exact .inr ⟨h3c, r, j, (hfoot r).2 rfl, rfl⟩
  let f : Loc → Option Nat := fun l => if ∃ t, x.dst = some t ∧ l = .slot t then G.o (.cell r off) else if l = .cell r off then none else G.o l
  have hf : ∀ l c, f l = some c → ∃ l', G.o l' = some c ∧ (l' = l ∧ ¬ (∃ t, x.dst = some t ∧ l = .slot t) ∧ l ≠ .cell r off ∨ l' = .cell r off ∧ ∃ t, x.dst = some t ∧ l = .slot t) := by
    intro l c h
    simp only [f] at h
    split at h
    · rename_i h1; exact ⟨_, h, .inr ⟨rfl, h1⟩⟩
    · split at h
      · cases h
      · rename_i h1 h2; exact ⟨_, h, .inl ⟨rfl, h1, h2⟩⟩
  obtain ⟨cs0, T0, hb0, hsz, hcell⟩ := hblk
  have hoff : off < cs.length := (List.getElem?_eq_some_iff.1 hcs).1
  have hyc : cs0[base + off]? = some y := by
    simp only [World.cell?, hb0] at hy
    exact hy
  obtain ⟨hrel, hown⟩ := hcell off _ y hcs hyc
  have hfc : ∀ j, j ≠ off → f (.cell r j) = G.o (.cell r j) := fun j hj => by
    simp only [f]
    rw [if_neg (fun ⟨t, _, e⟩ => by cases e), if_neg (fun e => hj (by injection e))]
  refine ⟨{ G with o := f }, .of_same rfl rfl rfl (Nat.le_refl _) (fun _ _ => rfl) (fun _ _ => rfl) (fun _ _ h => h), ⟨hv.lev, hv.inj, hv.mkk, ?_, ?_⟩, put_size .., put_defers .., fun t h => put_ne _ _ _ _ h, ?_, ?_, ?_, fun _ => rfl, fun q h1 h2 => absurd h1 h2,
    fun q c base h1 h2 => (by rw [show G.m q = some (c, base) from h2] at h1; cases h1), fun _ _ _ _ _ => rfl, ?_⟩
  · intro l l' c h1 h2
    obtain ⟨l1, h4, h5⟩ := hf l c h1
    obtain ⟨l2, h6, h7⟩ := hf l' c h2
    have := hv.oinj _ _ c h4 h6
    subst this
    rcases h5 with ⟨rfl, h8, h9⟩ | ⟨rfl, t, h8, rfl⟩ <;> rcases h7 with ⟨h10, h11, h12⟩ | ⟨h10, u, h11, rfl⟩
    · exact h10
    · exact absurd h10 h9
    · exact absurd h10.symm h12
    · rw [h8] at h11; injection h11 with h11; rw [h11]
  · intro l c h1
    obtain ⟨l1, h4, _⟩ := hf l c h1
    exact hv.ok _ _ h4
  · intro t h
    have hdt := (hwr t).1 h
    unfold RelS
    rw [show fget (finX x fr (.lst .own z es)) t = .lst .own z es by simp [finX, hdt, fget_fput], hdt, put_eq _ _ _ (hd t hdt)]
    exact ⟨hrel.of_below.withO, hown.withO (by simp only [f]; rw [if_pos ⟨t, hdt, rfl⟩])⟩
  · intro l h
    simp only [f]
    rw [if_neg (fun hh => h ((htouch l).2 (.inl hh))), if_neg (fun e => h ((htouch l).2 (.inr ⟨off, e⟩)))]
  · intro l c h h1
    obtain ⟨l1, h4, h5⟩ := hf l c h1
    refine .inl ⟨l1, ?_, h4⟩
    rcases h5 with ⟨rfl, _, _⟩ | ⟨rfl, _⟩
    · exact h
    · exact (htouch _).2 (.inr ⟨off, rfl⟩)
  · intro _ q c base2 blk2 h1 h2 h4
    have hq := (hfoot q).1 h1
    subst hq
    rw [hget_hput hg, if_pos rfl] at h4
    injection h4 with h4
    subst h4
    have : (c, base2) = (b, base) := Option.some.inj (h2.symm.trans hm)
    injection this with e1 e2
    subst e1 e2
    refine ⟨cs0, T0, hb0, by rw [splice_length]; exact hsz, fun j u w0 hu hw => ?_⟩
    rw [splice_get _ _ _ _ (by simp; omega)] at hu
    by_cases hj : off ≤ j ∧ j < off + [AV.lst Own.none z es].length
    · rw [if_pos hj] at hu
      have hjo : j = off := by simp at hj; omega
      subst hjo
      simp at hu
      subst hu
      have e : w0 = y := Option.some.inj (hw.symm.trans hyc)
      subst e
      exact ⟨(hrel.uf).withO (f := f), .of_noFlag trivial⟩
    · rw [if_neg hj] at hu
      obtain ⟨g1, g2⟩ := hcell j u w0 hu hw
      exact ⟨g1.withO (f := f), g2.withO (hfc j (fun e => hj (by simp; omega)))⟩
theorem step_lown {a : XArg} (hx : x.op = .lown a) (hchk : chkOp P prims (.lown a) o = true) (hxd : x.dst = o.dst) (hd : ∀ d, x.dst = some d → d < act.tmps.size)
    (he : evOp C gl (x.dst.getD 0) (.lown a) fr hp = some (v, fr1, hp1)) (hv : Valid G w N) (hs : ∀ t ∈ rds (.lown a), RelS G w fr act t)
    (hh : ∀ r, footR fr x.op r → ∀ b base blk, G.m r = some (b, base) → hget hp r = some blk → RelBlk G w r b base blk)
    (hK : ∀ G' act' w', Next x fr hp G act w N (finX x fr1 v) hp1 G' act' w' → K act' w') : o.wp P act w K Q := by
  simp only [chkOp] at hchk
  split at hchk
  · rename_i T b ho
    simp only [Bool.and_eq_true, typeIs] at hchk
    obtain ⟨h1, h2⟩ := hchk
    split at h2
    · rename_i i dd hi hdd
      simp only [Bool.and_eq_true, beq_iff_eq] at h2
      have hr := arg_rel (w := w) (G := G) h1 (ats1 hs)
      simp only [evOp] at he
      split at he
      · rename_i r off ha
        rw [ha] at hr
        obtain ⟨bb, base, hy, hm⟩ := ptr_form hr
        split at he
        · rename_i cs hcs
          have hg : hget hp r = some (.cells cs) := by
            unfold cellsAt at hcs
            split at hcs
            · rename_i vs' hb; injection hcs with hcs; subst hcs; exact hb
            · cases hcs
          have hblk := hh r (by rw [hx]; simp [footR, ha, ptrOf]) bb base _ hm hg
          have hrunOf : ∀ y, w.cell? ⟨bb, base + off, none⟩ = some y → (execOp act.eval o).run P w = .ok (.value y) w := by
            intro y hc
            have hl : (loadVar T ⟨bb, base + off, none⟩).run P w = .ok y w := by
              simp only [loadVar, Sem.run_bind, run_isAgg2 hdd, h2.2, Result.andThen_ok, Bool.false_eq_true, if_false]
              exact run_load1 hc
            simp only [execOp, ho, hy, Instr.loadAt, Instr.sureAddr, Sem.run_bind, Sem.run_pure, Result.andThen_ok, hl]
          have hgetcs : ∀ u l, cs.drop off = u :: l → cs[off]? = some u := by
            intro u l e
            have : (cs.drop off)[0]? = some u := by rw [e]; rfl
            rwa [List.getElem?_drop, Nat.add_zero] at this
          split at he
          · rename_i z es l hdr
            simp only [Option.some.injEq, Prod.mk.injEq] at he
            obtain ⟨rfl, rfl, rfl⟩ := he
            obtain ⟨y, hc, _⟩ := hblk.mem off _ (hgetcs _ _ hdr)
            obtain ⟨G', hn⟩ := next_lown (x := x) (fr := fr) (act := act) hx hv (by rw [ha]; rfl) hm hg hblk (hgetcs _ _ hdr) hc hd
            exact wp_of_run (hrunOf y hc) (hxd ▸ hK _ _ _ hn)
          · rename_i u l _ hdr
            simp only [Option.some.injEq, Prod.mk.injEq] at he
            obtain ⟨rfl, rfl, rfl⟩ := he
            obtain ⟨y, hc, hrel⟩ := hblk.mem off _ (hgetcs _ _ hdr)
            obtain ⟨G', hn⟩ := next_keep (x := x) (hp := hp) (fr := fr) (act := act) (v := uf u) (y := y) hv (fun t ht hdt => by
              cases h : x.dst <;> simp [XO.wr, hx, mvs, h] at ht hdt
              exact absurd ht.symm hdt) hh hd hrel.uf (noFlag_uf u)
            exact wp_of_run (hrunOf y hc) (hxd ▸ hK _ _ _ hn)
          · cases he
        · cases he
      · cases he
    · cases h2
  · cases hchk
theorem step_rngs {a : XArg} (hx : x.op = .rngs a) (hchk : chkOp P prims (.rngs a) o = true) (hxd : x.dst = o.dst) (hd : ∀ d, x.dst = some d → d < act.tmps.size)
    (he : evOp C gl (x.dst.getD 0) (.rngs a) fr hp = some (v, fr1, hp1)) (hv : Valid G w N) (hN : hp.length = N) (hs : ∀ t ∈ rds (.rngs a), RelS G w fr act t) (hfresh : cls x.op = 2 → hp ≠ [] → hget hp1 (newRef x hp) ≠ none → G.m (newRef x hp) = none)
    (hK : ∀ G' act' w', Next x fr hp G act w N (finX x fr1 v) hp1 G' act' w' → K act' w') : o.wp P act w K Q := by
  simp only [chkOp] at hchk
  split at hchk
  · rename_i T b ho
    simp only [Bool.and_eq_true] at hchk
    obtain ⟨h1, h2⟩ := hchk
    split at h2
    · rename_i hT
      have hr := arg_rel (w := w) (G := G) h1 (ats1 hs)
      simp only [evOp] at he
      split at he
      · rename_i s ha
        rw [ha] at hr
        cases hy : act.eval b <;> rw [hy] at hr <;> cases hr
        rename_i q
        split at he
        · rename_i r hp' hb
          simp only [Option.some.injEq, Prod.mk.injEq] at he
          obtain ⟨rfl, rfl, rfl⟩ := he
          have hrun : (execOp act.eval o).run P w = .ok (.value (.pointer (some ⟨w.heap.size, 0, none⟩))) (w.alloc (.stringIter q 0)) := by
            simp only [execOp, ho, hy, Instr.range, Sem.run_bind, run_underlying' hT, Result.andThen_ok, Sem.run_pure, run_newObj]
            rfl
          obtain ⟨G', hn⟩ := next_new0 (x := x) (fr := fr) (act := act) (ob := .stringIter q 0) hv hN (by rw [hx]; rfl) (by rw [hx]; rfl) hb (hfresh (by rw [hx]; rfl) (mkBlk_facts hb).2.2.2.1 (mkBlk_new hb ▸ (mkBlk_facts hb).2.2.2.2.1)) (fun f G' _ _ _ => ⟨q, rfl, heap_alloc_eq w _, rfl⟩) hd
          exact wp_of_run hrun (hxd ▸ hK _ _ _ hn)
        · cases he
      · cases he
    · cases h2
  · cases hchk
theorem next_nexts {a : XArg} {r : Ref} {b base : Nat} {w' : World} {blk : Blk} {v : AV} {y : Value} (hx : x.op = .nexts a) (hv : Valid G w N) (hr : ptrOf (earg fr a) = some r) (hm : G.m r = some (b, base)) {blk0 : Blk} (hg : hget hp r = some blk0)
    (hos : w'.os = w.os) (ht : w'.tape = w.tape) (hout : w'.output = w.output) (hsz : w'.heap.size = w.heap.size) (hold : ∀ c, c ≠ b → w'.heap[c]? = w.heap[c]?) (hnc : ∀ cs T fz, w.heap[b]? ≠ some (.cells cs T fz))
    (hblk : ∀ f : Loc → Option Nat, RelBlk { G with o := f } w' r b base blk) (hrel : ∀ G' : Gh, RelV G' w' v y) (hno : noFlag v) (hd : ∀ d, x.dst = some d → d < act.tmps.size) :
    ∃ G', Next x fr hp G act w N (finX x fr v) (hput hp r blk) G' (act.put x.dst y) w' := by
  let f : Loc → Option Nat := fun l => if ∃ t, x.dst = some t ∧ l = .slot t then none else G.o l
  have hfn : ∀ l b, f l = some b → G.o l = some b := by
    intro l b h
    simp only [f] at h
    split at h
    · cases h
    · exact h
  have hkb := (hv.mkk r _ hm).1
  have hne : ∀ c, G.k c ≠ .mb → c ≠ b := fun c h e => h (by rw [e]; exact hkb)
  have hwr : ∀ t, t ∈ x.wr ↔ x.dst = some t := by
    intro t
    cases h : x.dst <;> simp [XO.wr, hx, mvs, h, eq_comm]
  have hfoot : ∀ q, footR fr x.op q → q = r := fun q h => by
    rw [hx] at h
    simp only [footR, hr, Option.some.injEq] at h
    exact h.symm
  refine ⟨{ G with o := f }, ⟨hos, ht, hout, Nat.le_of_eq hsz.symm, fun c _ h => ⟨h, hold c (hne c (by rw [h]; simp))⟩, fun c g _ h => ⟨g, Nat.le_refl _, h, fun i _ => cell_of_heap (hold c (hne c (by rw [h]; simp))) i⟩,
      fun c _ _ h _ => ⟨rfl, hold c (hne c h)⟩, fun _ _ h => h, fun c _ h => ⟨h, fun cs T fz hh => ?_⟩⟩,
    ⟨hv.lev, hv.inj, fun q a h => ⟨(hv.mkk q a h).1, by rw [hsz]; exact (hv.mkk q a h).2⟩, fun l l' c h1 h2 => hv.oinj _ _ c (hfn _ _ h1) (hfn _ _ h2), fun l c h => by rw [hsz]; exact hv.ok _ _ (hfn _ _ h)⟩,
    put_size .., put_defers .., fun t h => put_ne _ _ _ _ h, ?_, ?_, fun l c h1 h2 => .inl ⟨l, h1, hfn _ _ h2⟩, fun _ => rfl, fun q h1 h2 => absurd h1 h2, fun q c base h1 h2 => (by rw [show G.m q = some (c, base) from h2] at h1; cases h1), ?_, ?_⟩
  · by_cases e : c = b
    · rw [e] at hh; exact absurd hh (hnc _ _ _)
    · exact ⟨cs, by rw [hold c e, hh], rfl⟩
  · intro t h
    have hdt := (hwr t).1 h
    unfold RelS
    rw [show fget (finX x fr v) t = v by simp [finX, hdt, fget_fput], hdt, put_eq _ _ _ (hd t hdt)]
    exact ⟨hrel _, .of_noFlag hno⟩
  · intro l h
    simp only [f]
    rw [if_neg]
    rintro ⟨t, h1, rfl⟩
    exact h (.inl ⟨t, (hwr t).2 h1, rfl⟩)
  · intro q c base2 h1 h2
    refine hold c fun e => h2 ⟨by rw [hx]; rfl, ?_⟩
    have := hv.inj q r _ _ h1 hm e
    rw [this, hx]
    exact hr
  · intro _ q c base2 blk2 h1 h2 h3
    have hq := hfoot q h1
    subst hq
    rw [hget_hput hg, if_pos rfl] at h3
    injection h3 with h3
    subst h3
    have : (c, base2) = (b, base) := Option.some.inj (h2.symm.trans hm)
    injection this with e1 e2
    subst e1 e2
    exact hblk f
theorem step_nexts {a : XArg} (hx : x.op = .nexts a) (hchk : chkOp P prims (.nexts a) o = true) (hxd : x.dst = o.dst) (hd : ∀ d, x.dst = some d → d < act.tmps.size)
    (he : evOp C gl (x.dst.getD 0) (.nexts a) fr hp = some (v, fr1, hp1)) (hv : Valid G w N) (hs : ∀ t ∈ rds (.nexts a), RelS G w fr act t)
    (hh : ∀ r, footR fr x.op r → ∀ b base blk, G.m r = some (b, base) → hget hp r = some blk → RelBlk G w r b base blk)
    (hK : ∀ G' act' w', Next x fr hp G act w N (finX x fr1 v) hp1 G' act' w' → K act' w') : o.wp P act w K Q := by
  simp only [chkOp] at hchk
  split at hchk
  · rename_i b ho
    have hr := arg_rel (w := w) (G := G) hchk (ats1 hs)
    simp only [evOp] at he
    split at he
    · rename_i r ha
      rw [ha] at hr
      obtain ⟨bb, base, hy, hm⟩ := ptr_form hr
      have hfoot : footR fr x.op r := by rw [hx]; simp [footR, ha, ptrOf]
      split at he
      · rename_i s pos hg
        obtain ⟨s', hs', hb, hbase⟩ := hh r hfoot bb base _ hm hg
        subst hs' hbase
        have hbs := (hv.mkk r _ hm).2
        have hobj : (getObj bb).run P w = .ok (.stringIter s' pos) w := by simp [getObj, Sem.run, hb]
        split at he
        · rename_i hlt
          have hlt' : pos < s'.size := by
            have e : s'.size = s'.data.toList.length := Array.length_toList.symm
            omega
          have hdec : decodeAt s'.data.toList pos = Utf8.decode s' pos := by simp [decodeAt]
          rcases hdc : Utf8.decode s' pos with ⟨c, wd⟩
          rw [hdec, hdc] at he
          simp only [Option.some.injEq, Prod.mk.injEq] at he
          obtain ⟨rfl, rfl, rfl⟩ := he
          have hset : (setObj bb (.stringIter s' (pos + wd))).run P w = .ok () { w with heap := w.heap.setIfInBounds bb (.stringIter s' (pos + wd)) } := by simp [setObj, Sem.run, hb]
          have hrun : (execOp act.eval o).run P w = .ok (.value (.tuple #[.bool true, goInt pos, .int .i32 c])) { w with heap := w.heap.setIfInBounds bb (.stringIter s' (pos + wd)) } := by
            simp only [execOp, ho, hy, Instr.next, Sem.run_bind, Result.andThen_ok, hobj, Nat.add_zero, if_pos hlt', hdc, hset, Sem.run_pure]
          obtain ⟨G', hn⟩ := next_nexts (x := x) (fr := fr) (act := act) (w' := { w with heap := w.heap.setIfInBounds bb (.stringIter s' (pos + wd)) }) (blk := .iter s'.data.toList (pos + wd)) (v := .tup [.bool true, .int .i64 pos, .int .i32 c]) (y := .tuple #[.bool true, goInt pos, .int .i32 c])
            hx hv (by rw [ha]; rfl) hm hg rfl rfl rfl (by simp) (fun e he => by simp [Array.getElem?_setIfInBounds, Ne.symm he]) (fun cs T fz => by rw [hb]; simp) (fun f => ⟨s', rfl, by simp [hbs], rfl⟩)
            (fun G' => .tup _ _ rfl fun j u z hu hz => by
              match j with
              | 0 => simp at hu hz; subst hu hz; exact .bool _
              | 1 => simp at hu hz; subst hu hz; exact .int _ _
              | 2 => simp at hu hz; subst hu hz; exact .int _ _
              | j + 3 => simp at hu) trivial hd
          exact wp_of_run hrun (hxd ▸ hK _ _ _ hn)
        · rename_i hlt
          simp only [Option.some.injEq, Prod.mk.injEq] at he
          obtain ⟨rfl, rfl, rfl⟩ := he
          have hlt' : ¬ pos < s'.size := by
            have e : s'.size = s'.data.toList.length := Array.length_toList.symm
            omega
          have hrun : (execOp act.eval o).run P w = .ok (.value (.tuple #[.bool false])) w := by
            simp only [execOp, ho, hy, Instr.next, Sem.run_bind, Result.andThen_ok, hobj, Nat.add_zero, if_neg hlt', Sem.run_pure]
          obtain ⟨G', hn⟩ := next_keep (x := x) (hp := hp) (fr := fr) (act := act) (v := .tup [.bool false]) (y := .tuple #[.bool false]) hv (fun t ht hdt => by
            cases h : x.dst <;> simp [XO.wr, hx, mvs, h] at ht hdt
            exact absurd ht.symm hdt) hh hd (.tup _ _ rfl fun j u z hu hz => by
              match j with
              | 0 => simp at hu hz; subst hu hz; exact .bool _
              | j + 1 => simp at hu) trivial
          exact wp_of_run hrun (hxd ▸ hK _ _ _ hn)
      · cases he
    · cases he
  · cases hchk
theorem step_bslice {z : Nat} {zs : List AV} {ps : List (Nat × Nat × XArg)} (hx : x.op = .bslice z zs ps) (hchk : chkOp P prims (.bslice z zs ps) o = true) (hxd : x.dst = o.dst) (hd : ∀ d, x.dst = some d → d < act.tmps.size)
    (he : evOp C gl d (.bslice z zs ps) fr hp = some (v, fr1, hp1)) (hv : Valid G w N) (hs : ∀ t ∈ rds (.bslice z zs ps), RelS G w fr act t)
    (hK : ∀ G' act' w', Next x fr hp G act w N (finX x fr1 v) hp1 G' act' w' → K act' w') : o.wp P act w K Q := by
  simp only [chkOp] at hchk
  split at hchk
  · rename_i T len qs ho
    split at hchk
    · rename_i E hT
      split at hchk
      · rename_i i hi
        split at hchk
        · rename_i zv hzv
          simp only [Bool.and_eq_true, beq_iff_eq, decide_eq_true_eq] at hchk
          obtain ⟨⟨⟨⟨h1, h2⟩, h3⟩, h4⟩, h5⟩ := hchk
          simp only [evOp] at he
          split at he
          · rename_i cs hcs
            split at he
            · rename_i hcond
              simp only [Option.some.injEq, Prod.mk.injEq] at he
              obtain ⟨rfl, rfl, rfl⟩ := he
              have hs' : ∀ p ∈ ps, ∀ t ∈ argTmp p.2.2, RelS G w fr act t := fun p hp t ht => hs t (mem_ats (List.mem_map.2 ⟨p, hp, rfl⟩) ht)
              have hzr : RelCs G w zs (initCells (if len * z = 0 then #[] else zv.cells) (len * z)) := by
                have := (constCells_rel (G := G) (w := w) h4).1
                simpa using this
              obtain ⟨xs, h6, h7⟩ := run_bslice (P := P) ho hT hi h1 hzv h3 hzr h5 hs' hcs
              have hlen : cs.length = len * z := by rw [fillX_length hcs, h2]
              have hdiv : cs.length / z = len := by rw [hlen]; exact Nat.mul_div_cancel _ hcond.2
              rw [hdiv] at hK
              obtain ⟨G', hn⟩ := next_newblk (x := x) (hp := hp) (fr := fr) (fr1 := fr) (k := .st) (own := false) (w' := w.alloc (.cells xs E)) (v := .lst .tight z (chunks z len cs)) (y := .slice (some ⟨w.heap.size, 0, none⟩) len len) hv
                (by rw [hx]; simp [cls]) (by rw [hx]; simp [cls]) rfl rfl rfl (by simp) (fun b hb => heap_alloc_lt w _ b hb) (by simp) (fun h => by cases h) hd (fun t ht => by rw [hx] at ht; simp [mvs] at ht) (fun G' hm hk1 hk2 _ hE => by
                  have hM := mem_new hv h7 hE
                  have hM' : MemAt G' (w.alloc (.cells xs E)) cs w.heap.size 0 := hM.withO (f := G'.o)
                  obtain ⟨X, hA⟩ := lstAt_chunks (n := len) hM' hcond.1 ⟨by simp, .inl hk2⟩ (by rw [hlen]; exact Nat.le_refl _)
                  have := hA.rel (ow := .tight) (cap := len) (by simp) (by rw [chunks_length]; exact Nat.le_refl _) (by rw [chunks_length]; exact fun _ => rfl)
                  rw [chunks_length] at this
                  exact ⟨this, trivial⟩)
              exact wp_of_run h6 (hxd ▸ hK _ _ _ hn)
            · cases he
          · cases he
        · cases hchk
      · cases hchk
    · cases hchk
  · cases hchk
theorem next_row {z cap : Nat} {es : List (List AV)} {C : Array Value} {T : TypeId} {fz : Nat × Nat} {w' : World} {fr1 : List AV} (hv : Valid G w N) (h2 : cls x.op ≠ 2) (h3 : cls x.op ≠ 3) (hos : w'.os = w.os) (ht : w'.tape = w.tape) (hout : w'.output = w.output)
    (hsz : w'.heap.size = w.heap.size + 1) (hold : ∀ b, b < w.heap.size → w'.heap[b]? = w.heap[b]?) (hb : w'.heap[w.heap.size]? = some (.cells C T fz)) (hz : ∀ (i : Nat) (e : List AV), es[i]? = some e → e.length = z)
    (hcap : es.length ≤ cap) (hC : cap * z ≤ C.size) (hfz : ∀ i, i < cap * z → ¬ (fz.1 ≤ i ∧ i < fz.2))
    (hrel : ∀ (i : Nat) (e : List AV) (j : Nat) (u : AV), es[i]? = some e → e[j]? = some u → refFree u = true ∧ ∃ y, C[i * z + j]? = some y ∧ RelV G w u y)
    (hd : ∀ d, x.dst = some d → d < act.tmps.size) (hfr : ∀ t ∈ mvs x.op, RelV G w (fget fr1 t) (act.tmps.getD t undef) ∧ noFlag (fget fr1 t)) :
    ∃ G', Next x fr hp G act w N (finX x fr1 (.lst .own z es)) hp G' (act.put x.dst (.slice (some ⟨w.heap.size, 0, none⟩) es.length cap)) w' := by
  refine next_newblk (k := .gr (es.length * z)) (own := true) hv h2 h3 hos ht hout hsz hold (by simp) (fun _ => .inl ⟨_, rfl⟩) hd hfr (fun G' hm hk1 hk2 hown hE => ?_)
  have hX : ∃ X : Nat → Nat → Value, ∀ (i : Nat) (e : List AV) (j : Nat) (u : AV), es[i]? = some e → e[j]? = some u → C[i * z + j]? = some (X i j) ∧ RelV G w u (X i j) := by
    refine ⟨fun i j => (C[i * z + j]?).getD undef, fun i e j u hi hj => ?_⟩
    obtain ⟨_, y, h5, h6⟩ := hrel i e j u hi hj
    simp only [h5, Option.getD_some]
    exact ⟨trivial, h6⟩
  obtain ⟨X, hX⟩ := hX
  refine ⟨.lst .own z es w.heap.size 0 cap X (by simp) hcap (by simp) ⟨by omega, .inr ⟨_, hk2, by omega⟩⟩ hz (fun i e j u hi hj => (hrel i e j u hi hj).1) (fun i e j u hi hj => ?_) (fun i e j u hi hj => ?_), ?_⟩
  · have := (hX i e j u hi hj).1
    simp [World.cell?, hb, this]
  · have h8 : RelV { G' with o := G.o } w' u (X i j) := (hX i e j u hi hj).2.ext hv hE
    exact h8.withO (f := G'.o)
  · intro d hd'
    refine ⟨w.heap.size, 0, cap, rfl, hcap, hown rfl d hd', ⟨C, T, fz, hb, by omega, fun i _ hi => hfz i (by omega)⟩, fun _ => by rw [hk2]; simp, fun h => by cases h⟩
theorem next_room {s z b o' cap : Nat} {es new : List (List AV)} {cs cs' : Array Value} {T : TypeId} {fz : Nat × Nat} {news : List Value} {w' : World} (hm : mvs x.op = [s]) (h2 : cls x.op ≠ 2) (h3 : cls x.op ≠ 3) (hv : Valid G w N) (hs : RelS G w fr act s)
    (hes : fget fr s = .lst .own z es) (hy : act.tmps.getD s undef = .slice (some ⟨b, o', none⟩) es.length cap) (hob : G.o (.slot s) = some b) (hkb : G.k b = .gr (o' + es.length * z)) (h0 : w.heap[b]? = some (.cells cs T fz))
    (hB : SetB w w' b (.cells cs' T fz)) (hsz' : cs'.size = cs.size) (hcs' : ∀ j : Nat, cs'[j]? = if o' + es.length * z ≤ j ∧ j < o' + es.length * z + news.length then news[j - (o' + es.length * z)]? else cs[j]?)
    (hroom : es.length + new.length ≤ cap) (hcapC : o' + cap * z ≤ cs.size) (hfz : ∀ i, o' + es.length * z ≤ i → i < o' + cap * z → ¬ (fz.1 ≤ i ∧ i < fz.2)) (hzn : ∀ (i : Nat) (e : List AV), new[i]? = some e → e.length = z) (hnl : news.length = new.length * z)
    (hnew : ∀ (i : Nat) (e : List AV) (j : Nat) (u : AV), new[i]? = some e → e[j]? = some u → refFree u = true ∧ ∃ y, news[i * z + j]? = some y ∧ RelV G w u y) (hd : ∀ d, x.dst = some d → d < act.tmps.size) :
    ∃ G', Next x fr hp G act w N (finX x (drop1 fr (.tmp s)) (.lst .own z (es ++ new))) hp G' (act.put x.dst (.slice (some ⟨b, o', none⟩) (es.length + new.length) cap)) w' := by
  obtain ⟨hr1, ho1⟩ := hs
  have hbs := (hv.ok _ _ hob).1
  have hwr : ∀ t, t ∈ x.wr ↔ x.dst = some t ∨ t = s := by
    intro t
    cases h : x.dst <;> simp [XO.wr, hm, h, eq_comm]
  have htouch : ∀ l, Touch x fr l ↔ ∃ t, (x.dst = some t ∨ t = s) ∧ l = .slot t := by
    intro l
    constructor
    · rintro (⟨t, h, rfl⟩ | ⟨h, _⟩)
      · exact ⟨t, (hwr t).1 h, rfl⟩
      · exact absurd h h3
    · rintro ⟨t, h, rfl⟩
      exact .inl ⟨t, (hwr t).2 h, rfl⟩
  let f : Loc → Option Nat := fun l => if ∃ t, x.dst = some t ∧ l = .slot t then G.o (.slot s) else if l = .slot s then none else G.o l
  have hf : ∀ l b, f l = some b → ∃ l', G.o l' = some b ∧ (l' = l ∧ ¬ (∃ t, x.dst = some t ∧ l = .slot t) ∧ l ≠ .slot s ∨ l' = .slot s ∧ ∃ t, x.dst = some t ∧ l = .slot t) := by
    intro l b h
    simp only [f] at h
    split at h
    · rename_i h1; exact ⟨_, h, .inr ⟨rfl, h1⟩⟩
    · split at h
      · cases h
      · rename_i h1 h2; exact ⟨_, h, .inl ⟨rfl, h1, h2⟩⟩
  have hmb : ∀ q a, G.m q = some a → a.1 ≠ b := by
    intro q a h e
    have := (hv.mkk q a h).1
    rw [e, hkb] at this
    cases this
  have hsum : es.length * z + new.length * z = (es.length + new.length) * z := by rw [Nat.add_mul]
  have hcapz : (es.length + new.length) * z ≤ cap * z := Nat.mul_le_mul_right z hroom
  let G' : Gh := { m := G.m, k := upd G.k b (.gr (o' + (es.length + new.length) * z)), o := f }
  have hk : ∀ c, c ≠ b → G'.k c = G.k c := fun c hc => by simp only [G', upd]; rw [if_neg hc]
  have hkb' : G'.k b = .gr (o' + (es.length + new.length) * z) := by simp [G', upd]
  have hne : ∀ c, G.k c ≠ .gr (o' + es.length * z) → c ≠ b := fun c h e => h (by rw [e, hkb])
  have hE : Ext (fun c => ∃ l, Touch x fr l ∧ G.o l = some c) G w G' w' := by
    refine ⟨hB.os, hB.tape, hB.output, by rw [hB.size]; exact Nat.le_refl _, fun c h4 h5 => ?_, fun c g h4 h5 => ?_, fun c h4 h5 h6 h7 => ?_, fun q a h => h, fun c h4 h5 => ?_⟩
    · have hc : c ≠ b := hne c (by rw [h5]; simp)
      exact ⟨by rw [hk c hc, h5], hB.old c hc⟩
    · by_cases hc : c = b
      · subst hc
        rw [hkb] at h5
        injection h5 with h5
        subst h5
        refine ⟨_, by omega, hkb', fun i hi => ?_⟩
        have : cs'[i]? = cs[i]? := by rw [hcs' i, if_neg (by omega)]
        simp [World.cell?, hB.new, h0, this]
      · exact ⟨g, Nat.le_refl _, by rw [hk c hc, h5], fun i _ => cell_of_heap (hB.old c hc) i⟩
    · have hc : c ≠ b := fun e => h7 ⟨.slot s, (htouch _).2 ⟨s, .inr rfl, rfl⟩, by rw [e]; exact hob⟩
      exact ⟨hk c hc, hB.old c hc⟩
    · have hc : c ≠ b := hne c (by rw [h5]; simp)
      exact ⟨by rw [hk c hc, h5], fun ds S g hh => ⟨ds, by rw [hB.old c hc, hh], rfl⟩⟩
  refine ⟨G', hE, ⟨hv.lev, hv.inj, fun q a h => (by rw [hk _ (hmb q a h), hB.size]; exact hv.mkk q a h), ?_, ?_⟩, put_size .., put_defers .., fun t h => put_ne _ _ _ _ h, ?_, ?_, ?_, fun _ => rfl, fun q h4 h5 => absurd h4 h5,
    fun r c base h1 h2 => (by rw [show G.m r = some (c, base) from h2] at h1; cases h1), fun r c base h _ => hB.old c (hmb r _ h), fun h => absurd h h3⟩
  · intro l l' c h1 h2
    obtain ⟨l1, h4, h5⟩ := hf l c h1
    obtain ⟨l2, h6, h7⟩ := hf l' c h2
    have := hv.oinj _ _ c h4 h6
    subst this
    rcases h5 with ⟨rfl, h8, h9⟩ | ⟨rfl, t, h8, rfl⟩ <;> rcases h7 with ⟨h10, h11, h12⟩ | ⟨h10, u, h11, rfl⟩
    · exact h10
    · exact absurd h10 h9
    · exact absurd h10.symm h12
    · rw [h8] at h11; injection h11 with h11; rw [h11]
  · intro l c h1
    obtain ⟨l1, h4, h5⟩ := hf l c h1
    refine ⟨by rw [hB.size]; exact (hv.ok _ _ h4).1, ?_⟩
    by_cases e : c = b
    · rw [e, hkb']; exact .inl ⟨_, rfl⟩
    · rw [hk c e]; exact (hv.ok _ _ h4).2
  · intro t h
    unfold RelS
    rw [hes] at hr1
    rw [hy] at hr1
    obtain ⟨X, hcap1, hc1, hz1, hf1, hx1, hrr1⟩ : ∃ X : Nat → Nat → Value, es.length ≤ cap ∧ Cov G w b (o' + es.length * z) ∧ (∀ (i : Nat) (e : List AV), es[i]? = some e → e.length = z) ∧
        (∀ (i : Nat) (e : List AV) (j : Nat) (v : AV), es[i]? = some e → e[j]? = some v → refFree v = true) ∧ (∀ (i : Nat) (e : List AV) (j : Nat) (v : AV), es[i]? = some e → e[j]? = some v → w.cell? ⟨b, o' + i * z + j, none⟩ = some (X i j)) ∧
        (∀ (i : Nat) (e : List AV) (j : Nat) (v : AV), es[i]? = some e → e[j]? = some v → RelV G w v (X i j)) := by
      cases hr1 with
      | lst _ _ _ _ _ _ X hu1 hcap1 ht1 hc1 hz1 hf1 hx1 hrr1 => exact ⟨X, hcap1, hc1, hz1, hf1, hx1, hrr1⟩
    by_cases hdt : x.dst = some t
    · rw [show fget (finX x (drop1 fr (.tmp s)) (.lst .own z (es ++ new))) t = .lst .own z (es ++ new) by simp [finX, hdt, fget_fput], hdt, put_eq _ _ _ (hd t hdt)]
      have hX2 : ∃ X2 : Nat → Nat → Value, ∀ (i : Nat) (e : List AV) (j : Nat) (u : AV), new[i]? = some e → e[j]? = some u → news[i * z + j]? = some (X2 i j) ∧ RelV G w u (X2 i j) := by
        refine ⟨fun i j => (news[i * z + j]?).getD undef, fun i e j u hi hj => ?_⟩
        obtain ⟨_, y, h5, h6⟩ := hnew i e j u hi hj
        simp only [h5, Option.getD_some]
        exact ⟨trivial, h6⟩
      obtain ⟨X2, hX2⟩ := hX2
      have hel : ∀ (i : Nat) (e : List AV), (es ++ new)[i]? = some e → (i < es.length ∧ es[i]? = some e) ∨ (es.length ≤ i ∧ new[i - es.length]? = some e) := by
        intro i e hi
        rcases Nat.lt_or_ge i es.length with hlt | hge
        · rw [List.getElem?_append_left hlt] at hi; exact .inl ⟨hlt, hi⟩
        · rw [List.getElem?_append_right hge] at hi; exact .inr ⟨hge, hi⟩
      have hzz : ∀ (i : Nat) (e : List AV), (es ++ new)[i]? = some e → e.length = z := by
        intro i e hi
        rcases hel i e hi with ⟨_, h⟩ | ⟨_, h⟩
        · exact hz1 i e h
        · exact hzn _ e h
      have hlen : (es ++ new).length = es.length + new.length := List.length_append
      have hrel : RelV G' w' (.lst .own z (es ++ new)) (.slice (some ⟨b, o', none⟩) (es ++ new).length cap) := by
        refine .lst .own z (es ++ new) b o' cap (fun i j => if i < es.length then X i j else X2 (i - es.length) j) (by simp) (by rw [hlen]; exact hroom) (by simp) ⟨by rw [hB.size]; exact hbs, .inr ⟨_, hkb', by rw [hlen]; exact Nat.le_refl _⟩⟩ hzz ?_ ?_ ?_
        · intro i e j u hi hj
          rcases hel i e hi with ⟨_, h⟩ | ⟨_, h⟩
          · exact hf1 i e j u h hj
          · exact (hnew _ e j u h hj).1
        · intro i e j u hi hj
          rcases hel i e hi with ⟨hlt, h⟩ | ⟨hge, h⟩
          · simp only [if_pos hlt]
            rw [← hx1 i e j u h hj]
            have hj' := (List.getElem?_eq_some_iff.1 hj).1
            rw [hz1 i e h] at hj'
            have : i * z + z ≤ es.length * z := by
              have := Nat.mul_le_mul_right z (Nat.succ_le_of_lt hlt)
              rw [Nat.succ_mul] at this
              exact this
            have e1 : cs'[o' + i * z + j]? = cs[o' + i * z + j]? := by rw [hcs', if_neg (by omega)]
            simp [World.cell?, hB.new, h0, e1]
          · simp only [if_neg (show ¬ i < es.length by omega)]
            obtain ⟨h8, _⟩ := hX2 _ e j u h hj
            have hlt := (List.getElem?_eq_some_iff.1 h8).1
            obtain ⟨k, rfl⟩ : ∃ k, i = es.length + k := ⟨i - es.length, by omega⟩
            rw [Nat.add_sub_cancel_left] at h8 hlt ⊢
            have e2 : o' + (es.length + k) * z + j = o' + es.length * z + (k * z + j) := by rw [Nat.add_mul]; omega
            have e1 : cs'[o' + es.length * z + (k * z + j)]? = some (X2 k j) := by
              rw [hcs', if_pos (by omega), Nat.add_sub_cancel_left, h8]
            rw [e2]
            simp [World.cell?, hB.new, e1]
        · intro i e j u hi hj
          rcases hel i e hi with ⟨hlt, h⟩ | ⟨hge, h⟩
          · simp only [if_pos hlt]
            exact (hrr1 i e j u h hj).ext hv hE
          · simp only [if_neg (show ¬ i < es.length by omega)]
            exact (hX2 _ e j u h hj).2.ext hv hE
      rw [hlen] at hrel
      refine ⟨hrel, ⟨b, o', cap, by rw [hlen], by rw [hlen]; exact hroom, by simp only [G', f]; rw [if_pos ⟨t, hdt, rfl⟩]; exact hob, ⟨cs', T, fz, hB.new, by omega, fun i h5 h6 => hfz i (by rw [hlen] at h5; omega) h6⟩, fun _ => by rw [hlen]; exact hkb', fun h => by cases h⟩⟩
    · have hts := ((hwr t).1 h).resolve_left hdt
      subst hts
      have e1 : fget (finX x (drop1 fr (.tmp t)) (.lst .own z (es ++ new))) t = .lst .none z es := by
        have e0 : fget (drop1 fr (.tmp t)) t = .lst .none z es := by simp [drop1, hes, fget_fput]
        simp only [finX]
        split
        · rename_i d hd'; rw [fget_fput, if_neg (fun e => hdt (by rw [hd', e])), e0]
        · exact e0
      rw [e1, put_ne _ _ _ _ hdt, hy]
      refine ⟨RelV.ext hv hE (.lst .none z es b o' cap X (by simp) hcap1 (by simp) hc1 hz1 hf1 hx1 hrr1), .of_noFlag trivial⟩
  · intro l h
    show f l = _
    simp only [f]
    rw [if_neg (fun ⟨t, h1, h2⟩ => h ((htouch l).2 ⟨t, .inl h1, h2⟩)), if_neg (fun h1 => h ((htouch l).2 ⟨s, .inr rfl, h1⟩))]
  · intro l c h h1
    obtain ⟨l1, h4, h5⟩ := hf l c h1
    refine .inl ⟨l1, ?_, h4⟩
    rcases h5 with ⟨rfl, h8, h9⟩ | ⟨rfl, t, h8, rfl⟩
    · exact h
    · exact (htouch _).2 ⟨s, .inr rfl, rfl⟩
theorem step_strb {a : XArg} (hx : x.op = .strb a) (hchk : chkOp P prims (.strb a) o = true) (hxd : x.dst = o.dst) (hd : ∀ d, x.dst = some d → d < act.tmps.size)
    (he : evOp C gl d (.strb a) fr hp = some (v, fr1, hp1)) (hv : Valid G w N) (hs : ∀ t ∈ rds (.strb a), RelS G w fr act t)
    (hK : ∀ G' act' w', Next x fr hp G act w N (finX x fr1 v) hp1 G' act' w' → K act' w') : o.wp P act w K Q := by
  cases ho : o.op <;> simp only [chkOp, ho] at hchk <;> (try (cases hchk; done))
  rename_i S D b
  simp only [Bool.and_eq_true] at hchk
  obtain ⟨⟨h1, h2⟩, h3⟩ := hchk
  split at h2
  · rename_i hS
    split at h3
    · rename_i e hD
      have hu8 : P.underlying e = some (.int .u8) := by
        unfold isU8 at h3
        split at h3
        · assumption
        · cases h3
      simp only [evOp] at he
      split at he
      · rename_i s ha
        split at he
        · rename_i hroom
          simp only [Option.some.injEq, Prod.mk.injEq] at he
          obtain ⟨rfl, rfl, rfl⟩ := he
          have hr := arg_rel (w := w) (G := G) h1 (ats1 hs)
          rw [ha] at hr
          cases h5 : act.eval b <;> rw [h5] at hr <;> cases hr
          rename_i y
          have hrun := run_bytes_of_string (P := P) w S D e y hS hD hu8
          have hlen : (listOfBytes y.data.toList).length = y.size := by
            rw [listOfBytes, List.length_map]
            exact Array.length_toList
          have hge := grownCap_ge w y.size 0 e
          have hsize : (bytesRow y (grownCap w y.size 0 e)).size = grownCap w y.size 0 e := by
            simp only [bytesRow, Array.size_append, Array.size_map, Array.size_replicate]
            show y.size + _ = _
            omega
          obtain ⟨G', hn⟩ := next_row (x := x) (hp := hp) (fr := fr) (fr1 := fr) (act := act) (z := 1) (cap := grownCap w y.size 0 e) (es := listOfBytes y.data.toList) (C := bytesRow y (grownCap w y.size 0 e)) (T := e)
            (fz := ((bytesRow y (grownCap w y.size 0 e)).size, (bytesRow y (grownCap w y.size 0 e)).size + 1)) (w' := w.drew.alloc (.cells (bytesRow y (grownCap w y.size 0 e)) e ((bytesRow y (grownCap w y.size 0 e)).size, (bytesRow y (grownCap w y.size 0 e)).size + 1))) hv
            (by rw [hx]; simp [cls]) (by rw [hx]; simp [cls]) rfl rfl rfl (by simp) (fun b hb => heap_alloc_lt w.drew _ b hb) (heap_alloc_eq w.drew _)
            (fun i el h => by simp [listOfBytes] at h; obtain ⟨_, _, rfl⟩ := h; rfl) (by rw [hlen]; exact hge) (by rw [hsize]; omega) (fun i hi => by rw [hsize]; omega)
            (fun i el j u hi hj => by
              simp only [listOfBytes, List.getElem?_map, Option.map_eq_some_iff] at hi
              obtain ⟨c, hc, rfl⟩ := hi
              have hj0 : j = 0 := by
                cases j with
                | zero => rfl
                | succ j => simp at hj
              subst hj0
              simp at hj
              subst hj
              have hlt : i < y.data.size := by
                have := (List.getElem?_eq_some_iff.1 hc).1
                simpa using this
              refine ⟨rfl, _, by rw [Nat.mul_one, Nat.add_zero]; exact bytesRow_at y _ i hlt, ?_⟩
              have : y.data[i] = c := by
                have h9 := (List.getElem?_eq_some_iff.1 hc).2
                simpa using h9
              rw [this]
              exact .int _ _) hd (fun t ht => by rw [hx] at ht; simp [mvs] at ht)
          rw [hlen] at hn
          refine wp_of_run (y := .slice (some ⟨w.heap.size, 0, none⟩) y.size (grownCap w y.size 0 e)) ?_ (hxd ▸ hK _ _ _ hn)
          simp only [execOp, ho, h5, Sem.run_bind, hrun, Result.andThen_ok]
          rfl
        · cases he
      · cases he
    · cases h3
  · cases h2
theorem raw_mem {z : Nat} {a : XArg} {b : Operand} {new : List (List AV)} (hz1000 : z < 1000) (h1 : argOk a b = true) (hs : ∀ t ∈ argTmp a, RelS G w fr act t) (hl : listOf hp z (rawArg fr a) = some new)
    (hh : ∀ r b base blk, G.m r = some (b, base) → hget hp r = some blk → RelBlk G w r b base blk) :
    (∃ a0, act.eval b = .slice a0 0 0 ∧ new = []) ∨ ∃ q k cap, act.eval b = .slice (some ⟨q, k, none⟩) new.length cap ∧ MemAt G w new.flatten q k ∧ (∀ (i : Nat) (e : List AV), new[i]? = some e → e.length = z) := by
  have plain : listOf hp z (earg fr a) = some new → (∃ a0, act.eval b = .slice a0 0 0 ∧ new = []) ∨ ∃ q k cap, act.eval b = .slice (some ⟨q, k, none⟩) new.length cap ∧ MemAt G w new.flatten q k ∧ (∀ (i : Nat) (e : List AV), new[i]? = some e → e.length = z) := by
    intro h
    rcases listOf_mem h (arg_rel (w := w) (G := G) h1 hs) (earg_noFlag h1) (fun r _ => hh r) with ⟨a0, h5, h6⟩ | ⟨q, k, cap, h5, _, h6, h7⟩
    · exact .inl ⟨a0, h5, h6⟩
    · exact .inr ⟨q, k, cap, h5, h6, h7⟩
  cases a with
  | cst u => exact plain hl
  | glob g => exact plain hl
  | tmp t =>
    cases b <;> simp only [argOk] at h1 <;> (try (cases h1; done))
    simp only [beq_iff_eq] at h1
    subst h1
    have ht := hs t (by simp [argTmp])
    have hq : rawArg fr (.tmp t) = fget fr t := rfl
    rw [hq] at hl
    cases hf : fget fr t with
    | lst ow z' es =>
      rw [hf] at hl
      simp only [listOf] at hl
      split at hl
      · rename_i hz
        subst hz
        injection hl with hl
        subst hl
        by_cases hu : ow = .uniq
        · subst hu
          obtain ⟨hr1, ho1⟩ := ht
          rw [hf] at ho1
          obtain ⟨q, k, cap, hy, hcap, _, _, _, hun⟩ := ho1.small hz1000
          obtain ⟨_, _, X, hzz, hX⟩ := hun rfl
          refine .inr ⟨q, k, cap, hy, ?_, hzz⟩
          obtain ⟨h8, h9⟩ := flatten_get hzz
          intro j v hj
          have hlt := (List.getElem?_eq_some_iff.1 hj).1
          rw [h8] at hlt
          have hz0 : 0 < z' := by
            apply Nat.pos_of_ne_zero
            intro h0
            subst h0
            simp at hlt
          have e := Nat.div_add_mod j z'
          have hm := Nat.mod_lt j hz0
          rw [← e, Nat.mul_comm z', h9 _ _ hm] at hj
          cases he : es[j / z']? with
          | none => rw [he] at hj; cases hj
          | some el =>
            rw [he] at hj
            have hj' : el[j % z']? = some v := hj
            obtain ⟨_, h11, h12⟩ := hX (j / z') el (j % z') v he hj'
            refine ⟨_, ?_, h12⟩
            rw [← h11]
            congr 2
            rw [Nat.add_assoc, Nat.mul_comm, e]
        · refine plain ?_
          simp only [earg, hf]
          cases ow <;> first | exact absurd rfl hu | simp [uf, listOf]
      · cases hl
    | nilsl => exact plain (by simp only [earg, hf]; rw [hf] at hl; exact hl)
    | sl r z' off len => exact plain (by simp only [earg, hf]; rw [hf] at hl; exact hl)
    | _ => rw [hf] at hl; simp only [listOf] at hl; cases hl
theorem news_list {cs : List AV} {q k : Nat} (h : MemAt G w cs q k) : ∃ news : List Value, news.length = cs.length ∧ (∀ (j : Nat) (v : Value), news[j]? = some v → w.cell? ((⟨q, k, none⟩ : Addr).add j) = some v) ∧
    ∀ (j : Nat) (u : AV), cs[j]? = some u → ∃ y, news[j]? = some y ∧ RelV G w u y := by
  obtain ⟨X, hX⟩ := h.choose
  refine ⟨(List.range cs.length).map X, by simp, fun j v hj => ?_, fun j u hj => ?_⟩
  · have hlt := (List.getElem?_eq_some_iff.1 hj).1
    simp at hlt
    simp [hlt] at hj
    subst hj
    rw [add_eq]
    exact (hX j cs[j] (by simp [hlt])).1
  · have hlt := (List.getElem?_eq_some_iff.1 hj).1
    exact ⟨X j, by simp [hlt], (hX j u hj).2⟩
theorem run_append_empty {T E ty : TypeId} {i : TypeInfo} {base : Option Addr} {n cap c : Nat} {a : Option Addr} (hT : P.underlying T = some (.slice E)) (hi : P.info? E = some i) (hn : n ≤ cap) :
    (Builtin.append_ #[T, T] ty #[.slice base n cap, .slice a 0 c]).run P w = .ok (.slice base n cap) w := by
  cases base <;> cases a <;> simp [Builtin.append_, run_underlying' hT, sizeOf, typeInfo, hi, Builtin.lenOf, hn, Builtin.firstCells, storeCells, loadCells, loadCellsFrom]
theorem refFreeL_of : ∀ {l : List AV}, (∀ u ∈ l, refFree u = true) → refFreeL l = true
  | [], _ => by simp [refFreeL]
  | u :: l, h => by
    rw [refFreeL, h u (by simp), refFreeL_of (fun v hv => h v (by simp [hv]))]
    rfl
theorem flat_rel {z : Nat} {es : List (List AV)} {l : List Value} (hz : ∀ (i : Nat) (e : List AV), es[i]? = some e → e.length = z) (hf : refFreeL es.flatten = true)
    (h : ∀ (j : Nat) (u : AV), es.flatten[j]? = some u → ∃ y, l[j]? = some y ∧ RelV G w u y) (i : Nat) (e : List AV) (j : Nat) (u : AV) (hi : es[i]? = some e) (hj : e[j]? = some u) :
    refFree u = true ∧ ∃ y, l[i * z + j]? = some y ∧ RelV G w u y := by
  have hjz := (List.getElem?_eq_some_iff.1 hj).1
  rw [hz i e hi] at hjz
  have e1 : es.flatten[i * z + j]? = some u := by
    rw [(flatten_get hz).2 i j hjz, hi]
    exact hj
  exact ⟨refFreeL_mem hf u (List.mem_of_getElem? e1), h _ u e1⟩
theorem rows_rel {z : Nat} {es new : List (List AV)} {olds news rest : List Value} (hlo : olds.length = es.length * z) (hz : ∀ (i : Nat) (e : List AV), es[i]? = some e → e.length = z)
    (h1 : ∀ (i : Nat) (e : List AV) (j : Nat) (u : AV), es[i]? = some e → e[j]? = some u → refFree u = true ∧ ∃ y, olds[i * z + j]? = some y ∧ RelV G w u y)
    (h2 : ∀ (i : Nat) (e : List AV) (j : Nat) (u : AV), new[i]? = some e → e[j]? = some u → refFree u = true ∧ ∃ y, news[i * z + j]? = some y ∧ RelV G w u y)
    (i : Nat) (e : List AV) (j : Nat) (u : AV) (hi : (es ++ new)[i]? = some e) (hj : e[j]? = some u) : refFree u = true ∧ ∃ y, ((olds ++ news) ++ rest)[i * z + j]? = some y ∧ RelV G w u y := by
  rcases Nat.lt_or_ge i es.length with hlt | hge
  · rw [List.getElem?_append_left hlt] at hi
    obtain ⟨h3, y, h4, h5⟩ := h1 i e j u hi hj
    have hl := (List.getElem?_eq_some_iff.1 h4).1
    exact ⟨h3, y, by rw [List.append_assoc, List.getElem?_append_left hl]; exact h4, h5⟩
  · rw [List.getElem?_append_right hge] at hi
    obtain ⟨h3, y, h4, h5⟩ := h2 _ e j u hi hj
    have hl := (List.getElem?_eq_some_iff.1 h4).1
    obtain ⟨k, rfl⟩ : ∃ k, i = es.length + k := ⟨i - es.length, by omega⟩
    rw [Nat.add_sub_cancel_left] at h4 hl
    have e2 : (es.length + k) * z + j = olds.length + (k * z + j) := by rw [Nat.add_mul, hlo]; omega
    exact ⟨h3, y, by rw [e2, List.append_assoc, List.getElem?_append_right (by omega), Nat.add_sub_cancel_left, List.getElem?_append_left hl]; exact h4, h5⟩
theorem step_app {z bytes s : Nat} {a : XArg} (hx : x.op = .app false z bytes s a) (hchk : chkOp P prims (.app false z bytes s a) o = true) (hxd : x.dst = o.dst) (hd : ∀ d, x.dst = some d → d < act.tmps.size)
    (he : evOp C gl d (.app false z bytes s a) fr hp = some (v, fr1, hp1)) (hv : Valid G w N) (hs : ∀ t ∈ rds (.app false z bytes s a), RelS G w fr act t)
    (hh : ∀ r, footR fr x.op r → ∀ b base blk, G.m r = some (b, base) → hget hp r = some blk → RelBlk G w r b base blk)
    (hK : ∀ G' act' w', Next x fr hp G act w N (finX x fr1 v) hp1 G' act' w' → K act' w') : o.wp P act w K Q := by
  have hm : mvs x.op = [s] := by rw [hx]; rfl
  have c2 : cls x.op ≠ 2 := by rw [hx]; simp [cls]
  have c3 : cls x.op ≠ 3 := by rw [hx]; simp [cls]
  simp only [chkOp] at hchk
  split at hchk
  · rename_i t b T T2 hcb
    simp only [Bool.and_eq_true, beq_iff_eq] at hchk
    obtain ⟨⟨⟨⟨hz1000', hst⟩, h1⟩, hTT⟩, h2⟩ := hchk
    have hz1000 : z < 1000 := of_decide_eq_true hz1000'
    subst hst hTT
    split at h2
    · rename_i E hT
      split at h2
      · rename_i i hi
        simp only [Bool.and_eq_true, beq_iff_eq, decide_eq_true_eq] at h2
        obtain ⟨⟨⟨⟨hz, hby⟩, hz0⟩, hb0⟩, hzv0⟩ := h2
        split at hzv0
        · rename_i zv hzv
          have hzs : zv.cells.size = z := by simpa using hzv0
          have ho := callB_spec' hcb
          obtain ⟨c, hbi⟩ := call_builtin (act := act) (o := o) _ _ _ ho
          have hss : RelS G w fr act s := hs s (by simp [rds])
          have hraw := fun new (h : listOf hp z (rawArg fr a) = some new) => raw_mem (act := act) (G := G) (w := w) hz1000 h1 (fun t ht => hs t (by simp only [rds]; exact List.mem_cons_of_mem _ (mem_ats (a := a) (by simp) ht))) h (fun r => hh r (by rw [hx]; simp [footR, cls]))
          have go : ∀ (y : Value) (w' : World), (Builtin.append_ #[T, T] o.type #[act.tmps.getD s undef, act.eval b]).run P w = .ok y w' → (execOp act.eval o).run P w = .ok (.value y) w' := by
            intro y w' h
            have e0 : act.eval (.tmp s) = act.tmps.getD s undef := rfl
            rw [hbi]
            simp at h
            simp [builtin, e0, h]
          simp only [evOp] at he
          split at he
          · rename_i new hnew
            split at he
            · rename_i hn0
              subst hn0
              have hemp : ∃ a' c', act.eval b = .slice a' 0 c' := by
                rcases hraw _ hnew with ⟨a0, h5, _⟩ | ⟨q, k, cap, h5, _, _⟩
                · exact ⟨_, _, h5⟩
                · exact ⟨_, _, h5⟩
              obtain ⟨a', c', hb⟩ := hemp
              have fin : ∀ base n cap, act.tmps.getD s undef = .slice base n cap → n ≤ cap → v = fget fr s → fr1 = drop1 fr (.tmp s) → hp1 = hp → o.wp P act w K Q := by
                rintro base n cap hy hle rfl rfl rfl
                obtain ⟨G', hn⟩ := next_own (hp := hp1) hm c2 c3 hv hss hd
                refine wp_of_run (y := act.tmps.getD s undef) (go _ _ ?_) (hxd ▸ hK _ _ _ hn)
                rw [hy, hb]
                exact run_append_empty hT hi hle
              split at he
              · rename_i hf
                simp only [Option.some.injEq, Prod.mk.injEq] at he
                obtain ⟨r1, r2⟩ := hss
                rw [hf] at r1
                generalize hyy : act.tmps.getD s undef = yy at r1
                cases r1
                exact fin _ _ _ hyy (Nat.le_refl _) (by rw [hf]; exact he.1.symm) he.2.1.symm he.2.2.symm
              · rename_i ow z' es hf
                split at he <;> (try (cases he; done))
                rename_i hlB
                simp only [Option.some.injEq, Prod.mk.injEq] at he
                have hys : ∃ base n cap, act.tmps.getD s undef = .slice base n cap ∧ n ≤ cap := by
                  obtain ⟨r1, r2⟩ := hss
                  rw [hf] at r1 r2
                  by_cases hu : ow = .uniq
                  · subst hu
                    obtain ⟨q, k, cap, hy, hcap, _⟩ := r2.small (of_decide_eq_true hlB)
                    exact ⟨_, _, _, hy, hcap⟩
                  · generalize hyy : act.tmps.getD s undef = yy at r1
                    cases r1 with
                    | uniq _ _ _ => exact absurd rfl hu
                    | emp _ _ => exact ⟨_, _, _, rfl, Nat.le_refl _⟩
                    | lst _ _ _ q k cap X _ hcap => exact ⟨_, _, _, rfl, hcap⟩
                obtain ⟨base, n, cap, hy, hle⟩ := hys
                exact fin _ _ _ hy hle (by rw [hf]; exact he.1.symm) he.2.1.symm he.2.2.symm
              · cases he
            · rename_i hn0
              split at he
              · rename_i hcond
                obtain ⟨hfree, hplain⟩ := hcond
                rcases hraw _ hnew with ⟨_, _, h6⟩ | ⟨q, k, ncap, hb, hM, hzn⟩
                · exact absurd h6 hn0
                · obtain ⟨news, hnl, hnc, hnr⟩ := news_list hM
                  have hnl' : news.length = new.length * z := by rw [hnl, (flatten_get hzn).1]
                  have hnew2 := flat_rel (l := news) hzn hfree hnr
                  have hpos : 0 < new.length := List.length_pos_iff.2 hn0
                  split at he
                  · rename_i hf
                    split at he
                    · rename_i hroom
                      simp only [Option.some.injEq, Prod.mk.injEq] at he
                      obtain ⟨rfl, rfl, rfl⟩ := he
                      have hy : act.tmps.getD s undef = .slice none 0 0 := by
                        have r1 := hss.1
                        rw [hf] at r1
                        generalize act.tmps.getD s undef = yy at r1
                        cases r1
                        rfl
                      have hle1 : new.length ≤ room := Nat.le_trans (Nat.le_mul_of_pos_right _ hb0) hroom
                      have hrun := run_append_nil (P := P) w T o.type E i zv hT hi hzv ⟨q, k, none⟩ new.length ncap news (by rw [hz]; exact hnl') hnc hpos (by unfold room at hle1; omega) (by rw [hby]; unfold room at hroom; omega)
                      have hge := grownCap_ge w new.length 0 E
                      have hbs := size_zeroCells zv.cells (grownCap w new.length 0 E - new.length)
                      obtain ⟨G', hn⟩ := next_row (x := x) (hp := hp) (fr := fr) (fr1 := fr) (act := act) (z := z) (cap := grownCap w new.length 0 E) (es := new) (C := news.toArray ++ Builtin.zeroCells zv.cells (grownCap w new.length 0 E - new.length)) (T := E) (fz := (0, 0))
                        (w' := w.drew.alloc (.cells (news.toArray ++ Builtin.zeroCells zv.cells (grownCap w new.length 0 E - new.length)) E)) hv c2 c3 rfl rfl rfl (by simp) (fun b hb => heap_alloc_lt w.drew _ b hb) (heap_alloc_eq w.drew _) hzn hge
                        (by rw [Array.size_append, List.size_toArray, hbs, hzs, hnl', ← Nat.add_mul]; exact Nat.mul_le_mul_right z (by omega)) (fun i _ => by simp)
                        (fun i e j u hi' hj => by
                          obtain ⟨h8, y, h9, h10⟩ := hnew2 i e j u hi' hj
                          have hl := (List.getElem?_eq_some_iff.1 h9).1
                          exact ⟨h8, y, by rw [Array.getElem?_append_left (by simpa using hl)]; simpa using h9, h10⟩) hd
                        (fun t ht => by rw [hm] at ht; simp at ht; subst ht; rw [hf]; exact ⟨by rw [hy]; exact .nilsl, trivial⟩)
                      refine wp_of_run (go _ _ ?_) (hxd ▸ hK _ _ _ hn)
                      rw [hy, hb]
                      exact hrun
                    · cases he
                  · rename_i ow z' es hf
                    split at he
                    · rename_i hcond2
                      obtain ⟨rfl, hmay, hroom⟩ := hcond2
                      simp only [Option.some.injEq, Prod.mk.injEq] at he
                      obtain ⟨rfl, rfl, rfl⟩ := he
                      have hlR : (es.length + new.length) ≤ room := Nat.le_trans (Nat.le_mul_of_pos_right _ hb0) hroom
                      have hnu : ow = .own ∨ ow = .tight := by cases ow <;> simp [appMay] at hmay <;> simp
                      have hrel1 : ∃ A cap, act.tmps.getD s undef = .slice (some A) es.length cap ∧ (ow = .tight → cap = es.length) ∧ RelV G w (fget (drop1 fr (.tmp s)) s) (act.tmps.getD s undef) ∧ noFlag (fget (drop1 fr (.tmp s)) s) := by
                        have r1 := hss.1
                        rw [hf] at r1
                        generalize act.tmps.getD s undef = yy at r1
                        cases r1 with
                        | uniq _ _ _ => rcases hnu with h | h <;> cases h
                        | emp _ _ => rcases hnu with h | h <;> cases h
                        | lst _ _ _ q2 k2 cap2 X hu2 hc2 ht2 hcov hz2 hf2 hx2 hr2 =>
                          refine ⟨_, cap2, rfl, ht2, ?_, ?_⟩
                          · rcases hnu with rfl | rfl
                            · rw [show fget (drop1 fr (.tmp s)) s = .lst .none z' es by simp [drop1, hf, fget_fput]]
                              exact .lst .none z' es q2 k2 cap2 X (by simp) hc2 (by simp) hcov hz2 hf2 hx2 hr2
                            · rw [show fget (drop1 fr (.tmp s)) s = .lst .tight z' es by simp [drop1, hf]]
                              exact .lst .tight z' es q2 k2 cap2 X (by simp) hc2 ht2 hcov hz2 hf2 hx2 hr2
                          · rcases hnu with rfl | rfl
                            · rw [show fget (drop1 fr (.tmp s)) s = .lst .none z' es by simp [drop1, hf, fget_fput]]; trivial
                            · rw [show fget (drop1 fr (.tmp s)) s = .lst .tight z' es by simp [drop1, hf]]; trivial
                      obtain ⟨A, cap, hy, htight, hrs, hns⟩ := hrel1
                      have grow : cap < es.length + new.length → o.wp P act w K Q := by
                        intro hg
                        have hraw2 : ∃ q2 k2 cap2, act.eval (.tmp s) = .slice (some ⟨q2, k2, none⟩) es.length cap2 ∧ MemAt G w es.flatten q2 k2 ∧ (∀ (i : Nat) (e : List AV), es[i]? = some e → e.length = z') := by
                          rcases raw_mem (a := .tmp s) (b := .tmp s) (z := z') (new := es) (hp := hp) hz1000 (by simp [argOk]) (fun t ht => by simp [argTmp] at ht; subst ht; exact hss) (by simp [rawArg, hf, listOf]) (fun r => hh r (by rw [hx]; simp [footR, cls])) with ⟨a0, h5, h6⟩ | h
                          · obtain ⟨q2, k2, cap2, X, h7, _⟩ := lst_form (by have r1 := hss.1; rw [hf] at r1; exact r1) (by rcases hnu with rfl | rfl <;> simp) (.inr (by rcases hnu with rfl | rfl <;> simp))
                            exact ⟨q2, k2, cap2, h7, by rw [h6]; intro j v hj; simp at hj, by rw [h6]; intro j v hj; simp at hj⟩
                          · exact h
                        rcases (Or.inr hraw2 : False ∨ _) with hF | ⟨q2, k2, cap2, h5, hMo, hzo⟩
                        · exact hF.elim
                        · have e0 : act.eval (.tmp s) = act.tmps.getD s undef := rfl
                          rw [e0, hy] at h5
                          injection h5 with h6 h7 h8
                          injection h6 with h6
                          subst h6 h8
                          obtain ⟨olds, hol, hoc, hor⟩ := news_list hMo
                          have hol' : olds.length = es.length * z' := by rw [hol, (flatten_get hzo).1]
                          have hfo : refFreeL es.flatten = true := by
                            have r1 := hss.1
                            rw [hf, hy] at r1
                            cases r1 with
                            | uniq _ _ _ => rcases hnu with h | h <;> cases h
                            | emp _ _ => rcases hnu with h | h <;> cases h
                            | lst _ _ _ _ _ _ X hu2 hc2 ht2 hcov hz2 hf2 hx2 hr2 =>
                              exact refFreeL_of (fun u hu => by
                                obtain ⟨e, he1, he2⟩ := List.mem_flatten.1 hu
                                obtain ⟨i', hi'⟩ := List.getElem?_of_mem he1
                                obtain ⟨j', hj'⟩ := List.getElem?_of_mem he2
                                exact hf2 i' e j' u hi' hj')
                          have hrun := run_append_grow (P := P) w T o.type E i zv hT hi hzv ⟨q2, k2, none⟩ es.length cap olds (by rw [hz]; exact hol') hoc ⟨q, k, none⟩ new.length ncap news (by rw [hz]; exact hnl') hnc hg (by unfold room at hlR; omega)
                            (growslice_fits hg (by rw [hby]; exact hroom))
                          have hge := grownCap_ge w (es.length + new.length) cap E
                          have hbs := size_zeroCells zv.cells (grownCap w (es.length + new.length) cap E - (es.length + new.length))
                          obtain ⟨G', hn⟩ := next_row (x := x) (hp := hp) (fr := fr) (fr1 := drop1 fr (.tmp s)) (act := act) (z := z') (cap := grownCap w (es.length + new.length) cap E) (es := es ++ new)
                            (C := olds.toArray ++ news.toArray ++ Builtin.zeroCells zv.cells (grownCap w (es.length + new.length) cap E - (es.length + new.length))) (T := E) (fz := (0, 0))
                            (w' := w.drew.alloc (.cells (olds.toArray ++ news.toArray ++ Builtin.zeroCells zv.cells (grownCap w (es.length + new.length) cap E - (es.length + new.length))) E)) hv c2 c3 rfl rfl rfl (by simp)
                            (fun b hb => heap_alloc_lt w.drew _ b hb) (heap_alloc_eq w.drew _) (fun i' e' h => by
                              rcases List.mem_append.1 (List.mem_of_getElem? h) with h | h
                              · obtain ⟨j', hj'⟩ := List.getElem?_of_mem h
                                exact hzo _ _ hj'
                              · obtain ⟨j', hj'⟩ := List.getElem?_of_mem h
                                exact hzn _ _ hj') (by rw [List.length_append]; exact hge)
                            (by rw [Array.size_append, Array.size_append, List.size_toArray, List.size_toArray, hbs, hzs, hnl', hol', ← Nat.add_mul, ← Nat.add_mul]; exact Nat.mul_le_mul_right z' (by omega)) (fun i _ => by simp)
                            (fun i' e' j' u' hi' hj' => by
                              have := rows_rel (rest := (Builtin.zeroCells zv.cells (grownCap w (es.length + new.length) cap E - (es.length + new.length))).toList) hol' hzo (flat_rel (l := olds) hzo hfo hor) hnew2 i' e' j' u' hi' hj'
                              rw [← Array.getElem?_toList]
                              simpa using this) hd (fun t ht => by rw [hm] at ht; simp at ht; subst ht; exact ⟨hrs, hns⟩)
                          rw [List.length_append] at hn
                          refine wp_of_run (go _ _ ?_) (hxd ▸ hK _ _ _ hn)
                          rw [hy, hb]
                          exact hrun
                      rcases hnu with rfl | rfl
                      · obtain ⟨b1, o1, cap1, hy1, hcap1, hob1, ⟨cs, T', fz, h0, hC, hfz1⟩, hk1, _⟩ : OwnOk G w (.slot s) (.lst .own z' es) (act.tmps.getD s undef) := by have := hss.2; rw [hf] at this; exact this
                        rw [hy] at hy1
                        injection hy1 with h6 h7 h8
                        injection h6 with h6
                        subst h6 h8
                        by_cases hg : cap < es.length + new.length
                        · exact grow hg
                        · have hroom2 : es.length + new.length ≤ cap := by omega
                          have hone : ∀ v ∈ news, v.oneCell' = true := by
                            intro y hy'
                            obtain ⟨j, hj⟩ := List.getElem?_of_mem hy'
                            have hjl := (List.getElem?_eq_some_iff.1 hj).1
                            rw [hnl] at hjl
                            obtain ⟨y', h9, h10⟩ := hnr j new.flatten[j] (by simp [hjl])
                            rw [hj] at h9
                            injection h9 with h9
                            subst h9
                            exact (plain1_one (List.all_eq_true.1 hplain _ (List.getElem_mem hjl)) h10).1
                          have hsum : es.length * z' + new.length * z' = (es.length + new.length) * z' := by rw [Nat.add_mul]
                          have hcapz : (es.length + new.length) * z' ≤ cap * z' := Nat.mul_le_mul_right z' hroom2
                          obtain ⟨w', cs', hst, hB, hsz', hcs'⟩ := run_storeCells (P := P) (b := b1) (q := o1 + es.length * z') news 0 w cs h0 (by omega) hone (fun j h5 h6 => hfz1 j (by omega) (by omega))
                          have hrun : (Builtin.append_ #[T, T] o.type #[.slice (some ⟨b1, o1, none⟩) es.length cap, .slice (some ⟨q, k, none⟩) new.length ncap]).run P w = .ok (.slice (some ⟨b1, o1, none⟩) (es.length + new.length) cap) w' := by
                            have hfc := run_firstCells_some (P := P) w i.size new.length ⟨q, k, none⟩ new.length ncap news (by rw [hz]; exact hnl') hnc
                            rw [hz] at hfc
                            simp [Builtin.append_, run_underlying' hT, sizeOf, typeInfo, hi, Builtin.lenOf, hroom2, hfc, Addr.add_lit, hz, hst]
                          obtain ⟨G', hn⟩ := next_room (hp := hp) hm c2 c3 hv hss hf hy hob1 (hk1 rfl) h0 hB hsz' (by simpa using hcs') hroom2 hC hfz1 hzn hnl' hnew2 hd
                          refine wp_of_run (go _ _ ?_) (hxd ▸ hK _ _ _ hn)
                          rw [hy, hb]
                          exact hrun
                      · exact grow (by have := htight rfl; omega)
                    · cases he
                  · cases he
              · cases he
          · cases he
        · cases hzv0
      · cases h2
    · cases h2
  · cases hchk
theorem str_cells (s : ByteArray) : (s.extract 0 s.size).data.map (fun b : UInt8 => Value.int .u8 (b.toNat : Int)) = s.data.map (fun b : UInt8 => Value.int .u8 (b.toNat : Int)) := by
  simp
theorem firstCells_str (size : Nat) (s : ByteArray) : (Builtin.firstCells size s.size (.string s)).run P w = .ok (s.data.map (fun b : UInt8 => Value.int .u8 (b.toNat : Int))) w := by
  simp only [Builtin.firstCells, str_cells]
  rfl
theorem run_append_empty_str {T U E ty : TypeId} {i : TypeInfo} {base : Option Addr} {n cap : Nat} {q : ByteArray} (hT : P.underlying T = some (.slice E)) (hU : P.underlying U = some .string) (hi : P.info? E = some i) (hn : n ≤ cap) (hq : q.size = 0) :
    (Builtin.append_ #[T, U] ty #[.slice base n cap, .string q]).run P w = .ok (.slice base n cap) w := by
  have hf := firstCells_str (P := P) (w := w) i.size q
  have he : q.data.map (fun b : UInt8 => Value.int .u8 (b.toNat : Int)) = #[] := by
    have : q.data.size = 0 := hq
    have h2 : q.data = #[] := Array.size_eq_zero_iff.1 this
    rw [h2]; simp
  rw [he, hq] at hf
  cases base <;> simp [Builtin.append_, run_underlying' hT, run_underlying' hU, sizeOf, typeInfo, hi, Builtin.lenOf, hn, hq, hf, storeCells]
theorem run_append_grow_str {T U E ty : TypeId} {i : TypeInfo} {z : Value} (ht : P.underlying T = some (.slice E)) (hu : P.underlying U = some .string) (hi : P.info? E = some i) (hz : i.zero = some z)
    (b : Addr) (sLen sCap : Nat) (olds : List Value) (hlo : olds.length = sLen * i.size) (holds : ∀ j v, olds[j]? = some v → w.cell? (b.add j) = some v)
    (s : ByteArray) (hg : sCap < sLen + s.size) (h63 : ((sLen + s.size : Nat) : Int) ≤ 9223372036854775807) (hfit : Builtin.nextslicecap (sLen + s.size) sCap * i.bytes ≤ 281474976710656) :
    (Builtin.append_ #[T, U] ty #[.slice (some b) sLen sCap, .string s]).run P w =
      .ok (.slice (some ⟨w.heap.size, 0, none⟩) (sLen + s.size) (grownCap w (sLen + s.size) sCap E))
        (w.drew.alloc (.cells (olds.toArray ++ s.data.map (fun b : UInt8 => Value.int .u8 (b.toNat : Int)) ++ Builtin.zeroCells z.cells (grownCap w (sLen + s.size) sCap E - (sLen + s.size))) E)) := by
  have hn : ¬ (sLen + s.size ≤ sCap) := by omega
  have h63' : ¬ (9223372036854775807 < ((sLen : Int) + (s.size : Int))) := by omega
  have h48' : ¬ (281474976710656 < Builtin.nextslicecap (sLen + s.size) sCap * i.bytes) := by omega
  have hf := firstCells_str (P := P) (w := w.drew) i.size s
  have hfo := run_firstCells_some (P := P) w.drew i.size sLen b sLen sCap olds hlo (by simpa using holds)
  simp [Builtin.append_, run_underlying ht, run_underlying hu, sizeOf, typeInfo, zeroValue, hi, hz, Builtin.lenOf, hn, h63', h48', Question.forced, hf, hfo, newRow, grownCap]
theorem step_appstr {s : Nat} {a : XArg} (hx : x.op = .appstr false s a) (hchk : chkOp P prims (.appstr false s a) o = true) (hxd : x.dst = o.dst) (hd : ∀ d, x.dst = some d → d < act.tmps.size)
    (he : evOp C gl d (.appstr false s a) fr hp = some (v, fr1, hp1)) (hv : Valid G w N) (hs : ∀ t ∈ rds (.appstr false s a), RelS G w fr act t)
    (hh : ∀ r, footR fr x.op r → ∀ b base blk, G.m r = some (b, base) → hget hp r = some blk → RelBlk G w r b base blk)
    (hK : ∀ G' act' w', Next x fr hp G act w N (finX x fr1 v) hp1 G' act' w' → K act' w') : o.wp P act w K Q := by
  have hm : mvs x.op = [s] := by rw [hx]; rfl
  have c2 : cls x.op ≠ 2 := by rw [hx]; simp [cls]
  have c3 : cls x.op ≠ 3 := by rw [hx]; simp [cls]
  simp only [chkOp] at hchk
  split at hchk
  · rename_i t b T T2 hcb
    simp only [Bool.and_eq_true, beq_iff_eq] at hchk
    obtain ⟨⟨⟨_, hst⟩, h1⟩, h2⟩ := hchk
    have hz1000 : 1 < 1000 := by decide
    subst hst
    split at h2
    · rename_i E hT hT2
      split at h2
      · rename_i i hi
        simp only [Bool.and_eq_true, beq_iff_eq] at h2
        obtain ⟨⟨hz, hby⟩, hzv0⟩ := h2
        split at hzv0
        · rename_i zv hzv
          have hzs : zv.cells.size = 1 := by simpa using hzv0
          have ho := callB_spec' hcb
          obtain ⟨c, hbi⟩ := call_builtin (act := act) (o := o) _ _ _ ho
          have hss : RelS G w fr act s := hs s (by simp [rds])
          have go : ∀ (y : Value) (w' : World), (Builtin.append_ #[T, T2] o.type #[act.tmps.getD s undef, act.eval b]).run P w = .ok y w' → (execOp act.eval o).run P w = .ok (.value y) w' := by
            intro y w' h
            have e0 : act.eval (.tmp s) = act.tmps.getD s undef := rfl
            rw [hbi]
            simp at h
            simp [builtin, e0, h]
          have hbs0 := arg_rel (w := w) (G := G) h1 (fun t ht => hs t (by simp only [rds]; exact List.mem_cons_of_mem _ (mem_ats (a := a) (by simp) ht)))
          simp only [evOp] at he
          split at he
          · rename_i bs ha
            rw [ha] at hbs0
            obtain ⟨q, hb, hq⟩ : ∃ q : ByteArray, act.eval b = .string q ∧ bs = q.data.toList := by
              generalize act.eval b = yy at hbs0
              cases hbs0
              exact ⟨_, rfl, rfl⟩
            subst hq
            split at he
            · rename_i hn0
              have hq0 : q.size = 0 := by
                have h := congrArg List.length hn0
                rw [Array.length_toList] at h
                exact h
              have fin : ∀ base n cap, act.tmps.getD s undef = .slice base n cap → n ≤ cap → v = fget fr s → fr1 = drop1 fr (.tmp s) → hp1 = hp → o.wp P act w K Q := by
                rintro base n cap hy hle rfl rfl rfl
                obtain ⟨G', hn⟩ := next_own (hp := hp1) hm c2 c3 hv hss hd
                refine wp_of_run (y := act.tmps.getD s undef) (go _ _ ?_) (hxd ▸ hK _ _ _ hn)
                rw [hy, hb]
                exact run_append_empty_str hT hT2 hi hle hq0
              split at he
              · rename_i hf
                simp only [Option.some.injEq, Prod.mk.injEq] at he
                obtain ⟨r1, r2⟩ := hss
                rw [hf] at r1
                generalize hyy : act.tmps.getD s undef = yy at r1
                cases r1
                exact fin _ _ _ hyy (Nat.le_refl _) (by rw [hf]; exact he.1.symm) he.2.1.symm he.2.2.symm
              · rename_i ow z' es hf
                split at he <;> (try (cases he; done))
                rename_i hlB
                simp only [Option.some.injEq, Prod.mk.injEq] at he
                have hys : ∃ base n cap, act.tmps.getD s undef = .slice base n cap ∧ n ≤ cap := by
                  obtain ⟨r1, r2⟩ := hss
                  rw [hf] at r1 r2
                  by_cases hu : ow = .uniq
                  · subst hu
                    obtain ⟨q, k, cap, hy, hcap, _⟩ := r2.small (of_decide_eq_true hlB)
                    exact ⟨_, _, _, hy, hcap⟩
                  · generalize hyy : act.tmps.getD s undef = yy at r1
                    cases r1 with
                    | uniq _ _ _ => exact absurd rfl hu
                    | emp _ _ => exact ⟨_, _, _, rfl, Nat.le_refl _⟩
                    | lst _ _ _ q k cap X _ hcap => exact ⟨_, _, _, rfl, hcap⟩
                obtain ⟨base, n, cap, hy, hle⟩ := hys
                exact fin _ _ _ hy hle (by rw [hf]; exact he.1.symm) he.2.1.symm he.2.2.symm
              · cases he
            · rename_i hn0
              have hpos : 0 < q.size := by
                have h := List.length_pos_iff.2 hn0
                rw [Array.length_toList] at h
                exact h
              have hqs : q.data.toList.length = q.size := Array.length_toList
              obtain ⟨new, hnew0⟩ : ∃ new, listOfBytes q.data.toList = new := ⟨_, rfl⟩
              have hnewl : new.length = q.size := by rw [← hnew0, listOfBytes, List.length_map, hqs]
              obtain ⟨news, hnews⟩ : ∃ news : List Value, q.data.toList.map (fun b => Value.int .u8 (b.toNat : Int)) = news := ⟨_, rfl⟩
              have hnewsA : q.data.map (fun b => Value.int .u8 (b.toNat : Int)) = news.toArray := by
                apply Array.ext'
                rw [Array.toList_map, hnews]
              have hnl' : news.length = new.length * 1 := by rw [← hnews, List.length_map, hqs, hnewl, Nat.mul_one]
              have hzn : ∀ (i : Nat) (e : List AV), new[i]? = some e → e.length = 1 := by
                intro i e h
                rw [← hnew0, listOfBytes, List.getElem?_map] at h
                cases h2 : q.data.toList[i]? with
                | none => rw [h2] at h; cases h
                | some y => rw [h2] at h; cases h; rfl
              have hnew2 : ∀ (i : Nat) (e : List AV) (j : Nat) (u : AV), new[i]? = some e → e[j]? = some u → refFree u = true ∧ ∃ y, news[i * 1 + j]? = some y ∧ RelV G w u y := by
                intro i e j u h hj
                rw [← hnew0, listOfBytes, List.getElem?_map] at h
                cases h2 : q.data.toList[i]? with
                | none => rw [h2] at h; cases h
                | some y =>
                  rw [h2] at h
                  cases h
                  match j with
                  | 0 =>
                    simp at hj
                    subst hj
                    refine ⟨rfl, .int .u8 y.toNat, ?_, .int _ _⟩
                    rw [← hnews, List.getElem?_map, Nat.mul_one, Nat.add_zero, h2]
                    rfl
                  | j + 1 => simp at hj
              have hone : ∀ v ∈ news, v.oneCell' = true := by
                intro v hv'
                rw [← hnews] at hv'
                obtain ⟨y, _, rfl⟩ := List.mem_map.1 hv'
                rfl
              rw [hqs, ← hnewl] at he
              simp only [hnew0] at he
              split at he
              · rename_i hf
                split at he
                · rename_i hroom
                  simp only [Option.some.injEq, Prod.mk.injEq] at he
                  obtain ⟨rfl, rfl, rfl⟩ := he
                  have hy : act.tmps.getD s undef = .slice none 0 0 := by
                    have r1 := hss.1
                    rw [hf] at r1
                    generalize act.tmps.getD s undef = yy at r1
                    cases r1
                    rfl
                  have hle1 : new.length ≤ room := hroom
                  have hrun := run_append_nil_string (P := P) w T T2 o.type E i zv hT hT2 hi hzv q hpos (by rw [← hnewl]; unfold room at hle1; omega) (by rw [hby, ← hnewl]; unfold room at hroom; omega)
                  rw [← hnewl, hnewsA] at hrun
                  have hge := grownCap_ge w new.length 0 E
                  have hbs := size_zeroCells zv.cells (grownCap w new.length 0 E - new.length)
                  obtain ⟨G', hn⟩ := next_row (x := x) (hp := hp) (fr := fr) (fr1 := fr) (act := act) (z := 1) (cap := grownCap w new.length 0 E) (es := new) (C := news.toArray ++ Builtin.zeroCells zv.cells (grownCap w new.length 0 E - new.length)) (T := E) (fz := (0, 0))
                    (w' := w.drew.alloc (.cells (news.toArray ++ Builtin.zeroCells zv.cells (grownCap w new.length 0 E - new.length)) E)) hv c2 c3 rfl rfl rfl (by simp) (fun b hb => heap_alloc_lt w.drew _ b hb) (heap_alloc_eq w.drew _) hzn hge
                    (by rw [Array.size_append, List.size_toArray, hbs, hzs, hnl', ← Nat.add_mul]; exact Nat.mul_le_mul_right 1 (by omega)) (fun i _ => by simp)
                    (fun i e j u hi' hj => by
                      obtain ⟨h8, y, h9, h10⟩ := hnew2 i e j u hi' hj
                      have hl := (List.getElem?_eq_some_iff.1 h9).1
                      exact ⟨h8, y, by rw [Array.getElem?_append_left (by simpa using hl)]; simpa using h9, h10⟩) hd
                    (fun t ht => by rw [hm] at ht; simp at ht; subst ht; rw [hf]; exact ⟨by rw [hy]; exact .nilsl, trivial⟩)
                  refine wp_of_run (go _ _ ?_) (hxd ▸ hK _ _ _ hn)
                  rw [hy, hb]
                  exact hrun
                · cases he
              · rename_i ow z' es hf
                split at he
                · rename_i hcond2
                  obtain ⟨rfl, hmay, hroom⟩ := hcond2
                  simp only [Option.some.injEq, Prod.mk.injEq] at he
                  obtain ⟨rfl, rfl, rfl⟩ := he
                  have hlR : (es.length + new.length) ≤ room := hroom
                  have hnu : ow = .own ∨ ow = .tight := by cases ow <;> simp [appMay] at hmay <;> simp
                  have hrel1 : ∃ A cap, act.tmps.getD s undef = .slice (some A) es.length cap ∧ (ow = .tight → cap = es.length) ∧ RelV G w (fget (drop1 fr (.tmp s)) s) (act.tmps.getD s undef) ∧ noFlag (fget (drop1 fr (.tmp s)) s) := by
                    have r1 := hss.1
                    rw [hf] at r1
                    generalize act.tmps.getD s undef = yy at r1
                    cases r1 with
                    | uniq _ _ _ => rcases hnu with h | h <;> cases h
                    | emp _ _ => rcases hnu with h | h <;> cases h
                    | lst _ _ _ q2 k2 cap2 X hu2 hc2 ht2 hcov hz2 hf2 hx2 hr2 =>
                      refine ⟨_, cap2, rfl, ht2, ?_, ?_⟩
                      · rcases hnu with rfl | rfl
                        · rw [show fget (drop1 fr (.tmp s)) s = .lst .none 1 es by simp [drop1, hf, fget_fput]]
                          exact .lst .none 1 es q2 k2 cap2 X (by simp) hc2 (by simp) hcov hz2 hf2 hx2 hr2
                        · rw [show fget (drop1 fr (.tmp s)) s = .lst .tight 1 es by simp [drop1, hf]]
                          exact .lst .tight 1 es q2 k2 cap2 X (by simp) hc2 ht2 hcov hz2 hf2 hx2 hr2
                      · rcases hnu with rfl | rfl
                        · rw [show fget (drop1 fr (.tmp s)) s = .lst .none 1 es by simp [drop1, hf, fget_fput]]; trivial
                        · rw [show fget (drop1 fr (.tmp s)) s = .lst .tight 1 es by simp [drop1, hf]]; trivial
                  obtain ⟨A, cap, hy, htight, hrs, hns⟩ := hrel1
                  have grow : cap < es.length + new.length → o.wp P act w K Q := by
                    intro hg
                    have hraw2 : ∃ q2 k2 cap2, act.eval (.tmp s) = .slice (some ⟨q2, k2, none⟩) es.length cap2 ∧ MemAt G w es.flatten q2 k2 ∧ (∀ (i : Nat) (e : List AV), es[i]? = some e → e.length = 1) := by
                      rcases raw_mem (a := .tmp s) (b := .tmp s) (z := 1) (new := es) (hp := hp) hz1000 (by simp [argOk]) (fun t ht => by simp [argTmp] at ht; subst ht; exact hss) (by simp [rawArg, hf, listOf]) (fun r => hh r (by rw [hx]; simp [footR, cls])) with ⟨a0, h5, h6⟩ | h
                      · obtain ⟨q2, k2, cap2, X, h7, _⟩ := lst_form (by have r1 := hss.1; rw [hf] at r1; exact r1) (by rcases hnu with rfl | rfl <;> simp) (.inr (by rcases hnu with rfl | rfl <;> simp))
                        exact ⟨q2, k2, cap2, h7, by rw [h6]; intro j v hj; simp at hj, by rw [h6]; intro j v hj; simp at hj⟩
                      · exact h
                    rcases (Or.inr hraw2 : False ∨ _) with hF | ⟨q2, k2, cap2, h5, hMo, hzo⟩
                    · exact hF.elim
                    · have e0 : act.eval (.tmp s) = act.tmps.getD s undef := rfl
                      rw [e0, hy] at h5
                      injection h5 with h6 h7 h8
                      injection h6 with h6
                      subst h6 h8
                      obtain ⟨olds, hol, hoc, hor⟩ := news_list hMo
                      have hol' : olds.length = es.length * 1 := by rw [hol, (flatten_get hzo).1]
                      have hfo : refFreeL es.flatten = true := by
                        have r1 := hss.1
                        rw [hf, hy] at r1
                        cases r1 with
                        | uniq _ _ _ => rcases hnu with h | h <;> cases h
                        | emp _ _ => rcases hnu with h | h <;> cases h
                        | lst _ _ _ _ _ _ X hu2 hc2 ht2 hcov hz2 hf2 hx2 hr2 =>
                          exact refFreeL_of (fun u hu => by
                            obtain ⟨e, he1, he2⟩ := List.mem_flatten.1 hu
                            obtain ⟨i', hi'⟩ := List.getElem?_of_mem he1
                            obtain ⟨j', hj'⟩ := List.getElem?_of_mem he2
                            exact hf2 i' e j' u hi' hj')
                      have hrun := run_append_grow_str (P := P) (w := w) (ty := o.type) hT hT2 hi hzv ⟨q2, k2, none⟩ es.length cap olds (by rw [hz]; exact hol') hoc q (by rw [← hnewl]; exact hg) (by rw [← hnewl]; unfold room at hlR; omega)
                        (growslice_fits (by rw [← hnewl]; exact hg) (by rw [hby, Nat.mul_one, ← hnewl]; exact hroom))
                      rw [← hnewl, hnewsA] at hrun
                      have hge := grownCap_ge w (es.length + new.length) cap E
                      have hbs := size_zeroCells zv.cells (grownCap w (es.length + new.length) cap E - (es.length + new.length))
                      obtain ⟨G', hn⟩ := next_row (x := x) (hp := hp) (fr := fr) (fr1 := drop1 fr (.tmp s)) (act := act) (z := 1) (cap := grownCap w (es.length + new.length) cap E) (es := es ++ new)
                        (C := olds.toArray ++ news.toArray ++ Builtin.zeroCells zv.cells (grownCap w (es.length + new.length) cap E - (es.length + new.length))) (T := E) (fz := (0, 0))
                        (w' := w.drew.alloc (.cells (olds.toArray ++ news.toArray ++ Builtin.zeroCells zv.cells (grownCap w (es.length + new.length) cap E - (es.length + new.length))) E)) hv c2 c3 rfl rfl rfl (by simp)
                        (fun b hb => heap_alloc_lt w.drew _ b hb) (heap_alloc_eq w.drew _) (fun i' e' h => by
                          rcases List.mem_append.1 (List.mem_of_getElem? h) with h | h
                          · obtain ⟨j', hj'⟩ := List.getElem?_of_mem h
                            exact hzo _ _ hj'
                          · obtain ⟨j', hj'⟩ := List.getElem?_of_mem h
                            exact hzn _ _ hj') (by rw [List.length_append]; exact hge)
                        (by rw [Array.size_append, Array.size_append, List.size_toArray, List.size_toArray, hbs, hzs, hnl', hol', ← Nat.add_mul, ← Nat.add_mul]; exact Nat.mul_le_mul_right 1 (by omega)) (fun i _ => by simp)
                        (fun i' e' j' u' hi' hj' => by
                          have := rows_rel (rest := (Builtin.zeroCells zv.cells (grownCap w (es.length + new.length) cap E - (es.length + new.length))).toList) hol' hzo (flat_rel (l := olds) hzo hfo hor) hnew2 i' e' j' u' hi' hj'
                          rw [← Array.getElem?_toList]
                          simpa using this) hd (fun t ht => by rw [hm] at ht; simp at ht; subst ht; exact ⟨hrs, hns⟩)
                      rw [List.length_append] at hn
                      refine wp_of_run (go _ _ ?_) (hxd ▸ hK _ _ _ hn)
                      rw [hy, hb]
                      exact hrun
                  rcases hnu with rfl | rfl
                  · obtain ⟨b1, o1, cap1, hy1, hcap1, hob1, ⟨cs, T', fz, h0, hC, hfz1⟩, hk1, _⟩ : OwnOk G w (.slot s) (.lst .own 1 es) (act.tmps.getD s undef) := by have := hss.2; rw [hf] at this; exact this
                    rw [hy] at hy1
                    injection hy1 with h6 h7 h8
                    injection h6 with h6
                    subst h6 h8
                    by_cases hg : cap < es.length + new.length
                    · exact grow hg
                    · have hroom2 : es.length + new.length ≤ cap := by omega
                      have hsum : es.length * 1 + new.length * 1 = (es.length + new.length) * 1 := by rw [Nat.add_mul]
                      have hcapz : (es.length + new.length) * 1 ≤ cap * 1 := Nat.mul_le_mul_right 1 hroom2
                      obtain ⟨w', cs', hst, hB, hs1, hcs'⟩ := run_storeCells (P := P) (b := b1) (q := o1 + es.length * 1) news 0 w cs h0 (by omega) hone (fun j h5 h6 => hfz1 j (by omega) (by omega))
                      have hrun : (Builtin.append_ #[T, T2] o.type #[.slice (some ⟨b1, o1, none⟩) es.length cap, .string q]).run P w = .ok (.slice (some ⟨b1, o1, none⟩) (es.length + new.length) cap) w' := by
                        have hfc := firstCells_str (P := P) (w := w) i.size q
                        rw [hnewsA, ← hnewl, hz] at hfc
                        rw [Nat.mul_one] at hst
                        have hroom3 : es.length + q.size ≤ cap := by rw [← hnewl]; exact hroom2
                        simp [Builtin.append_, run_underlying' hT, run_underlying' hT2, sizeOf, typeInfo, hi, Builtin.lenOf, hroom2, hfc, Addr.add_lit, hz, ← hnewl, hst]
                      obtain ⟨G', hn⟩ := next_room (hp := hp) hm c2 c3 hv hss hf hy hob1 (hk1 rfl) h0 hB hs1 (by simpa using hcs') hroom2 hC hfz1 hzn hnl' hnew2 hd
                      refine wp_of_run (go _ _ ?_) (hxd ▸ hK _ _ _ hn)
                      rw [hy, hb]
                      exact hrun
                  · exact grow (by have := htight rfl; omega)
                · cases he
              · cases he
          · cases he
        · cases hzv0
      · cases h2
    · cases h2
  · cases hchk
theorem next_rowu {z cap : Nat} {es : List (List AV)} {C : Array Value} {T : TypeId} {w' : World} {fr1 : List AV} (hz1000 : z < 1000) (hv : Valid G w N) (h2 : cls x.op ≠ 2) (h3 : cls x.op ≠ 3) (hos : w'.os = w.os) (ht : w'.tape = w.tape) (hout : w'.output = w.output)
    (hsz : w'.heap.size = w.heap.size + 1) (hold : ∀ b, b < w.heap.size → w'.heap[b]? = w.heap[b]?) (hb : w'.heap[w.heap.size]? = some (.cells C T (0, 0))) (hz : ∀ (i : Nat) (e : List AV), es[i]? = some e → e.length = z)
    (hcap : es.length ≤ cap) (hC : cap * z ≤ C.size)
    (hrel : ∀ (i : Nat) (e : List AV) (j : Nat) (u : AV), es[i]? = some e → e[j]? = some u → refFree u = true ∧ ∃ y, C[i * z + j]? = some y ∧ RelV G w u y)
    (hd : ∀ d, x.dst = some d → d < act.tmps.size) (hfr : ∀ t ∈ mvs x.op, RelV G w (fget fr1 t) (act.tmps.getD t undef) ∧ noFlag (fget fr1 t)) :
    ∃ G', Next x fr hp G act w N (finX x fr1 (.lst .uniq z es)) hp G' (act.put x.dst (.slice (some ⟨w.heap.size, 0, none⟩) es.length cap)) w' := by
  refine next_newblk (k := .un) (own := true) hv h2 h3 hos ht hout hsz hold (by simp) (fun _ => .inr rfl) hd hfr (fun G' hm hk1 hk2 hown hE => ?_)
  have hX : ∃ X : Nat → Nat → Value, ∀ (i : Nat) (e : List AV) (j : Nat) (u : AV), es[i]? = some e → e[j]? = some u → C[i * z + j]? = some (X i j) ∧ RelV G w u (X i j) := by
    refine ⟨fun i j => (C[i * z + j]?).getD undef, fun i e j u hi hj => ?_⟩
    obtain ⟨_, y, h5, h6⟩ := hrel i e j u hi hj
    simp only [h5, Option.getD_some]
    exact ⟨trivial, h6⟩
  obtain ⟨X, hX⟩ := hX
  refine ⟨.uniq _ _ _, ?_⟩
  intro d hd'
  refine OwnOk.mk_small hz1000 ⟨w.heap.size, 0, cap, rfl, hcap, hown rfl d hd', ⟨C, T, (0, 0), hb, by omega, fun i _ hi => by simp⟩, fun h => (by cases h), fun _ => ⟨hk2, ⟨C, T, hb⟩, X, hz, fun i e j u hi hj => ⟨(hrel i e j u hi hj).1, ?_, ?_⟩⟩⟩
  · have := (hX i e j u hi hj).1
    simp [World.cell?, hb, this]
  · have h8 : RelV { G' with o := G.o } w' u (X i j) := (hX i e j u hi hj).2.ext hv hE
    exact h8.withO (f := G'.o)
theorem next_roomu {s z b o' cap : Nat} {es new : List (List AV)} {cs cs' : Array Value} {T : TypeId} {news : List Value} {w' : World} (hz1000 : z < 1000) (hm : mvs x.op = [s]) (h2 : cls x.op ≠ 2) (h3 : cls x.op ≠ 3) (hv : Valid G w N)
    (hes : fget fr s = .lst .uniq z es) (hob : G.o (.slot s) = some b) (hkb : G.k b = .un) (h0 : w.heap[b]? = some (.cells cs T (0, 0)))
    (hB : SetB w w' b (.cells cs' T (0, 0))) (hsz' : cs'.size = cs.size) (hcs' : ∀ j : Nat, cs'[j]? = if o' + es.length * z ≤ j ∧ j < o' + es.length * z + news.length then news[j - (o' + es.length * z)]? else cs[j]?)
    (hroom : es.length + new.length ≤ cap) (hcapC : o' + cap * z ≤ cs.size) (hzn : ∀ (i : Nat) (e : List AV), new[i]? = some e → e.length = z) (hnl : news.length = new.length * z)
    (hnew : ∀ (i : Nat) (e : List AV) (j : Nat) (u : AV), new[i]? = some e → e[j]? = some u → refFree u = true ∧ ∃ y, news[i * z + j]? = some y ∧ RelV G w u y)
    {X : Nat → Nat → Value} (hz1 : ∀ (i : Nat) (e : List AV), es[i]? = some e → e.length = z) (hX : ∀ (i : Nat) (e : List AV) (j : Nat) (u : AV), es[i]? = some e → e[j]? = some u → refFree u = true ∧ w.cell? ⟨b, o' + i * z + j, none⟩ = some (X i j) ∧ RelV G w u (X i j))
    (hd : ∀ d, x.dst = some d → d < act.tmps.size) :
    ∃ G', Next x fr hp G act w N (finX x (drop1 fr (.tmp s)) (.lst .uniq z (es ++ new))) hp G' (act.put x.dst (.slice (some ⟨b, o', none⟩) (es.length + new.length) cap)) w' := by
  have hbs := (hv.ok _ _ hob).1
  have hwr : ∀ t, t ∈ x.wr ↔ x.dst = some t ∨ t = s := by
    intro t
    cases h : x.dst <;> simp [XO.wr, hm, h, eq_comm]
  have htouch : ∀ l, Touch x fr l ↔ ∃ t, (x.dst = some t ∨ t = s) ∧ l = .slot t := by
    intro l
    constructor
    · rintro (⟨t, h, rfl⟩ | ⟨h, _⟩)
      · exact ⟨t, (hwr t).1 h, rfl⟩
      · exact absurd h h3
    · rintro ⟨t, h, rfl⟩
      exact .inl ⟨t, (hwr t).2 h, rfl⟩
  let f : Loc → Option Nat := fun l => if ∃ t, x.dst = some t ∧ l = .slot t then G.o (.slot s) else if l = .slot s then none else G.o l
  have hf : ∀ l b, f l = some b → ∃ l', G.o l' = some b ∧ (l' = l ∧ ¬ (∃ t, x.dst = some t ∧ l = .slot t) ∧ l ≠ .slot s ∨ l' = .slot s ∧ ∃ t, x.dst = some t ∧ l = .slot t) := by
    intro l b h
    simp only [f] at h
    split at h
    · rename_i h1; exact ⟨_, h, .inr ⟨rfl, h1⟩⟩
    · split at h
      · cases h
      · rename_i h1 h2; exact ⟨_, h, .inl ⟨rfl, h1, h2⟩⟩
  have hmb : ∀ q a, G.m q = some a → a.1 ≠ b := by
    intro q a h e
    have := (hv.mkk q a h).1
    rw [e, hkb] at this
    cases this
  have hsum : es.length * z + new.length * z = (es.length + new.length) * z := by rw [Nat.add_mul]
  have hcapz : (es.length + new.length) * z ≤ cap * z := Nat.mul_le_mul_right z hroom
  let G' : Gh := { G with o := f }
  have hne : ∀ c, G.k c ≠ .un → c ≠ b := fun c h e => h (by rw [e, hkb])
  have hE : Ext (fun c => ∃ l, Touch x fr l ∧ G.o l = some c) G w G' w' := by
    refine ⟨hB.os, hB.tape, hB.output, by rw [hB.size]; exact Nat.le_refl _, fun c h4 h5 => ?_, fun c g h4 h5 => ?_, fun c h4 h5 h6 h7 => ?_, fun q a h => h, fun c h4 h5 => ?_⟩
    · exact ⟨h5, hB.old c (hne c (by rw [h5]; simp))⟩
    · exact ⟨g, Nat.le_refl _, h5, fun i _ => cell_of_heap (hB.old c (hne c (by rw [h5]; simp))) i⟩
    · have hc : c ≠ b := fun e => h7 ⟨.slot s, (htouch _).2 ⟨s, .inr rfl, rfl⟩, by rw [e]; exact hob⟩
      exact ⟨rfl, hB.old c hc⟩
    · exact ⟨h5, fun ds S g hh => ⟨ds, by rw [hB.old c (hne c (by rw [h5]; simp)), hh], rfl⟩⟩
  refine ⟨G', hE, ⟨hv.lev, hv.inj, fun q a h => (by rw [hB.size]; exact hv.mkk q a h), ?_, ?_⟩, put_size .., put_defers .., fun t h => put_ne _ _ _ _ h, ?_, ?_, ?_, fun _ => rfl, fun q h4 h5 => absurd h4 h5,
    fun r c base h1 h2 => (by rw [show G.m r = some (c, base) from h2] at h1; cases h1), fun r c base h _ => hB.old c (hmb r _ h), fun h => absurd h h3⟩
  · intro l l' c h1 h2
    obtain ⟨l1, h4, h5⟩ := hf l c h1
    obtain ⟨l2, h6, h7⟩ := hf l' c h2
    have := hv.oinj _ _ c h4 h6
    subst this
    rcases h5 with ⟨rfl, h8, h9⟩ | ⟨rfl, t, h8, rfl⟩ <;> rcases h7 with ⟨h10, h11, h12⟩ | ⟨h10, u, h11, rfl⟩
    · exact h10
    · exact absurd h10 h9
    · exact absurd h10.symm h12
    · rw [h8] at h11; injection h11 with h11; rw [h11]
  · intro l c h1
    obtain ⟨l1, h4, h5⟩ := hf l c h1
    exact ⟨by rw [hB.size]; exact (hv.ok _ _ h4).1, (hv.ok _ _ h4).2⟩
  · intro t h
    unfold RelS
    by_cases hdt : x.dst = some t
    · rw [show fget (finX x (drop1 fr (.tmp s)) (.lst .uniq z (es ++ new))) t = .lst .uniq z (es ++ new) by simp [finX, hdt, fget_fput], hdt, put_eq _ _ _ (hd t hdt)]
      have hX2 : ∃ X2 : Nat → Nat → Value, ∀ (i : Nat) (e : List AV) (j : Nat) (u : AV), new[i]? = some e → e[j]? = some u → news[i * z + j]? = some (X2 i j) ∧ RelV G w u (X2 i j) := by
        refine ⟨fun i j => (news[i * z + j]?).getD undef, fun i e j u hi hj => ?_⟩
        obtain ⟨_, y, h5, h6⟩ := hnew i e j u hi hj
        simp only [h5, Option.getD_some]
        exact ⟨trivial, h6⟩
      obtain ⟨X2, hX2⟩ := hX2
      have hel : ∀ (i : Nat) (e : List AV), (es ++ new)[i]? = some e → (i < es.length ∧ es[i]? = some e) ∨ (es.length ≤ i ∧ new[i - es.length]? = some e) := by
        intro i e hi
        rcases Nat.lt_or_ge i es.length with hlt | hge
        · rw [List.getElem?_append_left hlt] at hi; exact .inl ⟨hlt, hi⟩
        · rw [List.getElem?_append_right hge] at hi; exact .inr ⟨hge, hi⟩
      have hzz : ∀ (i : Nat) (e : List AV), (es ++ new)[i]? = some e → e.length = z := by
        intro i e hi
        rcases hel i e hi with ⟨_, h⟩ | ⟨_, h⟩
        · exact hz1 i e h
        · exact hzn _ e h
      have hlen : (es ++ new).length = es.length + new.length := List.length_append
      refine ⟨.uniq _ _ _, OwnOk.mk_small hz1000 ⟨b, o', cap, by rw [hlen], by rw [hlen]; exact hroom, by simp only [G', f]; rw [if_pos ⟨t, hdt, rfl⟩]; exact hob, ⟨cs', T, (0, 0), hB.new, by omega, fun i h5 h6 => by simp⟩, fun h => (by cases h),
        fun _ => ⟨hkb, ⟨cs', T, hB.new⟩, fun i j => if i < es.length then X i j else X2 (i - es.length) j, hzz, fun i e j u hi hj => ?_⟩⟩⟩
      rcases hel i e hi with ⟨hlt, h⟩ | ⟨hge, h⟩
      · simp only [if_pos hlt]
        obtain ⟨g1, g2, g3⟩ := hX i e j u h hj
        refine ⟨g1, ?_, g3.ext hv hE⟩
        rw [← g2]
        have hj' := (List.getElem?_eq_some_iff.1 hj).1
        rw [hz1 i e h] at hj'
        have : i * z + z ≤ es.length * z := by
          have := Nat.mul_le_mul_right z (Nat.succ_le_of_lt hlt)
          rw [Nat.succ_mul] at this
          exact this
        have e1 : cs'[o' + i * z + j]? = cs[o' + i * z + j]? := by rw [hcs', if_neg (by omega)]
        simp [World.cell?, hB.new, h0, e1]
      · simp only [if_neg (show ¬ i < es.length by omega)]
        refine ⟨(hnew _ e j u h hj).1, ?_, (hX2 _ e j u h hj).2.ext hv hE⟩
        obtain ⟨h8, _⟩ := hX2 _ e j u h hj
        have hlt := (List.getElem?_eq_some_iff.1 h8).1
        obtain ⟨k, rfl⟩ : ∃ k, i = es.length + k := ⟨i - es.length, by omega⟩
        rw [Nat.add_sub_cancel_left] at h8 hlt ⊢
        have e2 : o' + (es.length + k) * z + j = o' + es.length * z + (k * z + j) := by rw [Nat.add_mul]; omega
        have e1 : cs'[o' + es.length * z + (k * z + j)]? = some (X2 k j) := by
          rw [hcs', if_pos (by omega), Nat.add_sub_cancel_left, h8]
        rw [e2]
        simp [World.cell?, hB.new, e1]
    · have hts := ((hwr t).1 h).resolve_left hdt
      subst hts
      have e1 : fget (finX x (drop1 fr (.tmp t)) (.lst .uniq z (es ++ new))) t = .undef := by
        have e0 : fget (drop1 fr (.tmp t)) t = .undef := by simp [drop1, hes, fget_fput]
        simp only [finX]
        split
        · rename_i d hd'; rw [fget_fput, if_neg (fun e => hdt (by rw [hd', e])), e0]
        · exact e0
      rw [e1]
      exact ⟨.undef _, .of_noFlag trivial⟩
  · intro l h
    show f l = _
    simp only [f]
    rw [if_neg (fun ⟨t, h1, h2⟩ => h ((htouch l).2 ⟨t, .inl h1, h2⟩)), if_neg (fun h1 => h ((htouch l).2 ⟨s, .inr rfl, h1⟩))]
  · intro l c h h1
    obtain ⟨l1, h4, h5⟩ := hf l c h1
    refine .inl ⟨l1, ?_, h4⟩
    rcases h5 with ⟨rfl, h8, h9⟩ | ⟨rfl, t, h8, rfl⟩
    · exact h
    · exact (htouch _).2 ⟨s, .inr rfl, rfl⟩
theorem step_appu {z bytes s : Nat} {a : XArg} (hx : x.op = .app true z bytes s a) (hchk : chkOp P prims (.app true z bytes s a) o = true) (hxd : x.dst = o.dst) (hd : ∀ d, x.dst = some d → d < act.tmps.size)
    (he : evOp C gl d (.app true z bytes s a) fr hp = some (v, fr1, hp1)) (hv : Valid G w N) (hs : ∀ t ∈ rds (.app true z bytes s a), RelS G w fr act t)
    (hh : ∀ r, footR fr x.op r → ∀ b base blk, G.m r = some (b, base) → hget hp r = some blk → RelBlk G w r b base blk)
    (hK : ∀ G' act' w', Next x fr hp G act w N (finX x fr1 v) hp1 G' act' w' → K act' w') : o.wp P act w K Q := by
  have hm : mvs x.op = [s] := by rw [hx]; rfl
  have c2 : cls x.op ≠ 2 := by rw [hx]; simp [cls]
  have c3 : cls x.op ≠ 3 := by rw [hx]; simp [cls]
  simp only [chkOp] at hchk
  split at hchk
  · rename_i t b T T2 hcb
    simp only [Bool.and_eq_true, beq_iff_eq] at hchk
    obtain ⟨⟨⟨⟨hz1000', hst⟩, h1⟩, hTT⟩, h2⟩ := hchk
    have hz1000 : z < 1000 := of_decide_eq_true hz1000'
    subst hst hTT
    split at h2
    · rename_i E hT
      split at h2
      · rename_i i hi
        simp only [Bool.and_eq_true, beq_iff_eq, decide_eq_true_eq] at h2
        obtain ⟨⟨⟨⟨hz, hby⟩, hz0⟩, hb0⟩, hzv0⟩ := h2
        split at hzv0
        · rename_i zv hzv
          have hzs : zv.cells.size = z := by simpa using hzv0
          have ho := callB_spec' hcb
          obtain ⟨c, hbi⟩ := call_builtin (act := act) (o := o) _ _ _ ho
          have hss : RelS G w fr act s := hs s (by simp [rds])
          have hraw := fun new (h : listOf hp z (rawArg fr a) = some new) => raw_mem (act := act) (G := G) (w := w) hz1000 h1 (fun t ht => hs t (by simp only [rds]; exact List.mem_cons_of_mem _ (mem_ats (a := a) (by simp) ht))) h (fun r => hh r (by rw [hx]; simp [footR, cls]))
          have go : ∀ (y : Value) (w' : World), (Builtin.append_ #[T, T] o.type #[act.tmps.getD s undef, act.eval b]).run P w = .ok y w' → (execOp act.eval o).run P w = .ok (.value y) w' := by
            intro y w' h
            have e0 : act.eval (.tmp s) = act.tmps.getD s undef := rfl
            rw [hbi]
            simp at h
            simp [builtin, e0, h]
          simp only [evOp] at he
          split at he
          · rename_i new hnew
            split at he
            · rename_i hn0
              subst hn0
              have hemp : ∃ a' c', act.eval b = .slice a' 0 c' := by
                rcases hraw _ hnew with ⟨a0, h5, _⟩ | ⟨q, k, cap, h5, _, _⟩
                · exact ⟨_, _, h5⟩
                · exact ⟨_, _, h5⟩
              obtain ⟨a', c', hb⟩ := hemp
              have fin : ∀ base n cap, act.tmps.getD s undef = .slice base n cap → n ≤ cap → v = fget fr s → fr1 = drop1 fr (.tmp s) → hp1 = hp → o.wp P act w K Q := by
                rintro base n cap hy hle rfl rfl rfl
                obtain ⟨G', hn⟩ := next_own (hp := hp1) hm c2 c3 hv hss hd
                refine wp_of_run (y := act.tmps.getD s undef) (go _ _ ?_) (hxd ▸ hK _ _ _ hn)
                rw [hy, hb]
                exact run_append_empty hT hi hle
              split at he
              · rename_i hf
                simp only [Option.some.injEq, Prod.mk.injEq] at he
                obtain ⟨r1, r2⟩ := hss
                rw [hf] at r1
                generalize hyy : act.tmps.getD s undef = yy at r1
                cases r1
                exact fin _ _ _ hyy (Nat.le_refl _) (by rw [hf]; exact he.1.symm) he.2.1.symm he.2.2.symm
              · rename_i ow z' es hf
                split at he <;> (try (cases he; done))
                rename_i hlB
                simp only [Option.some.injEq, Prod.mk.injEq] at he
                have hys : ∃ base n cap, act.tmps.getD s undef = .slice base n cap ∧ n ≤ cap := by
                  obtain ⟨r1, r2⟩ := hss
                  rw [hf] at r1 r2
                  by_cases hu : ow = .uniq
                  · subst hu
                    obtain ⟨q, k, cap, hy, hcap, _⟩ := r2.small (of_decide_eq_true hlB)
                    exact ⟨_, _, _, hy, hcap⟩
                  · generalize hyy : act.tmps.getD s undef = yy at r1
                    cases r1 with
                    | uniq _ _ _ => exact absurd rfl hu
                    | emp _ _ => exact ⟨_, _, _, rfl, Nat.le_refl _⟩
                    | lst _ _ _ q k cap X _ hcap => exact ⟨_, _, _, rfl, hcap⟩
                obtain ⟨base, n, cap, hy, hle⟩ := hys
                exact fin _ _ _ hy hle (by rw [hf]; exact he.1.symm) he.2.1.symm he.2.2.symm
              · cases he
            · rename_i hn0
              split at he
              · rename_i hcond
                obtain ⟨hfree, hplain⟩ := hcond
                rcases hraw _ hnew with ⟨_, _, h6⟩ | ⟨q, k, ncap, hb, hM, hzn⟩
                · exact absurd h6 hn0
                · obtain ⟨news, hnl, hnc, hnr⟩ := news_list hM
                  have hnl' : news.length = new.length * z := by rw [hnl, (flatten_get hzn).1]
                  have hnew2 := flat_rel (l := news) hzn hfree hnr
                  have hpos : 0 < new.length := List.length_pos_iff.2 hn0
                  split at he
                  · rename_i hf
                    split at he
                    · rename_i hroom
                      simp only [Option.some.injEq, Prod.mk.injEq] at he
                      obtain ⟨rfl, rfl, rfl⟩ := he
                      have hy : act.tmps.getD s undef = .slice none 0 0 := by
                        have r1 := hss.1
                        rw [hf] at r1
                        generalize act.tmps.getD s undef = yy at r1
                        cases r1
                        rfl
                      have hle1 : new.length ≤ room := Nat.le_trans (Nat.le_mul_of_pos_right _ hb0) hroom
                      have hrun := run_append_nil (P := P) w T o.type E i zv hT hi hzv ⟨q, k, none⟩ new.length ncap news (by rw [hz]; exact hnl') hnc hpos (by unfold room at hle1; omega) (by rw [hby]; unfold room at hroom; omega)
                      have hge := grownCap_ge w new.length 0 E
                      have hbs := size_zeroCells zv.cells (grownCap w new.length 0 E - new.length)
                      obtain ⟨G', hn⟩ := next_rowu hz1000 (x := x) (hp := hp) (fr := fr) (fr1 := fr) (act := act) (z := z) (cap := grownCap w new.length 0 E) (es := new) (C := news.toArray ++ Builtin.zeroCells zv.cells (grownCap w new.length 0 E - new.length)) (T := E)
                        (w' := w.drew.alloc (.cells (news.toArray ++ Builtin.zeroCells zv.cells (grownCap w new.length 0 E - new.length)) E)) hv c2 c3 rfl rfl rfl (by simp) (fun b hb => heap_alloc_lt w.drew _ b hb) (heap_alloc_eq w.drew _) hzn hge
                        (by rw [Array.size_append, List.size_toArray, hbs, hzs, hnl', ← Nat.add_mul]; exact Nat.mul_le_mul_right z (by omega))
                        (fun i e j u hi' hj => by
                          obtain ⟨h8, y, h9, h10⟩ := hnew2 i e j u hi' hj
                          have hl := (List.getElem?_eq_some_iff.1 h9).1
                          exact ⟨h8, y, by rw [Array.getElem?_append_left (by simpa using hl)]; simpa using h9, h10⟩) hd
                        (fun t ht => by rw [hm] at ht; simp at ht; subst ht; rw [hf]; exact ⟨by rw [hy]; exact .nilsl, trivial⟩)
                      refine wp_of_run (go _ _ ?_) (hxd ▸ hK _ _ _ hn)
                      rw [hy, hb]
                      exact hrun
                    · cases he
                  · rename_i ow z' es hf
                    split at he
                    · rename_i hcond2
                      obtain ⟨rfl, hmay, hroom⟩ := hcond2
                      simp only [Option.some.injEq, Prod.mk.injEq] at he
                      obtain ⟨rfl, rfl, rfl⟩ := he
                      have hlR : (es.length + new.length) ≤ room := Nat.le_trans (Nat.le_mul_of_pos_right _ hb0) hroom
                      have hnu : ow = .uniq ∨ ow = .tight := by cases ow <;> simp [appMay] at hmay <;> simp
                      have hrel1 : ∃ A cap, act.tmps.getD s undef = .slice (some A) es.length cap ∧ (ow = .tight → cap = es.length) ∧ RelV G w (fget (drop1 fr (.tmp s)) s) (act.tmps.getD s undef) ∧ noFlag (fget (drop1 fr (.tmp s)) s) := by
                        rcases hnu with rfl | rfl
                        · have r2 := hss.2
                          rw [hf] at r2
                          obtain ⟨q2, k2, cap2, hy2, _⟩ := r2.small hz1000
                          refine ⟨_, cap2, hy2, (fun h => by cases h), ?_, ?_⟩ <;> rw [show fget (drop1 fr (.tmp s)) s = .undef by simp [drop1, hf, fget_fput]]
                          · exact .undef _
                          · trivial
                        · have r1 := hss.1
                          rw [hf] at r1
                          generalize act.tmps.getD s undef = yy at r1
                          cases r1 with
                          | lst _ _ _ q2 k2 cap2 X hu2 hc2 ht2 hcov hz2 hf2 hx2 hr2 =>
                            refine ⟨_, cap2, rfl, ht2, ?_, ?_⟩ <;> rw [show fget (drop1 fr (.tmp s)) s = .lst .tight z' es by simp [drop1, hf]]
                            · exact .lst .tight z' es q2 k2 cap2 X (by simp) hc2 ht2 hcov hz2 hf2 hx2 hr2
                            · trivial
                      obtain ⟨A, cap, hy, htight, hrs, hns⟩ := hrel1
                      have grow : cap < es.length + new.length → o.wp P act w K Q := by
                        intro hg
                        have hraw2 : ∃ q2 k2 cap2, act.eval (.tmp s) = .slice (some ⟨q2, k2, none⟩) es.length cap2 ∧ MemAt G w es.flatten q2 k2 ∧ (∀ (i : Nat) (e : List AV), es[i]? = some e → e.length = z') := by
                          rcases raw_mem (a := .tmp s) (b := .tmp s) (z := z') (new := es) (hp := hp) hz1000 (by simp [argOk]) (fun t ht => by simp [argTmp] at ht; subst ht; exact hss) (by simp [rawArg, hf, listOf]) (fun r => hh r (by rw [hx]; simp [footR, cls])) with ⟨a0, h5, h6⟩ | h
                          · rcases hnu with rfl | rfl
                            · have r2 := hss.2
                              rw [hf] at r2
                              obtain ⟨q2, k2, cap2, h7, _⟩ := r2.small hz1000
                              exact ⟨q2, k2, cap2, h7, by rw [h6]; intro j v hj; simp at hj, by rw [h6]; intro j v hj; simp at hj⟩
                            · obtain ⟨q2, k2, cap2, X, h7, _⟩ := lst_form (by have r1 := hss.1; rw [hf] at r1; exact r1) (by simp) (.inr (by simp))
                              exact ⟨q2, k2, cap2, h7, by rw [h6]; intro j v hj; simp at hj, by rw [h6]; intro j v hj; simp at hj⟩
                          · exact h
                        rcases (Or.inr hraw2 : False ∨ _) with hF | ⟨q2, k2, cap2, h5, hMo, hzo⟩
                        · exact hF.elim
                        · have e0 : act.eval (.tmp s) = act.tmps.getD s undef := rfl
                          rw [e0, hy] at h5
                          injection h5 with h6 h7 h8
                          injection h6 with h6
                          subst h6 h8
                          obtain ⟨olds, hol, hoc, hor⟩ := news_list hMo
                          have hol' : olds.length = es.length * z' := by rw [hol, (flatten_get hzo).1]
                          have hfo : refFreeL es.flatten = true := by
                            rcases hnu with rfl | rfl
                            · have r2 := hss.2
                              rw [hf] at r2
                              obtain ⟨q2', k2', cap2', hy2, _, _, _, _, hun⟩ := r2.small hz1000
                              obtain ⟨_, _, X, hz2, hX2⟩ := hun rfl
                              exact refFreeL_of (fun u hu => by
                                obtain ⟨e, he1, he2⟩ := List.mem_flatten.1 hu
                                obtain ⟨i', hi'⟩ := List.getElem?_of_mem he1
                                obtain ⟨j', hj'⟩ := List.getElem?_of_mem he2
                                exact (hX2 i' e j' u hi' hj').1)
                            · have r1 := hss.1
                              rw [hf, hy] at r1
                              cases r1 with
                              | lst _ _ _ _ _ _ X hu2 hc2 ht2 hcov hz2 hf2 hx2 hr2 =>
                                exact refFreeL_of (fun u hu => by
                                  obtain ⟨e, he1, he2⟩ := List.mem_flatten.1 hu
                                  obtain ⟨i', hi'⟩ := List.getElem?_of_mem he1
                                  obtain ⟨j', hj'⟩ := List.getElem?_of_mem he2
                                  exact hf2 i' e j' u hi' hj')
                          have hrun := run_append_grow (P := P) w T o.type E i zv hT hi hzv ⟨q2, k2, none⟩ es.length cap olds (by rw [hz]; exact hol') hoc ⟨q, k, none⟩ new.length ncap news (by rw [hz]; exact hnl') hnc hg (by unfold room at hlR; omega)
                            (growslice_fits hg (by rw [hby]; exact hroom))
                          have hge := grownCap_ge w (es.length + new.length) cap E
                          have hbs := size_zeroCells zv.cells (grownCap w (es.length + new.length) cap E - (es.length + new.length))
                          obtain ⟨G', hn⟩ := next_rowu hz1000 (x := x) (hp := hp) (fr := fr) (fr1 := drop1 fr (.tmp s)) (act := act) (z := z') (cap := grownCap w (es.length + new.length) cap E) (es := es ++ new)
                            (C := olds.toArray ++ news.toArray ++ Builtin.zeroCells zv.cells (grownCap w (es.length + new.length) cap E - (es.length + new.length))) (T := E)
                            (w' := w.drew.alloc (.cells (olds.toArray ++ news.toArray ++ Builtin.zeroCells zv.cells (grownCap w (es.length + new.length) cap E - (es.length + new.length))) E)) hv c2 c3 rfl rfl rfl (by simp)
                            (fun b hb => heap_alloc_lt w.drew _ b hb) (heap_alloc_eq w.drew _) (fun i' e' h => by
                              rcases List.mem_append.1 (List.mem_of_getElem? h) with h | h
                              · obtain ⟨j', hj'⟩ := List.getElem?_of_mem h
                                exact hzo _ _ hj'
                              · obtain ⟨j', hj'⟩ := List.getElem?_of_mem h
                                exact hzn _ _ hj') (by rw [List.length_append]; exact hge)
                            (by rw [Array.size_append, Array.size_append, List.size_toArray, List.size_toArray, hbs, hzs, hnl', hol', ← Nat.add_mul, ← Nat.add_mul]; exact Nat.mul_le_mul_right z' (by omega))
                            (fun i' e' j' u' hi' hj' => by
                              have := rows_rel (rest := (Builtin.zeroCells zv.cells (grownCap w (es.length + new.length) cap E - (es.length + new.length))).toList) hol' hzo (flat_rel (l := olds) hzo hfo hor) hnew2 i' e' j' u' hi' hj'
                              rw [← Array.getElem?_toList]
                              simpa using this) hd (fun t ht => by rw [hm] at ht; simp at ht; subst ht; exact ⟨hrs, hns⟩)
                          rw [List.length_append] at hn
                          refine wp_of_run (go _ _ ?_) (hxd ▸ hK _ _ _ hn)
                          rw [hy, hb]
                          exact hrun
                      rcases hnu with rfl | rfl
                      · obtain ⟨b1, o1, cap1, hy1, hcap1, hob1, ⟨cs, T', fz, h0, hC, hfz1⟩, _, hk1⟩ : OwnC G w (.slot s) .uniq z' es (act.tmps.getD s undef) := by have := hss.2; rw [hf] at this; exact this.small hz1000
                        obtain ⟨hkb, ⟨cs0, T0, hz00⟩, X, hz1, hX1⟩ := hk1 rfl
                        rw [hz00] at h0
                        injection h0 with h0
                        injection h0 with e1 e2 e3
                        subst e1 e2 e3
                        rw [hy] at hy1
                        injection hy1 with h6 h7 h8
                        injection h6 with h6
                        subst h6 h8
                        by_cases hg : cap < es.length + new.length
                        · exact grow hg
                        · have hroom2 : es.length + new.length ≤ cap := by omega
                          have hone : ∀ v ∈ news, v.oneCell' = true := by
                            intro y hy'
                            obtain ⟨j, hj⟩ := List.getElem?_of_mem hy'
                            have hjl := (List.getElem?_eq_some_iff.1 hj).1
                            rw [hnl] at hjl
                            obtain ⟨y', h9, h10⟩ := hnr j new.flatten[j] (by simp [hjl])
                            rw [hj] at h9
                            injection h9 with h9
                            subst h9
                            exact (plain1_one (List.all_eq_true.1 hplain _ (List.getElem_mem hjl)) h10).1
                          have hsum : es.length * z' + new.length * z' = (es.length + new.length) * z' := by rw [Nat.add_mul]
                          have hcapz : (es.length + new.length) * z' ≤ cap * z' := Nat.mul_le_mul_right z' hroom2
                          obtain ⟨w', cs', hst, hB, hsz', hcs'⟩ := run_storeCells (P := P) (b := b1) (q := o1 + es.length * z') news 0 w cs0 hz00 (by omega) hone (fun j h5 h6 => hfz1 j (by omega) (by omega))
                          have hrun : (Builtin.append_ #[T, T] o.type #[.slice (some ⟨b1, o1, none⟩) es.length cap, .slice (some ⟨q, k, none⟩) new.length ncap]).run P w = .ok (.slice (some ⟨b1, o1, none⟩) (es.length + new.length) cap) w' := by
                            have hfc := run_firstCells_some (P := P) w i.size new.length ⟨q, k, none⟩ new.length ncap news (by rw [hz]; exact hnl') hnc
                            rw [hz] at hfc
                            simp [Builtin.append_, run_underlying' hT, sizeOf, typeInfo, hi, Builtin.lenOf, hroom2, hfc, Addr.add_lit, hz, hst]
                          obtain ⟨G', hn⟩ := next_roomu (hp := hp) hz1000 hm c2 c3 hv hf hob1 hkb hz00 hB hsz' (by simpa using hcs') hroom2 hC hzn hnl' hnew2 hz1 hX1 hd
                          refine wp_of_run (go _ _ ?_) (hxd ▸ hK _ _ _ hn)
                          rw [hy, hb]
                          exact hrun
                      · exact grow (by have := htight rfl; omega)
                    · cases he
                  · cases he
              · cases he
          · cases he
        · cases hzv0
      · cases h2
    · cases h2
  · cases hchk
theorem step_op (hsup : supOp x.op = true) (hC : CallOk P gl C) (hP : PrimOk P gl prims) (hchk : chkOp P prims x.op o = true) (hxd : x.dst = o.dst) (hd : ∀ d, x.dst = some d → d < act.tmps.size)
    (he : evOp C gl (x.dst.getD 0) x.op fr hp = some (v, fr1, hp1)) (hv : Valid G w N) (hN : hp.length = N) (hs : ∀ t ∈ rds x.op, RelS G w fr act t)
    (hh : ∀ r, footR fr x.op r → ∀ b base blk, G.m r = some (b, base) → hget hp r = some blk → RelBlk G w r b base blk) (hg : GlOk G w gl) (hfresh : cls x.op = 2 → hp ≠ [] → hget hp1 (newRef x hp) ≠ none → G.m (newRef x hp) = none)
    (hK : ∀ G' act' w', Next x fr hp G act w N (finX x fr1 v) hp1 G' act' w' → K act' w') : o.wp P act w K Q := by
  unfold supOp at hsup
  rw [Bool.or_eq_true] at hsup
  rcases hsup with hsup | hsup
  · obtain ⟨⟨y, h1, h2⟩, h3, rfl, rfl⟩ := op_pure hsup hchk he hs hh hg
    obtain ⟨c2, c3, cm⟩ := pure_cls hsup
    obtain ⟨G', hn⟩ := next_val (hp := hp1) hv c2 c3 cm h2 h3 hd
    exact wp_of_run h1 (hxd ▸ hK _ _ _ hn)
  · cases hx : x.op <;> rw [hx] at hsup <;> (try (cases hsup; done)) <;> rw [hx] at hchk he hs
    case bslice z zs ps => exact step_bslice hx hchk hxd hd he hv hs hK
    case nexts a => exact step_nexts hx hchk hxd hd he hv hs hh hK
    case callw f as => exact step_callw hC hx hchk hxd hd he hv hN hs hh hg hK
    case calld g as => exact step_calld hC hx hchk hxd hd he hv hN hs hh hg hK
    case app u z bytes s a =>
      cases u
      · exact step_app hx hchk hxd hd he hv hs hh hK
      · exact step_appu hx hchk hxd hd he hv hs hh hK
    case appstr u s a =>
      cases u
      · exact step_appstr hx hchk hxd hd he hv hs hh hK
      · simp only [chkOp] at hchk
        split at hchk
        · simp at hchk
        · cases hchk
    case strb a => exact step_strb hx hchk hxd hd he hv hs hK
    case lown a => exact step_lown hx hchk hxd hd he hv hs hh hK
    case rngs a => exact step_rngs hx hchk hxd hd he hv hN hs hfresh hK
    all_goals simp only [evOp] at he
    case own s =>
      simp only [Option.some.injEq, Prod.mk.injEq] at he
      obtain ⟨rfl, rfl, rfl⟩ := he
      have ho : o.op = .move (.tmp s) ∨ o.op = .assign (.tmp s) := by
        simp only [chkOp] at hchk
        split at hchk
        · rename_i t ho; simp at hchk; subst hchk; exact .inl ho
        · rename_i t ho; simp at hchk; subst hchk; exact .inr ho
        · cases hchk
      obtain ⟨G', hn⟩ := next_own (hp := hp) (by rw [hx]; rfl) (by rw [hx]; simp [cls]) (by rw [hx]; simp [cls]) hv (hs s (by simp [rds])) hd
      exact wp_of_run (gives_own ho) (hxd ▸ hK _ _ _ hn)
    case allocb t e =>
      simp only [chkOp] at hchk
      split at hchk
      · rename_i T ho
        simp only [Bool.and_eq_true, beq_iff_eq] at hchk
        obtain ⟨⟨rfl, hz⟩, he1000⟩ := hchk
        have h1 : (execOp act.eval o).run P w = .ok (.value (.pointer (some ⟨w.heap.size, 0, none⟩))) (w.alloc (.cells #[.pointer none, .slice none 0 0] T)) := by
          unfold bldOk at hz
          split at hz <;> (try (cases hz; done))
          rename_i i hi
          split at hz <;> (try (cases hz; done))
          rename_i v hv
          split at hz <;> (try (cases hz; done))
          rename_i hcs
          have hcs' : v.cells = #[.pointer none, .slice none 0 0] := by rw [← Array.toArray_toList (xs := v.cells), hcs]
          have hz1 : (zeroValue T).run P w = .ok v w := by simp [zeroValue, typeInfo, hi, hv]
          simp only [execOp, ho, Instr.alloc, Sem.run_bind, hz1, Result.andThen_ok, newVar, newRow, run_newObj, Sem.run_pure, hcs']
          rfl
        split at he
        · rename_i r hp' hb
          simp only [Option.some.injEq, Prod.mk.injEq] at he
          obtain ⟨rfl, rfl, rfl⟩ := he
          obtain ⟨G', hn⟩ := next_new0 (x := x) (ob := .cells #[.pointer none, .slice none 0 0] T) hv hN (by rw [hx]; rfl) (by rw [hx]; rfl) hb (hfresh (by rw [hx]; rfl) (mkBlk_facts hb).2.2.2.1 (mkBlk_new hb ▸ (mkBlk_facts hb).2.2.2.2.1))
            (fun f G' hlev hv1 hE => ⟨⟨rfl, of_decide_eq_true he1000⟩, .pointer none, .slice none 0 0, heap_alloc_eq w _, .inl rfl, World.ownsRow_nil _ _ _ _, fun _ => rfl, fun g hg => by simp [Value.ownBlock] at hg⟩) hd
          exact wp_of_run h1 (hxd ▸ hK _ _ _ hn)
        · cases he
      · cases hchk
    case alloc zs =>
      simp only [chkOp] at hchk
      split at hchk
      · rename_i T ho
        obtain ⟨xs, h1, h2, h3⟩ := run_alloc (P := P) (G := G) (w := w) (act := act) ho hchk
        split at he
        · rename_i r hp' hb
          simp only [Option.some.injEq, Prod.mk.injEq] at he
          obtain ⟨rfl, rfl, rfl⟩ := he
          obtain ⟨G', hn⟩ := next_new (x := x) (T := T) hv hN (by rw [hx]; rfl) (by rw [hx]; rfl) hb (hfresh (by rw [hx]; rfl) (mkBlk_facts hb).2.2.2.1 (mkBlk_new hb ▸ (mkBlk_facts hb).2.2.2.2.1)) h2 (fun u hu => (h3 u hu).2) hd
          exact wp_of_run h1 (hxd ▸ hK _ _ _ hn)
        · cases he
      · cases hchk
    case box a n =>
      simp only [chkOp] at hchk
      split at hchk
      · rename_i T b ho
        split at he
        · rename_i hcond
          obtain ⟨xs, h1, h2⟩ := run_box (P := P) (G := G) (w := w) hchk ho (ats1 hs) hcond.2
          split at he
          · rename_i r hp' hb
            simp only [Option.some.injEq, Prod.mk.injEq] at he
            obtain ⟨rfl, rfl, rfl⟩ := he
            obtain ⟨G', hn⟩ := next_new (x := x) (T := T) hv hN (by rw [hx]; rfl) (by rw [hx]; rfl) hb (hfresh (by rw [hx]; rfl) (mkBlk_facts hb).2.2.2.1 (mkBlk_new hb ▸ (mkBlk_facts hb).2.2.2.2.1)) h2 (cellsOf_noFlag (earg_noFlag hchk)) hd
            exact wp_of_run h1 (hxd ▸ hK _ _ _ hn)
          · cases he
        · cases he
      · cases hchk
    case store a y n =>
      simp only [chkOp] at hchk
      split at hchk
      · rename_i T b c ho
        simp only [Bool.and_eq_true, sizeIs] at hchk
        obtain ⟨⟨h1, h2⟩, h3⟩ := hchk
        split at h3
        · rename_i i hi
          split at he
          · rename_i hcond
            split at he
            · rename_i hp' hst
              simp only [Option.some.injEq, Prod.mk.injEq] at he
              obtain ⟨rfl, rfl, rfl⟩ := he
              exact next_store hx hxd hv hN ho h1 h2 hi (by simpa using h3) hs hh hd hcond.1 hcond.2 hst hK
            · cases he
          · cases he
        · cases h3
      · cases hchk
    case callq f as =>
      simp only [chkOp] at hchk
      split at hchk
      · rename_i g bs hcall
        simp only [Bool.and_eq_true, beq_iff_eq] at hchk
        obtain ⟨⟨rfl, h1⟩, h2⟩ := hchk
        split at he
        · rename_i hfree
          split at he
          · rename_i v' hq hc
            simp only [Option.some.injEq, Prod.mk.injEq] at he
            obtain ⟨rfl, rfl, rfl⟩ := he
            obtain ⟨h3, h4⟩ := eargs_rel h1 (fun a ha t ht => hs t (mem_ats ha ht))
            exact next_callq hC (by rw [hx]; simp [cls]) (by rw [hx]; simp [cls]) (by rw [hx]; rfl) hxd hv (run_call hcall) (by simpa using h3) h4 (eargs_noFlag h1) hfree hg hc hd hK
          · cases he
        · cases he
      · cases hchk
    case prim id f as =>
      simp only [chkOp] at hchk
      split at hchk
      · rename_i g bs hcall
        simp only [Bool.and_eq_true, beq_iff_eq] at hchk
        obtain ⟨⟨rfl, h1⟩, h2⟩ := hchk
        split at he
        · rename_i u hu
          simp only [Option.some.injEq, Prod.mk.injEq] at he
          obtain ⟨rfl, rfl, rfl⟩ := he
          obtain ⟨h3, h4⟩ := eargs_rel h1 (fun a ha t ht => hs t (mem_ats ha ht))
          have hm : (f, id) ∈ prims := by simpa using h2
          by_cases hb : bodied P f = true
          · exact next_callq (prim_call (gl := gl) hP hm hb) (by rw [hx]; simp [cls]) (by rw [hx]; simp [cls]) (by rw [hx]; rfl) hxd hv (run_call hcall) (by simpa using h3) h4 (eargs_noFlag h1) (primX_free hu) hg (primC_eq hu) hd hK
          · rcases hP.1 (f, id) hm _ _ hu G w (bs.map act.eval).toArray hg (by simp [h3]) (fun j u z h8 h9 => h4 j u z h8 (by simpa using h9)) with ⟨z, h5, h6, h7⟩ | ⟨h5, _⟩
            · obtain ⟨G', hn⟩ := next_val (hp := hp) (x := x) hv (by rw [hx]; simp [cls]) (by rw [hx]; simp [cls]) (by rw [hx]; rfl) h6 h7 hd
              exact wp_of_run (by rw [run_call hcall]; exact h5) (hxd ▸ hK _ _ _ hn)
            · exact absurd h5 hb
        · cases he
      · cases hchk
end
end Go.Proofs.YtjbgceogkgpjpaaGreatDoor.Sx
