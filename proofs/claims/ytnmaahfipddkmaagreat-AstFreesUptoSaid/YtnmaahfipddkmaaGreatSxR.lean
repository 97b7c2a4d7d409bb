/- SX, part R: any operation. -/
import Derived.Test.YtnmaahfipddkmaaGreatSxQ
import Derived.Laws.MakeOwn
set_option linter.unusedVariables false
set_option linter.unusedSimpArgs false
namespace Go.Proofs.YtnmaahfipddkmaaGreat.Sx
open Go
theorem mkBlk_new {x : XO} {hp hp' : Heap} {b : Blk} {r : Ref} (h : mkBlk hp (x.dst.getD 0) b = some (r, hp')) : r = newRef x hp := (mkBlk_facts h).2.2.1
section
variable {P : Program} {G : Gh} {w : World} {N : Nat} {x : XO} {fr : List AV} {hp : Heap} {act : Act} {o : Oper} {K : Act → World → Prop} {Q : Exit → Act → World → Prop}
  {C : CallT} {gl : Nat → List AV} {d : Nat} {v : AV} {fr1 : List AV} {hp1 : Heap} {prims : List (Nat × Nat)}
theorem op_pure {x : XOp} (hx : pureOp x = true) (hc : chkOp P prims x o = true) (he : evOp C gl d x fr hp = some (v, fr1, hp1)) (hs : ∀ t ∈ rds x, RelS G w fr act t)
    (hh : ∀ r, footR fr x r → ∀ b base blk, G.m r = some (b, base) → hget hp r = some blk → RelBlk G w r b base blk) (hg : GlOk G w gl) : OpGives P G w act o v fr fr1 hp hp1 := by
  cases x <;> (try (cases hx; done))
  case mov => exact op_mov hc he hs
  case pick => exact op_pick hc he hs
  case build => exact op_build hc he hs
  case load => exact op_load hc he hs hh hg
  case nilck => exact op_nilck hc he hs
  case bin => exact op_bin hc he hs
  case beq => exact op_beq hc he hs
  case eqnil => exact op_eqnil hc he hs
  case eqagg => exact op_eqagg hc he hs
  case neg => exact op_neg hc he hs
  case not => exact op_not hc he hs
  case conv => exact op_conv hc he hs
  case mkfn => exact op_mkfn hc he hs
  case ssl => exact op_ssl hc he hs
  case faddr => exact op_faddr hc he hs
  case iaddr => exact op_iaddr hc he hs
  case iarr => exact op_iarr hc he hs
  case idxs => exact op_idxs hc he hs
  case ext => exact op_ext hc he hs
  case lens => exact op_lens hc he hs
  case mx => exact op_mx hc he hs
theorem pure_cls {x : XOp} (hx : pureOp x = true) : cls x ≠ 2 ∧ cls x ≠ 3 ∧ mvs x = [] := by
  cases x <;> (try (cases hx; done)) <;> simp [cls, mvs]
def supOp (x : XOp) : Bool := pureOp x || (match x with
  | .own _ | .alloc _ | .box _ _ | .store _ _ _ | .callq _ _ | .callqd _ _ | .bslice _ _ _ | .thw _ | .rngs _ | .nexts _ | .ownd _ | .ownl _ | .callw _ _ | .callm _ _ _ | .clr _ _ _ | .calld _ _ | .lown _ | .app _ _ _ _ _ | .extm _ | .primm _ _ _ => true
  | _ => false)
theorem RelBlk.withO {f : Loc → Option Nat} {r : Ref} {b base : Nat} {blk : Blk} (h : RelBlk G w r b base blk) (hf : ∀ i, f (.cell r i) = G.o (.cell r i)) : RelBlk { G with o := f } w r b base blk := by
  cases blk with
  | cells vs =>
    obtain ⟨cs, T, h1, h2, h3⟩ := h
    refine ⟨cs, T, h1, h2, fun i v z hi hz => ?_⟩
    obtain ⟨h4, h5⟩ := h3 i v z hi hz
    exact ⟨h4.withO (f := f), h5.withO (hf i)⟩
  | iter s pos => exact h
theorem next_keep {v : AV} {y : Value} (hv : Valid G w N) (hs : ∀ t ∈ x.wr, x.dst ≠ some t → RelS G w fr act t) (hh : ∀ r, footR fr x.op r → ∀ b base blk, G.m r = some (b, base) → hget hp r = some blk → RelBlk G w r b base blk)
    (hd : ∀ d, x.dst = some d → d < act.tmps.size) (hr : RelV G w v y) (hno : noFlag v) : ∃ G', Next x fr hp G act w N (finX x fr v) hp G' (act.put x.dst y) w := by
  let f : Loc → Option Nat := fun l => if ∃ t, x.dst = some t ∧ l = .slot t then none else G.o l
  have hfn : ∀ l b, f l = some b → G.o l = some b := by
    intro l b h
    simp only [f] at h
    split at h
    · cases h
    · exact h
  refine ⟨{ G with o := f }, .of_same rfl rfl rfl (Nat.le_refl _) (fun _ _ => rfl) (fun _ _ => rfl) (fun _ _ h => h), ⟨hv.lev, hv.inj, hv.mkk, fun l l' b h1 h2 => hv.oinj _ _ b (hfn _ _ h1) (hfn _ _ h2), fun l b h => hv.ok _ _ (hfn _ _ h)⟩,
    put_size .., put_defers .., fun t h => put_ne _ _ _ _ h, ?_, ?_, fun l b h1 h2 => .inl ⟨l, h1, hfn _ _ h2⟩, fun _ => rfl, fun r h1 h2 => absurd h1 h2, fun r b base h1 h2 => (by rw [show G.m r = some (b, base) from h2] at h1; cases h1), fun _ _ _ _ _ => rfl, ?_⟩
  · intro t ht
    unfold RelS
    by_cases hdt : x.dst = some t
    · rw [show fget (finX x fr v) t = v by simp [finX, hdt, fget_fput], hdt, put_eq _ _ _ (hd t hdt)]
      exact ⟨hr.withO, .of_noFlag hno⟩
    · have e1 : fget (finX x fr v) t = fget fr t := by
        simp only [finX]
        split
        · rename_i d hd'; rw [fget_fput, if_neg (fun e => hdt (by rw [hd', e]))]
        · rfl
      rw [e1, put_ne _ _ _ _ hdt]
      obtain ⟨h1, h2⟩ := hs t ht hdt
      exact ⟨h1.withO, h2.withO (by simp only [f]; rw [if_neg (fun ⟨u, h3, h4⟩ => hdt (by injection h4 with h4; rw [h4]; exact h3))])⟩
  · intro l h
    simp only [f]
    rw [if_neg]
    rintro ⟨t, h1, rfl⟩
    exact h (.inl ⟨t, by simp [XO.wr, h1], rfl⟩)
  · intro _ r b base blk h1 h2 h3
    exact (hh r h1 b base blk h2 h3).withO (fun i => by simp only [f]; rw [if_neg (fun ⟨u, _, h4⟩ => by cases h4)])
theorem next_skip (hv : Valid G w N) (hs : ∀ t ∈ x.nm, RelS G w fr act t) (hh : ∀ r, footR fr x.op r → ∀ b base blk, G.m r = some (b, base) → hget hp r = some blk → RelBlk G w r b base blk)
    (hd : ∀ d, x.dst = some d → d < act.tmps.size) : ∃ G', Next x fr hp G act w N (finX x fr (.tup [])) hp G' (act.put x.dst undef) w :=
  next_keep hv (fun t ht _ => hs t (by simp [XO.nm, ht])) hh hd (.tup [] #[] rfl (by simp)) trivial
theorem wp_of_run {y : Value} {w' : World} (h : (execOp act.eval o).run P w = .ok (.value y) w') (hK : K (act.put o.dst y) w') : o.wp P act w K Q := by
  unfold Oper.wp
  rw [h]
  exact hK
theorem fillX_length : ∀ {ps : List (Nat × Nat × XArg)} {zs cs : List AV}, fillX fr ps zs = some cs → cs.length = zs.length
  | [], zs, cs, h => by simp only [fillX, Option.some.injEq] at h; rw [h]
  | (off, n, a) :: l, zs, cs, h => by
    simp only [fillX] at h
    split at h
    · rw [fillX_length h, splice_length]
    · cases h
theorem MemAt.withO {f : Loc → Option Nat} {cs : List AV} {b q : Nat} (h : MemAt G w cs b q) : MemAt { G with o := f } w cs b q := fun j v hj => by
  obtain ⟨x, h1, h2⟩ := h j v hj
  exact ⟨x, h1, h2.withO⟩
theorem bare_rel {G G' : Gh} {u : AV} {y : Value} (hb : bareV u = true) (h : RelV G w u y) : RelV G' w u y := by
  cases h <;> (try (cases hb; done))
  · exact .bool _
  · exact .int _ _
  · exact .str _
  · exact .nilptr
  · exact .nilsl
  · exact .nilif
  · exact .nilfn
theorem bare_free {u : AV} (hb : bareV u = true) : refFree u = true := by
  cases u <;> (try (cases hb; done)) <;> rfl
theorem bare_noFlag {u : AV} (hb : bareV u = true) : noFlag u := by
  cases u <;> (try (cases hb; done)) <;> trivial
theorem next_thw {s z : Nat} {es : List (List AV)} {r : Ref} {hp' : Heap} (hx : x.op = .thw s) (hv : Valid G w N) (hN : hp.length = N) (hs : RelS G w fr act s) (hes : fget fr s = .lst .uniq z es) (hz1000 : z < 1000) (hbare : es.all (fun e => e.all bareV) = true)
    (hb : mkBlk hp (x.dst.getD 0) (.cells es.flatten) = some (r, hp')) (hfresh : G.m (newRef x hp) = none) (hd : ∀ d, x.dst = some d → d < act.tmps.size) :
    ∃ G', Next x fr hp G act w N (finX x (fput fr s (.sl r z 0 es.length)) (.sl r z 0 es.length)) hp' G' (act.put x.dst (act.tmps.getD s undef)) w := by
  obtain ⟨l, t0, rfl, hrr, rfl⟩ := mkBlk_spec hb
  have hnr : newRef x (l :: t0) = r := hrr.symm
  rw [hnr] at hfresh
  have hlev : r.lev + 1 = N := by rw [hrr, ← hN]; simp
  have h2 : cls x.op = 2 := by rw [hx]; rfl
  have h3 : cls x.op ≠ 3 := by rw [h2]; decide
  obtain ⟨hr1, ho1⟩ := hs
  rw [hes] at ho1
  obtain ⟨b, o', cap, hy, hcap, hob, ⟨cs, T, fz, hc1, hc2, _⟩, _, hun⟩ := ho1.small hz1000
  obtain ⟨hkb, ⟨cs0, T0, hz0⟩, X, hz, hX⟩ := hun rfl
  rw [hz0] at hc1
  injection hc1 with hc1
  injection hc1 with e1 e2 e3
  subst e1
  have hbs := (hv.ok _ _ hob).1
  have hwr : ∀ t, t ∈ x.wr ↔ x.dst = some t ∨ t = s := by
    intro t
    cases h : x.dst <;> simp [XO.wr, hx, mvs, h, eq_comm]
  have htouch : ∀ l, Touch x fr l ↔ ∃ t, (x.dst = some t ∨ t = s) ∧ l = .slot t := by
    intro l
    constructor
    · rintro (⟨t, h, rfl⟩ | ⟨h, _⟩)
      · exact ⟨t, (hwr t).1 h, rfl⟩
      · exact absurd h h3
    · rintro ⟨t, h, rfl⟩
      exact .inl ⟨t, (hwr t).2 h, rfl⟩
  let f : Loc → Option Nat := fun l => if (∃ t, x.dst = some t ∧ l = .slot t) ∨ l = .slot s then none else G.o l
  have hfn : ∀ l c, f l = some c → G.o l = some c ∧ ¬ ((∃ t, x.dst = some t ∧ l = .slot t) ∨ l = .slot s) := by
    intro l c h
    simp only [f] at h
    split at h
    · cases h
    · exact ⟨h, by assumption⟩
  have hnb : ∀ l c, f l = some c → c ≠ b := by
    intro l c h e
    obtain ⟨h4, h5⟩ := hfn l c h
    subst e
    exact h5 (.inr (hv.oinj _ _ c h4 hob))
  have hmb : ∀ q a, G.m q = some a → a.1 ≠ b := by
    intro q a h e
    have := (hv.mkk q a h).1
    rw [e, hkb] at this
    cases this
  let G' : Gh := { m := fun q => if q = r then some (b, o') else G.m q, k := upd G.k b .mb, o := f }
  have hk : ∀ c, c ≠ b → G'.k c = G.k c := fun c hc => by simp only [G', upd]; rw [if_neg hc]
  have hkb' : G'.k b = .mb := by simp [G', upd]
  have hqr : ∀ q a, G.m q = some a → q ≠ r := fun q a h e => by rw [e, hfresh] at h; cases h
  have hst' : ∀ c, c < w.heap.size → G.k c = .st → G'.k c = .st := fun c _ h => by rw [hk c (fun e => by rw [e, hkb] at h; cases h), h]
  have hgr' : ∀ c g, c < w.heap.size → G.k c = .gr g → ∃ g', g ≤ g' ∧ G'.k c = .gr g' := fun c g _ h => ⟨g, Nat.le_refl _, by rw [hk c (fun e => by rw [e, hkb] at h; cases h), h]⟩
  have hfl := flatten_get hz
  have hroom : o' + es.length * z ≤ cs0.size := by
    have := Nat.mul_le_mul_right z hcap
    omega
  have hsl : RelV G' w (.sl r z 0 es.length) (act.tmps.getD s undef) := by
    rw [hy]
    exact .sl r z 0 es.length b o' cap (by simp [G']) hcap ⟨cs0, T0, (0, 0), hz0, by simpa using hc2⟩
  refine ⟨G', ⟨rfl, rfl, rfl, Nat.le_refl _, fun c h4 h5 => ⟨hst' c h4 h5, rfl⟩, fun c g h4 h5 => (by obtain ⟨g', h6, h7⟩ := hgr' c g h4 h5; exact ⟨g', h6, h7, fun _ _ => rfl⟩),
    fun c h4 h5 h6 h7 => ⟨hk c (fun e => h7 ⟨.slot s, (htouch _).2 ⟨s, .inr rfl, rfl⟩, by rw [e]; exact hob⟩), rfl⟩,
    fun q a h => (by simp only [G']; rw [if_neg (hqr q a h)]; exact h), fun c _ h => ⟨by rw [hk c (fun e => by rw [e, hkb] at h; cases h), h], fun ds S g hh => ⟨ds, hh, rfl⟩⟩⟩,
    ⟨?_, ?_, ?_, fun l1 l2 c g1 g2 => hv.oinj _ _ c (hfn l1 c g1).1 (hfn l2 c g2).1, fun l1 c g1 => ?_⟩, put_size .., put_defers .., fun t h => put_ne _ _ _ _ h, ?_, ?_, fun l1 c g1 g2 => .inl ⟨l1, g1, (hfn l1 c g2).1⟩, fun h => absurd h2 h, ?_, ?_, fun _ _ _ _ _ => rfl, fun h => absurd h h3⟩
  · intro q a h
    simp only [G'] at h
    split at h
    · rename_i e; rw [e]; omega
    · exact hv.lev q a h
  · intro q q' a a' h h' he
    simp only [G'] at h h'
    split at h <;> split at h'
    · rename_i e1 e2; rw [e1, e2]
    · injection h with h; subst h; exact absurd he.symm (hmb q' a' h')
    · injection h' with h'; subst h'; exact absurd he (hmb q a h)
    · exact hv.inj q q' a a' h h' he
  · intro q a h
    simp only [G'] at h
    split at h
    · injection h with h; subst h; exact ⟨hkb', hbs⟩
    · rw [hk _ (hmb q a h)]; exact hv.mkk q a h
  · rw [hk c (hnb l1 c g1)]
    exact hv.ok _ _ (hfn l1 c g1).1
  · intro t h
    unfold RelS
    by_cases hdt : x.dst = some t
    · rw [show fget (finX x (fput fr s (.sl r z 0 es.length)) (.sl r z 0 es.length)) t = .sl r z 0 es.length by simp [finX, hdt, fget_fput], hdt, put_eq _ _ _ (hd t hdt)]
      exact ⟨hsl, .of_noFlag trivial⟩
    · have hts := ((hwr t).1 h).resolve_left hdt
      subst hts
      have e1 : fget (finX x (fput fr t (.sl r z 0 es.length)) (.sl r z 0 es.length)) t = .sl r z 0 es.length := by
        simp only [finX]
        split
        · rename_i d hd'; rw [fget_fput, if_neg (fun e => hdt (by rw [hd', e])), fget_fput, if_pos rfl]
        · rw [fget_fput, if_pos rfl]
      rw [e1, put_ne _ _ _ _ hdt]
      exact ⟨hsl, .of_noFlag trivial⟩
  · intro l1 h
    show f l1 = _
    simp only [f]
    rw [if_neg (fun hh => h ((htouch l1).2 (by rcases hh with ⟨t, h8, h9⟩ | h9; exact ⟨t, .inl h8, h9⟩; exact ⟨s, .inr rfl, h9⟩)))]
  · intro q h4 h5
    have hq : q = r := by
      refine Classical.byContradiction fun hne => h5 ?_
      simp only [G']
      rw [if_neg hne]
      exact h4
    subst hq
    refine ⟨h2, hnr.symm, (by rw [hrr]; simp [hget, lget_lput]), fun c base blk h6 h7 => ?_⟩
    simp only [G', if_true] at h6
    injection h6 with h6
    injection h6 with h6 h8
    subst h6 h8
    have : blk = .cells es.flatten := by
      rw [hrr] at h7
      simp only [hget, if_true, lget_lput] at h7
      injection h7 with h7
      exact h7.symm
    subst this
    refine ⟨cs0, T0, hz0, by rw [hfl.1]; exact hroom, fun i u v hi hv' => ?_⟩
    have hi' := (List.getElem?_eq_some_iff.1 hi).1
    rw [hfl.1] at hi'
    have hzp : 0 < z := Nat.pos_of_ne_zero (fun e => by rw [e] at hi'; simp at hi')
    have hij : i = i / z * z + i % z := by rw [Nat.mul_comm]; exact (Nat.div_add_mod i z).symm
    rw [hij] at hi
    rw [hfl.2 _ _ (Nat.mod_lt _ hzp)] at hi
    cases hei : es[i / z]? with
    | none => rw [hei] at hi; simp at hi
    | some e =>
      rw [hei] at hi
      simp only [Option.bind_some] at hi
      obtain ⟨_, h9, h10⟩ := hX _ e _ u hei hi
      have hbu : bareV u = true := List.all_eq_true.1 (List.all_eq_true.1 hbare e (List.mem_of_getElem? hei)) u (List.mem_of_getElem? hi)
      have hvx : v = X (i / z) (i % z) := by
        rw [show o' + i / z * z + i % z = o' + i by omega] at h9
        simp [World.cell?, hz0, hv'] at h9
        exact h9
      rw [hvx]
      exact ⟨bare_rel hbu h10, .of_noFlag (bare_noFlag hbu)⟩
  · intro q c base h4 h5 h6
    simp only [G'] at h5
    split at h5
    · injection h5 with h5; injection h5 with h5 _; subst h5; rw [hkb] at h6; cases h6.2
    · rw [h4] at h5; cases h5
theorem next_ownd {s z : Nat} {es : List (List AV)} (hx : x.op = .ownd s) (hv : Valid G w N) (hs : RelS G w fr act s) (hes : fget fr s = .lst .uniq z es) (hz1000 : z < 1000) (hd : ∀ d, x.dst = some d → d < act.tmps.size) :
    ∃ G', Next x fr hp G act w N (finX x (drop1 fr (.tmp s)) (.lst .own z es)) hp G' (act.put x.dst (act.tmps.getD s undef)) w := by
  have h2 : cls x.op ≠ 2 := by rw [hx]; simp [cls]
  have h3 : cls x.op ≠ 3 := by rw [hx]; simp [cls]
  obtain ⟨hr1, ho1⟩ := hs
  rw [hes] at ho1
  obtain ⟨b, o', cap, hy, hcap, hob, hroom, _, hun⟩ := ho1.small hz1000
  obtain ⟨hkb, ⟨cs0, T0, hz0⟩, X, hz, hX⟩ := hun rfl
  have hbs := (hv.ok _ _ hob).1
  have hwr : ∀ t, t ∈ x.wr ↔ x.dst = some t ∨ t = s := by
    intro t
    cases h : x.dst <;> simp [XO.wr, hx, mvs, h, eq_comm]
  have htouch : ∀ l, Touch x fr l ↔ ∃ t, (x.dst = some t ∨ t = s) ∧ l = .slot t := by
    intro l
    constructor
    · rintro (⟨t, h, rfl⟩ | ⟨h, _⟩)
      · exact ⟨t, (hwr t).1 h, rfl⟩
      · exact absurd h h3
    · rintro ⟨t, h, rfl⟩
      exact .inl ⟨t, (hwr t).2 h, rfl⟩
  let f : Loc → Option Nat := fun l => if ∃ t, x.dst = some t ∧ l = .slot t then G.o (.slot s) else if l = .slot s then none else G.o l
  have hf : ∀ l b, f l = some b → ∃ l', G.o l' = some b ∧ (l' = l ∧ ¬ (∃ t, x.dst = some t ∧ l = .slot t) ∧ l ≠ .slot s ∨ l' = .slot s ∧ ∃ t, x.dst = some t ∧ l = .slot t) := by
    intro l b h
    simp only [f] at h
    split at h
    · rename_i h1; exact ⟨_, h, .inr ⟨rfl, h1⟩⟩
    · split at h
      · cases h
      · rename_i h1 h2; exact ⟨_, h, .inl ⟨rfl, h1, h2⟩⟩
  have hmb : ∀ q a, G.m q = some a → a.1 ≠ b := by
    intro q a h e
    have := (hv.mkk q a h).1
    rw [e, hkb] at this
    cases this
  let G' : Gh := { m := G.m, k := upd G.k b (.gr (o' + es.length * z)), o := f }
  have hk : ∀ c, c ≠ b → G'.k c = G.k c := fun c hc => by simp only [G', upd]; rw [if_neg hc]
  have hkb' : G'.k b = .gr (o' + es.length * z) := by simp [G', upd]
  have hst' : ∀ c, c < w.heap.size → G.k c = .st → G'.k c = .st := fun c _ h => by rw [hk c (fun e => by rw [e, hkb] at h; cases h), h]
  have hgr' : ∀ c g, c < w.heap.size → G.k c = .gr g → ∃ g', g ≤ g' ∧ G'.k c = .gr g' := fun c g _ h => ⟨g, Nat.le_refl _, by rw [hk c (fun e => by rw [e, hkb] at h; cases h), h]⟩
  refine ⟨G', ⟨rfl, rfl, rfl, Nat.le_refl _, fun c h4 h5 => ⟨hst' c h4 h5, rfl⟩, fun c g h4 h5 => (by obtain ⟨g', h6, h7⟩ := hgr' c g h4 h5; exact ⟨g', h6, h7, fun _ _ => rfl⟩),
    fun c h4 h5 h6 h7 => ⟨hk c (fun e => h7 ⟨.slot s, (htouch _).2 ⟨s, .inr rfl, rfl⟩, by rw [e]; exact hob⟩), rfl⟩,
    fun q a h => h, fun c _ h => ⟨by rw [hk c (fun e => by rw [e, hkb] at h; cases h), h], fun ds S g hh => ⟨ds, hh, rfl⟩⟩⟩,
    ⟨hv.lev, hv.inj, fun q a h => (by rw [hk _ (hmb q a h)]; exact hv.mkk q a h), ?_, ?_⟩, put_size .., put_defers .., fun t h => put_ne _ _ _ _ h, ?_, ?_, ?_, fun _ => rfl, fun q h4 h5 => absurd h4 h5, fun r c base h1 h2 => (by rw [show G.m r = some (c, base) from h2] at h1; cases h1), fun _ _ _ _ _ => rfl, fun h => absurd h h3⟩
  · intro l l' c h1 h2
    obtain ⟨l1, h4, h5⟩ := hf l c h1
    obtain ⟨l2, h6, h7⟩ := hf l' c h2
    have := hv.oinj _ _ c h4 h6
    subst this
    rcases h5 with ⟨rfl, h8, h9⟩ | ⟨rfl, t, h8, rfl⟩ <;> rcases h7 with ⟨h10, h11, h12⟩ | ⟨h10, u, h11, rfl⟩
    · exact h10
    · exact absurd h10 h9
    · exact absurd h10.symm h12
    · rw [h8] at h11; injection h11 with h11; rw [h11]
  · intro l c h1
    obtain ⟨l1, h4, h5⟩ := hf l c h1
    refine ⟨(hv.ok _ _ h4).1, ?_⟩
    by_cases e : c = b
    · rw [e, hkb']; exact .inl ⟨_, rfl⟩
    · rw [hk c e]; exact (hv.ok _ _ h4).2
  · intro t h
    unfold RelS
    by_cases hdt : x.dst = some t
    · rw [show fget (finX x (drop1 fr (.tmp s)) (.lst .own z es)) t = .lst .own z es by simp [finX, hdt, fget_fput], hdt, put_eq _ _ _ (hd t hdt), hy]
      refine ⟨.lst .own z es b o' cap X (by simp) hcap (by simp) ⟨hbs, .inr ⟨_, hkb', Nat.le_refl _⟩⟩ hz (fun i e j u hi hj => (hX i e j u hi hj).1) (fun i e j u hi hj => (hX i e j u hi hj).2.1) (fun i e j u hi hj => ?_), ?_⟩
      · obtain ⟨g1, _, g3⟩ := hX i e j u hi hj
        exact g3.noRef2 hst' hgr' g1
      · exact ⟨b, o', cap, rfl, hcap, by simp only [G', f]; rw [if_pos ⟨t, hdt, rfl⟩]; exact hob, hroom, fun _ => hkb', fun h => by cases h⟩
    · have hts := ((hwr t).1 h).resolve_left hdt
      subst hts
      have e1 : fget (finX x (drop1 fr (.tmp t)) (.lst .own z es)) t = .undef := by
        have e0 : fget (drop1 fr (.tmp t)) t = .undef := by simp [drop1, hes, fget_fput]
        simp only [finX]
        split
        · rename_i d hd'; rw [fget_fput, if_neg (fun e => hdt (by rw [hd', e])), e0]
        · exact e0
      rw [e1]
      exact ⟨.undef _, .of_noFlag trivial⟩
  · intro l h
    show f l = _
    simp only [f]
    rw [if_neg (fun ⟨t, h1, h2⟩ => h ((htouch l).2 ⟨t, .inl h1, h2⟩)), if_neg (fun h1 => h ((htouch l).2 ⟨s, .inr rfl, h1⟩))]
  · intro l c h h1
    obtain ⟨l1, h4, h5⟩ := hf l c h1
    refine .inl ⟨l1, ?_, h4⟩
    rcases h5 with ⟨rfl, h8, h9⟩ | ⟨rfl, t, h8, rfl⟩
    · exact h
    · exact (htouch _).2 ⟨s, .inr rfl, rfl⟩
theorem step_ownd {s : Nat} (hx : x.op = .ownd s) (hchk : chkOp P prims (.ownd s) o = true) (hxd : x.dst = o.dst) (hd : ∀ d, x.dst = some d → d < act.tmps.size)
    (he : evOp C gl (x.dst.getD 0) (.ownd s) fr hp = some (v, fr1, hp1)) (hv : Valid G w N) (hs : ∀ t ∈ rds (.ownd s), RelS G w fr act t)
    (hK : ∀ G' act' w', Next x fr hp G act w N (finX x fr1 v) hp1 G' act' w' → K act' w') : o.wp P act w K Q := by
  have ho : o.op = .move (.tmp s) ∨ o.op = .assign (.tmp s) := by
    simp only [chkOp] at hchk
    split at hchk
    · rename_i t ho; simp at hchk; subst hchk; exact .inl ho
    · rename_i t ho; simp at hchk; subst hchk; exact .inr ho
    · cases hchk
  simp only [evOp] at he
  have hss := hs s (by simp [rds])
  split at he
  · rename_i z es hes
    split at he
    · rename_i hz1000
      simp only [Option.some.injEq, Prod.mk.injEq] at he
      obtain ⟨rfl, rfl, rfl⟩ := he
      obtain ⟨G', hn⟩ := next_ownd (hp := hp) hx hv hss hes hz1000 hd
      exact wp_of_run (gives_own ho) (hxd ▸ hK _ _ _ hn)
    · cases he
  · simp only [Option.some.injEq, Prod.mk.injEq] at he
    obtain ⟨rfl, rfl, rfl⟩ := he
    obtain ⟨G', hn⟩ := next_own (hp := hp) (by rw [hx]; rfl) (by rw [hx]; simp [cls]) (by rw [hx]; simp [cls]) hv hss hd
    exact wp_of_run (gives_own ho) (hxd ▸ hK _ _ _ hn)
theorem step_ownl {s : Nat} (hx : x.op = .ownl s) (hchk : chkOp P prims (.ownl s) o = true) (hxd : x.dst = o.dst) (hd : ∀ d, x.dst = some d → d < act.tmps.size)
    (he : evOp C gl (x.dst.getD 0) (.ownl s) fr hp = some (v, fr1, hp1)) (hv : Valid G w N) (hs : ∀ t ∈ rds (.ownl s), RelS G w fr act t)
    (hK : ∀ G' act' w', Next x fr hp G act w N (finX x fr1 v) hp1 G' act' w' → K act' w') : o.wp P act w K Q := by
  have ho : o.op = .move (.tmp s) ∨ o.op = .assign (.tmp s) := by
    simp only [chkOp] at hchk
    split at hchk
    · rename_i t ho; simp at hchk; subst hchk; exact .inl ho
    · rename_i t ho; simp at hchk; subst hchk; exact .inr ho
    · cases hchk
  simp only [evOp] at he
  have hss := hs s (by simp [rds])
  split at he
  · rename_i z es hes
    split at he
    · rename_i hz1000
      simp only [Option.some.injEq, Prod.mk.injEq] at he
      obtain ⟨rfl, rfl, rfl⟩ := he
      obtain ⟨a, cap, hy⟩ := slot_slice hss hes (decide_eq_true hz1000)
      have h1 := hss.1
      have h2 := hss.2
      rw [hes] at h1 h2
      obtain ⟨G', hn⟩ := next_move (hp := hp) (vs := .lenv es.length) (by rw [hx]; rfl) (by rw [hx]; simp [cls]) (by rw [hx]; simp [cls]) hv h1 h2 (by rw [hy]; exact .lenv _ _ _) trivial hd
      exact wp_of_run (gives_own ho) (hxd ▸ hK _ _ _ hn)
    · cases he
  · simp only [Option.some.injEq, Prod.mk.injEq] at he
    obtain ⟨rfl, rfl, rfl⟩ := he
    obtain ⟨G', hn⟩ := next_own (hp := hp) (by rw [hx]; rfl) (by rw [hx]; simp [cls]) (by rw [hx]; simp [cls]) hv hss hd
    exact wp_of_run (gives_own ho) (hxd ▸ hK _ _ _ hn)
theorem step_extm {s : Nat} (hx : x.op = .extm s) (hchk : chkOp P prims (.extm s) o = true) (hxd : x.dst = o.dst) (hd : ∀ d, x.dst = some d → d < act.tmps.size)
    (he : evOp C gl (x.dst.getD 0) (.extm s) fr hp = some (v, fr1, hp1)) (hv : Valid G w N) (hs : ∀ t ∈ rds (.extm s), RelS G w fr act t)
    (hK : ∀ G' act' w', Next x fr hp G act w N (finX x fr1 v) hp1 G' act' w' → K act' w') : o.wp P act w K Q := by
  have hm : mvs x.op = [s] := by rw [hx]; rfl
  have c2 : cls x.op ≠ 2 := by rw [hx]; simp [cls]
  have c3 : cls x.op ≠ 3 := by rw [hx]; simp [cls]
  simp only [chkOp] at hchk
  split at hchk
  · rename_i t j ho
    simp only [Bool.and_eq_true, beq_iff_eq] at hchk
    obtain ⟨rfl, rfl⟩ := hchk
    obtain ⟨hr1, ho1⟩ := hs s (by simp [rds])
    have go : ∀ (xs : Array Value) (y : Value), act.tmps.getD s undef = .tuple xs → xs[0]? = some y → (execOp act.eval o).run P w = .ok (.value y) w := by
      intro xs y h1 h2
      have e0 : act.eval (.tmp s) = act.tmps.getD s undef := rfl
      simp [execOp, ho, e0, h1, Instr.extract, h2]
    simp only [evOp] at he
    split at he
    · rename_i z cs es hf
      split at he
      · rename_i hz
        simp only [Option.some.injEq, Prod.mk.injEq] at he
        obtain ⟨rfl, rfl, rfl⟩ := he
        rw [hf] at ho1
        obtain ⟨z', es', x', hvv, hc⟩ := ho1
        rcases hvv with ⟨h1, _⟩ | ⟨_, hz2, cs2, xs, h3, h4, h5, h6, h7, h8⟩
        · exact absurd h1 (by omega)
        · rw [hz2] at hc
          injection h3 with h3a h3b
          subst h3a h3b
          obtain ⟨G', hn⟩ := next_move (x := x) (hp := hp) (fr := fr) (act := act) (vs := .tup (.undef :: cs)) hm c2 c3 hv (.uniq _ _ _) (OwnOk.mk_small (by omega) hc) (by
            rw [h4]
            refine .tup _ _ (by simp [h6]) fun j c y hj hy => ?_
            cases j with
            | zero => simp at hj; subst hj; exact .undef _
            | succ j => exact (h8 j c y (by simpa using hj) hy).2) trivial hd
          exact wp_of_run (go xs x' h4 h5) (hxd ▸ hK _ _ _ hn)
      · cases he
    · rename_i c cs hf
      simp only [Option.some.injEq, Prod.mk.injEq] at he
      obtain ⟨rfl, rfl, rfl⟩ := he
      rw [hf] at hr1
      generalize hyy : act.tmps.getD s undef = yy at hr1
      cases hr1 with
      | tup _ xs hl hr =>
        have hlt : 0 < xs.size := by rw [← hl]; simp
        have h0 := hr 0 c xs[0] rfl (by simp [hlt])
        obtain ⟨G', hn⟩ := next_move (x := x) (hp := hp) (fr := fr) (act := act) (vs := .tup (c :: cs)) hm c2 c3 hv h0.uf (.of_noFlag (noFlag_uf c)) (by rw [hyy]; exact .tup _ xs hl hr) trivial hd
        exact wp_of_run (go xs _ hyy (by simp [hlt])) (hxd ▸ hK _ _ _ hn)
    · cases he
  · cases hchk
def demC (C : CallT) : CallT := fun f as hp => match C f as hp with | some (v, hp') => some (demV v, hp') | none => none
theorem callOk_dem {P : Program} {gl : Nat → List AV} {C : CallT} (hC : CallOk P gl C) : CallOk P gl (demC C) := by
  intro f args hp v hp' hc G w xs hV hlen hr hH hG
  unfold demC at hc
  cases hq : C f args hp with
  | none => simp [hq] at hc
  | some q =>
    obtain ⟨v0, hp0⟩ := q
    simp only [hq, Option.some.injEq, Prod.mk.injEq] at hc
    obtain ⟨rfl, rfl⟩ := hc
    obtain ⟨hb, hcalls⟩ := hC f args hp v0 hp0 hq G w xs hV hlen hr hH hG
    refine ⟨hb, Calls.mono hcalls ?_⟩
    rintro e w' ⟨z, G1, rfl, hE, hV1, hR, hO, hH1, hM, hOn⟩
    by_cases hu : ∃ zz es, v0 = .lst .uniq zz es
    · obtain ⟨zz, es, rfl⟩ := hu
      by_cases hz1000 : zz < 1000
      case neg =>
        have e : demV (.lst .uniq zz es) = .undef := by simp only [demV]; rw [if_neg hz1000]
        rw [e]
        exact ⟨z, G1, rfl, hE, hV1, .undef _, .of_noFlag trivial, hH1, hM, hOn⟩
      have hdem : demV (.lst .uniq zz es) = .lst .own zz es := by simp only [demV]; rw [if_pos hz1000]
      rw [hdem]
      obtain ⟨b, o', cap, hy, hcap, hob, hroom, _, hun⟩ := hO.small hz1000
      obtain ⟨hkb, ⟨cs0, T0, hz0⟩, X, hz, hX⟩ := hun rfl
      have hbs := (hV1.ok _ _ hob).1
      have hmb : ∀ q a, G1.m q = some a → a.1 ≠ b := by
        intro q a h e
        have := (hV1.mkk q a h).1
        rw [e, hkb] at this
        cases this
      let G' : Gh := { m := G1.m, k := upd G1.k b (.gr (o' + es.length * zz)), o := G1.o }
      have hk : ∀ c, c ≠ b → G'.k c = G1.k c := fun c hc => by simp only [G', upd]; rw [if_neg hc]
      have hkb' : G'.k b = .gr (o' + es.length * zz) := by simp [G', upd]
      have hst' : ∀ c, c < w'.heap.size → G1.k c = .st → G'.k c = .st := fun c _ h => by rw [hk c (fun e => by rw [e, hkb] at h; cases h), h]
      have hgr' : ∀ c g, c < w'.heap.size → G1.k c = .gr g → ∃ g', g ≤ g' ∧ G'.k c = .gr g' := fun c g _ h => ⟨g, Nat.le_refl _, by rw [hk c (fun e => by rw [e, hkb] at h; cases h), h]⟩
      have hE2 : Ext (fun c => c = b) G1 w' G' w' := ⟨rfl, rfl, rfl, Nat.le_refl _, fun c h4 h5 => ⟨hst' c h4 h5, rfl⟩, fun c g h4 h5 => (by obtain ⟨g', h6, h7⟩ := hgr' c g h4 h5; exact ⟨g', h6, h7, fun _ _ => rfl⟩),
        fun c h4 h5 h6 h7 => ⟨hk c h7, rfl⟩, fun q a h => h, fun c _ h => ⟨by rw [hk c (fun e => by rw [e, hkb] at h; cases h), h], fun ds S g hh => ⟨ds, hh, rfl⟩⟩⟩
      refine ⟨z, G', rfl, hE.trans hE2 (fun c hcs e => ?_), ⟨hV1.lev, hV1.inj, fun q a h => (by rw [hk _ (hmb q a h)]; exact hV1.mkk q a h), hV1.oinj, fun l c h => ⟨(hV1.ok l c h).1, ?_⟩⟩, ?_, ?_, ?_, hM, hOn⟩
      · subst e
        rcases hOn _ _ hob with h | h
        · exact h
        · omega
      · by_cases e : c = b
        · rw [e, hkb']; exact .inl ⟨_, rfl⟩
        · rw [hk c e]; exact (hV1.ok _ _ h).2
      · show RelV G' w' (.lst .own zz es) z
        rw [hy]
        refine .lst .own zz es b o' cap X (by simp) hcap (by simp) ⟨hbs, .inr ⟨_, hkb', Nat.le_refl _⟩⟩ hz (fun i e j u hi hj => (hX i e j u hi hj).1) (fun i e j u hi hj => (hX i e j u hi hj).2.1) (fun i e j u hi hj => ?_)
        obtain ⟨g1, _, g3⟩ := hX i e j u hi hj
        exact g3.noRef2 hst' hgr' g1
      · show OwnOk G' w' .res (.lst .own zz es) z
        exact ⟨b, o', cap, hy, hcap, hob, hroom, fun _ => hkb', fun h => by cases h⟩
      · intro q c base blk h1 h2
        have h3 := hH1 q c base blk h1 h2
        cases blk with
        | cells vs =>
          obtain ⟨cs, T, g1, g2, g3⟩ := h3
          refine ⟨cs, T, g1, g2, fun i u x hi hx => ?_⟩
          obtain ⟨g4, g5⟩ := g3 i u x hi hx
          refine ⟨RelV.mapG (G := G1.below (q.lev + 1)) (G' := G'.below (q.lev + 1)) (fun _ _ h => h) hst' hgr' g4, ?_⟩
          refine g5.mapG hst' hgr' fun c2 hc2 => ⟨hc2, hk c2 (fun e => ?_)⟩
          subst e
          have := hV1.oinj _ _ _ hob hc2
          cases this
        | iter s pos => exact h3
    · have hd : demV v0 = v0 ∨ ∃ zz es, v0 = .lst .tight zz es := by
        cases v0 with
        | lst o zz es => cases o <;> first | exact .inl rfl | exact absurd ⟨zz, es, rfl⟩ hu | exact .inr ⟨zz, es, rfl⟩
        | _ => exact .inl rfl
      rcases hd with hd | ⟨zz, es, rfl⟩
      · rw [hd]
        exact ⟨z, G1, rfl, hE, hV1, hR, hO, hH1, hM, hOn⟩
      · refine ⟨z, G1, rfl, hE, hV1, ?_, .of_noFlag trivial, hH1, hM, hOn⟩
        show RelV G1 w' (.lst .none zz es) z
        cases hR with
        | lst ow z0 es0 b o cap X hu0 hl ht hc hz hf hx hr => exact .lst .none zz es b o cap X (by simp) hl (by simp) hc hz hf hx hr
def cellG (G : Gh) : Gh := { G with o := fun l => match l with | .cell r i => G.o (.cell r i) | _ => none }
theorem next_callw {f : Nat} {zs : List Value} {vs : List AV} (hC : CallOk P gl C) (h3 : cls x.op = 3) (hft : ∀ r, footR fr x.op r) (hm : mvs x.op = []) (hxd : x.dst = o.dst) (hv : Valid G w N) (hN : hp.length = N)
    (hrun : (execOp act.eval o).run P w = (callFunc f zs.toArray).run P w) (hlen : vs.length = zs.length)
    (hrel : ∀ (j : Nat) (u : AV) (z : Value), vs[j]? = some u → zs[j]? = some z → RelV G w u z) (hnf : ∀ u ∈ vs, noFlag u)
    (hh : ∀ r, footR fr x.op r → ∀ b base blk, G.m r = some (b, base) → hget hp r = some blk → RelBlk G w r b base blk) (hgl : GlOk G w gl) (hc : C f vs hp = some (v, hp1)) (hd : ∀ d, x.dst = some d → d < act.tmps.size)
    (hK : ∀ G' act' w', Next x fr hp G act w N (finX x fr v) hp1 G' act' w' → K act' w') : o.wp P act w K Q := by
  have hco : ∀ l b, (cellG G).o l = some b → ∃ r i, l = .cell r i ∧ G.o (.cell r i) = some b := by
    intro l b h
    cases l with
    | slot t => cases h
    | res => cases h
    | cell r i => exact ⟨r, i, rfl, h⟩
  have hv0 : Valid (cellG G) w hp.length := by
    rw [hN]
    refine ⟨hv.lev, hv.inj, hv.mkk, fun l l' b h1 h2 => ?_, fun l b h => ?_⟩
    · obtain ⟨r, i, rfl, h3⟩ := hco l b h1
      obtain ⟨q, j, rfl, h4⟩ := hco l' b h2
      exact hv.oinj _ _ b h3 h4
    · obtain ⟨r, i, rfl, h3⟩ := hco l b h
      exact hv.ok _ b h3
  have hcall := hC f vs hp v hp1 hc (cellG G) w zs.toArray hv0 (by simp [hlen]) ?_ ?_ ?_
  unfold Oper.wp
  rw [hrun, run_enter hcall.1]
  show Calls P f _ w _
  refine Calls.mono hcall.2 ?_
  rotate_left
  · intro j u z hu hz
    exact ⟨(hrel j u z hu (by simpa using hz)).withO, .of_noFlag (hnf u (List.mem_of_getElem? hu))⟩
  · intro r b base blk h1 h2
    exact (hh r (hft r) b base blk h1 h2).withO (fun _ => rfl)
  · intro g
    rcases hgl g with h | ⟨h1, h2, h4, h5, h6⟩
    · exact .inl h
    · exact .inr ⟨h1, h2, h4, h5.withO, h6⟩
  · rintro e w' ⟨z, G1, rfl, hE, hV, hR, hO, hH, hM, hOn⟩
    show K (act.put o.dst z) w'
    rw [← hxd]
    have hM' : G1.m = G.m := hM
    have hwr : ∀ t, t ∈ x.wr ↔ x.dst = some t := by
      intro t
      cases h : x.dst <;> simp [XO.wr, hm, h, eq_comm]
    have htc : ∀ r i, Touch x fr (.cell r i) := fun r i => .inr ⟨h3, r, i, hft r, rfl⟩
    let g : Loc → Option Nat := fun l => match l with
      | .slot t => if x.dst = some t then G1.o .res else G.o (.slot t)
      | .cell r i => G1.o (.cell r i)
      | .res => G.o .res
    -- owners behind the call: of the call's own, or as before
    have hg : ∀ l b, g l = some b → (∃ l', G1.o l' = some b ∧ ((l' = .res ∧ ∃ t, x.dst = some t ∧ l = .slot t) ∨ (l' = l ∧ ∃ r i, l = .cell r i))) ∨ (G.o l = some b ∧ ((∃ t, l = .slot t ∧ x.dst ≠ some t) ∨ l = .res)) := by
      intro l b h
      cases l with
      | slot t =>
        simp only [g] at h
        split at h
        · rename_i e; exact .inl ⟨_, h, .inl ⟨rfl, t, e, rfl⟩⟩
        · rename_i e; exact .inr ⟨h, .inl ⟨t, rfl, e⟩⟩
      | cell r i => exact .inl ⟨_, h, .inr ⟨rfl, r, i, rfl⟩⟩
      | res => exact .inr ⟨h, .inr rfl⟩
    have hdis : ∀ l1 l2 b, G1.o l1 = some b → G.o l2 = some b → (∃ r i, l2 = .cell r i) := by
      intro l1 l2 b h1 h2
      rcases hOn l1 b h1 with ⟨l', h4⟩ | h4
      · obtain ⟨r, i, rfl, h5⟩ := hco l' b h4
        exact ⟨r, i, hv.oinj _ _ b h2 h5⟩
      · have := (hv.ok _ _ h2).1; omega
    have hA : ∀ b, (∃ l, (cellG G).o l = some b) → ∃ l, Touch x fr l ∧ G.o l = some b := by
      rintro b ⟨l, h⟩
      obtain ⟨r, i, rfl, h5⟩ := hco l b h
      exact ⟨_, htc r i, h5⟩
    refine hK { G1 with o := g } _ _ ⟨⟨hE.os, hE.tape, hE.output, hE.size, hE.st, hE.gr, fun b h1 h2 h4 h5 => hE.keep b h1 h2 h4 (fun h => h5 (hA b h)), hE.mm, hE.mb⟩, ⟨fun r a h => ?_, hV.inj, hV.mkk, ?_, ?_⟩, put_size .., put_defers .., fun t h => put_ne _ _ _ _ h, ?_, ?_, ?_,
      fun _ => hM', fun r h1 h2 => absurd (show G1.m r = none by rw [hM', h1]) h2, fun r b base h1 h2 => (by have h2' : G1.m r = some (b, base) := h2; rw [hM', h1] at h2'; cases h2'), fun r b base _ h2 => absurd ⟨h3, hft r⟩ h2, fun _ r b base blk _ h1 h2 => (hH r b base blk h1 h2).withO (fun _ => rfl)⟩
    · have := hV.lev r a h; rw [hN] at this; exact this
    · intro l1 l2 b h1 h2
      rcases hg l1 b h1 with ⟨l1', h4, h5⟩ | ⟨h4, h5⟩ <;> rcases hg l2 b h2 with ⟨l2', h6, h7⟩ | ⟨h6, h7⟩
      · have := hV.oinj _ _ b h4 h6
        subst this
        rcases h5 with ⟨rfl, t, h8, rfl⟩ | ⟨rfl, r, i, rfl⟩ <;> rcases h7 with ⟨h9, u, h10, rfl⟩ | ⟨h9, q, j, h10⟩
        · rw [h8] at h10; injection h10 with h10; rw [h10]
        · rw [← h9] at h10; cases h10
        · cases h9
        · exact h9
      · obtain ⟨r, i, e⟩ := hdis _ _ b h4 h6
        rcases h7 with ⟨t, h7, _⟩ | h7 <;> rw [h7] at e <;> cases e
      · obtain ⟨r, i, e⟩ := hdis _ _ b h6 h4
        rcases h5 with ⟨t, h5, _⟩ | h5 <;> rw [h5] at e <;> cases e
      · exact hv.oinj _ _ b h4 h6
    · intro l b h1
      rcases hg l b h1 with ⟨l', h4, _⟩ | ⟨h4, h5⟩
      · exact hV.ok _ _ h4
      · have h6 := hv.ok _ _ h4
        have hnot : ¬ ∃ l, (cellG G).o l = some b := by
          rintro ⟨l', h7⟩
          obtain ⟨r, i, rfl, h8⟩ := hco l' b h7
          have := hv.oinj _ _ b h4 h8
          rcases h5 with ⟨t, h5, _⟩ | h5 <;> rw [h5] at this <;> cases this
        have hk : (cellG G).k b ≠ .st ∧ (cellG G).k b ≠ .mb := by
          rcases h6.2 with ⟨k, h7⟩ | h7 <;> exact ⟨by rw [show (cellG G).k b = G.k b from rfl, h7]; simp, by rw [show (cellG G).k b = G.k b from rfl, h7]; simp⟩
        obtain ⟨h8, _⟩ := hE.keep b h6.1 hk.1 hk.2 hnot
        refine ⟨Nat.lt_of_lt_of_le h6.1 hE.size, ?_⟩
        show (∃ f, G1.k b = .gr f) ∨ G1.k b = .un
        rw [h8]
        exact h6.2
    · intro t h
      have hdt := (hwr t).1 h
      unfold RelS
      rw [show fget (finX x fr v) t = v by simp [finX, hdt, fget_fput], hdt, put_eq _ _ _ (hd t hdt)]
      exact ⟨hR.withO, hO.withO (by simp only [g]; rw [if_pos hdt])⟩
    · intro l h
      cases l with
      | slot t =>
        show g (.slot t) = _
        simp only [g]
        rw [if_neg (fun e => h (.inl ⟨t, (hwr t).2 e, rfl⟩))]
      | cell r i => exact absurd (htc r i) h
      | res => rfl
    · intro l b h h1
      rcases hg l b h1 with ⟨l', h4, _⟩ | ⟨h4, h5⟩
      · rcases hOn l' b h4 with h6 | h6
        · exact .inl (hA b h6)
        · exact .inr h6
      · exact .inl ⟨l, h, h4⟩
def moveG (G : Gh) (s : Nat) : Gh := { G with o := fun l => match l with | .cell r i => G.o (.cell r i) | .slot 0 => G.o (.slot s) | _ => none }
theorem next_callm {f s : Nat} {zs : List Value} {vs : List AV} (hC : CallOk P gl C) (h3 : cls x.op = 3) (hft : ∀ r, footR fr x.op r) (hm : mvs x.op = [s]) (hxd : x.dst = o.dst) (hv : Valid G w N) (hN : hp.length = N)
    (hrun : (execOp act.eval o).run P w = (callFunc f (act.tmps.getD s undef :: zs).toArray).run P w) (hlen : vs.length = zs.length)
    (hrel : ∀ (j : Nat) (u : AV) (z : Value), vs[j]? = some u → zs[j]? = some z → RelV G w u z) (hnf : ∀ u ∈ vs, noFlag u) (hsl : RelS G w fr act s)
    (hh : ∀ r, footR fr x.op r → ∀ b base blk, G.m r = some (b, base) → hget hp r = some blk → RelBlk G w r b base blk) (hgl : GlOk G w gl) (hc : C f (fget fr s :: vs) hp = some (v, hp1)) (hd : ∀ d, x.dst = some d → d < act.tmps.size)
    (hK : ∀ G' act' w', Next x fr hp G act w N (finX x (drop1 fr (.tmp s)) v) hp1 G' act' w' → K act' w') : o.wp P act w K Q := by
  have hco : ∀ l b, (moveG G s).o l = some b → (∃ r i, l = .cell r i ∧ G.o (.cell r i) = some b) ∨ (l = .slot 0 ∧ G.o (.slot s) = some b) := by
    intro l b h
    cases l with
    | slot t =>
      cases t with
      | zero => exact .inr ⟨rfl, h⟩
      | succ t => cases h
    | res => cases h
    | cell r i => exact .inl ⟨r, i, rfl, h⟩
  have hv0 : Valid (moveG G s) w hp.length := by
    rw [hN]
    refine ⟨hv.lev, hv.inj, hv.mkk, fun l l' b h1 h2 => ?_, fun l b h => ?_⟩
    · rcases hco l b h1 with ⟨r, i, rfl, h3⟩ | ⟨rfl, h3⟩ <;> rcases hco l' b h2 with ⟨q, j, rfl, h4⟩ | ⟨rfl, h4⟩
      · exact hv.oinj _ _ b h3 h4
      · exact absurd (hv.oinj _ _ b h3 h4) (by simp)
      · exact absurd (hv.oinj _ _ b h3 h4) (by simp)
      · rfl
    · rcases hco l b h with ⟨r, i, rfl, h3⟩ | ⟨rfl, h3⟩
      · exact hv.ok _ b h3
      · exact hv.ok _ b h3
  have hcall := hC f (fget fr s :: vs) hp v hp1 hc (moveG G s) w (act.tmps.getD s undef :: zs).toArray hv0 (by simp [hlen]) ?_ ?_ ?_
  unfold Oper.wp
  rw [hrun, run_enter hcall.1]
  show Calls P f _ w _
  refine Calls.mono hcall.2 ?_
  rotate_left
  · intro j u z hu hz
    cases j with
    | zero =>
      have hu' : u = fget fr s := by simpa using hu.symm
      have hz' : z = act.tmps.getD s undef := by simpa using hz.symm
      rw [hu', hz']
      exact ⟨hsl.1.withO, hsl.2.withO rfl⟩
    | succ j => exact ⟨(hrel j u z (by simpa using hu) (by simpa using hz)).withO, .of_noFlag (hnf u (List.mem_of_getElem? (by simpa using hu)))⟩
  · intro r b base blk h1 h2
    exact (hh r (hft r) b base blk h1 h2).withO (fun _ => rfl)
  · intro g
    rcases hgl g with h | ⟨h1, h2, h4, h5, h6⟩
    · exact .inl h
    · exact .inr ⟨h1, h2, h4, h5.withO, h6⟩
  · rintro e w' ⟨z, G1, rfl, hE, hV, hR, hO, hH, hM, hOn⟩
    show K (act.put o.dst z) w'
    rw [← hxd]
    have hM' : G1.m = G.m := hM
    have hwr : ∀ t, t ∈ x.wr ↔ x.dst = some t ∨ t = s := by
      intro t
      cases h : x.dst <;> simp [XO.wr, hm, h, eq_comm]
    have htc : ∀ r i, Touch x fr (.cell r i) := fun r i => .inr ⟨h3, r, i, hft r, rfl⟩
    let g : Loc → Option Nat := fun l => match l with
      | .slot t => if x.dst = some t then G1.o .res else if t = s then none else G.o (.slot t)
      | .cell r i => G1.o (.cell r i)
      | .res => G.o .res
    -- owners behind the call: of the call's own, or as before
    have hg : ∀ l b, g l = some b → (∃ l', G1.o l' = some b ∧ ((l' = .res ∧ ∃ t, x.dst = some t ∧ l = .slot t) ∨ (l' = l ∧ ∃ r i, l = .cell r i))) ∨ (G.o l = some b ∧ ((∃ t, l = .slot t ∧ x.dst ≠ some t ∧ t ≠ s) ∨ l = .res)) := by
      intro l b h
      cases l with
      | slot t =>
        simp only [g] at h
        split at h
        · rename_i e; exact .inl ⟨_, h, .inl ⟨rfl, t, e, rfl⟩⟩
        · rename_i e
          split at h
          · cases h
          · rename_i e2; exact .inr ⟨h, .inl ⟨t, rfl, e, e2⟩⟩
      | cell r i => exact .inl ⟨_, h, .inr ⟨rfl, r, i, rfl⟩⟩
      | res => exact .inr ⟨h, .inr rfl⟩
    have hdis : ∀ l1 l2 b, G1.o l1 = some b → G.o l2 = some b → (∃ r i, l2 = .cell r i) ∨ l2 = .slot s := by
      intro l1 l2 b h1 h2
      rcases hOn l1 b h1 with ⟨l', h4⟩ | h4
      · rcases hco l' b h4 with ⟨r, i, rfl, h5⟩ | ⟨rfl, h5⟩
        · exact .inl ⟨r, i, hv.oinj _ _ b h2 h5⟩
        · exact .inr (hv.oinj _ _ b h2 h5)
      · have := (hv.ok _ _ h2).1; omega
    have hA : ∀ b, (∃ l, (moveG G s).o l = some b) → ∃ l, Touch x fr l ∧ G.o l = some b := by
      rintro b ⟨l, h⟩
      rcases hco l b h with ⟨r, i, rfl, h5⟩ | ⟨rfl, h5⟩
      · exact ⟨_, htc r i, h5⟩
      · exact ⟨_, .inl ⟨s, (hwr s).2 (.inr rfl), rfl⟩, h5⟩
    refine hK { G1 with o := g } _ _ ⟨⟨hE.os, hE.tape, hE.output, hE.size, hE.st, hE.gr, fun b h1 h2 h4 h5 => hE.keep b h1 h2 h4 (fun h => h5 (hA b h)), hE.mm, hE.mb⟩, ⟨fun r a h => ?_, hV.inj, hV.mkk, ?_, ?_⟩, put_size .., put_defers .., fun t h => put_ne _ _ _ _ h, ?_, ?_, ?_,
      fun _ => hM', fun r h1 h2 => absurd (show G1.m r = none by rw [hM', h1]) h2, fun r b base h1 h2 => (by have h2' : G1.m r = some (b, base) := h2; rw [hM', h1] at h2'; cases h2'), fun r b base _ h2 => absurd ⟨h3, hft r⟩ h2, fun _ r b base blk _ h1 h2 => (hH r b base blk h1 h2).withO (fun _ => rfl)⟩
    · have := hV.lev r a h; rw [hN] at this; exact this
    · intro l1 l2 b h1 h2
      rcases hg l1 b h1 with ⟨l1', h4, h5⟩ | ⟨h4, h5⟩ <;> rcases hg l2 b h2 with ⟨l2', h6, h7⟩ | ⟨h6, h7⟩
      · have := hV.oinj _ _ b h4 h6
        subst this
        rcases h5 with ⟨rfl, t, h8, rfl⟩ | ⟨rfl, r, i, rfl⟩ <;> rcases h7 with ⟨h9, u, h10, rfl⟩ | ⟨h9, q, j, h10⟩
        · rw [h8] at h10; injection h10 with h10; rw [h10]
        · rw [← h9] at h10; cases h10
        · cases h9
        · exact h9
      · rcases hdis _ _ b h4 h6 with ⟨r, i, e⟩ | e
        · rcases h7 with ⟨t, h7, _⟩ | h7 <;> rw [h7] at e <;> cases e
        · rcases h7 with ⟨t, h7, _, h8⟩ | h7 <;> rw [h7] at e <;> cases e
          exact absurd rfl h8
      · rcases hdis _ _ b h6 h4 with ⟨r, i, e⟩ | e
        · rcases h5 with ⟨t, h5, _⟩ | h5 <;> rw [h5] at e <;> cases e
        · rcases h5 with ⟨t, h5, _, h8⟩ | h5 <;> rw [h5] at e <;> cases e
          exact absurd rfl h8
      · exact hv.oinj _ _ b h4 h6
    · intro l b h1
      rcases hg l b h1 with ⟨l', h4, _⟩ | ⟨h4, h5⟩
      · exact hV.ok _ _ h4
      · have h6 := hv.ok _ _ h4
        have hnot : ¬ ∃ l, (moveG G s).o l = some b := by
          rintro ⟨l', h7⟩
          rcases hco l' b h7 with ⟨r, i, rfl, h8⟩ | ⟨rfl, h8⟩
          · have := hv.oinj _ _ b h4 h8
            rcases h5 with ⟨t, h5, _⟩ | h5 <;> rw [h5] at this <;> cases this
          · have := hv.oinj _ _ b h4 h8
            rcases h5 with ⟨t, h5, _, h9⟩ | h5 <;> rw [h5] at this <;> cases this
            exact absurd rfl h9
        have hk : (moveG G s).k b ≠ .st ∧ (moveG G s).k b ≠ .mb := by
          rcases h6.2 with ⟨k, h7⟩ | h7 <;> exact ⟨by rw [show (moveG G s).k b = G.k b from rfl, h7]; simp, by rw [show (moveG G s).k b = G.k b from rfl, h7]; simp⟩
        obtain ⟨h8, _⟩ := hE.keep b h6.1 hk.1 hk.2 hnot
        refine ⟨Nat.lt_of_lt_of_le h6.1 hE.size, ?_⟩
        show (∃ f, G1.k b = .gr f) ∨ G1.k b = .un
        rw [h8]
        exact h6.2
    · intro t h
      by_cases hdt : x.dst = some t
      · unfold RelS
        rw [show fget (finX x (drop1 fr (.tmp s)) v) t = v by simp [finX, hdt, fget_fput], hdt, put_eq _ _ _ (hd t hdt)]
        exact ⟨hR.withO, hO.withO (by simp only [g]; rw [if_pos hdt])⟩
      · have hts : t = s := ((hwr t).1 h).resolve_left hdt
        subst hts
        have e1 : fget (finX x (drop1 fr (.tmp t)) v) t = fget (drop1 fr (.tmp t)) t := by
          simp only [finX]
          split
          · rename_i d hd'; rw [fget_fput, if_neg (fun e => hdt (by rw [hd', e]))]
          · rfl
        unfold RelS
        rw [e1, put_ne _ _ _ _ hdt]
        exact drop1_rel hsl.1 (fun h => absurd rfl h) (fun u hu => (hu.withO (f := (moveG G t).o)).ext hv0 ⟨hE.os, hE.tape, hE.output, hE.size, hE.st, hE.gr, hE.keep, hE.mm, hE.mb⟩ |>.withO)
    · intro l h
      cases l with
      | slot t =>
        show g (.slot t) = _
        simp only [g]
        rw [if_neg (fun e => h (.inl ⟨t, (hwr t).2 (.inl e), rfl⟩)), if_neg (fun e => h (.inl ⟨t, (hwr t).2 (.inr e), rfl⟩))]
      | cell r i => exact absurd (htc r i) h
      | res => rfl
    · intro l b h h1
      rcases hg l b h1 with ⟨l', h4, _⟩ | ⟨h4, h5⟩
      · rcases hOn l' b h4 with h6 | h6
        · exact .inl (hA b h6)
        · exact .inr h6
      · exact .inl ⟨l, h, h4⟩
theorem run_callVal {h : Operand} {bs : List Operand} {f : Nat} {xs ys : Array Value} (hc : callVal o.op = some (h, bs)) (hf : act.eval h = .func (.func f) xs ys) :
    (execOp act.eval o).run P w = (callFunc f (xs.toList ++ bs.map act.eval ++ ys.toList).toArray).run P w := by
  cases ho : o.op <;> rw [ho] at hc <;> simp only [callVal] at hc <;> (try (cases hc; done))
  rename_i c
  split at hc
  · rename_i g' hg
    injection hc with hc
    injection hc with h1 h2
    subst h1 h2
    simp only [execOp, ho, resolve, hg, hf, Deferred.ofValue, Sem.run_bind, Sem.run_pure, Result.andThen_ok, invoke]
    congr 2
    apply Array.ext'
    simp [List.append_assoc]
  · cases hc
theorem fn_form {f : Nat} {ds cs : List AV} {y : Value} (h : RelV G w (.fn f ds cs) y) : ∃ xs ys, y = .func (.func f) xs ys ∧ ds.length = xs.size ∧ cs.length = ys.size ∧
    (∀ (j : Nat) (v : AV) (x : Value), ds[j]? = some v → xs[j]? = some x → RelV G w v x) ∧ (∀ (j : Nat) (v : AV) (x : Value), cs[j]? = some v → ys[j]? = some x → RelV G w v x) := by
  cases h with | fn _ _ _ xs ys hl hm hr hs => exact ⟨xs, ys, rfl, hl, hm, hr, hs⟩
theorem step_calld {g : XArg} {as : List XArg} (hC : CallOk P gl C) (hx : x.op = .calld g as) (hchk : chkOp P prims (.calld g as) o = true) (hxd : x.dst = o.dst) (hd : ∀ d, x.dst = some d → d < act.tmps.size)
    (he : evOp C gl (x.dst.getD 0) (.calld g as) fr hp = some (v, fr1, hp1)) (hv : Valid G w N) (hN : hp.length = N) (hs : ∀ t ∈ rds (.calld g as), RelS G w fr act t)
    (hh : ∀ r, footR fr x.op r → ∀ b base blk, G.m r = some (b, base) → hget hp r = some blk → RelBlk G w r b base blk) (hg : GlOk G w gl)
    (hK : ∀ G' act' w', Next x fr hp G act w N (finX x fr1 v) hp1 G' act' w' → K act' w') : o.wp P act w K Q := by
  simp only [chkOp] at hchk
  split at hchk
  · rename_i h bs hcall
    simp only [Bool.and_eq_true] at hchk
    obtain ⟨h1, h2⟩ := hchk
    have hr := arg_rel (w := w) (G := G) (fr := fr) (act := act) h1 (fun t ht => hs t (mem_ats (a := g) (by simp) ht))
    simp only [evOp] at he
    split at he
    · rename_i f ds cs hf
      rw [hf] at hr
      split at he
      · rename_i v' hq hc
        split at he
        · simp only [Option.some.injEq, Prod.mk.injEq] at he
          obtain ⟨rfl, rfl, rfl⟩ := he
          obtain ⟨xs, ys, hy, hl, hm, hr1, hr2⟩ := fn_form hr
          obtain ⟨h3, h4⟩ := eargs_rel h2 (fun a ha t ht => hs t (mem_ats (a := a) (by simp [ha]) ht))
          refine next_callw (zs := xs.toList ++ bs.map act.eval ++ ys.toList) hC (by rw [hx]; rfl) (fun r => by rw [hx]; simp [footR, cls]) (by rw [hx]; rfl) hxd hv hN (run_callVal hcall hy) (by simp [hl, hm, h3]) ?_ ?_ hh hg hc hd hK
          · intro j u z hu hz
            rw [List.getElem?_map, Option.map_eq_some_iff] at hu
            obtain ⟨u0, hu, rfl⟩ := hu
            refine RelV.uf ?_
            have e1 : ds.length = xs.toList.length := by simpa using hl
            have e2 : (eargs fr as).length = (bs.map act.eval).length := by simpa using h3
            rw [List.append_assoc] at hu hz
            rcases Nat.lt_or_ge j ds.length with hj | hj
            · rw [List.getElem?_append_left hj] at hu
              rw [List.getElem?_append_left (by omega)] at hz
              exact hr1 j u0 z hu (by simpa using hz)
            · rw [List.getElem?_append_right hj] at hu
              rw [List.getElem?_append_right (by omega), ← e1] at hz
              rcases Nat.lt_or_ge (j - ds.length) (eargs fr as).length with hk | hk
              · rw [List.getElem?_append_left hk] at hu
                rw [List.getElem?_append_left (by omega)] at hz
                exact h4 _ u0 z hu hz
              · rw [List.getElem?_append_right hk] at hu
                rw [List.getElem?_append_right (by omega), ← e2] at hz
                exact hr2 _ u0 z hu (by simpa using hz)
          · intro u hu
            obtain ⟨u0, _, rfl⟩ := List.mem_map.1 hu
            exact noFlag_uf u0
        · cases he
      · cases he
    · cases he
  · cases hchk
theorem step_callm {f s : Nat} {as : List XArg} (hC : CallOk P gl C) (hx : x.op = .callm f s as) (hchk : chkOp P prims (.callm f s as) o = true) (hxd : x.dst = o.dst) (hd : ∀ d, x.dst = some d → d < act.tmps.size)
    (he : evOp C gl (x.dst.getD 0) (.callm f s as) fr hp = some (v, fr1, hp1)) (hv : Valid G w N) (hN : hp.length = N) (hs : ∀ t ∈ rds (.callm f s as), RelS G w fr act t)
    (hh : ∀ r, footR fr x.op r → ∀ b base blk, G.m r = some (b, base) → hget hp r = some blk → RelBlk G w r b base blk) (hg : GlOk G w gl)
    (hK : ∀ G' act' w', Next x fr hp G act w N (finX x fr1 v) hp1 G' act' w' → K act' w') : o.wp P act w K Q := by
  simp only [chkOp] at hchk
  split at hchk
  · rename_i g t bs hcall
    simp only [Bool.and_eq_true, beq_iff_eq] at hchk
    obtain ⟨⟨⟨rfl, rfl⟩, h1⟩, h2⟩ := hchk
    simp only [evOp] at he
    split at he
    · rename_i v' hq hc
      split at he
      · simp only [Option.some.injEq, Prod.mk.injEq] at he
        obtain ⟨rfl, rfl, rfl⟩ := he
        obtain ⟨h3, h4⟩ := eargs_rel h1 (fun a ha t ht => hs t (by simp only [rds, List.mem_cons]; exact .inr (mem_ats ha ht)))
        exact next_callm hC (by rw [hx]; rfl) (fun r => by rw [hx]; simp [footR, cls]) (by rw [hx]; rfl) hxd hv hN (by rw [run_call hcall]; rfl) (by simp [h3]) h4 (eargs_noFlag h1) (hs s (by simp [rds])) hh hg hc hd hK
      · cases he
    · cases he
  · cases hchk
theorem step_callw {f : Nat} {as : List XArg} (hC : CallOk P gl C) (hx : x.op = .callw f as) (hchk : chkOp P prims (.callw f as) o = true) (hxd : x.dst = o.dst) (hd : ∀ d, x.dst = some d → d < act.tmps.size)
    (he : evOp C gl (x.dst.getD 0) (.callw f as) fr hp = some (v, fr1, hp1)) (hv : Valid G w N) (hN : hp.length = N) (hs : ∀ t ∈ rds (.callw f as), RelS G w fr act t)
    (hh : ∀ r, footR fr x.op r → ∀ b base blk, G.m r = some (b, base) → hget hp r = some blk → RelBlk G w r b base blk) (hg : GlOk G w gl)
    (hK : ∀ G' act' w', Next x fr hp G act w N (finX x fr1 v) hp1 G' act' w' → K act' w') : o.wp P act w K Q := by
  simp only [chkOp] at hchk
  split at hchk
  · rename_i g bs hcall
    simp only [Bool.and_eq_true, beq_iff_eq] at hchk
    obtain ⟨⟨rfl, h1⟩, h2⟩ := hchk
    simp only [evOp] at he
    split at he
    · rename_i v' hq hc
      split at he
      · simp only [Option.some.injEq, Prod.mk.injEq] at he
        obtain ⟨rfl, rfl, rfl⟩ := he
        obtain ⟨h3, h4⟩ := eargs_rel h1 (fun a ha t ht => hs t (mem_ats ha ht))
        exact next_callw hC (by rw [hx]; rfl) (fun r => by rw [hx]; simp [footR, cls]) (by rw [hx]; rfl) hxd hv hN (run_call hcall) (by simp [h3]) h4 (eargs_noFlag h1) hh hg hc hd hK
      · cases he
    · cases he
  · cases hchk
theorem next_lown {a : XArg} {r : Ref} {off b base z : Nat} {cs : List AV} {es : List (List AV)} {y : Value} (hx : x.op = .lown a) (hv : Valid G w N) (hr : ptrOf (earg fr a) = some r) (hm : G.m r = some (b, base)) (hg : hget hp r = some (.cells cs))
    (hblk : RelBlk G w r b base (.cells cs)) (hcs : cs[off]? = some (.lst .own z es)) (hy : w.cell? ⟨b, base + off, none⟩ = some y) (hd : ∀ d, x.dst = some d → d < act.tmps.size) :
    ∃ G', Next x fr hp G act w N (finX x fr (.lst .own z es)) (hput hp r (.cells (splice cs off [.lst .none z es]))) G' (act.put x.dst y) w := by
  have h3c : cls x.op = 3 := by rw [hx]; rfl
  have hwr : ∀ t, t ∈ x.wr ↔ x.dst = some t := by
    intro t
    cases h : x.dst <;> simp [XO.wr, hx, mvs, h, eq_comm]
  have hfoot : ∀ q, footR fr x.op q ↔ q = r := fun q => by
    rw [hx]
    simp only [footR, hr, Option.some.injEq]
    exact eq_comm
  have htouch : ∀ l, Touch x fr l ↔ (∃ t, x.dst = some t ∧ l = .slot t) ∨ ∃ j, l = .cell r j := by
    intro l
    constructor
    · rintro (⟨t, h, rfl⟩ | ⟨_, q, j, hq, rfl⟩)
      · exact .inl ⟨t, (hwr t).1 h, rfl⟩
      · exact .inr ⟨j, by rw [(hfoot q).1 hq]⟩
    · rintro (⟨t, h, rfl⟩ | ⟨j, rfl⟩)
      · exact .inl ⟨t, (hwr t).2 h, rfl⟩
      · exact .inr ⟨h3c, r, j, (hfoot r).2 rfl, rfl⟩
  let f : Loc → Option Nat := fun l => if ∃ t, x.dst = some t ∧ l = .slot t then G.o (.cell r off) else if l = .cell r off then none else G.o l
  have hf : ∀ l c, f l = some c → ∃ l', G.o l' = some c ∧ (l' = l ∧ ¬ (∃ t, x.dst = some t ∧ l = .slot t) ∧ l ≠ .cell r off ∨ l' = .cell r off ∧ ∃ t, x.dst = some t ∧ l = .slot t) := by
    intro l c h
    simp only [f] at h
    split at h
    · rename_i h1; exact ⟨_, h, .inr ⟨rfl, h1⟩⟩
    · split at h
      · cases h
      · rename_i h1 h2; exact ⟨_, h, .inl ⟨rfl, h1, h2⟩⟩
  obtain ⟨cs0, T0, hb0, hsz, hcell⟩ := hblk
  have hoff : off < cs.length := (List.getElem?_eq_some_iff.1 hcs).1
  have hyc : cs0[base + off]? = some y := by
    simp only [World.cell?, hb0] at hy
    exact hy
  obtain ⟨hrel, hown⟩ := hcell off _ y hcs hyc
  have hfc : ∀ j, j ≠ off → f (.cell r j) = G.o (.cell r j) := fun j hj => by
    simp only [f]
    rw [if_neg (fun ⟨t, _, e⟩ => by cases e), if_neg (fun e => hj (by injection e))]
  refine ⟨{ G with o := f }, .of_same rfl rfl rfl (Nat.le_refl _) (fun _ _ => rfl) (fun _ _ => rfl) (fun _ _ h => h), ⟨hv.lev, hv.inj, hv.mkk, ?_, ?_⟩, put_size .., put_defers .., fun t h => put_ne _ _ _ _ h, ?_, ?_, ?_, fun _ => rfl, fun q h1 h2 => absurd h1 h2,
    fun q c base h1 h2 => (by rw [show G.m q = some (c, base) from h2] at h1; cases h1), fun _ _ _ _ _ => rfl, ?_⟩
  · intro l l' c h1 h2
    obtain ⟨l1, h4, h5⟩ := hf l c h1
    obtain ⟨l2, h6, h7⟩ := hf l' c h2
    have := hv.oinj _ _ c h4 h6
    subst this
    rcases h5 with ⟨rfl, h8, h9⟩ | ⟨rfl, t, h8, rfl⟩ <;> rcases h7 with ⟨h10, h11, h12⟩ | ⟨h10, u, h11, rfl⟩
    · exact h10
    · exact absurd h10 h9
    · exact absurd h10.symm h12
    · rw [h8] at h11; injection h11 with h11; rw [h11]
  · intro l c h1
    obtain ⟨l1, h4, _⟩ := hf l c h1
    exact hv.ok _ _ h4
  · intro t h
    have hdt := (hwr t).1 h
    unfold RelS
    rw [show fget (finX x fr (.lst .own z es)) t = .lst .own z es by simp [finX, hdt, fget_fput], hdt, put_eq _ _ _ (hd t hdt)]
    exact ⟨hrel.of_below.withO, hown.withO (by simp only [f]; rw [if_pos ⟨t, hdt, rfl⟩])⟩
  · intro l h
    simp only [f]
    rw [if_neg (fun hh => h ((htouch l).2 (.inl hh))), if_neg (fun e => h ((htouch l).2 (.inr ⟨off, e⟩)))]
  · intro l c h h1
    obtain ⟨l1, h4, h5⟩ := hf l c h1
    refine .inl ⟨l1, ?_, h4⟩
    rcases h5 with ⟨rfl, _, _⟩ | ⟨rfl, _⟩
    · exact h
    · exact (htouch _).2 (.inr ⟨off, rfl⟩)
  · intro _ q c base2 blk2 h1 h2 h4
    have hq := (hfoot q).1 h1
    subst hq
    rw [hget_hput hg, if_pos rfl] at h4
    injection h4 with h4
    subst h4
    have : (c, base2) = (b, base) := Option.some.inj (h2.symm.trans hm)
    injection this with e1 e2
    subst e1 e2
    refine ⟨cs0, T0, hb0, by rw [splice_length]; exact hsz, fun j u w0 hu hw => ?_⟩
    rw [splice_get _ _ _ _ (by simp; omega)] at hu
    by_cases hj : off ≤ j ∧ j < off + [AV.lst Own.none z es].length
    · rw [if_pos hj] at hu
      have hjo : j = off := by simp at hj; omega
      subst hjo
      simp at hu
      subst hu
      have e : w0 = y := Option.some.inj (hw.symm.trans hyc)
      subst e
      exact ⟨(hrel.uf).withO (f := f), .of_noFlag trivial⟩
    · rw [if_neg hj] at hu
      obtain ⟨g1, g2⟩ := hcell j u w0 hu hw
      exact ⟨g1.withO (f := f), g2.withO (hfc j (fun e => hj (by simp; omega)))⟩
theorem step_lown {a : XArg} (hx : x.op = .lown a) (hchk : chkOp P prims (.lown a) o = true) (hxd : x.dst = o.dst) (hd : ∀ d, x.dst = some d → d < act.tmps.size)
    (he : evOp C gl (x.dst.getD 0) (.lown a) fr hp = some (v, fr1, hp1)) (hv : Valid G w N) (hs : ∀ t ∈ rds (.lown a), RelS G w fr act t)
    (hh : ∀ r, footR fr x.op r → ∀ b base blk, G.m r = some (b, base) → hget hp r = some blk → RelBlk G w r b base blk)
    (hK : ∀ G' act' w', Next x fr hp G act w N (finX x fr1 v) hp1 G' act' w' → K act' w') : o.wp P act w K Q := by
  simp only [chkOp] at hchk
  split at hchk
  · rename_i T b ho
    simp only [Bool.and_eq_true, typeIs] at hchk
    obtain ⟨h1, h2⟩ := hchk
    split at h2
    · rename_i i dd hi hdd
      simp only [Bool.and_eq_true, beq_iff_eq] at h2
      have hr := arg_rel (w := w) (G := G) h1 (ats1 hs)
      simp only [evOp] at he
      split at he
      · rename_i r off ha
        rw [ha] at hr
        obtain ⟨bb, base, hy, hm⟩ := ptr_form hr
        split at he
        · rename_i cs hcs
          have hg : hget hp r = some (.cells cs) := by
            unfold cellsAt at hcs
            split at hcs
            · rename_i vs' hb; injection hcs with hcs; subst hcs; exact hb
            · cases hcs
          have hblk := hh r (by rw [hx]; simp [footR, ha, ptrOf]) bb base _ hm hg
          have hrunOf : ∀ y, w.cell? ⟨bb, base + off, none⟩ = some y → (execOp act.eval o).run P w = .ok (.value y) w := by
            intro y hc
            have hl : (loadVar T ⟨bb, base + off, none⟩).run P w = .ok y w := by
              simp only [loadVar, Sem.run_bind, run_isAgg2 hdd, h2.2, Result.andThen_ok, Bool.false_eq_true, if_false]
              exact run_load1 hc
            simp only [execOp, ho, hy, Instr.loadAt, Instr.sureAddr, Sem.run_bind, Sem.run_pure, Result.andThen_ok, hl]
          have hgetcs : ∀ u l, cs.drop off = u :: l → cs[off]? = some u := by
            intro u l e
            have : (cs.drop off)[0]? = some u := by rw [e]; rfl
            rwa [List.getElem?_drop, Nat.add_zero] at this
          split at he
          · rename_i z es l hdr
            simp only [Option.some.injEq, Prod.mk.injEq] at he
            obtain ⟨rfl, rfl, rfl⟩ := he
            obtain ⟨y, hc, _⟩ := hblk.mem off _ (hgetcs _ _ hdr)
            obtain ⟨G', hn⟩ := next_lown (x := x) (fr := fr) (act := act) hx hv (by rw [ha]; rfl) hm hg hblk (hgetcs _ _ hdr) hc hd
            exact wp_of_run (hrunOf y hc) (hxd ▸ hK _ _ _ hn)
          · rename_i u l _ hdr
            simp only [Option.some.injEq, Prod.mk.injEq] at he
            obtain ⟨rfl, rfl, rfl⟩ := he
            obtain ⟨y, hc, hrel⟩ := hblk.mem off _ (hgetcs _ _ hdr)
            obtain ⟨G', hn⟩ := next_keep (x := x) (hp := hp) (fr := fr) (act := act) (v := uf u) (y := y) hv (fun t ht hdt => by
              cases h : x.dst <;> simp [XO.wr, hx, mvs, h] at ht hdt
              exact absurd ht.symm hdt) hh hd hrel.uf (noFlag_uf u)
            exact wp_of_run (hrunOf y hc) (hxd ▸ hK _ _ _ hn)
          · cases he
        · cases he
      · cases he
    · cases h2
  · cases hchk
theorem lput_self : ∀ {l : Level} {s : Nat} {v : Nat × Blk}, lget l s = some v → lput l s (some v) = l
  | [], _, _, h => by simp [lget] at h
  | x :: l, 0, v, h => by simp only [lget] at h; simp only [lput, h]
  | x :: l, s + 1, v, h => by simp only [lget] at h; simp only [lput, lput_self h]
theorem hput_self : ∀ {hp : Heap} {r : Ref} {b : Blk}, hget hp r = some b → hput hp r b = hp
  | [], _, _, h => by cases h
  | l :: t, r, b, h => by
    simp only [hget] at h
    simp only [hput]
    by_cases hl : r.lev = t.length
    · rw [if_pos hl] at h
      rw [if_pos hl]
      split at h
      · rename_i v b' hv
        split at h
        · rename_i e
          injection h with h
          subst h e
          rw [lput_self hv]
        · cases h
      · cases h
    · rw [if_neg hl] at h
      rw [if_neg hl, hput_self h]
theorem step_clr {z : Nat} {zero : List AV} {a : XArg} (hx : x.op = .clr z zero a) (hchk : chkOp P prims (.clr z zero a) o = true) (hxd : x.dst = o.dst) (hd : ∀ d, x.dst = some d → d < act.tmps.size)
    (he : evOp C gl (x.dst.getD 0) (.clr z zero a) fr hp = some (v, fr1, hp1)) (hv : Valid G w N) (hN : hp.length = N) (hs : ∀ t ∈ rds (.clr z zero a), RelS G w fr act t)
    (hh : ∀ r, footR fr x.op r → ∀ b base blk, G.m r = some (b, base) → hget hp r = some blk → RelBlk G w r b base blk)
    (hK : ∀ G' act' w', Next x fr hp G act w N (finX x fr1 v) hp1 G' act' w' → K act' w') : o.wp P act w K Q := by
  simp only [chkOp] at hchk
  split at hchk
  · rename_i b T hcb
    simp only [Bool.and_eq_true] at hchk
    obtain ⟨h1, h2⟩ := hchk
    split at h2
    · rename_i E hT
      simp only [Bool.and_eq_true, sizeIs] at h2
      have ho := callB_spec' hcb
      obtain ⟨c, hbi⟩ := call_builtin (act := act) (o := o) _ _ _ ho
      have hr := arg_rel (w := w) (G := G) h1 (ats1 hs)
      have keep : (Builtin.clear_ #[T] o.type #[act.eval b]).run P w = .ok (.tuple #[]) w → v = .tup [] → fr1 = fr → hp1 = hp → o.wp P act w K Q := by
        rintro hrun rfl rfl rfl
        obtain ⟨G', hn⟩ := next_keep (x := x) (hp := hp1) (fr := fr1) (act := act) (v := .tup []) (y := .tuple #[]) hv (fun t ht hdt => by
          cases h : x.dst <;> simp [XO.wr, hx, mvs, h] at ht hdt
          exact absurd ht.symm hdt) hh hd (.tup _ _ rfl (by simp)) trivial
        exact wp_of_run (by rw [hbi]; simp [builtin, hrun]) (hxd ▸ hK _ _ _ hn)
      simp only [evOp] at he
      split at he
      · rename_i ha
        rw [ha] at hr
        cases hy : act.eval b <;> rw [hy] at hr <;> cases hr
        simp only [Option.some.injEq, Prod.mk.injEq] at he
        exact keep (by simp [Builtin.clear_, hy, run_underlying' hT]) he.1.symm he.2.1.symm he.2.2.symm
      · rename_i r z' off len ha
        split at he
        · rename_i hcond
          obtain ⟨rfl, hz⟩ := hcond
          split at he
          · rename_i hp' hst
            simp only [Option.some.injEq, Prod.mk.injEq] at he
            obtain ⟨rfl, rfl, rfl⟩ := he
            rw [ha] at hr
            obtain ⟨b0, base, cap, hy, hm, hlc, _⟩ := sl_form hr
            have hlen0 : (List.replicate len zero).flatten.length = len * z' := by simp [hz]
            cases len with
            | zero =>
              have hst' : hp' = hp := by
                simp only [stAt] at hst
                split at hst
                · rename_i ds hds
                  split at hst
                  · injection hst with hst
                    subst hst
                    have hget0 : hget hp r = some (.cells ds) := by
                      unfold cellsAt at hds
                      split at hds
                      · rename_i vs' hb; injection hds with hds; subst hds; exact hb
                      · cases hds
                    have e0 : splice ds off (List.replicate 0 zero).flatten = ds := by cases ds <;> cases off <;> rfl
                    rw [e0]
                    exact hput_self hget0
                  · cases hst
                · cases hst
              subst hst'
              exact keep (by simp [Builtin.clear_, hy, run_underlying' hT]) rfl rfl rfl
            | succ n =>
              simp only [stAt] at hst
              split at hst
              · rename_i ds hds
                split at hst
                · rename_i hfit
                  injection hst with hst
                  subst hst
                  have hget0 : hget hp r = some (.cells ds) := by
                    unfold cellsAt at hds
                    split at hds
                    · rename_i vs' hb; injection hds with hds; subst hds; exact hb
                    · cases hds
                  have hfoot : ∀ q, footR fr x.op q ↔ q = r := fun q => by
                    rw [hx]
                    simp only [footR, ha, slOf, Option.some.injEq]
                    exact eq_comm
                  obtain ⟨cs, TT, h4, h5, h6⟩ := hh r ((hfoot r).2 rfl) b0 base _ hm hget0
                  obtain ⟨zv, hzrun, hzr, hzp⟩ := zeroOk_run (G := G) (w := w) h2.2
                  have hall := zeroCells_rel hzr (n + 1)
                  have hmem : ∀ u ∈ (List.replicate (n + 1) zero).flatten, u ∈ zero := by
                    intro u hu
                    simp only [List.mem_flatten, List.mem_replicate] at hu
                    obtain ⟨l, ⟨_, rfl⟩, h⟩ := hu
                    exact h
                  have hone : ∀ u ∈ (Builtin.zeroCells zv.cells (n + 1)).toList, u.oneCell' = true := by
                    intro u hu
                    obtain ⟨j, hj, rfl⟩ := List.getElem_of_mem hu
                    have hjv : j < (List.replicate (n + 1) zero).flatten.length := by rw [hall.1]; simpa using hj
                    have e2 : (Builtin.zeroCells zv.cells (n + 1))[j]? = some ((Builtin.zeroCells zv.cells (n + 1)).toList[j]) := by
                      rw [← Array.getElem?_toList]; exact List.getElem?_eq_getElem hj
                    exact (plain1_one (hzp _ (hmem _ (List.getElem_mem hjv))).1 (hall.2 j _ _ (List.getElem?_eq_getElem hjv) e2)).1
                  have hszv : (Builtin.zeroCells zv.cells (n + 1)).toList.length = (List.replicate (n + 1) zero).flatten.length := by rw [Array.length_toList]; exact hall.1.symm
                  obtain ⟨w', cs', h7, h8, h9, h10⟩ := run_storeCells (P := P) (b := b0) (q := base + off) (Builtin.zeroCells zv.cells (n + 1)).toList 0 w cs h4 (by rw [hszv]; omega) hone (by intro j _ _ hj; exact Nat.not_lt_zero _ hj.2)
                  obtain ⟨G', hn⟩ := next_put (x := x) (fr := fr) (act := act) (y := .cst .undef) (v := .tup []) (u0 := .tuple #[]) (zs := Builtin.zeroCells zv.cells (n + 1)) (off := off) (by rw [hx]; rfl) (by rw [hx]; rfl) hfoot hv hN hm hget0 h4 h5 h6 hall hfit.1 hfit.2 h8 h9
                    (fun j => by rw [h10 j, hszv]; simp) (by simp [ats]) (fun j u zz hu _ hnf => absurd (hzp u (hmem u (List.mem_of_getElem? hu))).2 hnf) hd (.tup _ _ rfl (by simp)) trivial
                  refine wp_of_run ?_ (hxd ▸ hK _ _ _ hn)
                  rw [hbi]
                  simp [builtin, Builtin.clear_, hy, run_underlying' hT, hzrun, h7]
                · cases hst
              · cases hst
          · cases he
        · cases he
      · rename_i ha
        rw [ha] at hr
        simp only [Option.some.injEq, Prod.mk.injEq] at he
        refine keep ?_ he.1.symm he.2.1.symm he.2.2.symm
        have hnf := earg_noFlag (fr := fr) h1
        rw [ha] at hnf
        generalize act.eval b = yy at hr
        cases hr with
        | uniq _ _ x => exact absurd hnf (by simp [noFlag])
        | lst ow z es b o cap X hu hl ht hc hz hf hx hr => simp [Builtin.clear_, run_underlying' hT]
        | emp z a => simp [Builtin.clear_, run_underlying' hT]
      · cases he
    · cases h2
  · cases hchk
theorem step_thw {s : Nat} (hx : x.op = .thw s) (hchk : chkOp P prims (.thw s) o = true) (hxd : x.dst = o.dst) (hd : ∀ d, x.dst = some d → d < act.tmps.size)
    (he : evOp C gl (x.dst.getD 0) (.thw s) fr hp = some (v, fr1, hp1)) (hv : Valid G w N) (hN : hp.length = N) (hs : ∀ t ∈ rds (.thw s), RelS G w fr act t) (hfresh : cls x.op = 2 → hp ≠ [] → hget hp1 (newRef x hp) ≠ none → G.m (newRef x hp) = none)
    (hK : ∀ G' act' w', Next x fr hp G act w N (finX x fr1 v) hp1 G' act' w' → K act' w') : o.wp P act w K Q := by
  have ho : o.op = .move (.tmp s) ∨ o.op = .assign (.tmp s) := by
    simp only [chkOp] at hchk
    split at hchk
    · rename_i t ho; simp at hchk; subst hchk; exact .inl ho
    · rename_i t ho; simp at hchk; subst hchk; exact .inr ho
    · cases hchk
  rcases (Or.inr True.intro : False ∨ True) with hF | hT
  · exact hF.elim
  · have hss := hs s (by simp [rds])
    have hrun := gives_own (P := P) (w := w) (act := act) (o := o) ho
    have hf3 : ∀ r, footR fr x.op r → ∀ b base blk, G.m r = some (b, base) → hget hp r = some blk → RelBlk G w r b base blk := by
      intro r hr
      rw [hx] at hr
      simp [footR, cls] at hr
    have keep : noFlag (fget fr s) → v = fget fr s → fr1 = fr → hp1 = hp → o.wp P act w K Q := by
      rintro hno rfl rfl rfl
      obtain ⟨G', hn⟩ := next_keep (x := x) (hp := hp1) (fr := fr1) hv (fun t ht hdt => by
        have : t = s := by
          cases h : x.dst <;> simp [XO.wr, hx, mvs, h] at ht hdt
          · exact ht
          · exact ht.resolve_left (fun e => hdt e.symm)
        rw [this]; exact hss) hf3 hd hss.1 hno
      exact wp_of_run hrun (hxd ▸ hK _ _ _ hn)
    simp only [evOp] at he
    split at he
    · rename_i z es hes
      split at he
      · rename_i hz1000
        split at he
        · rename_i hbare
          split at he
          · rename_i r hp' hb
            simp only [Option.some.injEq, Prod.mk.injEq] at he
            obtain ⟨rfl, rfl, rfl⟩ := he
            obtain ⟨G', hn⟩ := next_thw hx hv hN hss hes hz1000 hbare hb (hfresh (by rw [hx]; rfl) (mkBlk_facts hb).2.2.2.1 (mkBlk_new hb ▸ (mkBlk_facts hb).2.2.2.2.1)) hd
            exact wp_of_run hrun (hxd ▸ hK _ _ _ hn)
          · cases he
        · cases he
      · cases he
    · rename_i r z off len hes
      simp only [Option.some.injEq, Prod.mk.injEq] at he
      exact keep (by rw [hes]; trivial) (by rw [hes]; exact he.1.symm) he.2.1.symm he.2.2.symm
    · rename_i hes
      simp only [Option.some.injEq, Prod.mk.injEq] at he
      exact keep (by rw [hes]; trivial) (by rw [hes]; exact he.1.symm) he.2.1.symm he.2.2.symm
    · cases he
theorem step_rngs {a : XArg} (hx : x.op = .rngs a) (hchk : chkOp P prims (.rngs a) o = true) (hxd : x.dst = o.dst) (hd : ∀ d, x.dst = some d → d < act.tmps.size)
    (he : evOp C gl (x.dst.getD 0) (.rngs a) fr hp = some (v, fr1, hp1)) (hv : Valid G w N) (hN : hp.length = N) (hs : ∀ t ∈ rds (.rngs a), RelS G w fr act t) (hfresh : cls x.op = 2 → hp ≠ [] → hget hp1 (newRef x hp) ≠ none → G.m (newRef x hp) = none)
    (hK : ∀ G' act' w', Next x fr hp G act w N (finX x fr1 v) hp1 G' act' w' → K act' w') : o.wp P act w K Q := by
  simp only [chkOp] at hchk
  split at hchk
  · rename_i T b ho
    simp only [Bool.and_eq_true] at hchk
    obtain ⟨h1, h2⟩ := hchk
    split at h2
    · rename_i hT
      have hr := arg_rel (w := w) (G := G) h1 (ats1 hs)
      simp only [evOp] at he
      split at he
      · rename_i s ha
        rw [ha] at hr
        cases hy : act.eval b <;> rw [hy] at hr <;> cases hr
        rename_i q
        split at he
        · rename_i r hp' hb
          simp only [Option.some.injEq, Prod.mk.injEq] at he
          obtain ⟨rfl, rfl, rfl⟩ := he
          have hrun : (execOp act.eval o).run P w = .ok (.value (.pointer (some ⟨w.heap.size, 0, none⟩))) (w.alloc (.stringIter q 0)) := by
            simp only [execOp, ho, hy, Instr.range, Sem.run_bind, run_underlying' hT, Result.andThen_ok, Sem.run_pure, run_newObj]
            rfl
          obtain ⟨G', hn⟩ := next_new0 (x := x) (fr := fr) (act := act) (ob := .stringIter q 0) hv hN (by rw [hx]; rfl) (by rw [hx]; rfl) hb (hfresh (by rw [hx]; rfl) (mkBlk_facts hb).2.2.2.1 (mkBlk_new hb ▸ (mkBlk_facts hb).2.2.2.2.1)) (fun f G' _ _ _ => ⟨q, rfl, heap_alloc_eq w _, rfl⟩) hd
          exact wp_of_run hrun (hxd ▸ hK _ _ _ hn)
        · cases he
      · cases he
    · cases h2
  · cases hchk
theorem next_nexts {a : XArg} {r : Ref} {b base : Nat} {w' : World} {blk : Blk} {v : AV} {y : Value} (hx : x.op = .nexts a) (hv : Valid G w N) (hr : ptrOf (earg fr a) = some r) (hm : G.m r = some (b, base)) {blk0 : Blk} (hg : hget hp r = some blk0)
    (hos : w'.os = w.os) (ht : w'.tape = w.tape) (hout : w'.output = w.output) (hsz : w'.heap.size = w.heap.size) (hold : ∀ c, c ≠ b → w'.heap[c]? = w.heap[c]?) (hnc : ∀ cs T fz, w.heap[b]? ≠ some (.cells cs T fz))
    (hblk : ∀ f : Loc → Option Nat, RelBlk { G with o := f } w' r b base blk) (hrel : ∀ G' : Gh, RelV G' w' v y) (hno : noFlag v) (hd : ∀ d, x.dst = some d → d < act.tmps.size) :
    ∃ G', Next x fr hp G act w N (finX x fr v) (hput hp r blk) G' (act.put x.dst y) w' := by
  let f : Loc → Option Nat := fun l => if ∃ t, x.dst = some t ∧ l = .slot t then none else G.o l
  have hfn : ∀ l b, f l = some b → G.o l = some b := by
    intro l b h
    simp only [f] at h
    split at h
    · cases h
    · exact h
  have hkb := (hv.mkk r _ hm).1
  have hne : ∀ c, G.k c ≠ .mb → c ≠ b := fun c h e => h (by rw [e]; exact hkb)
  have hwr : ∀ t, t ∈ x.wr ↔ x.dst = some t := by
    intro t
    cases h : x.dst <;> simp [XO.wr, hx, mvs, h, eq_comm]
  have hfoot : ∀ q, footR fr x.op q → q = r := fun q h => by
    rw [hx] at h
    simp only [footR, hr, Option.some.injEq] at h
    exact h.symm
  refine ⟨{ G with o := f }, ⟨hos, ht, hout, Nat.le_of_eq hsz.symm, fun c _ h => ⟨h, hold c (hne c (by rw [h]; simp))⟩, fun c g _ h => ⟨g, Nat.le_refl _, h, fun i _ => cell_of_heap (hold c (hne c (by rw [h]; simp))) i⟩,
      fun c _ _ h _ => ⟨rfl, hold c (hne c h)⟩, fun _ _ h => h, fun c _ h => ⟨h, fun cs T fz hh => ?_⟩⟩,
    ⟨hv.lev, hv.inj, fun q a h => ⟨(hv.mkk q a h).1, by rw [hsz]; exact (hv.mkk q a h).2⟩, fun l l' c h1 h2 => hv.oinj _ _ c (hfn _ _ h1) (hfn _ _ h2), fun l c h => by rw [hsz]; exact hv.ok _ _ (hfn _ _ h)⟩,
    put_size .., put_defers .., fun t h => put_ne _ _ _ _ h, ?_, ?_, fun l c h1 h2 => .inl ⟨l, h1, hfn _ _ h2⟩, fun _ => rfl, fun q h1 h2 => absurd h1 h2, fun q c base h1 h2 => (by rw [show G.m q = some (c, base) from h2] at h1; cases h1), ?_, ?_⟩
  · by_cases e : c = b
    · rw [e] at hh; exact absurd hh (hnc _ _ _)
    · exact ⟨cs, by rw [hold c e, hh], rfl⟩
  · intro t h
    have hdt := (hwr t).1 h
    unfold RelS
    rw [show fget (finX x fr v) t = v by simp [finX, hdt, fget_fput], hdt, put_eq _ _ _ (hd t hdt)]
    exact ⟨hrel _, .of_noFlag hno⟩
  · intro l h
    simp only [f]
    rw [if_neg]
    rintro ⟨t, h1, rfl⟩
    exact h (.inl ⟨t, (hwr t).2 h1, rfl⟩)
  · intro q c base2 h1 h2
    refine hold c fun e => h2 ⟨by rw [hx]; rfl, ?_⟩
    have := hv.inj q r _ _ h1 hm e
    rw [this, hx]
    exact hr
  · intro _ q c base2 blk2 h1 h2 h3
    have hq := hfoot q h1
    subst hq
    rw [hget_hput hg, if_pos rfl] at h3
    injection h3 with h3
    subst h3
    have : (c, base2) = (b, base) := Option.some.inj (h2.symm.trans hm)
    injection this with e1 e2
    subst e1 e2
    exact hblk f
theorem step_nexts {a : XArg} (hx : x.op = .nexts a) (hchk : chkOp P prims (.nexts a) o = true) (hxd : x.dst = o.dst) (hd : ∀ d, x.dst = some d → d < act.tmps.size)
    (he : evOp C gl (x.dst.getD 0) (.nexts a) fr hp = some (v, fr1, hp1)) (hv : Valid G w N) (hs : ∀ t ∈ rds (.nexts a), RelS G w fr act t)
    (hh : ∀ r, footR fr x.op r → ∀ b base blk, G.m r = some (b, base) → hget hp r = some blk → RelBlk G w r b base blk)
    (hK : ∀ G' act' w', Next x fr hp G act w N (finX x fr1 v) hp1 G' act' w' → K act' w') : o.wp P act w K Q := by
  simp only [chkOp] at hchk
  split at hchk
  · rename_i b ho
    have hr := arg_rel (w := w) (G := G) hchk (ats1 hs)
    simp only [evOp] at he
    split at he
    · rename_i r ha
      rw [ha] at hr
      obtain ⟨bb, base, hy, hm⟩ := ptr_form hr
      have hfoot : footR fr x.op r := by rw [hx]; simp [footR, ha, ptrOf]
      split at he
      · rename_i s pos hg
        obtain ⟨s', hs', hb, hbase⟩ := hh r hfoot bb base _ hm hg
        subst hs' hbase
        have hbs := (hv.mkk r _ hm).2
        have hobj : (getObj bb).run P w = .ok (.stringIter s' pos) w := by simp [getObj, Sem.run, hb]
        split at he
        · rename_i hlt
          have hlt' : pos < s'.size := by
            have e : s'.size = s'.data.toList.length := Array.length_toList.symm
            omega
          have hdec : decodeAt s'.data.toList pos = Utf8.decode s' pos := by simp [decodeAt]
          rcases hdc : Utf8.decode s' pos with ⟨c, wd⟩
          rw [hdec, hdc] at he
          simp only [Option.some.injEq, Prod.mk.injEq] at he
          obtain ⟨rfl, rfl, rfl⟩ := he
          have hset : (setObj bb (.stringIter s' (pos + wd))).run P w = .ok () { w with heap := w.heap.setIfInBounds bb (.stringIter s' (pos + wd)) } := by simp [setObj, Sem.run, hb]
          have hrun : (execOp act.eval o).run P w = .ok (.value (.tuple #[.bool true, goInt pos, .int .i32 c])) { w with heap := w.heap.setIfInBounds bb (.stringIter s' (pos + wd)) } := by
            simp only [execOp, ho, hy, Instr.next, Sem.run_bind, Result.andThen_ok, hobj, Nat.add_zero, if_pos hlt', hdc, hset, Sem.run_pure]
          obtain ⟨G', hn⟩ := next_nexts (x := x) (fr := fr) (act := act) (w' := { w with heap := w.heap.setIfInBounds bb (.stringIter s' (pos + wd)) }) (blk := .iter s'.data.toList (pos + wd)) (v := .tup [.bool true, .int .i64 pos, .int .i32 c]) (y := .tuple #[.bool true, goInt pos, .int .i32 c])
            hx hv (by rw [ha]; rfl) hm hg rfl rfl rfl (by simp) (fun e he => by simp [Array.getElem?_setIfInBounds, Ne.symm he]) (fun cs T fz => by rw [hb]; simp) (fun f => ⟨s', rfl, by simp [hbs], rfl⟩)
            (fun G' => .tup _ _ rfl fun j u z hu hz => by
              match j with
              | 0 => simp at hu hz; subst hu hz; exact .bool _
              | 1 => simp at hu hz; subst hu hz; exact .int _ _
              | 2 => simp at hu hz; subst hu hz; exact .int _ _
              | j + 3 => simp at hu) trivial hd
          exact wp_of_run hrun (hxd ▸ hK _ _ _ hn)
        · rename_i hlt
          simp only [Option.some.injEq, Prod.mk.injEq] at he
          obtain ⟨rfl, rfl, rfl⟩ := he
          have hlt' : ¬ pos < s'.size := by
            have e : s'.size = s'.data.toList.length := Array.length_toList.symm
            omega
          have hrun : (execOp act.eval o).run P w = .ok (.value (.tuple #[.bool false])) w := by
            simp only [execOp, ho, hy, Instr.next, Sem.run_bind, Result.andThen_ok, hobj, Nat.add_zero, if_neg hlt', Sem.run_pure]
          obtain ⟨G', hn⟩ := next_keep (x := x) (hp := hp) (fr := fr) (act := act) (v := .tup [.bool false]) (y := .tuple #[.bool false]) hv (fun t ht hdt => by
            cases h : x.dst <;> simp [XO.wr, hx, mvs, h] at ht hdt
            exact absurd ht.symm hdt) hh hd (.tup _ _ rfl fun j u z hu hz => by
              match j with
              | 0 => simp at hu hz; subst hu hz; exact .bool _
              | j + 1 => simp at hu) trivial
          exact wp_of_run hrun (hxd ▸ hK _ _ _ hn)
      · cases he
    · cases he
  · cases hchk
theorem step_bslice {z : Nat} {zs : List AV} {ps : List (Nat × Nat × XArg)} (hx : x.op = .bslice z zs ps) (hchk : chkOp P prims (.bslice z zs ps) o = true) (hxd : x.dst = o.dst) (hd : ∀ d, x.dst = some d → d < act.tmps.size)
    (he : evOp C gl d (.bslice z zs ps) fr hp = some (v, fr1, hp1)) (hv : Valid G w N) (hs : ∀ t ∈ rds (.bslice z zs ps), RelS G w fr act t)
    (hK : ∀ G' act' w', Next x fr hp G act w N (finX x fr1 v) hp1 G' act' w' → K act' w') : o.wp P act w K Q := by
  simp only [chkOp] at hchk
  split at hchk
  · rename_i T len qs ho
    split at hchk
    · rename_i E hT
      split at hchk
      · rename_i i hi
        split at hchk
        · rename_i zv hzv
          simp only [Bool.and_eq_true, beq_iff_eq, decide_eq_true_eq] at hchk
          obtain ⟨⟨⟨⟨h1, h2⟩, h3⟩, h4⟩, h5⟩ := hchk
          simp only [evOp] at he
          split at he
          · rename_i cs hcs
            split at he
            · rename_i hcond
              simp only [Option.some.injEq, Prod.mk.injEq] at he
              obtain ⟨rfl, rfl, rfl⟩ := he
              have hs' : ∀ p ∈ ps, ∀ t ∈ argTmp p.2.2, RelS G w fr act t := fun p hp t ht => hs t (mem_ats (List.mem_map.2 ⟨p, hp, rfl⟩) ht)
              have hzr : RelCs G w zs (initCells (if len * z = 0 then #[] else zv.cells) (len * z)) := by
                have := (constCells_rel (G := G) (w := w) h4).1
                simpa using this
              obtain ⟨xs, h6, h7⟩ := run_bslice (P := P) ho hT hi h1 hzv h3 hzr h5 hs' hcs
              have hlen : cs.length = len * z := by rw [fillX_length hcs, h2]
              have hdiv : cs.length / z = len := by rw [hlen]; exact Nat.mul_div_cancel _ hcond.2
              rw [hdiv] at hK
              obtain ⟨G', hn⟩ := next_newblk (x := x) (hp := hp) (fr := fr) (fr1 := fr) (k := .st) (own := false) (w' := w.alloc (.cells xs E)) (v := .lst .tight z (chunks z len cs)) (y := .slice (some ⟨w.heap.size, 0, none⟩) len len) hv
                (by rw [hx]; simp [cls]) (by rw [hx]; simp [cls]) rfl rfl rfl (by simp) (fun b hb => heap_alloc_lt w _ b hb) (by simp) (fun h => by cases h) hd (fun t ht => by rw [hx] at ht; simp [mvs] at ht) (fun G' hm hk1 hk2 _ hE => by
                  have hM := mem_new hv h7 hE
                  have hM' : MemAt G' (w.alloc (.cells xs E)) cs w.heap.size 0 := hM.withO (f := G'.o)
                  obtain ⟨X, hA⟩ := lstAt_chunks (n := len) hM' hcond.1 ⟨by simp, .inl hk2⟩ (by rw [hlen]; exact Nat.le_refl _)
                  have := hA.rel (ow := .tight) (cap := len) (by simp) (by rw [chunks_length]; exact Nat.le_refl _) (by rw [chunks_length]; exact fun _ => rfl)
                  rw [chunks_length] at this
                  exact ⟨this, trivial⟩)
              exact wp_of_run h6 (hxd ▸ hK _ _ _ hn)
            · cases he
          · cases he
        · cases hchk
      · cases hchk
    · cases hchk
  · cases hchk
theorem next_row {z cap : Nat} {es : List (List AV)} {C : Array Value} {T : TypeId} {fz : Nat × Nat} {w' : World} {fr1 : List AV} (hv : Valid G w N) (h2 : cls x.op ≠ 2) (h3 : cls x.op ≠ 3) (hos : w'.os = w.os) (ht : w'.tape = w.tape) (hout : w'.output = w.output)
    (hsz : w'.heap.size = w.heap.size + 1) (hold : ∀ b, b < w.heap.size → w'.heap[b]? = w.heap[b]?) (hb : w'.heap[w.heap.size]? = some (.cells C T fz)) (hz : ∀ (i : Nat) (e : List AV), es[i]? = some e → e.length = z)
    (hcap : es.length ≤ cap) (hC : cap * z ≤ C.size) (hfz : ∀ i, i < cap * z → ¬ (fz.1 ≤ i ∧ i < fz.2))
    (hrel : ∀ (i : Nat) (e : List AV) (j : Nat) (u : AV), es[i]? = some e → e[j]? = some u → refFree u = true ∧ ∃ y, C[i * z + j]? = some y ∧ RelV G w u y)
    (hd : ∀ d, x.dst = some d → d < act.tmps.size) (hfr : ∀ t ∈ mvs x.op, RelV G w (fget fr1 t) (act.tmps.getD t undef) ∧ noFlag (fget fr1 t)) :
    ∃ G', Next x fr hp G act w N (finX x fr1 (.lst .own z es)) hp G' (act.put x.dst (.slice (some ⟨w.heap.size, 0, none⟩) es.length cap)) w' := by
  refine next_newblk (k := .gr (es.length * z)) (own := true) hv h2 h3 hos ht hout hsz hold (by simp) (fun _ => .inl ⟨_, rfl⟩) hd hfr (fun G' hm hk1 hk2 hown hE => ?_)
  have hX : ∃ X : Nat → Nat → Value, ∀ (i : Nat) (e : List AV) (j : Nat) (u : AV), es[i]? = some e → e[j]? = some u → C[i * z + j]? = some (X i j) ∧ RelV G w u (X i j) := by
    refine ⟨fun i j => (C[i * z + j]?).getD undef, fun i e j u hi hj => ?_⟩
    obtain ⟨_, y, h5, h6⟩ := hrel i e j u hi hj
    simp only [h5, Option.getD_some]
    exact ⟨trivial, h6⟩
  obtain ⟨X, hX⟩ := hX
  refine ⟨.lst .own z es w.heap.size 0 cap X (by simp) hcap (by simp) ⟨by omega, .inr ⟨_, hk2, by omega⟩⟩ hz (fun i e j u hi hj => (hrel i e j u hi hj).1) (fun i e j u hi hj => ?_) (fun i e j u hi hj => ?_), ?_⟩
  · have := (hX i e j u hi hj).1
    simp [World.cell?, hb, this]
  · have h8 : RelV { G' with o := G.o } w' u (X i j) := (hX i e j u hi hj).2.ext hv hE
    exact h8.withO (f := G'.o)
  · intro d hd'
    refine ⟨w.heap.size, 0, cap, rfl, hcap, hown rfl d hd', ⟨C, T, fz, hb, by omega, fun i _ hi => hfz i (by omega)⟩, fun _ => by rw [hk2]; simp, fun h => by cases h⟩
theorem next_room {s z b o' cap : Nat} {es new : List (List AV)} {cs cs' : Array Value} {T : TypeId} {fz : Nat × Nat} {news : List Value} {w' : World} (hm : mvs x.op = [s]) (h2 : cls x.op ≠ 2) (h3 : cls x.op ≠ 3) (hv : Valid G w N) (hs : RelS G w fr act s)
    (hes : fget fr s = .lst .own z es) (hy : act.tmps.getD s undef = .slice (some ⟨b, o', none⟩) es.length cap) (hob : G.o (.slot s) = some b) (hkb : G.k b = .gr (o' + es.length * z)) (h0 : w.heap[b]? = some (.cells cs T fz))
    (hB : SetB w w' b (.cells cs' T fz)) (hsz' : cs'.size = cs.size) (hcs' : ∀ j : Nat, cs'[j]? = if o' + es.length * z ≤ j ∧ j < o' + es.length * z + news.length then news[j - (o' + es.length * z)]? else cs[j]?)
    (hroom : es.length + new.length ≤ cap) (hcapC : o' + cap * z ≤ cs.size) (hfz : ∀ i, o' + es.length * z ≤ i → i < o' + cap * z → ¬ (fz.1 ≤ i ∧ i < fz.2)) (hzn : ∀ (i : Nat) (e : List AV), new[i]? = some e → e.length = z) (hnl : news.length = new.length * z)
    (hnew : ∀ (i : Nat) (e : List AV) (j : Nat) (u : AV), new[i]? = some e → e[j]? = some u → refFree u = true ∧ ∃ y, news[i * z + j]? = some y ∧ RelV G w u y) (hd : ∀ d, x.dst = some d → d < act.tmps.size) :
    ∃ G', Next x fr hp G act w N (finX x (drop1 fr (.tmp s)) (.lst .own z (es ++ new))) hp G' (act.put x.dst (.slice (some ⟨b, o', none⟩) (es.length + new.length) cap)) w' := by
  obtain ⟨hr1, ho1⟩ := hs
  have hbs := (hv.ok _ _ hob).1
  have hwr : ∀ t, t ∈ x.wr ↔ x.dst = some t ∨ t = s := by
    intro t
    cases h : x.dst <;> simp [XO.wr, hm, h, eq_comm]
  have htouch : ∀ l, Touch x fr l ↔ ∃ t, (x.dst = some t ∨ t = s) ∧ l = .slot t := by
    intro l
    constructor
    · rintro (⟨t, h, rfl⟩ | ⟨h, _⟩)
      · exact ⟨t, (hwr t).1 h, rfl⟩
      · exact absurd h h3
    · rintro ⟨t, h, rfl⟩
      exact .inl ⟨t, (hwr t).2 h, rfl⟩
  let f : Loc → Option Nat := fun l => if ∃ t, x.dst = some t ∧ l = .slot t then G.o (.slot s) else if l = .slot s then none else G.o l
  have hf : ∀ l b, f l = some b → ∃ l', G.o l' = some b ∧ (l' = l ∧ ¬ (∃ t, x.dst = some t ∧ l = .slot t) ∧ l ≠ .slot s ∨ l' = .slot s ∧ ∃ t, x.dst = some t ∧ l = .slot t) := by
    intro l b h
    simp only [f] at h
    split at h
    · rename_i h1; exact ⟨_, h, .inr ⟨rfl, h1⟩⟩
    · split at h
      · cases h
      · rename_i h1 h2; exact ⟨_, h, .inl ⟨rfl, h1, h2⟩⟩
  have hmb : ∀ q a, G.m q = some a → a.1 ≠ b := by
    intro q a h e
    have := (hv.mkk q a h).1
    rw [e, hkb] at this
    cases this
  have hsum : es.length * z + new.length * z = (es.length + new.length) * z := by rw [Nat.add_mul]
  have hcapz : (es.length + new.length) * z ≤ cap * z := Nat.mul_le_mul_right z hroom
  let G' : Gh := { m := G.m, k := upd G.k b (.gr (o' + (es.length + new.length) * z)), o := f }
  have hk : ∀ c, c ≠ b → G'.k c = G.k c := fun c hc => by simp only [G', upd]; rw [if_neg hc]
  have hkb' : G'.k b = .gr (o' + (es.length + new.length) * z) := by simp [G', upd]
  have hne : ∀ c, G.k c ≠ .gr (o' + es.length * z) → c ≠ b := fun c h e => h (by rw [e, hkb])
  have hE : Ext (fun c => ∃ l, Touch x fr l ∧ G.o l = some c) G w G' w' := by
    refine ⟨hB.os, hB.tape, hB.output, by rw [hB.size]; exact Nat.le_refl _, fun c h4 h5 => ?_, fun c g h4 h5 => ?_, fun c h4 h5 h6 h7 => ?_, fun q a h => h, fun c h4 h5 => ?_⟩
    · have hc : c ≠ b := hne c (by rw [h5]; simp)
      exact ⟨by rw [hk c hc, h5], hB.old c hc⟩
    · by_cases hc : c = b
      · subst hc
        rw [hkb] at h5
        injection h5 with h5
        subst h5
        refine ⟨_, by omega, hkb', fun i hi => ?_⟩
        have : cs'[i]? = cs[i]? := by rw [hcs' i, if_neg (by omega)]
        simp [World.cell?, hB.new, h0, this]
      · exact ⟨g, Nat.le_refl _, by rw [hk c hc, h5], fun i _ => cell_of_heap (hB.old c hc) i⟩
    · have hc : c ≠ b := fun e => h7 ⟨.slot s, (htouch _).2 ⟨s, .inr rfl, rfl⟩, by rw [e]; exact hob⟩
      exact ⟨hk c hc, hB.old c hc⟩
    · have hc : c ≠ b := hne c (by rw [h5]; simp)
      exact ⟨by rw [hk c hc, h5], fun ds S g hh => ⟨ds, by rw [hB.old c hc, hh], rfl⟩⟩
  refine ⟨G', hE, ⟨hv.lev, hv.inj, fun q a h => (by rw [hk _ (hmb q a h), hB.size]; exact hv.mkk q a h), ?_, ?_⟩, put_size .., put_defers .., fun t h => put_ne _ _ _ _ h, ?_, ?_, ?_, fun _ => rfl, fun q h4 h5 => absurd h4 h5,
    fun r c base h1 h2 => (by rw [show G.m r = some (c, base) from h2] at h1; cases h1), fun r c base h _ => hB.old c (hmb r _ h), fun h => absurd h h3⟩
  · intro l l' c h1 h2
    obtain ⟨l1, h4, h5⟩ := hf l c h1
    obtain ⟨l2, h6, h7⟩ := hf l' c h2
    have := hv.oinj _ _ c h4 h6
    subst this
    rcases h5 with ⟨rfl, h8, h9⟩ | ⟨rfl, t, h8, rfl⟩ <;> rcases h7 with ⟨h10, h11, h12⟩ | ⟨h10, u, h11, rfl⟩
    · exact h10
    · exact absurd h10 h9
    · exact absurd h10.symm h12
    · rw [h8] at h11; injection h11 with h11; rw [h11]
  · intro l c h1
    obtain ⟨l1, h4, h5⟩ := hf l c h1
    refine ⟨by rw [hB.size]; exact (hv.ok _ _ h4).1, ?_⟩
    by_cases e : c = b
    · rw [e, hkb']; exact .inl ⟨_, rfl⟩
    · rw [hk c e]; exact (hv.ok _ _ h4).2
  · intro t h
    unfold RelS
    rw [hes] at hr1
    rw [hy] at hr1
    obtain ⟨X, hcap1, hc1, hz1, hf1, hx1, hrr1⟩ : ∃ X : Nat → Nat → Value, es.length ≤ cap ∧ Cov G w b (o' + es.length * z) ∧ (∀ (i : Nat) (e : List AV), es[i]? = some e → e.length = z) ∧
        (∀ (i : Nat) (e : List AV) (j : Nat) (v : AV), es[i]? = some e → e[j]? = some v → refFree v = true) ∧ (∀ (i : Nat) (e : List AV) (j : Nat) (v : AV), es[i]? = some e → e[j]? = some v → w.cell? ⟨b, o' + i * z + j, none⟩ = some (X i j)) ∧
        (∀ (i : Nat) (e : List AV) (j : Nat) (v : AV), es[i]? = some e → e[j]? = some v → RelV G w v (X i j)) := by
      cases hr1 with
      | lst _ _ _ _ _ _ X hu1 hcap1 ht1 hc1 hz1 hf1 hx1 hrr1 => exact ⟨X, hcap1, hc1, hz1, hf1, hx1, hrr1⟩
    by_cases hdt : x.dst = some t
    · rw [show fget (finX x (drop1 fr (.tmp s)) (.lst .own z (es ++ new))) t = .lst .own z (es ++ new) by simp [finX, hdt, fget_fput], hdt, put_eq _ _ _ (hd t hdt)]
      have hX2 : ∃ X2 : Nat → Nat → Value, ∀ (i : Nat) (e : List AV) (j : Nat) (u : AV), new[i]? = some e → e[j]? = some u → news[i * z + j]? = some (X2 i j) ∧ RelV G w u (X2 i j) := by
        refine ⟨fun i j => (news[i * z + j]?).getD undef, fun i e j u hi hj => ?_⟩
        obtain ⟨_, y, h5, h6⟩ := hnew i e j u hi hj
        simp only [h5, Option.getD_some]
        exact ⟨trivial, h6⟩
      obtain ⟨X2, hX2⟩ := hX2
      have hel : ∀ (i : Nat) (e : List AV), (es ++ new)[i]? = some e → (i < es.length ∧ es[i]? = some e) ∨ (es.length ≤ i ∧ new[i - es.length]? = some e) := by
        intro i e hi
        rcases Nat.lt_or_ge i es.length with hlt | hge
        · rw [List.getElem?_append_left hlt] at hi; exact .inl ⟨hlt, hi⟩
        · rw [List.getElem?_append_right hge] at hi; exact .inr ⟨hge, hi⟩
      have hzz : ∀ (i : Nat) (e : List AV), (es ++ new)[i]? = some e → e.length = z := by
        intro i e hi
        rcases hel i e hi with ⟨_, h⟩ | ⟨_, h⟩
        · exact hz1 i e h
        · exact hzn _ e h
      have hlen : (es ++ new).length = es.length + new.length := List.length_append
      have hrel : RelV G' w' (.lst .own z (es ++ new)) (.slice (some ⟨b, o', none⟩) (es ++ new).length cap) := by
        refine .lst .own z (es ++ new) b o' cap (fun i j => if i < es.length then X i j else X2 (i - es.length) j) (by simp) (by rw [hlen]; exact hroom) (by simp) ⟨by rw [hB.size]; exact hbs, .inr ⟨_, hkb', by rw [hlen]; exact Nat.le_refl _⟩⟩ hzz ?_ ?_ ?_
        · intro i e j u hi hj
          rcases hel i e hi with ⟨_, h⟩ | ⟨_, h⟩
          · exact hf1 i e j u h hj
          · exact (hnew _ e j u h hj).1
        · intro i e j u hi hj
          rcases hel i e hi with ⟨hlt, h⟩ | ⟨hge, h⟩
          · simp only [if_pos hlt]
            rw [← hx1 i e j u h hj]
            have hj' := (List.getElem?_eq_some_iff.1 hj).1
            rw [hz1 i e h] at hj'
            have : i * z + z ≤ es.length * z := by
              have := Nat.mul_le_mul_right z (Nat.succ_le_of_lt hlt)
              rw [Nat.succ_mul] at this
              exact this
            have e1 : cs'[o' + i * z + j]? = cs[o' + i * z + j]? := by rw [hcs', if_neg (by omega)]
            simp [World.cell?, hB.new, h0, e1]
          · simp only [if_neg (show ¬ i < es.length by omega)]
            obtain ⟨h8, _⟩ := hX2 _ e j u h hj
            have hlt := (List.getElem?_eq_some_iff.1 h8).1
            obtain ⟨k, rfl⟩ : ∃ k, i = es.length + k := ⟨i - es.length, by omega⟩
            rw [Nat.add_sub_cancel_left] at h8 hlt ⊢
            have e2 : o' + (es.length + k) * z + j = o' + es.length * z + (k * z + j) := by rw [Nat.add_mul]; omega
            have e1 : cs'[o' + es.length * z + (k * z + j)]? = some (X2 k j) := by
              rw [hcs', if_pos (by omega), Nat.add_sub_cancel_left, h8]
            rw [e2]
            simp [World.cell?, hB.new, e1]
        · intro i e j u hi hj
          rcases hel i e hi with ⟨hlt, h⟩ | ⟨hge, h⟩
          · simp only [if_pos hlt]
            exact (hrr1 i e j u h hj).ext hv hE
          · simp only [if_neg (show ¬ i < es.length by omega)]
            exact (hX2 _ e j u h hj).2.ext hv hE
      rw [hlen] at hrel
      refine ⟨hrel, ⟨b, o', cap, by rw [hlen], by rw [hlen]; exact hroom, by simp only [G', f]; rw [if_pos ⟨t, hdt, rfl⟩]; exact hob, ⟨cs', T, fz, hB.new, by omega, fun i h5 h6 => hfz i (by rw [hlen] at h5; omega) h6⟩, fun _ => by rw [hlen]; exact hkb', fun h => by cases h⟩⟩
    · have hts := ((hwr t).1 h).resolve_left hdt
      subst hts
      have e1 : fget (finX x (drop1 fr (.tmp t)) (.lst .own z (es ++ new))) t = .lst .none z es := by
        have e0 : fget (drop1 fr (.tmp t)) t = .lst .none z es := by simp [drop1, hes, fget_fput]
        simp only [finX]
        split
        · rename_i d hd'; rw [fget_fput, if_neg (fun e => hdt (by rw [hd', e])), e0]
        · exact e0
      rw [e1, put_ne _ _ _ _ hdt, hy]
      refine ⟨RelV.ext hv hE (.lst .none z es b o' cap X (by simp) hcap1 (by simp) hc1 hz1 hf1 hx1 hrr1), .of_noFlag trivial⟩
  · intro l h
    show f l = _
    simp only [f]
    rw [if_neg (fun ⟨t, h1, h2⟩ => h ((htouch l).2 ⟨t, .inl h1, h2⟩)), if_neg (fun h1 => h ((htouch l).2 ⟨s, .inr rfl, h1⟩))]
  · intro l c h h1
    obtain ⟨l1, h4, h5⟩ := hf l c h1
    refine .inl ⟨l1, ?_, h4⟩
    rcases h5 with ⟨rfl, h8, h9⟩ | ⟨rfl, t, h8, rfl⟩
    · exact h
    · exact (htouch _).2 ⟨s, .inr rfl, rfl⟩
theorem raw_mem {z : Nat} {a : XArg} {b : Operand} {new : List (List AV)} (hz1000 : z < 1000) (h1 : argOk a b = true) (hs : ∀ t ∈ argTmp a, RelS G w fr act t) (hl : listOf hp z (rawArg fr a) = some new)
    (hh : ∀ r b base blk, G.m r = some (b, base) → hget hp r = some blk → RelBlk G w r b base blk) :
    (∃ a0, act.eval b = .slice a0 0 0 ∧ new = []) ∨ ∃ q k cap, act.eval b = .slice (some ⟨q, k, none⟩) new.length cap ∧ MemAt G w new.flatten q k ∧ (∀ (i : Nat) (e : List AV), new[i]? = some e → e.length = z) := by
  have plain : listOf hp z (earg fr a) = some new → (∃ a0, act.eval b = .slice a0 0 0 ∧ new = []) ∨ ∃ q k cap, act.eval b = .slice (some ⟨q, k, none⟩) new.length cap ∧ MemAt G w new.flatten q k ∧ (∀ (i : Nat) (e : List AV), new[i]? = some e → e.length = z) := by
    intro h
    rcases listOf_mem h (arg_rel (w := w) (G := G) h1 hs) (earg_noFlag h1) (fun r _ => hh r) with ⟨a0, h5, h6⟩ | ⟨q, k, cap, h5, _, h6, h7⟩
    · exact .inl ⟨a0, h5, h6⟩
    · exact .inr ⟨q, k, cap, h5, h6, h7⟩
  cases a with
  | cst u => exact plain hl
  | glob g => exact plain hl
  | tmp t =>
    cases b <;> simp only [argOk] at h1 <;> (try (cases h1; done))
    simp only [beq_iff_eq] at h1
    subst h1
    have ht := hs t (by simp [argTmp])
    have hq : rawArg fr (.tmp t) = fget fr t := rfl
    rw [hq] at hl
    cases hf : fget fr t with
    | lst ow z' es =>
      rw [hf] at hl
      simp only [listOf] at hl
      split at hl
      · rename_i hz
        subst hz
        injection hl with hl
        subst hl
        by_cases hu : ow = .uniq
        · subst hu
          obtain ⟨hr1, ho1⟩ := ht
          rw [hf] at ho1
          obtain ⟨q, k, cap, hy, hcap, _, _, _, hun⟩ := ho1.small hz1000
          obtain ⟨_, _, X, hzz, hX⟩ := hun rfl
          refine .inr ⟨q, k, cap, hy, ?_, hzz⟩
          obtain ⟨h8, h9⟩ := flatten_get hzz
          intro j v hj
          have hlt := (List.getElem?_eq_some_iff.1 hj).1
          rw [h8] at hlt
          have hz0 : 0 < z' := by
            apply Nat.pos_of_ne_zero
            intro h0
            subst h0
            simp at hlt
          have e := Nat.div_add_mod j z'
          have hm := Nat.mod_lt j hz0
          rw [← e, Nat.mul_comm z', h9 _ _ hm] at hj
          cases he : es[j / z']? with
          | none => rw [he] at hj; cases hj
          | some el =>
            rw [he] at hj
            have hj' : el[j % z']? = some v := hj
            obtain ⟨_, h11, h12⟩ := hX (j / z') el (j % z') v he hj'
            refine ⟨_, ?_, h12⟩
            rw [← h11]
            congr 2
            rw [Nat.add_assoc, Nat.mul_comm, e]
        · refine plain ?_
          simp only [earg, hf]
          cases ow <;> first | exact absurd rfl hu | simp [uf, listOf]
      · cases hl
    | nilsl => exact plain (by simp only [earg, hf]; rw [hf] at hl; exact hl)
    | sl r z' off len => exact plain (by simp only [earg, hf]; rw [hf] at hl; exact hl)
    | _ => rw [hf] at hl; simp only [listOf] at hl; cases hl
theorem news_list {cs : List AV} {q k : Nat} (h : MemAt G w cs q k) : ∃ news : List Value, news.length = cs.length ∧ (∀ (j : Nat) (v : Value), news[j]? = some v → w.cell? ((⟨q, k, none⟩ : Addr).add j) = some v) ∧
    ∀ (j : Nat) (u : AV), cs[j]? = some u → ∃ y, news[j]? = some y ∧ RelV G w u y := by
  obtain ⟨X, hX⟩ := h.choose
  refine ⟨(List.range cs.length).map X, by simp, fun j v hj => ?_, fun j u hj => ?_⟩
  · have hlt := (List.getElem?_eq_some_iff.1 hj).1
    simp at hlt
    simp [hlt] at hj
    subst hj
    rw [add_eq]
    exact (hX j cs[j] (by simp [hlt])).1
  · have hlt := (List.getElem?_eq_some_iff.1 hj).1
    exact ⟨X j, by simp [hlt], (hX j u hj).2⟩
theorem run_append_empty {T E ty : TypeId} {i : TypeInfo} {base : Option Addr} {n cap c : Nat} {a : Option Addr} (hT : P.underlying T = some (.slice E)) (hi : P.info? E = some i) (hn : n ≤ cap) :
    (Builtin.append_ #[T, T] ty #[.slice base n cap, .slice a 0 c]).run P w = .ok (.slice base n cap) w := by
  cases base <;> cases a <;> simp [Builtin.append_, run_underlying' hT, sizeOf, typeInfo, hi, Builtin.lenOf, hn, Builtin.firstCells, storeCells, loadCells, loadCellsFrom]
theorem refFreeL_of : ∀ {l : List AV}, (∀ u ∈ l, refFree u = true) → refFreeL l = true
  | [], _ => by simp [refFreeL]
  | u :: l, h => by
    rw [refFreeL, h u (by simp), refFreeL_of (fun v hv => h v (by simp [hv]))]
    rfl
theorem flat_rel {z : Nat} {es : List (List AV)} {l : List Value} (hz : ∀ (i : Nat) (e : List AV), es[i]? = some e → e.length = z) (hf : refFreeL es.flatten = true)
    (h : ∀ (j : Nat) (u : AV), es.flatten[j]? = some u → ∃ y, l[j]? = some y ∧ RelV G w u y) (i : Nat) (e : List AV) (j : Nat) (u : AV) (hi : es[i]? = some e) (hj : e[j]? = some u) :
    refFree u = true ∧ ∃ y, l[i * z + j]? = some y ∧ RelV G w u y := by
  have hjz := (List.getElem?_eq_some_iff.1 hj).1
  rw [hz i e hi] at hjz
  have e1 : es.flatten[i * z + j]? = some u := by
    rw [(flatten_get hz).2 i j hjz, hi]
    exact hj
  exact ⟨refFreeL_mem hf u (List.mem_of_getElem? e1), h _ u e1⟩
theorem rows_rel {z : Nat} {es new : List (List AV)} {olds news rest : List Value} (hlo : olds.length = es.length * z) (hz : ∀ (i : Nat) (e : List AV), es[i]? = some e → e.length = z)
    (h1 : ∀ (i : Nat) (e : List AV) (j : Nat) (u : AV), es[i]? = some e → e[j]? = some u → refFree u = true ∧ ∃ y, olds[i * z + j]? = some y ∧ RelV G w u y)
    (h2 : ∀ (i : Nat) (e : List AV) (j : Nat) (u : AV), new[i]? = some e → e[j]? = some u → refFree u = true ∧ ∃ y, news[i * z + j]? = some y ∧ RelV G w u y)
    (i : Nat) (e : List AV) (j : Nat) (u : AV) (hi : (es ++ new)[i]? = some e) (hj : e[j]? = some u) : refFree u = true ∧ ∃ y, ((olds ++ news) ++ rest)[i * z + j]? = some y ∧ RelV G w u y := by
  rcases Nat.lt_or_ge i es.length with hlt | hge
  · rw [List.getElem?_append_left hlt] at hi
    obtain ⟨h3, y, h4, h5⟩ := h1 i e j u hi hj
    have hl := (List.getElem?_eq_some_iff.1 h4).1
    exact ⟨h3, y, by rw [List.append_assoc, List.getElem?_append_left hl]; exact h4, h5⟩
  · rw [List.getElem?_append_right hge] at hi
    obtain ⟨h3, y, h4, h5⟩ := h2 _ e j u hi hj
    have hl := (List.getElem?_eq_some_iff.1 h4).1
    obtain ⟨k, rfl⟩ : ∃ k, i = es.length + k := ⟨i - es.length, by omega⟩
    rw [Nat.add_sub_cancel_left] at h4 hl
    have e2 : (es.length + k) * z + j = olds.length + (k * z + j) := by rw [Nat.add_mul, hlo]; omega
    exact ⟨h3, y, by rw [e2, List.append_assoc, List.getElem?_append_right (by omega), Nat.add_sub_cancel_left, List.getElem?_append_left hl]; exact h4, h5⟩
theorem step_app {z bytes s : Nat} {a : XArg} (hx : x.op = .app false z bytes s a) (hchk : chkOp P prims (.app false z bytes s a) o = true) (hxd : x.dst = o.dst) (hd : ∀ d, x.dst = some d → d < act.tmps.size)
    (he : evOp C gl d (.app false z bytes s a) fr hp = some (v, fr1, hp1)) (hv : Valid G w N) (hs : ∀ t ∈ rds (.app false z bytes s a), RelS G w fr act t)
    (hh : ∀ r, footR fr x.op r → ∀ b base blk, G.m r = some (b, base) → hget hp r = some blk → RelBlk G w r b base blk)
    (hK : ∀ G' act' w', Next x fr hp G act w N (finX x fr1 v) hp1 G' act' w' → K act' w') : o.wp P act w K Q := by
  have hm : mvs x.op = [s] := by rw [hx]; rfl
  have c2 : cls x.op ≠ 2 := by rw [hx]; simp [cls]
  have c3 : cls x.op ≠ 3 := by rw [hx]; simp [cls]
  simp only [chkOp] at hchk
  split at hchk
  · rename_i t b T T2 hcb
    simp only [Bool.and_eq_true, beq_iff_eq] at hchk
    obtain ⟨⟨⟨⟨hz1000', hst⟩, h1⟩, hTT⟩, h2⟩ := hchk
    have hz1000 : z < 1000 := of_decide_eq_true hz1000'
    subst hst hTT
    split at h2
    · rename_i E hT
      split at h2
      · rename_i i hi
        simp only [Bool.and_eq_true, beq_iff_eq, decide_eq_true_eq] at h2
        obtain ⟨⟨⟨⟨hz, hby⟩, hz0⟩, hb0⟩, hzv0⟩ := h2
        split at hzv0
        · rename_i zv hzv
          have hzs : zv.cells.size = z := by simpa using hzv0
          have ho := callB_spec' hcb
          obtain ⟨c, hbi⟩ := call_builtin (act := act) (o := o) _ _ _ ho
          have hss : RelS G w fr act s := hs s (by simp [rds])
          have hraw := fun new (h : listOf hp z (rawArg fr a) = some new) => raw_mem (act := act) (G := G) (w := w) hz1000 h1 (fun t ht => hs t (by simp only [rds]; exact List.mem_cons_of_mem _ (mem_ats (a := a) (by simp) ht))) h (fun r => hh r (by rw [hx]; simp [footR, cls]))
          have go : ∀ (y : Value) (w' : World), (Builtin.append_ #[T, T] o.type #[act.tmps.getD s undef, act.eval b]).run P w = .ok y w' → (execOp act.eval o).run P w = .ok (.value y) w' := by
            intro y w' h
            have e0 : act.eval (.tmp s) = act.tmps.getD s undef := rfl
            rw [hbi]
            simp at h
            simp [builtin, e0, h]
          simp only [evOp] at he
          split at he
          · rename_i new hnew
            split at he
            · rename_i hn0
              subst hn0
              have hemp : ∃ a' c', act.eval b = .slice a' 0 c' := by
                rcases hraw _ hnew with ⟨a0, h5, _⟩ | ⟨q, k, cap, h5, _, _⟩
                · exact ⟨_, _, h5⟩
                · exact ⟨_, _, h5⟩
              obtain ⟨a', c', hb⟩ := hemp
              have fin : ∀ base n cap, act.tmps.getD s undef = .slice base n cap → n ≤ cap → v = fget fr s → fr1 = drop1 fr (.tmp s) → hp1 = hp → o.wp P act w K Q := by
                rintro base n cap hy hle rfl rfl rfl
                obtain ⟨G', hn⟩ := next_own (hp := hp1) hm c2 c3 hv hss hd
                refine wp_of_run (y := act.tmps.getD s undef) (go _ _ ?_) (hxd ▸ hK _ _ _ hn)
                rw [hy, hb]
                exact run_append_empty hT hi hle
              split at he
              · rename_i hf
                simp only [Option.some.injEq, Prod.mk.injEq] at he
                obtain ⟨r1, r2⟩ := hss
                rw [hf] at r1
                generalize hyy : act.tmps.getD s undef = yy at r1
                cases r1
                exact fin _ _ _ hyy (Nat.le_refl _) (by rw [hf]; exact he.1.symm) he.2.1.symm he.2.2.symm
              · rename_i ow z' es hf
                split at he <;> (try (cases he; done))
                rename_i hlB
                simp only [Option.some.injEq, Prod.mk.injEq] at he
                have hys : ∃ base n cap, act.tmps.getD s undef = .slice base n cap ∧ n ≤ cap := by
                  obtain ⟨r1, r2⟩ := hss
                  rw [hf] at r1 r2
                  by_cases hu : ow = .uniq
                  · subst hu
                    obtain ⟨q, k, cap, hy, hcap, _⟩ := r2.small (of_decide_eq_true hlB)
                    exact ⟨_, _, _, hy, hcap⟩
                  · generalize hyy : act.tmps.getD s undef = yy at r1
                    cases r1 with
                    | uniq _ _ _ => exact absurd rfl hu
                    | emp _ _ => exact ⟨_, _, _, rfl, Nat.le_refl _⟩
                    | lst _ _ _ q k cap X _ hcap => exact ⟨_, _, _, rfl, hcap⟩
                obtain ⟨base, n, cap, hy, hle⟩ := hys
                exact fin _ _ _ hy hle (by rw [hf]; exact he.1.symm) he.2.1.symm he.2.2.symm
              · cases he
            · rename_i hn0
              split at he
              · rename_i hcond
                obtain ⟨hfree, hplain⟩ := hcond
                rcases hraw _ hnew with ⟨_, _, h6⟩ | ⟨q, k, ncap, hb, hM, hzn⟩
                · exact absurd h6 hn0
                · obtain ⟨news, hnl, hnc, hnr⟩ := news_list hM
                  have hnl' : news.length = new.length * z := by rw [hnl, (flatten_get hzn).1]
                  have hnew2 := flat_rel (l := news) hzn hfree hnr
                  have hpos : 0 < new.length := List.length_pos_iff.2 hn0
                  split at he
                  · rename_i hf
                    split at he
                    · rename_i hroom
                      simp only [Option.some.injEq, Prod.mk.injEq] at he
                      obtain ⟨rfl, rfl, rfl⟩ := he
                      have hy : act.tmps.getD s undef = .slice none 0 0 := by
                        have r1 := hss.1
                        rw [hf] at r1
                        generalize act.tmps.getD s undef = yy at r1
                        cases r1
                        rfl
                      have hle1 : new.length ≤ room := Nat.le_trans (Nat.le_mul_of_pos_right _ hb0) hroom
                      have hrun := run_append_nil (P := P) w T o.type E i zv hT hi hzv ⟨q, k, none⟩ new.length ncap news (by rw [hz]; exact hnl') hnc hpos (by unfold room at hle1; omega) (by rw [hby]; unfold room at hroom; omega)
                      have hge := grownCap_ge w new.length 0 E
                      have hbs := size_zeroCells zv.cells (grownCap w new.length 0 E - new.length)
                      obtain ⟨G', hn⟩ := next_row (x := x) (hp := hp) (fr := fr) (fr1 := fr) (act := act) (z := z) (cap := grownCap w new.length 0 E) (es := new) (C := news.toArray ++ Builtin.zeroCells zv.cells (grownCap w new.length 0 E - new.length)) (T := E) (fz := (0, 0))
                        (w' := w.drew.alloc (.cells (news.toArray ++ Builtin.zeroCells zv.cells (grownCap w new.length 0 E - new.length)) E)) hv c2 c3 rfl rfl rfl (by simp) (fun b hb => heap_alloc_lt w.drew _ b hb) (heap_alloc_eq w.drew _) hzn hge
                        (by rw [Array.size_append, List.size_toArray, hbs, hzs, hnl', ← Nat.add_mul]; exact Nat.mul_le_mul_right z (by omega)) (fun i _ => by simp)
                        (fun i e j u hi' hj => by
                          obtain ⟨h8, y, h9, h10⟩ := hnew2 i e j u hi' hj
                          have hl := (List.getElem?_eq_some_iff.1 h9).1
                          exact ⟨h8, y, by rw [Array.getElem?_append_left (by simpa using hl)]; simpa using h9, h10⟩) hd
                        (fun t ht => by rw [hm] at ht; simp at ht; subst ht; rw [hf]; exact ⟨by rw [hy]; exact .nilsl, trivial⟩)
                      refine wp_of_run (go _ _ ?_) (hxd ▸ hK _ _ _ hn)
                      rw [hy, hb]
                      exact hrun
                    · cases he
                  · rename_i ow z' es hf
                    split at he
                    · rename_i hcond2
                      obtain ⟨rfl, hmay, hroom⟩ := hcond2
                      simp only [Option.some.injEq, Prod.mk.injEq] at he
                      obtain ⟨rfl, rfl, rfl⟩ := he
                      have hlR : (es.length + new.length) ≤ room := Nat.le_trans (Nat.le_mul_of_pos_right _ hb0) hroom
                      have hnu : ow = .own ∨ ow = .tight := by cases ow <;> simp [appMay] at hmay <;> simp
                      have hrel1 : ∃ A cap, act.tmps.getD s undef = .slice (some A) es.length cap ∧ (ow = .tight → cap = es.length) ∧ RelV G w (fget (drop1 fr (.tmp s)) s) (act.tmps.getD s undef) ∧ noFlag (fget (drop1 fr (.tmp s)) s) := by
                        have r1 := hss.1
                        rw [hf] at r1
                        generalize act.tmps.getD s undef = yy at r1
                        cases r1 with
                        | uniq _ _ _ => rcases hnu with h | h <;> cases h
                        | emp _ _ => rcases hnu with h | h <;> cases h
                        | lst _ _ _ q2 k2 cap2 X hu2 hc2 ht2 hcov hz2 hf2 hx2 hr2 =>
                          refine ⟨_, cap2, rfl, ht2, ?_, ?_⟩
                          · rcases hnu with rfl | rfl
                            · rw [show fget (drop1 fr (.tmp s)) s = .lst .none z' es by simp [drop1, hf, fget_fput]]
                              exact .lst .none z' es q2 k2 cap2 X (by simp) hc2 (by simp) hcov hz2 hf2 hx2 hr2
                            · rw [show fget (drop1 fr (.tmp s)) s = .lst .tight z' es by simp [drop1, hf]]
                              exact .lst .tight z' es q2 k2 cap2 X (by simp) hc2 ht2 hcov hz2 hf2 hx2 hr2
                          · rcases hnu with rfl | rfl
                            · rw [show fget (drop1 fr (.tmp s)) s = .lst .none z' es by simp [drop1, hf, fget_fput]]; trivial
                            · rw [show fget (drop1 fr (.tmp s)) s = .lst .tight z' es by simp [drop1, hf]]; trivial
                      obtain ⟨A, cap, hy, htight, hrs, hns⟩ := hrel1
                      have grow : cap < es.length + new.length → o.wp P act w K Q := by
                        intro hg
                        have hraw2 : ∃ q2 k2 cap2, act.eval (.tmp s) = .slice (some ⟨q2, k2, none⟩) es.length cap2 ∧ MemAt G w es.flatten q2 k2 ∧ (∀ (i : Nat) (e : List AV), es[i]? = some e → e.length = z') := by
                          rcases raw_mem (a := .tmp s) (b := .tmp s) (z := z') (new := es) (hp := hp) hz1000 (by simp [argOk]) (fun t ht => by simp [argTmp] at ht; subst ht; exact hss) (by simp [rawArg, hf, listOf]) (fun r => hh r (by rw [hx]; simp [footR, cls])) with ⟨a0, h5, h6⟩ | h
                          · obtain ⟨q2, k2, cap2, X, h7, _⟩ := lst_form (by have r1 := hss.1; rw [hf] at r1; exact r1) (by rcases hnu with rfl | rfl <;> simp) (.inr (by rcases hnu with rfl | rfl <;> simp))
                            exact ⟨q2, k2, cap2, h7, by rw [h6]; intro j v hj; simp at hj, by rw [h6]; intro j v hj; simp at hj⟩
                          · exact h
                        rcases (Or.inr hraw2 : False ∨ _) with hF | ⟨q2, k2, cap2, h5, hMo, hzo⟩
                        · exact hF.elim
                        · have e0 : act.eval (.tmp s) = act.tmps.getD s undef := rfl
                          rw [e0, hy] at h5
                          injection h5 with h6 h7 h8
                          injection h6 with h6
                          subst h6 h8
                          obtain ⟨olds, hol, hoc, hor⟩ := news_list hMo
                          have hol' : olds.length = es.length * z' := by rw [hol, (flatten_get hzo).1]
                          have hfo : refFreeL es.flatten = true := by
                            have r1 := hss.1
                            rw [hf, hy] at r1
                            cases r1 with
                            | uniq _ _ _ => rcases hnu with h | h <;> cases h
                            | emp _ _ => rcases hnu with h | h <;> cases h
                            | lst _ _ _ _ _ _ X hu2 hc2 ht2 hcov hz2 hf2 hx2 hr2 =>
                              exact refFreeL_of (fun u hu => by
                                obtain ⟨e, he1, he2⟩ := List.mem_flatten.1 hu
                                obtain ⟨i', hi'⟩ := List.getElem?_of_mem he1
                                obtain ⟨j', hj'⟩ := List.getElem?_of_mem he2
                                exact hf2 i' e j' u hi' hj')
                          have hrun := run_append_grow (P := P) w T o.type E i zv hT hi hzv ⟨q2, k2, none⟩ es.length cap olds (by rw [hz]; exact hol') hoc ⟨q, k, none⟩ new.length ncap news (by rw [hz]; exact hnl') hnc hg (by unfold room at hlR; omega)
                            (growslice_fits hg (by rw [hby]; exact hroom))
                          have hge := grownCap_ge w (es.length + new.length) cap E
                          have hbs := size_zeroCells zv.cells (grownCap w (es.length + new.length) cap E - (es.length + new.length))
                          obtain ⟨G', hn⟩ := next_row (x := x) (hp := hp) (fr := fr) (fr1 := drop1 fr (.tmp s)) (act := act) (z := z') (cap := grownCap w (es.length + new.length) cap E) (es := es ++ new)
                            (C := olds.toArray ++ news.toArray ++ Builtin.zeroCells zv.cells (grownCap w (es.length + new.length) cap E - (es.length + new.length))) (T := E) (fz := (0, 0))
                            (w' := w.drew.alloc (.cells (olds.toArray ++ news.toArray ++ Builtin.zeroCells zv.cells (grownCap w (es.length + new.length) cap E - (es.length + new.length))) E)) hv c2 c3 rfl rfl rfl (by simp)
                            (fun b hb => heap_alloc_lt w.drew _ b hb) (heap_alloc_eq w.drew _) (fun i' e' h => by
                              rcases List.mem_append.1 (List.mem_of_getElem? h) with h | h
                              · obtain ⟨j', hj'⟩ := List.getElem?_of_mem h
                                exact hzo _ _ hj'
                              · obtain ⟨j', hj'⟩ := List.getElem?_of_mem h
                                exact hzn _ _ hj') (by rw [List.length_append]; exact hge)
                            (by rw [Array.size_append, Array.size_append, List.size_toArray, List.size_toArray, hbs, hzs, hnl', hol', ← Nat.add_mul, ← Nat.add_mul]; exact Nat.mul_le_mul_right z' (by omega)) (fun i _ => by simp)
                            (fun i' e' j' u' hi' hj' => by
                              have := rows_rel (rest := (Builtin.zeroCells zv.cells (grownCap w (es.length + new.length) cap E - (es.length + new.length))).toList) hol' hzo (flat_rel (l := olds) hzo hfo hor) hnew2 i' e' j' u' hi' hj'
                              rw [← Array.getElem?_toList]
                              simpa using this) hd (fun t ht => by rw [hm] at ht; simp at ht; subst ht; exact ⟨hrs, hns⟩)
                          rw [List.length_append] at hn
                          refine wp_of_run (go _ _ ?_) (hxd ▸ hK _ _ _ hn)
                          rw [hy, hb]
                          exact hrun
                      rcases hnu with rfl | rfl
                      · obtain ⟨b1, o1, cap1, hy1, hcap1, hob1, ⟨cs, T', fz, h0, hC, hfz1⟩, hk1, _⟩ : OwnOk G w (.slot s) (.lst .own z' es) (act.tmps.getD s undef) := by have := hss.2; rw [hf] at this; exact this
                        rw [hy] at hy1
                        injection hy1 with h6 h7 h8
                        injection h6 with h6
                        subst h6 h8
                        by_cases hg : cap < es.length + new.length
                        · exact grow hg
                        · have hroom2 : es.length + new.length ≤ cap := by omega
                          have hone : ∀ v ∈ news, v.oneCell' = true := by
                            intro y hy'
                            obtain ⟨j, hj⟩ := List.getElem?_of_mem hy'
                            have hjl := (List.getElem?_eq_some_iff.1 hj).1
                            rw [hnl] at hjl
                            obtain ⟨y', h9, h10⟩ := hnr j new.flatten[j] (by simp [hjl])
                            rw [hj] at h9
                            injection h9 with h9
                            subst h9
                            exact (plain1_one (List.all_eq_true.1 hplain _ (List.getElem_mem hjl)) h10).1
                          have hsum : es.length * z' + new.length * z' = (es.length + new.length) * z' := by rw [Nat.add_mul]
                          have hcapz : (es.length + new.length) * z' ≤ cap * z' := Nat.mul_le_mul_right z' hroom2
                          obtain ⟨w', cs', hst, hB, hsz', hcs'⟩ := run_storeCells (P := P) (b := b1) (q := o1 + es.length * z') news 0 w cs h0 (by omega) hone (fun j h5 h6 => hfz1 j (by omega) (by omega))
                          have hrun : (Builtin.append_ #[T, T] o.type #[.slice (some ⟨b1, o1, none⟩) es.length cap, .slice (some ⟨q, k, none⟩) new.length ncap]).run P w = .ok (.slice (some ⟨b1, o1, none⟩) (es.length + new.length) cap) w' := by
                            have hfc := run_firstCells_some (P := P) w i.size new.length ⟨q, k, none⟩ new.length ncap news (by rw [hz]; exact hnl') hnc
                            rw [hz] at hfc
                            simp [Builtin.append_, run_underlying' hT, sizeOf, typeInfo, hi, Builtin.lenOf, hroom2, hfc, Addr.add_lit, hz, hst]
                          obtain ⟨G', hn⟩ := next_room (hp := hp) hm c2 c3 hv hss hf hy hob1 (hk1 rfl) h0 hB hsz' (by simpa using hcs') hroom2 hC hfz1 hzn hnl' hnew2 hd
                          refine wp_of_run (go _ _ ?_) (hxd ▸ hK _ _ _ hn)
                          rw [hy, hb]
                          exact hrun
                      · exact grow (by have := htight rfl; omega)
                    · cases he
                  · cases he
              · cases he
          · cases he
        · cases hzv0
      · cases h2
    · cases h2
  · cases hchk
theorem next_rowu {z cap : Nat} {es : List (List AV)} {C : Array Value} {T : TypeId} {w' : World} {fr1 : List AV} (hz1000 : z < 1000) (hv : Valid G w N) (h2 : cls x.op ≠ 2) (h3 : cls x.op ≠ 3) (hos : w'.os = w.os) (ht : w'.tape = w.tape) (hout : w'.output = w.output)
    (hsz : w'.heap.size = w.heap.size + 1) (hold : ∀ b, b < w.heap.size → w'.heap[b]? = w.heap[b]?) (hb : w'.heap[w.heap.size]? = some (.cells C T (0, 0))) (hz : ∀ (i : Nat) (e : List AV), es[i]? = some e → e.length = z)
    (hcap : es.length ≤ cap) (hC : cap * z ≤ C.size)
    (hrel : ∀ (i : Nat) (e : List AV) (j : Nat) (u : AV), es[i]? = some e → e[j]? = some u → refFree u = true ∧ ∃ y, C[i * z + j]? = some y ∧ RelV G w u y)
    (hd : ∀ d, x.dst = some d → d < act.tmps.size) (hfr : ∀ t ∈ mvs x.op, RelV G w (fget fr1 t) (act.tmps.getD t undef) ∧ noFlag (fget fr1 t)) :
    ∃ G', Next x fr hp G act w N (finX x fr1 (.lst .uniq z es)) hp G' (act.put x.dst (.slice (some ⟨w.heap.size, 0, none⟩) es.length cap)) w' := by
  refine next_newblk (k := .un) (own := true) hv h2 h3 hos ht hout hsz hold (by simp) (fun _ => .inr rfl) hd hfr (fun G' hm hk1 hk2 hown hE => ?_)
  have hX : ∃ X : Nat → Nat → Value, ∀ (i : Nat) (e : List AV) (j : Nat) (u : AV), es[i]? = some e → e[j]? = some u → C[i * z + j]? = some (X i j) ∧ RelV G w u (X i j) := by
    refine ⟨fun i j => (C[i * z + j]?).getD undef, fun i e j u hi hj => ?_⟩
    obtain ⟨_, y, h5, h6⟩ := hrel i e j u hi hj
    simp only [h5, Option.getD_some]
    exact ⟨trivial, h6⟩
  obtain ⟨X, hX⟩ := hX
  refine ⟨.uniq _ _ _, ?_⟩
  intro d hd'
  refine OwnOk.mk_small hz1000 ⟨w.heap.size, 0, cap, rfl, hcap, hown rfl d hd', ⟨C, T, (0, 0), hb, by omega, fun i _ hi => by simp⟩, fun h => (by cases h), fun _ => ⟨hk2, ⟨C, T, hb⟩, X, hz, fun i e j u hi hj => ⟨(hrel i e j u hi hj).1, ?_, ?_⟩⟩⟩
  · have := (hX i e j u hi hj).1
    simp [World.cell?, hb, this]
  · have h8 : RelV { G' with o := G.o } w' u (X i j) := (hX i e j u hi hj).2.ext hv hE
    exact h8.withO (f := G'.o)
theorem next_roomu {s z b o' cap : Nat} {es new : List (List AV)} {cs cs' : Array Value} {T : TypeId} {news : List Value} {w' : World} (hz1000 : z < 1000) (hm : mvs x.op = [s]) (h2 : cls x.op ≠ 2) (h3 : cls x.op ≠ 3) (hv : Valid G w N)
    (hes : fget fr s = .lst .uniq z es) (hob : G.o (.slot s) = some b) (hkb : G.k b = .un) (h0 : w.heap[b]? = some (.cells cs T (0, 0)))
    (hB : SetB w w' b (.cells cs' T (0, 0))) (hsz' : cs'.size = cs.size) (hcs' : ∀ j : Nat, cs'[j]? = if o' + es.length * z ≤ j ∧ j < o' + es.length * z + news.length then news[j - (o' + es.length * z)]? else cs[j]?)
    (hroom : es.length + new.length ≤ cap) (hcapC : o' + cap * z ≤ cs.size) (hzn : ∀ (i : Nat) (e : List AV), new[i]? = some e → e.length = z) (hnl : news.length = new.length * z)
    (hnew : ∀ (i : Nat) (e : List AV) (j : Nat) (u : AV), new[i]? = some e → e[j]? = some u → refFree u = true ∧ ∃ y, news[i * z + j]? = some y ∧ RelV G w u y)
    {X : Nat → Nat → Value} (hz1 : ∀ (i : Nat) (e : List AV), es[i]? = some e → e.length = z) (hX : ∀ (i : Nat) (e : List AV) (j : Nat) (u : AV), es[i]? = some e → e[j]? = some u → refFree u = true ∧ w.cell? ⟨b, o' + i * z + j, none⟩ = some (X i j) ∧ RelV G w u (X i j))
    (hd : ∀ d, x.dst = some d → d < act.tmps.size) :
    ∃ G', Next x fr hp G act w N (finX x (drop1 fr (.tmp s)) (.lst .uniq z (es ++ new))) hp G' (act.put x.dst (.slice (some ⟨b, o', none⟩) (es.length + new.length) cap)) w' := by
  have hbs := (hv.ok _ _ hob).1
  have hwr : ∀ t, t ∈ x.wr ↔ x.dst = some t ∨ t = s := by
    intro t
    cases h : x.dst <;> simp [XO.wr, hm, h, eq_comm]
  have htouch : ∀ l, Touch x fr l ↔ ∃ t, (x.dst = some t ∨ t = s) ∧ l = .slot t := by
    intro l
    constructor
    · rintro (⟨t, h, rfl⟩ | ⟨h, _⟩)
      · exact ⟨t, (hwr t).1 h, rfl⟩
      · exact absurd h h3
    · rintro ⟨t, h, rfl⟩
      exact .inl ⟨t, (hwr t).2 h, rfl⟩
  let f : Loc → Option Nat := fun l => if ∃ t, x.dst = some t ∧ l = .slot t then G.o (.slot s) else if l = .slot s then none else G.o l
  have hf : ∀ l b, f l = some b → ∃ l', G.o l' = some b ∧ (l' = l ∧ ¬ (∃ t, x.dst = some t ∧ l = .slot t) ∧ l ≠ .slot s ∨ l' = .slot s ∧ ∃ t, x.dst = some t ∧ l = .slot t) := by
    intro l b h
    simp only [f] at h
    split at h
    · rename_i h1; exact ⟨_, h, .inr ⟨rfl, h1⟩⟩
    · split at h
      · cases h
      · rename_i h1 h2; exact ⟨_, h, .inl ⟨rfl, h1, h2⟩⟩
  have hmb : ∀ q a, G.m q = some a → a.1 ≠ b := by
    intro q a h e
    have := (hv.mkk q a h).1
    rw [e, hkb] at this
    cases this
  have hsum : es.length * z + new.length * z = (es.length + new.length) * z := by rw [Nat.add_mul]
  have hcapz : (es.length + new.length) * z ≤ cap * z := Nat.mul_le_mul_right z hroom
  let G' : Gh := { G with o := f }
  have hne : ∀ c, G.k c ≠ .un → c ≠ b := fun c h e => h (by rw [e, hkb])
  have hE : Ext (fun c => ∃ l, Touch x fr l ∧ G.o l = some c) G w G' w' := by
    refine ⟨hB.os, hB.tape, hB.output, by rw [hB.size]; exact Nat.le_refl _, fun c h4 h5 => ?_, fun c g h4 h5 => ?_, fun c h4 h5 h6 h7 => ?_, fun q a h => h, fun c h4 h5 => ?_⟩
    · exact ⟨h5, hB.old c (hne c (by rw [h5]; simp))⟩
    · exact ⟨g, Nat.le_refl _, h5, fun i _ => cell_of_heap (hB.old c (hne c (by rw [h5]; simp))) i⟩
    · have hc : c ≠ b := fun e => h7 ⟨.slot s, (htouch _).2 ⟨s, .inr rfl, rfl⟩, by rw [e]; exact hob⟩
      exact ⟨rfl, hB.old c hc⟩
    · exact ⟨h5, fun ds S g hh => ⟨ds, by rw [hB.old c (hne c (by rw [h5]; simp)), hh], rfl⟩⟩
  refine ⟨G', hE, ⟨hv.lev, hv.inj, fun q a h => (by rw [hB.size]; exact hv.mkk q a h), ?_, ?_⟩, put_size .., put_defers .., fun t h => put_ne _ _ _ _ h, ?_, ?_, ?_, fun _ => rfl, fun q h4 h5 => absurd h4 h5,
    fun r c base h1 h2 => (by rw [show G.m r = some (c, base) from h2] at h1; cases h1), fun r c base h _ => hB.old c (hmb r _ h), fun h => absurd h h3⟩
  · intro l l' c h1 h2
    obtain ⟨l1, h4, h5⟩ := hf l c h1
    obtain ⟨l2, h6, h7⟩ := hf l' c h2
    have := hv.oinj _ _ c h4 h6
    subst this
    rcases h5 with ⟨rfl, h8, h9⟩ | ⟨rfl, t, h8, rfl⟩ <;> rcases h7 with ⟨h10, h11, h12⟩ | ⟨h10, u, h11, rfl⟩
    · exact h10
    · exact absurd h10 h9
    · exact absurd h10.symm h12
    · rw [h8] at h11; injection h11 with h11; rw [h11]
  · intro l c h1
    obtain ⟨l1, h4, h5⟩ := hf l c h1
    exact ⟨by rw [hB.size]; exact (hv.ok _ _ h4).1, (hv.ok _ _ h4).2⟩
  · intro t h
    unfold RelS
    by_cases hdt : x.dst = some t
    · rw [show fget (finX x (drop1 fr (.tmp s)) (.lst .uniq z (es ++ new))) t = .lst .uniq z (es ++ new) by simp [finX, hdt, fget_fput], hdt, put_eq _ _ _ (hd t hdt)]
      have hX2 : ∃ X2 : Nat → Nat → Value, ∀ (i : Nat) (e : List AV) (j : Nat) (u : AV), new[i]? = some e → e[j]? = some u → news[i * z + j]? = some (X2 i j) ∧ RelV G w u (X2 i j) := by
        refine ⟨fun i j => (news[i * z + j]?).getD undef, fun i e j u hi hj => ?_⟩
        obtain ⟨_, y, h5, h6⟩ := hnew i e j u hi hj
        simp only [h5, Option.getD_some]
        exact ⟨trivial, h6⟩
      obtain ⟨X2, hX2⟩ := hX2
      have hel : ∀ (i : Nat) (e : List AV), (es ++ new)[i]? = some e → (i < es.length ∧ es[i]? = some e) ∨ (es.length ≤ i ∧ new[i - es.length]? = some e) := by
        intro i e hi
        rcases Nat.lt_or_ge i es.length with hlt | hge
        · rw [List.getElem?_append_left hlt] at hi; exact .inl ⟨hlt, hi⟩
        · rw [List.getElem?_append_right hge] at hi; exact .inr ⟨hge, hi⟩
      have hzz : ∀ (i : Nat) (e : List AV), (es ++ new)[i]? = some e → e.length = z := by
        intro i e hi
        rcases hel i e hi with ⟨_, h⟩ | ⟨_, h⟩
        · exact hz1 i e h
        · exact hzn _ e h
      have hlen : (es ++ new).length = es.length + new.length := List.length_append
      refine ⟨.uniq _ _ _, OwnOk.mk_small hz1000 ⟨b, o', cap, by rw [hlen], by rw [hlen]; exact hroom, by simp only [G', f]; rw [if_pos ⟨t, hdt, rfl⟩]; exact hob, ⟨cs', T, (0, 0), hB.new, by omega, fun i h5 h6 => by simp⟩, fun h => (by cases h),
        fun _ => ⟨hkb, ⟨cs', T, hB.new⟩, fun i j => if i < es.length then X i j else X2 (i - es.length) j, hzz, fun i e j u hi hj => ?_⟩⟩⟩
      rcases hel i e hi with ⟨hlt, h⟩ | ⟨hge, h⟩
      · simp only [if_pos hlt]
        obtain ⟨g1, g2, g3⟩ := hX i e j u h hj
        refine ⟨g1, ?_, g3.ext hv hE⟩
        rw [← g2]
        have hj' := (List.getElem?_eq_some_iff.1 hj).1
        rw [hz1 i e h] at hj'
        have : i * z + z ≤ es.length * z := by
          have := Nat.mul_le_mul_right z (Nat.succ_le_of_lt hlt)
          rw [Nat.succ_mul] at this
          exact this
        have e1 : cs'[o' + i * z + j]? = cs[o' + i * z + j]? := by rw [hcs', if_neg (by omega)]
        simp [World.cell?, hB.new, h0, e1]
      · simp only [if_neg (show ¬ i < es.length by omega)]
        refine ⟨(hnew _ e j u h hj).1, ?_, (hX2 _ e j u h hj).2.ext hv hE⟩
        obtain ⟨h8, _⟩ := hX2 _ e j u h hj
        have hlt := (List.getElem?_eq_some_iff.1 h8).1
        obtain ⟨k, rfl⟩ : ∃ k, i = es.length + k := ⟨i - es.length, by omega⟩
        rw [Nat.add_sub_cancel_left] at h8 hlt ⊢
        have e2 : o' + (es.length + k) * z + j = o' + es.length * z + (k * z + j) := by rw [Nat.add_mul]; omega
        have e1 : cs'[o' + es.length * z + (k * z + j)]? = some (X2 k j) := by
          rw [hcs', if_pos (by omega), Nat.add_sub_cancel_left, h8]
        rw [e2]
        simp [World.cell?, hB.new, e1]
    · have hts := ((hwr t).1 h).resolve_left hdt
      subst hts
      have e1 : fget (finX x (drop1 fr (.tmp t)) (.lst .uniq z (es ++ new))) t = .undef := by
        have e0 : fget (drop1 fr (.tmp t)) t = .undef := by simp [drop1, hes, fget_fput]
        simp only [finX]
        split
        · rename_i d hd'; rw [fget_fput, if_neg (fun e => hdt (by rw [hd', e])), e0]
        · exact e0
      rw [e1]
      exact ⟨.undef _, .of_noFlag trivial⟩
  · intro l h
    show f l = _
    simp only [f]
    rw [if_neg (fun ⟨t, h1, h2⟩ => h ((htouch l).2 ⟨t, .inl h1, h2⟩)), if_neg (fun h1 => h ((htouch l).2 ⟨s, .inr rfl, h1⟩))]
  · intro l c h h1
    obtain ⟨l1, h4, h5⟩ := hf l c h1
    refine .inl ⟨l1, ?_, h4⟩
    rcases h5 with ⟨rfl, h8, h9⟩ | ⟨rfl, t, h8, rfl⟩
    · exact h
    · exact (htouch _).2 ⟨s, .inr rfl, rfl⟩
theorem step_appu {z bytes s : Nat} {a : XArg} (hx : x.op = .app true z bytes s a) (hchk : chkOp P prims (.app true z bytes s a) o = true) (hxd : x.dst = o.dst) (hd : ∀ d, x.dst = some d → d < act.tmps.size)
    (he : evOp C gl d (.app true z bytes s a) fr hp = some (v, fr1, hp1)) (hv : Valid G w N) (hs : ∀ t ∈ rds (.app true z bytes s a), RelS G w fr act t)
    (hh : ∀ r, footR fr x.op r → ∀ b base blk, G.m r = some (b, base) → hget hp r = some blk → RelBlk G w r b base blk)
    (hK : ∀ G' act' w', Next x fr hp G act w N (finX x fr1 v) hp1 G' act' w' → K act' w') : o.wp P act w K Q := by
  have hm : mvs x.op = [s] := by rw [hx]; rfl
  have c2 : cls x.op ≠ 2 := by rw [hx]; simp [cls]
  have c3 : cls x.op ≠ 3 := by rw [hx]; simp [cls]
  simp only [chkOp] at hchk
  split at hchk
  · rename_i t b T T2 hcb
    simp only [Bool.and_eq_true, beq_iff_eq] at hchk
    obtain ⟨⟨⟨⟨hz1000', hst⟩, h1⟩, hTT⟩, h2⟩ := hchk
    have hz1000 : z < 1000 := of_decide_eq_true hz1000'
    subst hst hTT
    split at h2
    · rename_i E hT
      split at h2
      · rename_i i hi
        simp only [Bool.and_eq_true, beq_iff_eq, decide_eq_true_eq] at h2
        obtain ⟨⟨⟨⟨hz, hby⟩, hz0⟩, hb0⟩, hzv0⟩ := h2
        split at hzv0
        · rename_i zv hzv
          have hzs : zv.cells.size = z := by simpa using hzv0
          have ho := callB_spec' hcb
          obtain ⟨c, hbi⟩ := call_builtin (act := act) (o := o) _ _ _ ho
          have hss : RelS G w fr act s := hs s (by simp [rds])
          have hraw := fun new (h : listOf hp z (rawArg fr a) = some new) => raw_mem (act := act) (G := G) (w := w) hz1000 h1 (fun t ht => hs t (by simp only [rds]; exact List.mem_cons_of_mem _ (mem_ats (a := a) (by simp) ht))) h (fun r => hh r (by rw [hx]; simp [footR, cls]))
          have go : ∀ (y : Value) (w' : World), (Builtin.append_ #[T, T] o.type #[act.tmps.getD s undef, act.eval b]).run P w = .ok y w' → (execOp act.eval o).run P w = .ok (.value y) w' := by
            intro y w' h
            have e0 : act.eval (.tmp s) = act.tmps.getD s undef := rfl
            rw [hbi]
            simp at h
            simp [builtin, e0, h]
          simp only [evOp] at he
          split at he
          · rename_i new hnew
            split at he
            · rename_i hn0
              subst hn0
              have hemp : ∃ a' c', act.eval b = .slice a' 0 c' := by
                rcases hraw _ hnew with ⟨a0, h5, _⟩ | ⟨q, k, cap, h5, _, _⟩
                · exact ⟨_, _, h5⟩
                · exact ⟨_, _, h5⟩
              obtain ⟨a', c', hb⟩ := hemp
              have fin : ∀ base n cap, act.tmps.getD s undef = .slice base n cap → n ≤ cap → v = fget fr s → fr1 = drop1 fr (.tmp s) → hp1 = hp → o.wp P act w K Q := by
                rintro base n cap hy hle rfl rfl rfl
                obtain ⟨G', hn⟩ := next_own (hp := hp1) hm c2 c3 hv hss hd
                refine wp_of_run (y := act.tmps.getD s undef) (go _ _ ?_) (hxd ▸ hK _ _ _ hn)
                rw [hy, hb]
                exact run_append_empty hT hi hle
              split at he
              · rename_i hf
                simp only [Option.some.injEq, Prod.mk.injEq] at he
                obtain ⟨r1, r2⟩ := hss
                rw [hf] at r1
                generalize hyy : act.tmps.getD s undef = yy at r1
                cases r1
                exact fin _ _ _ hyy (Nat.le_refl _) (by rw [hf]; exact he.1.symm) he.2.1.symm he.2.2.symm
              · rename_i ow z' es hf
                split at he <;> (try (cases he; done))
                rename_i hlB
                simp only [Option.some.injEq, Prod.mk.injEq] at he
                have hys : ∃ base n cap, act.tmps.getD s undef = .slice base n cap ∧ n ≤ cap := by
                  obtain ⟨r1, r2⟩ := hss
                  rw [hf] at r1 r2
                  by_cases hu : ow = .uniq
                  · subst hu
                    obtain ⟨q, k, cap, hy, hcap, _⟩ := r2.small (of_decide_eq_true hlB)
                    exact ⟨_, _, _, hy, hcap⟩
                  · generalize hyy : act.tmps.getD s undef = yy at r1
                    cases r1 with
                    | uniq _ _ _ => exact absurd rfl hu
                    | emp _ _ => exact ⟨_, _, _, rfl, Nat.le_refl _⟩
                    | lst _ _ _ q k cap X _ hcap => exact ⟨_, _, _, rfl, hcap⟩
                obtain ⟨base, n, cap, hy, hle⟩ := hys
                exact fin _ _ _ hy hle (by rw [hf]; exact he.1.symm) he.2.1.symm he.2.2.symm
              · cases he
            · rename_i hn0
              split at he
              · rename_i hcond
                obtain ⟨hfree, hplain⟩ := hcond
                rcases hraw _ hnew with ⟨_, _, h6⟩ | ⟨q, k, ncap, hb, hM, hzn⟩
                · exact absurd h6 hn0
                · obtain ⟨news, hnl, hnc, hnr⟩ := news_list hM
                  have hnl' : news.length = new.length * z := by rw [hnl, (flatten_get hzn).1]
                  have hnew2 := flat_rel (l := news) hzn hfree hnr
                  have hpos : 0 < new.length := List.length_pos_iff.2 hn0
                  split at he
                  · rename_i hf
                    split at he
                    · rename_i hroom
                      simp only [Option.some.injEq, Prod.mk.injEq] at he
                      obtain ⟨rfl, rfl, rfl⟩ := he
                      have hy : act.tmps.getD s undef = .slice none 0 0 := by
                        have r1 := hss.1
                        rw [hf] at r1
                        generalize act.tmps.getD s undef = yy at r1
                        cases r1
                        rfl
                      have hle1 : new.length ≤ room := Nat.le_trans (Nat.le_mul_of_pos_right _ hb0) hroom
                      have hrun := run_append_nil (P := P) w T o.type E i zv hT hi hzv ⟨q, k, none⟩ new.length ncap news (by rw [hz]; exact hnl') hnc hpos (by unfold room at hle1; omega) (by rw [hby]; unfold room at hroom; omega)
                      have hge := grownCap_ge w new.length 0 E
                      have hbs := size_zeroCells zv.cells (grownCap w new.length 0 E - new.length)
                      obtain ⟨G', hn⟩ := next_rowu hz1000 (x := x) (hp := hp) (fr := fr) (fr1 := fr) (act := act) (z := z) (cap := grownCap w new.length 0 E) (es := new) (C := news.toArray ++ Builtin.zeroCells zv.cells (grownCap w new.length 0 E - new.length)) (T := E)
                        (w' := w.drew.alloc (.cells (news.toArray ++ Builtin.zeroCells zv.cells (grownCap w new.length 0 E - new.length)) E)) hv c2 c3 rfl rfl rfl (by simp) (fun b hb => heap_alloc_lt w.drew _ b hb) (heap_alloc_eq w.drew _) hzn hge
                        (by rw [Array.size_append, List.size_toArray, hbs, hzs, hnl', ← Nat.add_mul]; exact Nat.mul_le_mul_right z (by omega))
                        (fun i e j u hi' hj => by
                          obtain ⟨h8, y, h9, h10⟩ := hnew2 i e j u hi' hj
                          have hl := (List.getElem?_eq_some_iff.1 h9).1
                          exact ⟨h8, y, by rw [Array.getElem?_append_left (by simpa using hl)]; simpa using h9, h10⟩) hd
                        (fun t ht => by rw [hm] at ht; simp at ht; subst ht; rw [hf]; exact ⟨by rw [hy]; exact .nilsl, trivial⟩)
                      refine wp_of_run (go _ _ ?_) (hxd ▸ hK _ _ _ hn)
                      rw [hy, hb]
                      exact hrun
                    · cases he
                  · rename_i ow z' es hf
                    split at he
                    · rename_i hcond2
                      obtain ⟨rfl, hmay, hroom⟩ := hcond2
                      simp only [Option.some.injEq, Prod.mk.injEq] at he
                      obtain ⟨rfl, rfl, rfl⟩ := he
                      have hlR : (es.length + new.length) ≤ room := Nat.le_trans (Nat.le_mul_of_pos_right _ hb0) hroom
                      have hnu : ow = .uniq ∨ ow = .tight := by cases ow <;> simp [appMay] at hmay <;> simp
                      have hrel1 : ∃ A cap, act.tmps.getD s undef = .slice (some A) es.length cap ∧ (ow = .tight → cap = es.length) ∧ RelV G w (fget (drop1 fr (.tmp s)) s) (act.tmps.getD s undef) ∧ noFlag (fget (drop1 fr (.tmp s)) s) := by
                        rcases hnu with rfl | rfl
                        · have r2 := hss.2
                          rw [hf] at r2
                          obtain ⟨q2, k2, cap2, hy2, _⟩ := r2.small hz1000
                          refine ⟨_, cap2, hy2, (fun h => by cases h), ?_, ?_⟩ <;> rw [show fget (drop1 fr (.tmp s)) s = .undef by simp [drop1, hf, fget_fput]]
                          · exact .undef _
                          · trivial
                        · have r1 := hss.1
                          rw [hf] at r1
                          generalize act.tmps.getD s undef = yy at r1
                          cases r1 with
                          | lst _ _ _ q2 k2 cap2 X hu2 hc2 ht2 hcov hz2 hf2 hx2 hr2 =>
                            refine ⟨_, cap2, rfl, ht2, ?_, ?_⟩ <;> rw [show fget (drop1 fr (.tmp s)) s = .lst .tight z' es by simp [drop1, hf]]
                            · exact .lst .tight z' es q2 k2 cap2 X (by simp) hc2 ht2 hcov hz2 hf2 hx2 hr2
                            · trivial
                      obtain ⟨A, cap, hy, htight, hrs, hns⟩ := hrel1
                      have grow : cap < es.length + new.length → o.wp P act w K Q := by
                        intro hg
                        have hraw2 : ∃ q2 k2 cap2, act.eval (.tmp s) = .slice (some ⟨q2, k2, none⟩) es.length cap2 ∧ MemAt G w es.flatten q2 k2 ∧ (∀ (i : Nat) (e : List AV), es[i]? = some e → e.length = z') := by
                          rcases raw_mem (a := .tmp s) (b := .tmp s) (z := z') (new := es) (hp := hp) hz1000 (by simp [argOk]) (fun t ht => by simp [argTmp] at ht; subst ht; exact hss) (by simp [rawArg, hf, listOf]) (fun r => hh r (by rw [hx]; simp [footR, cls])) with ⟨a0, h5, h6⟩ | h
                          · rcases hnu with rfl | rfl
                            · have r2 := hss.2
                              rw [hf] at r2
                              obtain ⟨q2, k2, cap2, h7, _⟩ := r2.small hz1000
                              exact ⟨q2, k2, cap2, h7, by rw [h6]; intro j v hj; simp at hj, by rw [h6]; intro j v hj; simp at hj⟩
                            · obtain ⟨q2, k2, cap2, X, h7, _⟩ := lst_form (by have r1 := hss.1; rw [hf] at r1; exact r1) (by simp) (.inr (by simp))
                              exact ⟨q2, k2, cap2, h7, by rw [h6]; intro j v hj; simp at hj, by rw [h6]; intro j v hj; simp at hj⟩
                          · exact h
                        rcases (Or.inr hraw2 : False ∨ _) with hF | ⟨q2, k2, cap2, h5, hMo, hzo⟩
                        · exact hF.elim
                        · have e0 : act.eval (.tmp s) = act.tmps.getD s undef := rfl
                          rw [e0, hy] at h5
                          injection h5 with h6 h7 h8
                          injection h6 with h6
                          subst h6 h8
                          obtain ⟨olds, hol, hoc, hor⟩ := news_list hMo
                          have hol' : olds.length = es.length * z' := by rw [hol, (flatten_get hzo).1]
                          have hfo : refFreeL es.flatten = true := by
                            rcases hnu with rfl | rfl
                            · have r2 := hss.2
                              rw [hf] at r2
                              obtain ⟨q2', k2', cap2', hy2, _, _, _, _, hun⟩ := r2.small hz1000
                              obtain ⟨_, _, X, hz2, hX2⟩ := hun rfl
                              exact refFreeL_of (fun u hu => by
                                obtain ⟨e, he1, he2⟩ := List.mem_flatten.1 hu
                                obtain ⟨i', hi'⟩ := List.getElem?_of_mem he1
                                obtain ⟨j', hj'⟩ := List.getElem?_of_mem he2
                                exact (hX2 i' e j' u hi' hj').1)
                            · have r1 := hss.1
                              rw [hf, hy] at r1
                              cases r1 with
                              | lst _ _ _ _ _ _ X hu2 hc2 ht2 hcov hz2 hf2 hx2 hr2 =>
                                exact refFreeL_of (fun u hu => by
                                  obtain ⟨e, he1, he2⟩ := List.mem_flatten.1 hu
                                  obtain ⟨i', hi'⟩ := List.getElem?_of_mem he1
                                  obtain ⟨j', hj'⟩ := List.getElem?_of_mem he2
                                  exact hf2 i' e j' u hi' hj')
                          have hrun := run_append_grow (P := P) w T o.type E i zv hT hi hzv ⟨q2, k2, none⟩ es.length cap olds (by rw [hz]; exact hol') hoc ⟨q, k, none⟩ new.length ncap news (by rw [hz]; exact hnl') hnc hg (by unfold room at hlR; omega)
                            (growslice_fits hg (by rw [hby]; exact hroom))
                          have hge := grownCap_ge w (es.length + new.length) cap E
                          have hbs := size_zeroCells zv.cells (grownCap w (es.length + new.length) cap E - (es.length + new.length))
                          obtain ⟨G', hn⟩ := next_rowu hz1000 (x := x) (hp := hp) (fr := fr) (fr1 := drop1 fr (.tmp s)) (act := act) (z := z') (cap := grownCap w (es.length + new.length) cap E) (es := es ++ new)
                            (C := olds.toArray ++ news.toArray ++ Builtin.zeroCells zv.cells (grownCap w (es.length + new.length) cap E - (es.length + new.length))) (T := E)
                            (w' := w.drew.alloc (.cells (olds.toArray ++ news.toArray ++ Builtin.zeroCells zv.cells (grownCap w (es.length + new.length) cap E - (es.length + new.length))) E)) hv c2 c3 rfl rfl rfl (by simp)
                            (fun b hb => heap_alloc_lt w.drew _ b hb) (heap_alloc_eq w.drew _) (fun i' e' h => by
                              rcases List.mem_append.1 (List.mem_of_getElem? h) with h | h
                              · obtain ⟨j', hj'⟩ := List.getElem?_of_mem h
                                exact hzo _ _ hj'
                              · obtain ⟨j', hj'⟩ := List.getElem?_of_mem h
                                exact hzn _ _ hj') (by rw [List.length_append]; exact hge)
                            (by rw [Array.size_append, Array.size_append, List.size_toArray, List.size_toArray, hbs, hzs, hnl', hol', ← Nat.add_mul, ← Nat.add_mul]; exact Nat.mul_le_mul_right z' (by omega))
                            (fun i' e' j' u' hi' hj' => by
                              have := rows_rel (rest := (Builtin.zeroCells zv.cells (grownCap w (es.length + new.length) cap E - (es.length + new.length))).toList) hol' hzo (flat_rel (l := olds) hzo hfo hor) hnew2 i' e' j' u' hi' hj'
                              rw [← Array.getElem?_toList]
                              simpa using this) hd (fun t ht => by rw [hm] at ht; simp at ht; subst ht; exact ⟨hrs, hns⟩)
                          rw [List.length_append] at hn
                          refine wp_of_run (go _ _ ?_) (hxd ▸ hK _ _ _ hn)
                          rw [hy, hb]
                          exact hrun
                      rcases hnu with rfl | rfl
                      · obtain ⟨b1, o1, cap1, hy1, hcap1, hob1, ⟨cs, T', fz, h0, hC, hfz1⟩, _, hk1⟩ : OwnC G w (.slot s) .uniq z' es (act.tmps.getD s undef) := by have := hss.2; rw [hf] at this; exact this.small hz1000
                        obtain ⟨hkb, ⟨cs0, T0, hz00⟩, X, hz1, hX1⟩ := hk1 rfl
                        rw [hz00] at h0
                        injection h0 with h0
                        injection h0 with e1 e2 e3
                        subst e1 e2 e3
                        rw [hy] at hy1
                        injection hy1 with h6 h7 h8
                        injection h6 with h6
                        subst h6 h8
                        by_cases hg : cap < es.length + new.length
                        · exact grow hg
                        · have hroom2 : es.length + new.length ≤ cap := by omega
                          have hone : ∀ v ∈ news, v.oneCell' = true := by
                            intro y hy'
                            obtain ⟨j, hj⟩ := List.getElem?_of_mem hy'
                            have hjl := (List.getElem?_eq_some_iff.1 hj).1
                            rw [hnl] at hjl
                            obtain ⟨y', h9, h10⟩ := hnr j new.flatten[j] (by simp [hjl])
                            rw [hj] at h9
                            injection h9 with h9
                            subst h9
                            exact (plain1_one (List.all_eq_true.1 hplain _ (List.getElem_mem hjl)) h10).1
                          have hsum : es.length * z' + new.length * z' = (es.length + new.length) * z' := by rw [Nat.add_mul]
                          have hcapz : (es.length + new.length) * z' ≤ cap * z' := Nat.mul_le_mul_right z' hroom2
                          obtain ⟨w', cs', hst, hB, hsz', hcs'⟩ := run_storeCells (P := P) (b := b1) (q := o1 + es.length * z') news 0 w cs0 hz00 (by omega) hone (fun j h5 h6 => hfz1 j (by omega) (by omega))
                          have hrun : (Builtin.append_ #[T, T] o.type #[.slice (some ⟨b1, o1, none⟩) es.length cap, .slice (some ⟨q, k, none⟩) new.length ncap]).run P w = .ok (.slice (some ⟨b1, o1, none⟩) (es.length + new.length) cap) w' := by
                            have hfc := run_firstCells_some (P := P) w i.size new.length ⟨q, k, none⟩ new.length ncap news (by rw [hz]; exact hnl') hnc
                            rw [hz] at hfc
                            simp [Builtin.append_, run_underlying' hT, sizeOf, typeInfo, hi, Builtin.lenOf, hroom2, hfc, Addr.add_lit, hz, hst]
                          obtain ⟨G', hn⟩ := next_roomu (hp := hp) hz1000 hm c2 c3 hv hf hob1 hkb hz00 hB hsz' (by simpa using hcs') hroom2 hC hzn hnl' hnew2 hz1 hX1 hd
                          refine wp_of_run (go _ _ ?_) (hxd ▸ hK _ _ _ hn)
                          rw [hy, hb]
                          exact hrun
                      · exact grow (by have := htight rfl; omega)
                    · cases he
                  · cases he
              · cases he
          · cases he
        · cases hzv0
      · cases h2
    · cases h2
  · cases hchk
theorem next_primm {s b o' cap : Nat} {es es' : List (List AV)} {cs cs' : Array Value} {T : TypeId} {w' : World} (hm : mvs x.op = [s]) (h2 : cls x.op ≠ 2) (h3 : cls x.op ≠ 3) (hv : Valid G w N)
    (hes : fget fr s = .lst .uniq 1 es) (hob : G.o (.slot s) = some b) (hkb : G.k b = .un) (h0 : w.heap[b]? = some (.cells cs T (0, 0)))
    (hos : w'.os = w.os) (ht : w'.tape = w.tape) (hout : w'.output = w.output) (hsz : w.heap.size ≤ w'.heap.size) (hold : ∀ c, c < w.heap.size → c ≠ b → w'.heap[c]? = w.heap[c]?)
    (hnew : w'.heap[b]? = some (.cells cs' T (0, 0))) (hsz' : cs'.size = cs.size) (hcapC : o' + cap ≤ cs.size) (hle : es'.length ≤ cap)
    (hX : ∀ (i : Nat) (e : List AV), es'[i]? = some e → ∃ x : ByteArray, e = [.str x.data.toList] ∧ cs'[o' + i]? = some (.string x)) (hd : ∀ d, x.dst = some d → d < act.tmps.size) :
    ∃ G', Next x fr hp G act w N (finX x (drop1 fr (.tmp s)) (.lst .uniq 1 es')) hp G' (act.put x.dst (.slice (some ⟨b, o', none⟩) es'.length cap)) w' := by
  have hbs := (hv.ok _ _ hob).1
  have hwr : ∀ t, t ∈ x.wr ↔ x.dst = some t ∨ t = s := by
    intro t
    cases h : x.dst <;> simp [XO.wr, hm, h, eq_comm]
  have htouch : ∀ l, Touch x fr l ↔ ∃ t, (x.dst = some t ∨ t = s) ∧ l = .slot t := by
    intro l
    constructor
    · rintro (⟨t, h, rfl⟩ | ⟨h, _⟩)
      · exact ⟨t, (hwr t).1 h, rfl⟩
      · exact absurd h h3
    · rintro ⟨t, h, rfl⟩
      exact .inl ⟨t, (hwr t).2 h, rfl⟩
  let f : Loc → Option Nat := fun l => if ∃ t, x.dst = some t ∧ l = .slot t then G.o (.slot s) else if l = .slot s then none else G.o l
  have hf : ∀ l b, f l = some b → ∃ l', G.o l' = some b ∧ (l' = l ∧ ¬ (∃ t, x.dst = some t ∧ l = .slot t) ∧ l ≠ .slot s ∨ l' = .slot s ∧ ∃ t, x.dst = some t ∧ l = .slot t) := by
    intro l b h
    simp only [f] at h
    split at h
    · rename_i h1; exact ⟨_, h, .inr ⟨rfl, h1⟩⟩
    · split at h
      · cases h
      · rename_i h1 h2; exact ⟨_, h, .inl ⟨rfl, h1, h2⟩⟩
  have hmb : ∀ q a, G.m q = some a → a.1 ≠ b := by
    intro q a h e
    have := (hv.mkk q a h).1
    rw [e, hkb] at this
    cases this
  let G' : Gh := { G with o := f }
  have hne : ∀ c, G.k c ≠ .un → c ≠ b := fun c h e => h (by rw [e, hkb])
  have hE : Ext (fun c => ∃ l, Touch x fr l ∧ G.o l = some c) G w G' w' := by
    refine ⟨hos, ht, hout, hsz, fun c h4 h5 => ?_, fun c g h4 h5 => ?_, fun c h4 h5 h6 h7 => ?_, fun q a h => h, fun c h4 h5 => ?_⟩
    · exact ⟨h5, hold c h4 (hne c (by rw [h5]; simp))⟩
    · exact ⟨g, Nat.le_refl _, h5, fun i _ => cell_of_heap (hold c h4 (hne c (by rw [h5]; simp))) i⟩
    · have hc : c ≠ b := fun e => h7 ⟨.slot s, (htouch _).2 ⟨s, .inr rfl, rfl⟩, by rw [e]; exact hob⟩
      exact ⟨rfl, hold c h4 hc⟩
    · exact ⟨h5, fun ds S g hh => ⟨ds, by rw [hold c h4 (hne c (by rw [h5]; simp)), hh], rfl⟩⟩
  refine ⟨G', hE, ⟨hv.lev, hv.inj, fun q a h => ⟨(hv.mkk q a h).1, Nat.lt_of_lt_of_le (hv.mkk q a h).2 hsz⟩, ?_, ?_⟩, put_size .., put_defers .., fun t h => put_ne _ _ _ _ h, ?_, ?_, ?_, fun _ => rfl, fun q h4 h5 => absurd h4 h5,
    fun r c base h1 h2 => (by rw [show G.m r = some (c, base) from h2] at h1; cases h1), fun r c base h _ => hold c (hv.mkk r _ h).2 (hmb r _ h), fun h => absurd h h3⟩
  · intro l l' c h1 h2
    obtain ⟨l1, h4, h5⟩ := hf l c h1
    obtain ⟨l2, h6, h7⟩ := hf l' c h2
    have := hv.oinj _ _ c h4 h6
    subst this
    rcases h5 with ⟨rfl, h8, h9⟩ | ⟨rfl, t, h8, rfl⟩ <;> rcases h7 with ⟨h10, h11, h12⟩ | ⟨h10, u, h11, rfl⟩
    · exact h10
    · exact absurd h10 h9
    · exact absurd h10.symm h12
    · rw [h8] at h11; injection h11 with h11; rw [h11]
  · intro l c h1
    obtain ⟨l1, h4, h5⟩ := hf l c h1
    exact ⟨Nat.lt_of_lt_of_le (hv.ok _ _ h4).1 hsz, (hv.ok _ _ h4).2⟩
  · intro t h
    unfold RelS
    by_cases hdt : x.dst = some t
    · rw [show fget (finX x (drop1 fr (.tmp s)) (.lst .uniq 1 es')) t = .lst .uniq 1 es' by simp [finX, hdt, fget_fput], hdt, put_eq _ _ _ (hd t hdt)]
      refine ⟨.uniq _ _ _, OwnOk.mk_small (by decide) ⟨b, o', cap, rfl, hle, by simp only [G', f]; rw [if_pos ⟨t, hdt, rfl⟩]; exact hob, ⟨cs', T, (0, 0), hnew, by omega, fun i h5 h6 => by simp⟩, fun h => (by cases h),
        fun _ => ⟨hkb, ⟨cs', T, hnew⟩, fun i _ => (cs'[o' + i]?).getD undef, fun i e hi => ?_, fun i e j u hi hj => ?_⟩⟩⟩
      · obtain ⟨y, rfl, _⟩ := hX i e hi; rfl
      · obtain ⟨y, rfl, h5⟩ := hX i e hi
        cases j with
        | zero =>
          simp at hj
          subst hj
          refine ⟨rfl, ?_, ?_⟩
          · simp [World.cell?, hnew, h5]
          · simp only [h5, Option.getD_some]; exact .str y
        | succ j => simp at hj
    · have hts := ((hwr t).1 h).resolve_left hdt
      subst hts
      have e1 : fget (finX x (drop1 fr (.tmp t)) (.lst .uniq 1 es')) t = .undef := by
        have e0 : fget (drop1 fr (.tmp t)) t = .undef := by simp [drop1, hes, fget_fput]
        simp only [finX]
        split
        · rename_i d hd'; rw [fget_fput, if_neg (fun e => hdt (by rw [hd', e])), e0]
        · exact e0
      rw [e1]
      exact ⟨.undef _, .of_noFlag trivial⟩
  · intro l h
    show f l = _
    simp only [f]
    rw [if_neg (fun ⟨t, h1, h2⟩ => h ((htouch l).2 ⟨t, .inl h1, h2⟩)), if_neg (fun h1 => h ((htouch l).2 ⟨s, .inr rfl, h1⟩))]
  · intro l c h h1
    obtain ⟨l1, h4, h5⟩ := hf l c h1
    refine .inl ⟨l1, ?_, h4⟩
    rcases h5 with ⟨rfl, h8, h9⟩ | ⟨rfl, t, h8, rfl⟩
    · exact h
    · exact (htouch _).2 ⟨s, .inr rfl, rfl⟩
theorem strsOf_get : ∀ {es : List (List AV)} {ss : List (List UInt8)}, strsOf es = some ss → ∀ (i : Nat) (e : List AV), es[i]? = some e → ∃ s, e = [.str s]
  | [], _, _, i, e, hi => by simp at hi
  | a :: l, ss, h, i, e, hi => by
    unfold strsOf at h
    split at h
    · rename_i h1; cases h1
    · rename_i s l' h1
      injection h1 with h1 h2
      subst h1 h2
      split at h
      · rename_i r hr
        cases i with
        | zero => simp at hi; exact ⟨s, hi.symm⟩
        | succ i => exact strsOf_get hr i e (by simpa using hi)
      · cases h
    · cases h
theorem primM_strs {id : Nat} {es es' : List (List AV)} (h : primM id es = some es') : ∀ (i : Nat) (e : List AV), es[i]? = some e → ∃ s, e = [.str s] := by
  unfold primM at h
  split at h
  · split at h
    · rename_i ss hs
      exact strsOf_get hs
    · cases h
  · cases h
theorem step_primm {id f s : Nat} (hP : PrimOk P gl prims) (hx : x.op = .primm id f s) (hchk : chkOp P prims (.primm id f s) o = true) (hxd : x.dst = o.dst) (hd : ∀ d, x.dst = some d → d < act.tmps.size)
    (he : evOp C gl (x.dst.getD 0) (.primm id f s) fr hp = some (v, fr1, hp1)) (hv : Valid G w N) (hs : ∀ t ∈ rds (.primm id f s), RelS G w fr act t)
    (hK : ∀ G' act' w', Next x fr hp G act w N (finX x fr1 v) hp1 G' act' w' → K act' w') : o.wp P act w K Q := by
  simp only [chkOp] at hchk
  split at hchk
  · rename_i g t hcall
    simp only [Bool.and_eq_true, beq_iff_eq] at hchk
    obtain ⟨⟨rfl, rfl⟩, hmem⟩ := hchk
    have hm : (f, id) ∈ prims := by simpa using hmem
    have hss := hs s (by simp [rds])
    have c2 : cls x.op ≠ 2 := by rw [hx]; simp [cls]
    have c3 : cls x.op ≠ 3 := by rw [hx]; simp [cls]
    have hmv : mvs x.op = [s] := by rw [hx]; rfl
    have hargs : ([Operand.tmp s].map act.eval).toArray = #[act.tmps.getD s undef] := rfl
    simp only [evOp] at he
    split at he
    · rename_i z es hes
      split at he
      · rename_i hz1
        subst hz1
        split at he
        · rename_i es' hpm
          simp only [Option.some.injEq, Prod.mk.injEq] at he
          obtain ⟨rfl, rfl, rfl⟩ := he
          obtain ⟨hb, _, hC⟩ := hP.2 (f, id) hm es es' hpm
          have r2 := hss.2
          rw [hes] at r2
          obtain ⟨b, o', cap, hy, hcap, hob, ⟨cs0, T0, fz0, g1, g2, _⟩, _, hun⟩ := r2.small (by decide)
          obtain ⟨hkb, ⟨cs, T, h0⟩, X, hz, hX⟩ := hun rfl
          rw [h0] at g1
          injection g1 with g1
          injection g1 with e1 e2 e3
          subst e1 e2 e3
          have hA := hC w b o' cap cs T h0 hcap (by omega) (fun i e hi => by
            obtain ⟨q, rfl⟩ := primM_strs hpm i e hi
            obtain ⟨_, h8, h9⟩ := hX i _ 0 _ hi rfl
            generalize X i 0 = y at h8 h9
            cases h9 with
            | str q' =>
              refine ⟨q', rfl, ?_⟩
              simpa [World.cell?, h0] using h8)
          obtain ⟨_, hcalls⟩ := hA
          unfold Oper.wp
          rw [run_call hcall, run_enter hb, hargs, hy]
          show Calls P f _ w _
          refine Calls.mono hcalls ?_
          rintro e w' ⟨rfl, hle, h4, h5, h6, h7, h8, cs', h9, h10, h11⟩
          obtain ⟨G', hn⟩ := next_primm (x := x) (fr := fr) (hp := hp) (act := act) hmv c2 c3 hv hes hob hkb h0 h4 h5 h6 h7 h8 h9 h10 (by omega) hle h11 hd
          exact hxd ▸ hK _ _ _ hn
        · cases he
      · cases he
    · rename_i hes
      split at he
      · rename_i e0 hpm
        simp only [Option.some.injEq, Prod.mk.injEq] at he
        obtain ⟨rfl, rfl, rfl⟩ := he
        obtain ⟨hb, hC, _⟩ := hP.2 (f, id) hm [] e0 hpm
        have hy : act.tmps.getD s undef = .slice none 0 0 := by
          have r1 := hss.1
          rw [hes] at r1
          generalize act.tmps.getD s undef = yy at r1
          cases r1
          rfl
        unfold Oper.wp
        rw [run_call hcall, run_enter hb, hargs, hy]
        show Calls P f _ w _
        refine Calls.mono (hC w) ?_
        rintro e w' ⟨rfl, rfl⟩
        obtain ⟨G', hn⟩ := next_keep (x := x) (hp := hp) (fr := fr) (act := act) (v := .nilsl) (y := .slice none 0 0) hv (fun t ht hdt => by
          have : t = s := by
            cases h : x.dst <;> simp [XO.wr, hmv, h] at ht hdt
            · exact ht
            · exact ht.resolve_left (fun e => hdt e.symm)
          rw [this]; exact hss) (fun r h => by rw [hx] at h; simp [footR, cls] at h) hd .nilsl trivial
        exact hxd ▸ hK _ _ _ hn
      · cases he
    · cases he
  · cases hchk
theorem step_op (hsup : supOp x.op = true) (hC : CallOk P gl C) (hP : PrimOk P gl prims) (hchk : chkOp P prims x.op o = true) (hxd : x.dst = o.dst) (hd : ∀ d, x.dst = some d → d < act.tmps.size)
    (he : evOp C gl (x.dst.getD 0) x.op fr hp = some (v, fr1, hp1)) (hv : Valid G w N) (hN : hp.length = N) (hs : ∀ t ∈ rds x.op, RelS G w fr act t)
    (hh : ∀ r, footR fr x.op r → ∀ b base blk, G.m r = some (b, base) → hget hp r = some blk → RelBlk G w r b base blk) (hg : GlOk G w gl) (hfresh : cls x.op = 2 → hp ≠ [] → hget hp1 (newRef x hp) ≠ none → G.m (newRef x hp) = none)
    (hK : ∀ G' act' w', Next x fr hp G act w N (finX x fr1 v) hp1 G' act' w' → K act' w') : o.wp P act w K Q := by
  unfold supOp at hsup
  rw [Bool.or_eq_true] at hsup
  rcases hsup with hsup | hsup
  · obtain ⟨⟨y, h1, h2⟩, h3, rfl, rfl⟩ := op_pure hsup hchk he hs hh hg
    obtain ⟨c2, c3, cm⟩ := pure_cls hsup
    obtain ⟨G', hn⟩ := next_val (hp := hp1) hv c2 c3 cm h2 h3 hd
    exact wp_of_run h1 (hxd ▸ hK _ _ _ hn)
  · cases hx : x.op <;> rw [hx] at hsup <;> (try (cases hsup; done)) <;> rw [hx] at hchk he hs
    case bslice z zs ps => exact step_bslice hx hchk hxd hd he hv hs hK
    case thw s => exact step_thw hx hchk hxd hd he hv hN hs hfresh hK
    case nexts a => exact step_nexts hx hchk hxd hd he hv hs hh hK
    case ownd s => exact step_ownd hx hchk hxd hd he hv hs hK
    case ownl s => exact step_ownl hx hchk hxd hd he hv hs hK
    case extm s => exact step_extm hx hchk hxd hd he hv hs hK
    case clr z zero a => exact step_clr hx hchk hxd hd he hv hN hs hh hK
    case callm f s as => exact step_callm hC hx hchk hxd hd he hv hN hs hh hg hK
    case callw f as => exact step_callw hC hx hchk hxd hd he hv hN hs hh hg hK
    case calld g as => exact step_calld hC hx hchk hxd hd he hv hN hs hh hg hK
    case app u z bytes s a =>
      cases u
      · exact step_app hx hchk hxd hd he hv hs hh hK
      · exact step_appu hx hchk hxd hd he hv hs hh hK
    case primm id f s => exact step_primm hP hx hchk hxd hd he hv hs hK
    case lown a => exact step_lown hx hchk hxd hd he hv hs hh hK
    case rngs a => exact step_rngs hx hchk hxd hd he hv hN hs hfresh hK
    all_goals simp only [evOp] at he
    case own s =>
      simp only [Option.some.injEq, Prod.mk.injEq] at he
      obtain ⟨rfl, rfl, rfl⟩ := he
      have ho : o.op = .move (.tmp s) ∨ o.op = .assign (.tmp s) := by
        simp only [chkOp] at hchk
        split at hchk
        · rename_i t ho; simp at hchk; subst hchk; exact .inl ho
        · rename_i t ho; simp at hchk; subst hchk; exact .inr ho
        · cases hchk
      obtain ⟨G', hn⟩ := next_own (hp := hp) (by rw [hx]; rfl) (by rw [hx]; simp [cls]) (by rw [hx]; simp [cls]) hv (hs s (by simp [rds])) hd
      exact wp_of_run (gives_own ho) (hxd ▸ hK _ _ _ hn)
    case alloc zs =>
      simp only [chkOp] at hchk
      split at hchk
      · rename_i T ho
        obtain ⟨xs, h1, h2, h3⟩ := run_alloc (P := P) (G := G) (w := w) (act := act) ho hchk
        split at he
        · rename_i r hp' hb
          simp only [Option.some.injEq, Prod.mk.injEq] at he
          obtain ⟨rfl, rfl, rfl⟩ := he
          obtain ⟨G', hn⟩ := next_new (x := x) (T := T) hv hN (by rw [hx]; rfl) (by rw [hx]; rfl) hb (hfresh (by rw [hx]; rfl) (mkBlk_facts hb).2.2.2.1 (mkBlk_new hb ▸ (mkBlk_facts hb).2.2.2.2.1)) h2 (fun u hu => (h3 u hu).2) hd
          exact wp_of_run h1 (hxd ▸ hK _ _ _ hn)
        · cases he
      · cases hchk
    case box a n =>
      simp only [chkOp] at hchk
      split at hchk
      · rename_i T b ho
        split at he
        · rename_i hcond
          obtain ⟨xs, h1, h2⟩ := run_box (P := P) (G := G) (w := w) hchk ho (ats1 hs) hcond.2
          split at he
          · rename_i r hp' hb
            simp only [Option.some.injEq, Prod.mk.injEq] at he
            obtain ⟨rfl, rfl, rfl⟩ := he
            obtain ⟨G', hn⟩ := next_new (x := x) (T := T) hv hN (by rw [hx]; rfl) (by rw [hx]; rfl) hb (hfresh (by rw [hx]; rfl) (mkBlk_facts hb).2.2.2.1 (mkBlk_new hb ▸ (mkBlk_facts hb).2.2.2.2.1)) h2 (cellsOf_noFlag (earg_noFlag hchk)) hd
            exact wp_of_run h1 (hxd ▸ hK _ _ _ hn)
          · cases he
        · cases he
      · cases hchk
    case store a y n =>
      simp only [chkOp] at hchk
      split at hchk
      · rename_i T b c ho
        simp only [Bool.and_eq_true, sizeIs] at hchk
        obtain ⟨⟨h1, h2⟩, h3⟩ := hchk
        split at h3
        · rename_i i hi
          split at he
          · rename_i hcond
            split at he
            · rename_i hp' hst
              simp only [Option.some.injEq, Prod.mk.injEq] at he
              obtain ⟨rfl, rfl, rfl⟩ := he
              exact next_store hx hxd hv hN ho h1 h2 hi (by simpa using h3) hs hh hd hcond.1 hcond.2 hst hK
            · cases he
          · cases he
        · cases h3
      · cases hchk
    case callq f as =>
      simp only [chkOp] at hchk
      split at hchk
      · rename_i g bs hcall
        simp only [Bool.and_eq_true, beq_iff_eq] at hchk
        obtain ⟨⟨rfl, h1⟩, h2⟩ := hchk
        split at he
        · rename_i hfree
          split at he
          · rename_i v' hq hc
            simp only [Option.some.injEq, Prod.mk.injEq] at he
            obtain ⟨rfl, rfl, rfl⟩ := he
            obtain ⟨h3, h4⟩ := eargs_rel h1 (fun a ha t ht => hs t (mem_ats ha ht))
            exact next_callq hC (by rw [hx]; simp [cls]) (by rw [hx]; simp [cls]) (by rw [hx]; rfl) hxd hv (run_call hcall) (by simpa using h3) h4 (eargs_noFlag h1) hfree hg hc hd hK
          · cases he
        · cases he
      · cases hchk
    case callqd f as =>
      simp only [chkOp] at hchk
      split at hchk
      · rename_i g bs hcall
        simp only [Bool.and_eq_true, beq_iff_eq] at hchk
        obtain ⟨⟨rfl, h1⟩, h2⟩ := hchk
        split at he
        · rename_i hfree
          split at he
          · rename_i v' hq hc
            simp only [Option.some.injEq, Prod.mk.injEq] at he
            obtain ⟨rfl, rfl, rfl⟩ := he
            obtain ⟨h3, h4⟩ := eargs_rel h1 (fun a ha t ht => hs t (mem_ats ha ht))
            exact next_callq (callOk_dem hC) (by rw [hx]; simp [cls]) (by rw [hx]; simp [cls]) (by rw [hx]; rfl) hxd hv (run_call hcall) (by simpa using h3) h4 (eargs_noFlag h1) hfree hg (show demC C f (eargs fr as) [] = some (demV v', hq) by simp only [demC, hc]) hd hK
          · cases he
        · cases he
      · cases hchk
end
end Go.Proofs.YtnmaahfipddkmaaGreat.Sx
