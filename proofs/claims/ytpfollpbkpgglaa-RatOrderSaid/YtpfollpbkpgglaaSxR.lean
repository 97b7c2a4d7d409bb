/- SX, part R: any operation. -/
import Derived.Test.YtpfollpbkpgglaaSxQ
set_option linter.unusedVariables false
set_option linter.unusedSimpArgs false
namespace Go.Proofs.Ytpfollpbkpgglaa.Sx
open Go
theorem mkBlk_new {x : XO} {hp hp' : Heap} {b : Blk} {r : Ref} (h : mkBlk hp (x.dst.getD 0) b = some (r, hp')) : r = newRef x hp := (mkBlk_facts h).2.2.1
section
variable {P : Program} {G : Gh} {w : World} {N : Nat} {x : XO} {fr : List AV} {hp : Heap} {act : Act} {o : Oper} {K : Act → World → Prop} {Q : Exit → Act → World → Prop}
  {C : CallT} {gl : Nat → List AV} {d : Nat} {v : AV} {fr1 : List AV} {hp1 : Heap} {prims : List (Nat × Nat)}
theorem op_pure {x : XOp} (hx : pureOp x = true) (hc : chkOp P prims x o = true) (he : evOp C gl d x fr hp = some (v, fr1, hp1)) (hs : ∀ t ∈ rds x, RelS G w fr act t)
    (hh : ∀ r, footR fr x r → ∀ b base blk, G.m r = some (b, base) → hget hp r = some blk → RelBlk G w r b base blk) (hg : GlOk G w gl) : OpGives P G w act o v fr fr1 hp hp1 := by
  cases x <;> (try (cases hx; done))
  case mov => exact op_mov hc he hs
  case pick => exact op_pick hc he hs
  case build => exact op_build hc he hs
  case load => exact op_load hc he hs hh hg
  case nilck => exact op_nilck hc he hs
  case bin => exact op_bin hc he hs
  case beq => exact op_beq hc he hs
  case eqnil => exact op_eqnil hc he hs
  case eqagg => exact op_eqagg hc he hs
  case neg => exact op_neg hc he hs
  case not => exact op_not hc he hs
  case cpl => exact op_cpl hc he hs
  case conv => exact op_conv hc he hs
  case same => exact op_same hc he hs
  case mkif => exact op_mkif hc he hs
  case mkfn => exact op_mkfn hc he hs
  case tas => exact op_tas hc he hs
  case sstr => exact op_sstr hc he hs
  case ssl => exact op_ssl hc he hs
  case faddr => exact op_faddr hc he hs
  case field => exact op_field hc he hs
  case iaddr => exact op_iaddr hc he hs
  case iarr => exact op_iarr hc he hs
  case idxs => exact op_idxs hc he hs
  case idxa => exact op_idxa hc he hs
  case ext => exact op_ext hc he hs
  case lens => exact op_lens hc he hs
  case mx => exact op_mx hc he hs
  case mn => exact op_mn hc he hs
theorem pure_cls {x : XOp} (hx : pureOp x = true) : cls x ≠ 2 ∧ cls x ≠ 3 ∧ mvs x = [] := by
  cases x <;> (try (cases hx; done)) <;> simp [cls, mvs]
def supOp (x : XOp) : Bool := pureOp x || (match x with
  | .own _ | .alloc _ | .box _ _ | .store _ _ _ | .callq _ _ | .prim _ _ _ | .stop | .bslice _ _ _ | .thw _ | .rngs _ | .nexts _ | .ownd _ | .callw _ _ | .calld _ _ | .lown _ => true
  | _ => false)
theorem RelBlk.withO {f : Loc → Option Nat} {r : Ref} {b base : Nat} {blk : Blk} (h : RelBlk G w r b base blk) (hf : ∀ i, f (.cell r i) = G.o (.cell r i)) : RelBlk { G with o := f } w r b base blk := by
  cases blk with
  | cells vs =>
    obtain ⟨cs, T, h1, h2, h3⟩ := h
    refine ⟨cs, T, h1, h2, fun i v z hi hz => ?_⟩
    obtain ⟨h4, h5⟩ := h3 i v z hi hz
    exact ⟨h4.withO (f := f), h5.withO (hf i)⟩
  | iter s pos => exact h
/-- An operation that gives a value and leaves all else as it is. -/
theorem next_keep {v : AV} {y : Value} (hv : Valid G w N) (hs : ∀ t ∈ x.wr, x.dst ≠ some t → RelS G w fr act t) (hh : ∀ r, footR fr x.op r → ∀ b base blk, G.m r = some (b, base) → hget hp r = some blk → RelBlk G w r b base blk)
    (hd : ∀ d, x.dst = some d → d < act.tmps.size) (hr : RelV G w v y) (hno : noFlag v) : ∃ G', Next x fr hp G act w N (finX x fr v) hp G' (act.put x.dst y) w := by
  let f : Loc → Option Nat := fun l => if ∃ t, x.dst = some t ∧ l = .slot t then none else G.o l
  have hfn : ∀ l b, f l = some b → G.o l = some b := by
    intro l b h
    simp only [f] at h
    split at h
    · cases h
    · exact h
  refine ⟨{ G with o := f }, .of_same rfl rfl rfl (Nat.le_refl _) (fun _ _ => rfl) (fun _ _ => rfl) (fun _ _ h => h), ⟨hv.lev, hv.inj, hv.mkk, fun l l' b h1 h2 => hv.oinj _ _ b (hfn _ _ h1) (hfn _ _ h2), fun l b h => hv.ok _ _ (hfn _ _ h)⟩,
    put_size .., put_defers .., fun t h => put_ne _ _ _ _ h, ?_, ?_, fun l b h1 h2 => .inl ⟨l, h1, hfn _ _ h2⟩, fun _ => rfl, fun r h1 h2 => absurd h1 h2, fun r b base h1 h2 => (by rw [show G.m r = some (b, base) from h2] at h1; cases h1), fun _ _ _ _ _ => rfl, ?_⟩
  · intro t ht
    unfold RelS
    by_cases hdt : x.dst = some t
    · rw [show fget (finX x fr v) t = v by simp [finX, hdt, fget_fput], hdt, put_eq _ _ _ (hd t hdt)]
      exact ⟨hr.withO, .of_noFlag hno⟩
    · have e1 : fget (finX x fr v) t = fget fr t := by
        simp only [finX]
        split
        · rename_i d hd'; rw [fget_fput, if_neg (fun e => hdt (by rw [hd', e]))]
        · rfl
      rw [e1, put_ne _ _ _ _ hdt]
      obtain ⟨h1, h2⟩ := hs t ht hdt
      exact ⟨h1.withO, h2.withO (by simp only [f]; rw [if_neg (fun ⟨u, h3, h4⟩ => hdt (by injection h4 with h4; rw [h4]; exact h3))])⟩
  · intro l h
    simp only [f]
    rw [if_neg]
    rintro ⟨t, h1, rfl⟩
    exact h (.inl ⟨t, by simp [XO.wr, h1], rfl⟩)
  · intro _ r b base blk h1 h2 h3
    exact (hh r h1 b base blk h2 h3).withO (fun i => by simp only [f]; rw [if_neg (fun ⟨u, _, h4⟩ => by cases h4)])
/-- An operation that its guard leaves out. -/
theorem next_skip (hv : Valid G w N) (hs : ∀ t ∈ x.nm, RelS G w fr act t) (hh : ∀ r, footR fr x.op r → ∀ b base blk, G.m r = some (b, base) → hget hp r = some blk → RelBlk G w r b base blk)
    (hd : ∀ d, x.dst = some d → d < act.tmps.size) : ∃ G', Next x fr hp G act w N (finX x fr (.tup [])) hp G' (act.put x.dst undef) w :=
  next_keep hv (fun t ht _ => hs t (by simp [XO.nm, ht])) hh hd (.tup [] #[] rfl (by simp)) trivial
theorem wp_of_run {y : Value} {w' : World} (h : (execOp act.eval o).run P w = .ok (.value y) w') (hK : K (act.put o.dst y) w') : o.wp P act w K Q := by
  unfold Oper.wp
  rw [h]
  exact hK
theorem fillX_length : ∀ {ps : List (Nat × Nat × XArg)} {zs cs : List AV}, fillX fr ps zs = some cs → cs.length = zs.length
  | [], zs, cs, h => by simp only [fillX, Option.some.injEq] at h; rw [h]
  | (off, n, a) :: l, zs, cs, h => by
    simp only [fillX] at h
    split at h
    · rw [fillX_length h, splice_length]
    · cases h
theorem MemAt.withO {f : Loc → Option Nat} {cs : List AV} {b q : Nat} (h : MemAt G w cs b q) : MemAt { G with o := f } w cs b q := fun j v hj => by
  obtain ⟨x, h1, h2⟩ := h j v hj
  exact ⟨x, h1, h2.withO⟩
theorem bare_rel {G G' : Gh} {u : AV} {y : Value} (hb : bareV u = true) (h : RelV G w u y) : RelV G' w u y := by
  cases h <;> (try (cases hb; done))
  · exact .bool _
  · exact .int _ _
  · exact .str _
  · exact .nilptr
  · exact .nilsl
  · exact .nilif
  · exact .nilfn
theorem bare_free {u : AV} (hb : bareV u = true) : refFree u = true := by
  cases u <;> (try (cases hb; done)) <;> rfl
theorem bare_noFlag {u : AV} (hb : bareV u = true) : noFlag u := by
  cases u <;> (try (cases hb; done)) <;> trivial
/-- A list that nobody else sees becomes a block of the call's own. -/
theorem next_thw {s z : Nat} {es : List (List AV)} {r : Ref} {hp' : Heap} (hx : x.op = .thw s) (hv : Valid G w N) (hN : hp.length = N) (hs : RelS G w fr act s) (hes : fget fr s = .lst .uniq z es) (hbare : es.all (fun e => e.all bareV) = true)
    (hb : mkBlk hp (x.dst.getD 0) (.cells es.flatten) = some (r, hp')) (hfresh : G.m (newRef x hp) = none) (hd : ∀ d, x.dst = some d → d < act.tmps.size) :
    ∃ G', Next x fr hp G act w N (finX x (fput fr s (.sl r z 0 es.length)) (.sl r z 0 es.length)) hp' G' (act.put x.dst (act.tmps.getD s undef)) w := by
  obtain ⟨l, t0, rfl, hrr, rfl⟩ := mkBlk_spec hb
  have hnr : newRef x (l :: t0) = r := hrr.symm
  rw [hnr] at hfresh
  have hlev : r.lev + 1 = N := by rw [hrr, ← hN]; simp
  have h2 : cls x.op = 2 := by rw [hx]; rfl
  have h3 : cls x.op ≠ 3 := by rw [h2]; decide
  obtain ⟨hr1, ho1⟩ := hs
  rw [hes] at ho1
  obtain ⟨b, o', cap, hy, hcap, hob, ⟨cs, T, fz, hc1, hc2, _⟩, _, hun⟩ := ho1
  obtain ⟨hkb, ⟨cs0, T0, hz0⟩, X, hz, hX⟩ := hun rfl
  rw [hz0] at hc1
  injection hc1 with hc1
  injection hc1 with e1 e2 e3
  subst e1
  have hbs := (hv.ok _ _ hob).1
  have hwr : ∀ t, t ∈ x.wr ↔ x.dst = some t ∨ t = s := by
    intro t
    cases h : x.dst <;> simp [XO.wr, hx, mvs, h, eq_comm]
  have htouch : ∀ l, Touch x fr l ↔ ∃ t, (x.dst = some t ∨ t = s) ∧ l = .slot t := by
    intro l
    constructor
    · rintro (⟨t, h, rfl⟩ | ⟨h, _⟩)
      · exact ⟨t, (hwr t).1 h, rfl⟩
      · exact absurd h h3
    · rintro ⟨t, h, rfl⟩
      exact .inl ⟨t, (hwr t).2 h, rfl⟩
  let f : Loc → Option Nat := fun l => if (∃ t, x.dst = some t ∧ l = .slot t) ∨ l = .slot s then none else G.o l
  have hfn : ∀ l c, f l = some c → G.o l = some c ∧ ¬ ((∃ t, x.dst = some t ∧ l = .slot t) ∨ l = .slot s) := by
    intro l c h
    simp only [f] at h
    split at h
    · cases h
    · exact ⟨h, by assumption⟩
  have hnb : ∀ l c, f l = some c → c ≠ b := by
    intro l c h e
    obtain ⟨h4, h5⟩ := hfn l c h
    subst e
    exact h5 (.inr (hv.oinj _ _ c h4 hob))
  have hmb : ∀ q a, G.m q = some a → a.1 ≠ b := by
    intro q a h e
    have := (hv.mkk q a h).1
    rw [e, hkb] at this
    cases this
  let G' : Gh := { m := fun q => if q = r then some (b, o') else G.m q, k := upd G.k b .mb, o := f }
  have hk : ∀ c, c ≠ b → G'.k c = G.k c := fun c hc => by simp only [G', upd]; rw [if_neg hc]
  have hkb' : G'.k b = .mb := by simp [G', upd]
  have hqr : ∀ q a, G.m q = some a → q ≠ r := fun q a h e => by rw [e, hfresh] at h; cases h
  have hst' : ∀ c, c < w.heap.size → G.k c = .st → G'.k c = .st := fun c _ h => by rw [hk c (fun e => by rw [e, hkb] at h; cases h), h]
  have hgr' : ∀ c g, c < w.heap.size → G.k c = .gr g → ∃ g', g ≤ g' ∧ G'.k c = .gr g' := fun c g _ h => ⟨g, Nat.le_refl _, by rw [hk c (fun e => by rw [e, hkb] at h; cases h), h]⟩
  have hfl := flatten_get hz
  have hroom : o' + es.length * z ≤ cs0.size := by
    have := Nat.mul_le_mul_right z hcap
    omega
  have hsl : RelV G' w (.sl r z 0 es.length) (act.tmps.getD s undef) := by
    rw [hy]
    exact .sl r z 0 es.length b o' cap (by simp [G']) hcap ⟨cs0, T0, (0, 0), hz0, by simpa using hc2⟩
  refine ⟨G', ⟨rfl, rfl, rfl, Nat.le_refl _, fun c h4 h5 => ⟨hst' c h4 h5, rfl⟩, fun c g h4 h5 => (by obtain ⟨g', h6, h7⟩ := hgr' c g h4 h5; exact ⟨g', h6, h7, fun _ _ => rfl⟩),
    fun c h4 h5 h6 h7 => ⟨hk c (fun e => h7 ⟨.slot s, (htouch _).2 ⟨s, .inr rfl, rfl⟩, by rw [e]; exact hob⟩), rfl⟩,
    fun q a h => (by simp only [G']; rw [if_neg (hqr q a h)]; exact h), fun c _ h => ⟨by rw [hk c (fun e => by rw [e, hkb] at h; cases h), h], fun ds S g hh => ⟨ds, hh, rfl⟩⟩⟩,
    ⟨?_, ?_, ?_, fun l1 l2 c g1 g2 => hv.oinj _ _ c (hfn l1 c g1).1 (hfn l2 c g2).1, fun l1 c g1 => ?_⟩, put_size .., put_defers .., fun t h => put_ne _ _ _ _ h, ?_, ?_, fun l1 c g1 g2 => .inl ⟨l1, g1, (hfn l1 c g2).1⟩, fun h => absurd h2 h, ?_, ?_, fun _ _ _ _ _ => rfl, fun h => absurd h h3⟩
  · intro q a h
    simp only [G'] at h
    split at h
    · rename_i e; rw [e]; omega
    · exact hv.lev q a h
  · intro q q' a a' h h' he
    simp only [G'] at h h'
    split at h <;> split at h'
    · rename_i e1 e2; rw [e1, e2]
    · injection h with h; subst h; exact absurd he.symm (hmb q' a' h')
    · injection h' with h'; subst h'; exact absurd he (hmb q a h)
    · exact hv.inj q q' a a' h h' he
  · intro q a h
    simp only [G'] at h
    split at h
    · injection h with h; subst h; exact ⟨hkb', hbs⟩
    · rw [hk _ (hmb q a h)]; exact hv.mkk q a h
  · rw [hk c (hnb l1 c g1)]
    exact hv.ok _ _ (hfn l1 c g1).1
  · intro t h
    unfold RelS
    by_cases hdt : x.dst = some t
    · rw [show fget (finX x (fput fr s (.sl r z 0 es.length)) (.sl r z 0 es.length)) t = .sl r z 0 es.length by simp [finX, hdt, fget_fput], hdt, put_eq _ _ _ (hd t hdt)]
      exact ⟨hsl, .of_noFlag trivial⟩
    · have hts := ((hwr t).1 h).resolve_left hdt
      subst hts
      have e1 : fget (finX x (fput fr t (.sl r z 0 es.length)) (.sl r z 0 es.length)) t = .sl r z 0 es.length := by
        simp only [finX]
        split
        · rename_i d hd'; rw [fget_fput, if_neg (fun e => hdt (by rw [hd', e])), fget_fput, if_pos rfl]
        · rw [fget_fput, if_pos rfl]
      rw [e1, put_ne _ _ _ _ hdt]
      exact ⟨hsl, .of_noFlag trivial⟩
  · intro l1 h
    show f l1 = _
    simp only [f]
    rw [if_neg (fun hh => h ((htouch l1).2 (by rcases hh with ⟨t, h8, h9⟩ | h9; exact ⟨t, .inl h8, h9⟩; exact ⟨s, .inr rfl, h9⟩)))]
  · intro q h4 h5
    have hq : q = r := by
      refine Classical.byContradiction fun hne => h5 ?_
      simp only [G']
      rw [if_neg hne]
      exact h4
    subst hq
    refine ⟨h2, hnr.symm, (by rw [hrr]; simp [hget, lget_lput]), fun c base blk h6 h7 => ?_⟩
    simp only [G', if_true] at h6
    injection h6 with h6
    injection h6 with h6 h8
    subst h6 h8
    have : blk = .cells es.flatten := by
      rw [hrr] at h7
      simp only [hget, if_true, lget_lput] at h7
      injection h7 with h7
      exact h7.symm
    subst this
    refine ⟨cs0, T0, hz0, by rw [hfl.1]; exact hroom, fun i u v hi hv' => ?_⟩
    have hi' := (List.getElem?_eq_some_iff.1 hi).1
    rw [hfl.1] at hi'
    have hzp : 0 < z := Nat.pos_of_ne_zero (fun e => by rw [e] at hi'; simp at hi')
    have hij : i = i / z * z + i % z := by rw [Nat.mul_comm]; exact (Nat.div_add_mod i z).symm
    rw [hij] at hi
    rw [hfl.2 _ _ (Nat.mod_lt _ hzp)] at hi
    cases hei : es[i / z]? with
    | none => rw [hei] at hi; simp at hi
    | some e =>
      rw [hei] at hi
      simp only [Option.bind_some] at hi
      obtain ⟨_, h9, h10⟩ := hX _ e _ u hei hi
      have hbu : bareV u = true := List.all_eq_true.1 (List.all_eq_true.1 hbare e (List.mem_of_getElem? hei)) u (List.mem_of_getElem? hi)
      have hvx : v = X (i / z) (i % z) := by
        rw [show o' + i / z * z + i % z = o' + i by omega] at h9
        simp [World.cell?, hz0, hv'] at h9
        exact h9
      rw [hvx]
      exact ⟨bare_rel hbu h10, .of_noFlag (bare_noFlag hbu)⟩
  · intro q c base h4 h5 h6
    simp only [G'] at h5
    split at h5
    · injection h5 with h5; injection h5 with h5 _; subst h5; rw [hkb] at h6; cases h6.2
    · rw [h4] at h5; cases h5
/-- A list that nobody else sees: copies allowed from now on. -/
theorem next_ownd {s z : Nat} {es : List (List AV)} (hx : x.op = .ownd s) (hv : Valid G w N) (hs : RelS G w fr act s) (hes : fget fr s = .lst .uniq z es) (hd : ∀ d, x.dst = some d → d < act.tmps.size) :
    ∃ G', Next x fr hp G act w N (finX x (drop1 fr (.tmp s)) (.lst .own z es)) hp G' (act.put x.dst (act.tmps.getD s undef)) w := by
  have h2 : cls x.op ≠ 2 := by rw [hx]; simp [cls]
  have h3 : cls x.op ≠ 3 := by rw [hx]; simp [cls]
  obtain ⟨hr1, ho1⟩ := hs
  rw [hes] at ho1
  obtain ⟨b, o', cap, hy, hcap, hob, hroom, _, hun⟩ := ho1
  obtain ⟨hkb, ⟨cs0, T0, hz0⟩, X, hz, hX⟩ := hun rfl
  have hbs := (hv.ok _ _ hob).1
  have hwr : ∀ t, t ∈ x.wr ↔ x.dst = some t ∨ t = s := by
    intro t
    cases h : x.dst <;> simp [XO.wr, hx, mvs, h, eq_comm]
  have htouch : ∀ l, Touch x fr l ↔ ∃ t, (x.dst = some t ∨ t = s) ∧ l = .slot t := by
    intro l
    constructor
    · rintro (⟨t, h, rfl⟩ | ⟨h, _⟩)
      · exact ⟨t, (hwr t).1 h, rfl⟩
      · exact absurd h h3
    · rintro ⟨t, h, rfl⟩
      exact .inl ⟨t, (hwr t).2 h, rfl⟩
  let f : Loc → Option Nat := fun l => if ∃ t, x.dst = some t ∧ l = .slot t then G.o (.slot s) else if l = .slot s then none else G.o l
  have hf : ∀ l b, f l = some b → ∃ l', G.o l' = some b ∧ (l' = l ∧ ¬ (∃ t, x.dst = some t ∧ l = .slot t) ∧ l ≠ .slot s ∨ l' = .slot s ∧ ∃ t, x.dst = some t ∧ l = .slot t) := by
    intro l b h
    simp only [f] at h
    split at h
    · rename_i h1; exact ⟨_, h, .inr ⟨rfl, h1⟩⟩
    · split at h
      · cases h
      · rename_i h1 h2; exact ⟨_, h, .inl ⟨rfl, h1, h2⟩⟩
  have hmb : ∀ q a, G.m q = some a → a.1 ≠ b := by
    intro q a h e
    have := (hv.mkk q a h).1
    rw [e, hkb] at this
    cases this
  let G' : Gh := { m := G.m, k := upd G.k b (.gr (o' + es.length * z)), o := f }
  have hk : ∀ c, c ≠ b → G'.k c = G.k c := fun c hc => by simp only [G', upd]; rw [if_neg hc]
  have hkb' : G'.k b = .gr (o' + es.length * z) := by simp [G', upd]
  have hst' : ∀ c, c < w.heap.size → G.k c = .st → G'.k c = .st := fun c _ h => by rw [hk c (fun e => by rw [e, hkb] at h; cases h), h]
  have hgr' : ∀ c g, c < w.heap.size → G.k c = .gr g → ∃ g', g ≤ g' ∧ G'.k c = .gr g' := fun c g _ h => ⟨g, Nat.le_refl _, by rw [hk c (fun e => by rw [e, hkb] at h; cases h), h]⟩
  refine ⟨G', ⟨rfl, rfl, rfl, Nat.le_refl _, fun c h4 h5 => ⟨hst' c h4 h5, rfl⟩, fun c g h4 h5 => (by obtain ⟨g', h6, h7⟩ := hgr' c g h4 h5; exact ⟨g', h6, h7, fun _ _ => rfl⟩),
    fun c h4 h5 h6 h7 => ⟨hk c (fun e => h7 ⟨.slot s, (htouch _).2 ⟨s, .inr rfl, rfl⟩, by rw [e]; exact hob⟩), rfl⟩,
    fun q a h => h, fun c _ h => ⟨by rw [hk c (fun e => by rw [e, hkb] at h; cases h), h], fun ds S g hh => ⟨ds, hh, rfl⟩⟩⟩,
    ⟨hv.lev, hv.inj, fun q a h => (by rw [hk _ (hmb q a h)]; exact hv.mkk q a h), ?_, ?_⟩, put_size .., put_defers .., fun t h => put_ne _ _ _ _ h, ?_, ?_, ?_, fun _ => rfl, fun q h4 h5 => absurd h4 h5, fun r c base h1 h2 => (by rw [show G.m r = some (c, base) from h2] at h1; cases h1), fun _ _ _ _ _ => rfl, fun h => absurd h h3⟩
  · intro l l' c h1 h2
    obtain ⟨l1, h4, h5⟩ := hf l c h1
    obtain ⟨l2, h6, h7⟩ := hf l' c h2
    have := hv.oinj _ _ c h4 h6
    subst this
    rcases h5 with ⟨rfl, h8, h9⟩ | ⟨rfl, t, h8, rfl⟩ <;> rcases h7 with ⟨h10, h11, h12⟩ | ⟨h10, u, h11, rfl⟩
    · exact h10
    · exact absurd h10 h9
    · exact absurd h10.symm h12
    · rw [h8] at h11; injection h11 with h11; rw [h11]
  · intro l c h1
    obtain ⟨l1, h4, h5⟩ := hf l c h1
    refine ⟨(hv.ok _ _ h4).1, ?_⟩
    by_cases e : c = b
    · rw [e, hkb']; exact .inl ⟨_, rfl⟩
    · rw [hk c e]; exact (hv.ok _ _ h4).2
  · intro t h
    unfold RelS
    by_cases hdt : x.dst = some t
    · rw [show fget (finX x (drop1 fr (.tmp s)) (.lst .own z es)) t = .lst .own z es by simp [finX, hdt, fget_fput], hdt, put_eq _ _ _ (hd t hdt), hy]
      refine ⟨.lst .own z es b o' cap X (by simp) hcap (by simp) ⟨hbs, .inr ⟨_, hkb', Nat.le_refl _⟩⟩ hz (fun i e j u hi hj => (hX i e j u hi hj).1) (fun i e j u hi hj => (hX i e j u hi hj).2.1) (fun i e j u hi hj => ?_), ?_⟩
      · obtain ⟨g1, _, g3⟩ := hX i e j u hi hj
        exact g3.noRef2 hst' hgr' g1
      · exact ⟨b, o', cap, rfl, hcap, by simp only [G', f]; rw [if_pos ⟨t, hdt, rfl⟩]; exact hob, hroom, fun _ => hkb', fun h => by cases h⟩
    · have hts := ((hwr t).1 h).resolve_left hdt
      subst hts
      have e1 : fget (finX x (drop1 fr (.tmp t)) (.lst .own z es)) t = .undef := by
        have e0 : fget (drop1 fr (.tmp t)) t = .undef := by simp [drop1, hes, fget_fput]
        simp only [finX]
        split
        · rename_i d hd'; rw [fget_fput, if_neg (fun e => hdt (by rw [hd', e])), e0]
        · exact e0
      rw [e1]
      exact ⟨.undef _, .of_noFlag trivial⟩
  · intro l h
    show f l = _
    simp only [f]
    rw [if_neg (fun ⟨t, h1, h2⟩ => h ((htouch l).2 ⟨t, .inl h1, h2⟩)), if_neg (fun h1 => h ((htouch l).2 ⟨s, .inr rfl, h1⟩))]
  · intro l c h h1
    obtain ⟨l1, h4, h5⟩ := hf l c h1
    refine .inl ⟨l1, ?_, h4⟩
    rcases h5 with ⟨rfl, h8, h9⟩ | ⟨rfl, t, h8, rfl⟩
    · exact h
    · exact (htouch _).2 ⟨s, .inr rfl, rfl⟩
theorem step_ownd {s : Nat} (hx : x.op = .ownd s) (hchk : chkOp P prims (.ownd s) o = true) (hxd : x.dst = o.dst) (hd : ∀ d, x.dst = some d → d < act.tmps.size)
    (he : evOp C gl (x.dst.getD 0) (.ownd s) fr hp = some (v, fr1, hp1)) (hv : Valid G w N) (hs : ∀ t ∈ rds (.ownd s), RelS G w fr act t)
    (hK : ∀ G' act' w', Next x fr hp G act w N (finX x fr1 v) hp1 G' act' w' → K act' w') : o.wp P act w K Q := by
  have ho : o.op = .move (.tmp s) ∨ o.op = .assign (.tmp s) := by
    simp only [chkOp] at hchk
    split at hchk
    · rename_i t ho; simp at hchk; subst hchk; exact .inl ho
    · rename_i t ho; simp at hchk; subst hchk; exact .inr ho
    · cases hchk
  simp only [evOp, Option.some.injEq, Prod.mk.injEq] at he
  obtain ⟨h1, rfl, rfl⟩ := he
  have hss := hs s (by simp [rds])
  split at h1
  · rename_i z es hes
    subst h1
    obtain ⟨G', hn⟩ := next_ownd (hp := hp) hx hv hss hes hd
    exact wp_of_run (gives_own ho) (hxd ▸ hK _ _ _ hn)
  · subst h1
    obtain ⟨G', hn⟩ := next_own (hp := hp) (by rw [hx]; rfl) (by rw [hx]; simp [cls]) (by rw [hx]; simp [cls]) hv hss hd
    exact wp_of_run (gives_own ho) (hxd ▸ hK _ _ _ hn)
/-- The ghost that a call sees which may write the blocks of its callers. -/
def cellG (G : Gh) : Gh := { G with o := fun l => match l with | .cell r i => G.o (.cell r i) | _ => none }
theorem next_callw {f : Nat} {zs : List Value} {vs : List AV} (hC : CallOk P gl C) (h3 : cls x.op = 3) (hft : ∀ r, footR fr x.op r) (hm : mvs x.op = []) (hxd : x.dst = o.dst) (hv : Valid G w N) (hN : hp.length = N)
    (hrun : (execOp act.eval o).run P w = (callFunc f zs.toArray).run P w) (hlen : vs.length = zs.length)
    (hrel : ∀ (j : Nat) (u : AV) (z : Value), vs[j]? = some u → zs[j]? = some z → RelV G w u z) (hnf : ∀ u ∈ vs, noFlag u)
    (hh : ∀ r, footR fr x.op r → ∀ b base blk, G.m r = some (b, base) → hget hp r = some blk → RelBlk G w r b base blk) (hgl : GlOk G w gl) (hc : C f vs hp = some (v, hp1)) (hd : ∀ d, x.dst = some d → d < act.tmps.size)
    (hK : ∀ G' act' w', Next x fr hp G act w N (finX x fr v) hp1 G' act' w' → K act' w') : o.wp P act w K Q := by
  have hco : ∀ l b, (cellG G).o l = some b → ∃ r i, l = .cell r i ∧ G.o (.cell r i) = some b := by
    intro l b h
    cases l with
    | slot t => cases h
    | res => cases h
    | cell r i => exact ⟨r, i, rfl, h⟩
  have hv0 : Valid (cellG G) w hp.length := by
    rw [hN]
    refine ⟨hv.lev, hv.inj, hv.mkk, fun l l' b h1 h2 => ?_, fun l b h => ?_⟩
    · obtain ⟨r, i, rfl, h3⟩ := hco l b h1
      obtain ⟨q, j, rfl, h4⟩ := hco l' b h2
      exact hv.oinj _ _ b h3 h4
    · obtain ⟨r, i, rfl, h3⟩ := hco l b h
      exact hv.ok _ b h3
  have hcall := hC f vs hp v hp1 hc (cellG G) w zs.toArray hv0 (by simp [hlen]) ?_ ?_ ?_
  unfold Oper.wp
  rw [hrun, run_enter hcall.1]
  show Calls P f _ w _
  refine Calls.mono hcall.2 ?_
  rotate_left
  · intro j u z hu hz
    exact ⟨(hrel j u z hu (by simpa using hz)).withO, .of_noFlag (hnf u (List.mem_of_getElem? hu))⟩
  · intro r b base blk h1 h2
    exact (hh r (hft r) b base blk h1 h2).withO (fun _ => rfl)
  · intro g
    rcases hgl g with h | ⟨h1, h2, h4, h5⟩
    · exact .inl h
    · exact .inr ⟨h1, h2, h4, h5.withO⟩
  · rintro e w' ⟨z, G1, rfl, hE, hV, hR, hO, hH, hM, hOn⟩
    show K (act.put o.dst z) w'
    rw [← hxd]
    have hM' : G1.m = G.m := hM
    have hwr : ∀ t, t ∈ x.wr ↔ x.dst = some t := by
      intro t
      cases h : x.dst <;> simp [XO.wr, hm, h, eq_comm]
    have htc : ∀ r i, Touch x fr (.cell r i) := fun r i => .inr ⟨h3, r, i, hft r, rfl⟩
    let g : Loc → Option Nat := fun l => match l with
      | .slot t => if x.dst = some t then G1.o .res else G.o (.slot t)
      | .cell r i => G1.o (.cell r i)
      | .res => G.o .res
    -- owners behind the call: of the call's own, or as before
    have hg : ∀ l b, g l = some b → (∃ l', G1.o l' = some b ∧ ((l' = .res ∧ ∃ t, x.dst = some t ∧ l = .slot t) ∨ (l' = l ∧ ∃ r i, l = .cell r i))) ∨ (G.o l = some b ∧ ((∃ t, l = .slot t ∧ x.dst ≠ some t) ∨ l = .res)) := by
      intro l b h
      cases l with
      | slot t =>
        simp only [g] at h
        split at h
        · rename_i e; exact .inl ⟨_, h, .inl ⟨rfl, t, e, rfl⟩⟩
        · rename_i e; exact .inr ⟨h, .inl ⟨t, rfl, e⟩⟩
      | cell r i => exact .inl ⟨_, h, .inr ⟨rfl, r, i, rfl⟩⟩
      | res => exact .inr ⟨h, .inr rfl⟩
    have hdis : ∀ l1 l2 b, G1.o l1 = some b → G.o l2 = some b → (∃ r i, l2 = .cell r i) := by
      intro l1 l2 b h1 h2
      rcases hOn l1 b h1 with ⟨l', h4⟩ | h4
      · obtain ⟨r, i, rfl, h5⟩ := hco l' b h4
        exact ⟨r, i, hv.oinj _ _ b h2 h5⟩
      · have := (hv.ok _ _ h2).1; omega
    have hA : ∀ b, (∃ l, (cellG G).o l = some b) → ∃ l, Touch x fr l ∧ G.o l = some b := by
      rintro b ⟨l, h⟩
      obtain ⟨r, i, rfl, h5⟩ := hco l b h
      exact ⟨_, htc r i, h5⟩
    refine hK { G1 with o := g } _ _ ⟨⟨hE.os, hE.tape, hE.output, hE.size, hE.st, hE.gr, fun b h1 h2 h4 h5 => hE.keep b h1 h2 h4 (fun h => h5 (hA b h)), hE.mm, hE.mb⟩, ⟨fun r a h => ?_, hV.inj, hV.mkk, ?_, ?_⟩, put_size .., put_defers .., fun t h => put_ne _ _ _ _ h, ?_, ?_, ?_,
      fun _ => hM', fun r h1 h2 => absurd (show G1.m r = none by rw [hM', h1]) h2, fun r b base h1 h2 => (by have h2' : G1.m r = some (b, base) := h2; rw [hM', h1] at h2'; cases h2'), fun r b base _ h2 => absurd ⟨h3, hft r⟩ h2, fun _ r b base blk _ h1 h2 => (hH r b base blk h1 h2).withO (fun _ => rfl)⟩
    · have := hV.lev r a h; rw [hN] at this; exact this
    · intro l1 l2 b h1 h2
      rcases hg l1 b h1 with ⟨l1', h4, h5⟩ | ⟨h4, h5⟩ <;> rcases hg l2 b h2 with ⟨l2', h6, h7⟩ | ⟨h6, h7⟩
      · have := hV.oinj _ _ b h4 h6
        subst this
        rcases h5 with ⟨rfl, t, h8, rfl⟩ | ⟨rfl, r, i, rfl⟩ <;> rcases h7 with ⟨h9, u, h10, rfl⟩ | ⟨h9, q, j, h10⟩
        · rw [h8] at h10; injection h10 with h10; rw [h10]
        · rw [← h9] at h10; cases h10
        · cases h9
        · exact h9
      · obtain ⟨r, i, e⟩ := hdis _ _ b h4 h6
        rcases h7 with ⟨t, h7, _⟩ | h7 <;> rw [h7] at e <;> cases e
      · obtain ⟨r, i, e⟩ := hdis _ _ b h6 h4
        rcases h5 with ⟨t, h5, _⟩ | h5 <;> rw [h5] at e <;> cases e
      · exact hv.oinj _ _ b h4 h6
    · intro l b h1
      rcases hg l b h1 with ⟨l', h4, _⟩ | ⟨h4, h5⟩
      · exact hV.ok _ _ h4
      · have h6 := hv.ok _ _ h4
        have hnot : ¬ ∃ l, (cellG G).o l = some b := by
          rintro ⟨l', h7⟩
          obtain ⟨r, i, rfl, h8⟩ := hco l' b h7
          have := hv.oinj _ _ b h4 h8
          rcases h5 with ⟨t, h5, _⟩ | h5 <;> rw [h5] at this <;> cases this
        have hk : (cellG G).k b ≠ .st ∧ (cellG G).k b ≠ .mb := by
          rcases h6.2 with ⟨k, h7⟩ | h7 <;> exact ⟨by rw [show (cellG G).k b = G.k b from rfl, h7]; simp, by rw [show (cellG G).k b = G.k b from rfl, h7]; simp⟩
        obtain ⟨h8, _⟩ := hE.keep b h6.1 hk.1 hk.2 hnot
        refine ⟨Nat.lt_of_lt_of_le h6.1 hE.size, ?_⟩
        show (∃ f, G1.k b = .gr f) ∨ G1.k b = .un
        rw [h8]
        exact h6.2
    · intro t h
      have hdt := (hwr t).1 h
      unfold RelS
      rw [show fget (finX x fr v) t = v by simp [finX, hdt, fget_fput], hdt, put_eq _ _ _ (hd t hdt)]
      exact ⟨hR.withO, hO.withO (by simp only [g]; rw [if_pos hdt])⟩
    · intro l h
      cases l with
      | slot t =>
        show g (.slot t) = _
        simp only [g]
        rw [if_neg (fun e => h (.inl ⟨t, (hwr t).2 e, rfl⟩))]
      | cell r i => exact absurd (htc r i) h
      | res => rfl
    · intro l b h h1
      rcases hg l b h1 with ⟨l', h4, _⟩ | ⟨h4, h5⟩
      · rcases hOn l' b h4 with h6 | h6
        · exact .inl (hA b h6)
        · exact .inr h6
      · exact .inl ⟨l, h, h4⟩
theorem run_callVal {h : Operand} {bs : List Operand} {f : Nat} {xs ys : Array Value} (hc : callVal o.op = some (h, bs)) (hf : act.eval h = .func (.func f) xs ys) :
    (execOp act.eval o).run P w = (callFunc f (xs.toList ++ bs.map act.eval ++ ys.toList).toArray).run P w := by
  cases ho : o.op <;> rw [ho] at hc <;> simp only [callVal] at hc <;> (try (cases hc; done))
  rename_i c
  split at hc
  · rename_i g' hg
    injection hc with hc
    injection hc with h1 h2
    subst h1 h2
    simp only [execOp, ho, resolve, hg, hf, Deferred.ofValue, Sem.run_bind, Sem.run_pure, Result.andThen_ok, invoke]
    congr 2
    apply Array.ext'
    simp [List.append_assoc]
  · cases hc
theorem fn_form {f : Nat} {ds cs : List AV} {y : Value} (h : RelV G w (.fn f ds cs) y) : ∃ xs ys, y = .func (.func f) xs ys ∧ ds.length = xs.size ∧ cs.length = ys.size ∧
    (∀ (j : Nat) (v : AV) (x : Value), ds[j]? = some v → xs[j]? = some x → RelV G w v x) ∧ (∀ (j : Nat) (v : AV) (x : Value), cs[j]? = some v → ys[j]? = some x → RelV G w v x) := by
  cases h with | fn _ _ _ xs ys hl hm hr hs => exact ⟨xs, ys, rfl, hl, hm, hr, hs⟩
theorem step_calld {g : XArg} {as : List XArg} (hC : CallOk P gl C) (hx : x.op = .calld g as) (hchk : chkOp P prims (.calld g as) o = true) (hxd : x.dst = o.dst) (hd : ∀ d, x.dst = some d → d < act.tmps.size)
    (he : evOp C gl (x.dst.getD 0) (.calld g as) fr hp = some (v, fr1, hp1)) (hv : Valid G w N) (hN : hp.length = N) (hs : ∀ t ∈ rds (.calld g as), RelS G w fr act t)
    (hh : ∀ r, footR fr x.op r → ∀ b base blk, G.m r = some (b, base) → hget hp r = some blk → RelBlk G w r b base blk) (hg : GlOk G w gl)
    (hK : ∀ G' act' w', Next x fr hp G act w N (finX x fr1 v) hp1 G' act' w' → K act' w') : o.wp P act w K Q := by
  simp only [chkOp] at hchk
  split at hchk
  · rename_i h bs hcall
    simp only [Bool.and_eq_true] at hchk
    obtain ⟨h1, h2⟩ := hchk
    have hr := arg_rel (w := w) (G := G) (fr := fr) (act := act) h1 (fun t ht => hs t (mem_ats (a := g) (by simp) ht))
    simp only [evOp] at he
    split at he
    · rename_i f ds cs hf
      rw [hf] at hr
      split at he
      · rename_i v' hq hc
        split at he
        · simp only [Option.some.injEq, Prod.mk.injEq] at he
          obtain ⟨rfl, rfl, rfl⟩ := he
          obtain ⟨xs, ys, hy, hl, hm, hr1, hr2⟩ := fn_form hr
          obtain ⟨h3, h4⟩ := eargs_rel h2 (fun a ha t ht => hs t (mem_ats (a := a) (by simp [ha]) ht))
          refine next_callw (zs := xs.toList ++ bs.map act.eval ++ ys.toList) hC (by rw [hx]; rfl) (fun r => by rw [hx]; simp [footR, cls]) (by rw [hx]; rfl) hxd hv hN (run_callVal hcall hy) (by simp [hl, hm, h3]) ?_ ?_ hh hg hc hd hK
          · intro j u z hu hz
            rw [List.getElem?_map, Option.map_eq_some_iff] at hu
            obtain ⟨u0, hu, rfl⟩ := hu
            refine RelV.uf ?_
            have e1 : ds.length = xs.toList.length := by simpa using hl
            have e2 : (eargs fr as).length = (bs.map act.eval).length := by simpa using h3
            rw [List.append_assoc] at hu hz
            rcases Nat.lt_or_ge j ds.length with hj | hj
            · rw [List.getElem?_append_left hj] at hu
              rw [List.getElem?_append_left (by omega)] at hz
              exact hr1 j u0 z hu (by simpa using hz)
            · rw [List.getElem?_append_right hj] at hu
              rw [List.getElem?_append_right (by omega), ← e1] at hz
              rcases Nat.lt_or_ge (j - ds.length) (eargs fr as).length with hk | hk
              · rw [List.getElem?_append_left hk] at hu
                rw [List.getElem?_append_left (by omega)] at hz
                exact h4 _ u0 z hu hz
              · rw [List.getElem?_append_right hk] at hu
                rw [List.getElem?_append_right (by omega), ← e2] at hz
                exact hr2 _ u0 z hu (by simpa using hz)
          · intro u hu
            obtain ⟨u0, _, rfl⟩ := List.mem_map.1 hu
            exact noFlag_uf u0
        · cases he
      · cases he
    · cases he
  · cases hchk
theorem step_callw {f : Nat} {as : List XArg} (hC : CallOk P gl C) (hx : x.op = .callw f as) (hchk : chkOp P prims (.callw f as) o = true) (hxd : x.dst = o.dst) (hd : ∀ d, x.dst = some d → d < act.tmps.size)
    (he : evOp C gl (x.dst.getD 0) (.callw f as) fr hp = some (v, fr1, hp1)) (hv : Valid G w N) (hN : hp.length = N) (hs : ∀ t ∈ rds (.callw f as), RelS G w fr act t)
    (hh : ∀ r, footR fr x.op r → ∀ b base blk, G.m r = some (b, base) → hget hp r = some blk → RelBlk G w r b base blk) (hg : GlOk G w gl)
    (hK : ∀ G' act' w', Next x fr hp G act w N (finX x fr1 v) hp1 G' act' w' → K act' w') : o.wp P act w K Q := by
  simp only [chkOp] at hchk
  split at hchk
  · rename_i g bs hcall
    simp only [Bool.and_eq_true, beq_iff_eq] at hchk
    obtain ⟨⟨rfl, h1⟩, h2⟩ := hchk
    simp only [evOp] at he
    split at he
    · rename_i v' hq hc
      split at he
      · simp only [Option.some.injEq, Prod.mk.injEq] at he
        obtain ⟨rfl, rfl, rfl⟩ := he
        obtain ⟨h3, h4⟩ := eargs_rel h1 (fun a ha t ht => hs t (mem_ats ha ht))
        exact next_callw hC (by rw [hx]; rfl) (fun r => by rw [hx]; simp [footR, cls]) (by rw [hx]; rfl) hxd hv hN (run_call hcall) (by simp [h3]) h4 (eargs_noFlag h1) hh hg hc hd hK
      · cases he
    · cases he
  · cases hchk
/-- A cell's list, taken over. -/
theorem next_lown {a : XArg} {r : Ref} {off b base z : Nat} {cs : List AV} {es : List (List AV)} {y : Value} (hx : x.op = .lown a) (hv : Valid G w N) (hr : ptrOf (earg fr a) = some r) (hm : G.m r = some (b, base)) (hg : hget hp r = some (.cells cs))
    (hblk : RelBlk G w r b base (.cells cs)) (hcs : cs[off]? = some (.lst .own z es)) (hy : w.cell? ⟨b, base + off, none⟩ = some y) (hd : ∀ d, x.dst = some d → d < act.tmps.size) :
    ∃ G', Next x fr hp G act w N (finX x fr (.lst .own z es)) (hput hp r (.cells (splice cs off [.lst .none z es]))) G' (act.put x.dst y) w := by
  have h3c : cls x.op = 3 := by rw [hx]; rfl
  have hwr : ∀ t, t ∈ x.wr ↔ x.dst = some t := by
    intro t
    cases h : x.dst <;> simp [XO.wr, hx, mvs, h, eq_comm]
  have hfoot : ∀ q, footR fr x.op q ↔ q = r := fun q => by
    rw [hx]
    simp only [footR, hr, Option.some.injEq]
    exact eq_comm
  have htouch : ∀ l, Touch x fr l ↔ (∃ t, x.dst = some t ∧ l = .slot t) ∨ ∃ j, l = .cell r j := by
    intro l
    constructor
    · rintro (⟨t, h, rfl⟩ | ⟨_, q, j, hq, rfl⟩)
      · exact .inl ⟨t, (hwr t).1 h, rfl⟩
      · exact .inr ⟨j, by rw [(hfoot q).1 hq]⟩
    · rintro (⟨t, h, rfl⟩ | ⟨j, rfl⟩)
      · exact .inl ⟨t, (hwr t).2 h, rfl⟩
      · exact .inr ⟨h3c, r, j, (hfoot r).2 rfl, rfl⟩
  let f : Loc → Option Nat := fun l => if ∃ t, x.dst = some t ∧ l = .slot t then G.o (.cell r off) else if l = .cell r off then none else G.o l
  have hf : ∀ l c, f l = some c → ∃ l', G.o l' = some c ∧ (l' = l ∧ ¬ (∃ t, x.dst = some t ∧ l = .slot t) ∧ l ≠ .cell r off ∨ l' = .cell r off ∧ ∃ t, x.dst = some t ∧ l = .slot t) := by
    intro l c h
    simp only [f] at h
    split at h
    · rename_i h1; exact ⟨_, h, .inr ⟨rfl, h1⟩⟩
    · split at h
      · cases h
      · rename_i h1 h2; exact ⟨_, h, .inl ⟨rfl, h1, h2⟩⟩
  obtain ⟨cs0, T0, hb0, hsz, hcell⟩ := hblk
  have hoff : off < cs.length := (List.getElem?_eq_some_iff.1 hcs).1
  have hyc : cs0[base + off]? = some y := by
    simp only [World.cell?, hb0] at hy
    exact hy
  obtain ⟨hrel, hown⟩ := hcell off _ y hcs hyc
  have hfc : ∀ j, j ≠ off → f (.cell r j) = G.o (.cell r j) := fun j hj => by
    simp only [f]
    rw [if_neg (fun ⟨t, _, e⟩ => by cases e), if_neg (fun e => hj (by injection e))]
  refine ⟨{ G with o := f }, .of_same rfl rfl rfl (Nat.le_refl _) (fun _ _ => rfl) (fun _ _ => rfl) (fun _ _ h => h), ⟨hv.lev, hv.inj, hv.mkk, ?_, ?_⟩, put_size .., put_defers .., fun t h => put_ne _ _ _ _ h, ?_, ?_, ?_, fun _ => rfl, fun q h1 h2 => absurd h1 h2,
    fun q c base h1 h2 => (by rw [show G.m q = some (c, base) from h2] at h1; cases h1), fun _ _ _ _ _ => rfl, ?_⟩
  · intro l l' c h1 h2
    obtain ⟨l1, h4, h5⟩ := hf l c h1
    obtain ⟨l2, h6, h7⟩ := hf l' c h2
    have := hv.oinj _ _ c h4 h6
    subst this
    rcases h5 with ⟨rfl, h8, h9⟩ | ⟨rfl, t, h8, rfl⟩ <;> rcases h7 with ⟨h10, h11, h12⟩ | ⟨h10, u, h11, rfl⟩
    · exact h10
    · exact absurd h10 h9
    · exact absurd h10.symm h12
    · rw [h8] at h11; injection h11 with h11; rw [h11]
  · intro l c h1
    obtain ⟨l1, h4, _⟩ := hf l c h1
    exact hv.ok _ _ h4
  · intro t h
    have hdt := (hwr t).1 h
    unfold RelS
    rw [show fget (finX x fr (.lst .own z es)) t = .lst .own z es by simp [finX, hdt, fget_fput], hdt, put_eq _ _ _ (hd t hdt)]
    exact ⟨hrel.of_below.withO, hown.withO (by simp only [f]; rw [if_pos ⟨t, hdt, rfl⟩])⟩
  · intro l h
    simp only [f]
    rw [if_neg (fun hh => h ((htouch l).2 (.inl hh))), if_neg (fun e => h ((htouch l).2 (.inr ⟨off, e⟩)))]
  · intro l c h h1
    obtain ⟨l1, h4, h5⟩ := hf l c h1
    refine .inl ⟨l1, ?_, h4⟩
    rcases h5 with ⟨rfl, _, _⟩ | ⟨rfl, _⟩
    · exact h
    · exact (htouch _).2 (.inr ⟨off, rfl⟩)
  · intro _ q c base2 blk2 h1 h2 h4
    have hq := (hfoot q).1 h1
    subst hq
    rw [hget_hput hg, if_pos rfl] at h4
    injection h4 with h4
    subst h4
    have : (c, base2) = (b, base) := Option.some.inj (h2.symm.trans hm)
    injection this with e1 e2
    subst e1 e2
    refine ⟨cs0, T0, hb0, by rw [splice_length]; exact hsz, fun j u w0 hu hw => ?_⟩
    rw [splice_get _ _ _ _ (by simp; omega)] at hu
    by_cases hj : off ≤ j ∧ j < off + [AV.lst Own.none z es].length
    · rw [if_pos hj] at hu
      have hjo : j = off := by simp at hj; omega
      subst hjo
      simp at hu
      subst hu
      have e : w0 = y := Option.some.inj (hw.symm.trans hyc)
      subst e
      exact ⟨(hrel.uf).withO (f := f), .of_noFlag trivial⟩
    · rw [if_neg hj] at hu
      obtain ⟨g1, g2⟩ := hcell j u w0 hu hw
      exact ⟨g1.withO (f := f), g2.withO (hfc j (fun e => hj (by simp; omega)))⟩
theorem step_lown {a : XArg} (hx : x.op = .lown a) (hchk : chkOp P prims (.lown a) o = true) (hxd : x.dst = o.dst) (hd : ∀ d, x.dst = some d → d < act.tmps.size)
    (he : evOp C gl (x.dst.getD 0) (.lown a) fr hp = some (v, fr1, hp1)) (hv : Valid G w N) (hs : ∀ t ∈ rds (.lown a), RelS G w fr act t)
    (hh : ∀ r, footR fr x.op r → ∀ b base blk, G.m r = some (b, base) → hget hp r = some blk → RelBlk G w r b base blk)
    (hK : ∀ G' act' w', Next x fr hp G act w N (finX x fr1 v) hp1 G' act' w' → K act' w') : o.wp P act w K Q := by
  simp only [chkOp] at hchk
  split at hchk
  · rename_i T b ho
    simp only [Bool.and_eq_true, typeIs] at hchk
    obtain ⟨h1, h2⟩ := hchk
    split at h2
    · rename_i i dd hi hdd
      simp only [Bool.and_eq_true, beq_iff_eq] at h2
      have hr := arg_rel (w := w) (G := G) h1 (ats1 hs)
      simp only [evOp] at he
      split at he
      · rename_i r off ha
        rw [ha] at hr
        obtain ⟨bb, base, hy, hm⟩ := ptr_form hr
        split at he
        · rename_i cs hcs
          have hg : hget hp r = some (.cells cs) := by
            unfold cellsAt at hcs
            split at hcs
            · rename_i vs' hb; injection hcs with hcs; subst hcs; exact hb
            · cases hcs
          have hblk := hh r (by rw [hx]; simp [footR, ha, ptrOf]) bb base _ hm hg
          have hrunOf : ∀ y, w.cell? ⟨bb, base + off, none⟩ = some y → (execOp act.eval o).run P w = .ok (.value y) w := by
            intro y hc
            have hl : (loadVar T ⟨bb, base + off, none⟩).run P w = .ok y w := by
              simp only [loadVar, Sem.run_bind, run_isAgg2 hdd, h2.2, Result.andThen_ok, Bool.false_eq_true, if_false]
              exact run_load1 hc
            simp only [execOp, ho, hy, Instr.loadAt, Instr.sureAddr, Sem.run_bind, Sem.run_pure, Result.andThen_ok, hl]
          have hgetcs : ∀ u l, cs.drop off = u :: l → cs[off]? = some u := by
            intro u l e
            have : (cs.drop off)[0]? = some u := by rw [e]; rfl
            rwa [List.getElem?_drop, Nat.add_zero] at this
          split at he
          · rename_i z es l hdr
            simp only [Option.some.injEq, Prod.mk.injEq] at he
            obtain ⟨rfl, rfl, rfl⟩ := he
            obtain ⟨y, hc, _⟩ := hblk.mem off _ (hgetcs _ _ hdr)
            obtain ⟨G', hn⟩ := next_lown (x := x) (fr := fr) (act := act) hx hv (by rw [ha]; rfl) hm hg hblk (hgetcs _ _ hdr) hc hd
            exact wp_of_run (hrunOf y hc) (hxd ▸ hK _ _ _ hn)
          · rename_i u l _ hdr
            simp only [Option.some.injEq, Prod.mk.injEq] at he
            obtain ⟨rfl, rfl, rfl⟩ := he
            obtain ⟨y, hc, hrel⟩ := hblk.mem off _ (hgetcs _ _ hdr)
            obtain ⟨G', hn⟩ := next_keep (x := x) (hp := hp) (fr := fr) (act := act) (v := uf u) (y := y) hv (fun t ht hdt => by
              cases h : x.dst <;> simp [XO.wr, hx, mvs, h] at ht hdt
              exact absurd ht.symm hdt) hh hd hrel.uf (noFlag_uf u)
            exact wp_of_run (hrunOf y hc) (hxd ▸ hK _ _ _ hn)
          · cases he
        · cases he
      · cases he
    · cases h2
  · cases hchk
theorem step_thw {s : Nat} (hx : x.op = .thw s) (hchk : chkOp P prims (.thw s) o = true) (hxd : x.dst = o.dst) (hd : ∀ d, x.dst = some d → d < act.tmps.size)
    (he : evOp C gl (x.dst.getD 0) (.thw s) fr hp = some (v, fr1, hp1)) (hv : Valid G w N) (hN : hp.length = N) (hs : ∀ t ∈ rds (.thw s), RelS G w fr act t) (hfresh : cls x.op = 2 → hp ≠ [] → hget hp1 (newRef x hp) ≠ none → G.m (newRef x hp) = none)
    (hK : ∀ G' act' w', Next x fr hp G act w N (finX x fr1 v) hp1 G' act' w' → K act' w') : o.wp P act w K Q := by
  simp only [chkOp] at hchk
  split at hchk
  · rename_i t ho
    have hst : s = t := by simpa using hchk
    subst hst
    have hss := hs s (by simp [rds])
    have hrun := gives_own (P := P) (w := w) (act := act) (o := o) (.inl ho)
    have hf3 : ∀ r, footR fr x.op r → ∀ b base blk, G.m r = some (b, base) → hget hp r = some blk → RelBlk G w r b base blk := by
      intro r hr
      rw [hx] at hr
      simp [footR, cls] at hr
    have keep : noFlag (fget fr s) → v = fget fr s → fr1 = fr → hp1 = hp → o.wp P act w K Q := by
      rintro hno rfl rfl rfl
      obtain ⟨G', hn⟩ := next_keep (x := x) (hp := hp1) (fr := fr1) hv (fun t ht hdt => by
        have : t = s := by
          cases h : x.dst <;> simp [XO.wr, hx, mvs, h] at ht hdt
          · exact ht
          · exact ht.resolve_left (fun e => hdt e.symm)
        rw [this]; exact hss) hf3 hd hss.1 hno
      exact wp_of_run hrun (hxd ▸ hK _ _ _ hn)
    simp only [evOp] at he
    split at he
    · rename_i z es hes
      split at he
      · rename_i hbare
        split at he
        · rename_i r hp' hb
          simp only [Option.some.injEq, Prod.mk.injEq] at he
          obtain ⟨rfl, rfl, rfl⟩ := he
          obtain ⟨G', hn⟩ := next_thw hx hv hN hss hes hbare hb (hfresh (by rw [hx]; rfl) (mkBlk_facts hb).2.2.2.1 (mkBlk_new hb ▸ (mkBlk_facts hb).2.2.2.2.1)) hd
          exact wp_of_run hrun (hxd ▸ hK _ _ _ hn)
        · cases he
      · cases he
    · rename_i r z off len hes
      simp only [Option.some.injEq, Prod.mk.injEq] at he
      exact keep (by rw [hes]; trivial) (by rw [hes]; exact he.1.symm) he.2.1.symm he.2.2.symm
    · rename_i hes
      simp only [Option.some.injEq, Prod.mk.injEq] at he
      exact keep (by rw [hes]; trivial) (by rw [hes]; exact he.1.symm) he.2.1.symm he.2.2.symm
    · cases he
  · cases hchk
theorem step_rngs {a : XArg} (hx : x.op = .rngs a) (hchk : chkOp P prims (.rngs a) o = true) (hxd : x.dst = o.dst) (hd : ∀ d, x.dst = some d → d < act.tmps.size)
    (he : evOp C gl (x.dst.getD 0) (.rngs a) fr hp = some (v, fr1, hp1)) (hv : Valid G w N) (hN : hp.length = N) (hs : ∀ t ∈ rds (.rngs a), RelS G w fr act t) (hfresh : cls x.op = 2 → hp ≠ [] → hget hp1 (newRef x hp) ≠ none → G.m (newRef x hp) = none)
    (hK : ∀ G' act' w', Next x fr hp G act w N (finX x fr1 v) hp1 G' act' w' → K act' w') : o.wp P act w K Q := by
  simp only [chkOp] at hchk
  split at hchk
  · rename_i T b ho
    simp only [Bool.and_eq_true] at hchk
    obtain ⟨h1, h2⟩ := hchk
    split at h2
    · rename_i hT
      have hr := arg_rel (w := w) (G := G) h1 (ats1 hs)
      simp only [evOp] at he
      split at he
      · rename_i s ha
        rw [ha] at hr
        cases hy : act.eval b <;> rw [hy] at hr <;> cases hr
        rename_i q
        split at he
        · rename_i r hp' hb
          simp only [Option.some.injEq, Prod.mk.injEq] at he
          obtain ⟨rfl, rfl, rfl⟩ := he
          have hrun : (execOp act.eval o).run P w = .ok (.value (.pointer (some ⟨w.heap.size, 0, none⟩))) (w.alloc (.stringIter q 0)) := by
            simp only [execOp, ho, hy, Instr.range, Sem.run_bind, run_underlying' hT, Result.andThen_ok, Sem.run_pure, run_newObj]
            rfl
          obtain ⟨G', hn⟩ := next_new0 (x := x) (fr := fr) (act := act) (ob := .stringIter q 0) hv hN (by rw [hx]; rfl) (by rw [hx]; rfl) hb (hfresh (by rw [hx]; rfl) (mkBlk_facts hb).2.2.2.1 (mkBlk_new hb ▸ (mkBlk_facts hb).2.2.2.2.1)) (fun f G' _ _ _ => ⟨q, rfl, heap_alloc_eq w _, rfl⟩) hd
          exact wp_of_run hrun (hxd ▸ hK _ _ _ hn)
        · cases he
      · cases he
    · cases h2
  · cases hchk
theorem next_nexts {a : XArg} {r : Ref} {b base : Nat} {w' : World} {blk : Blk} {v : AV} {y : Value} (hx : x.op = .nexts a) (hv : Valid G w N) (hr : ptrOf (earg fr a) = some r) (hm : G.m r = some (b, base)) {blk0 : Blk} (hg : hget hp r = some blk0)
    (hos : w'.os = w.os) (ht : w'.tape = w.tape) (hout : w'.output = w.output) (hsz : w'.heap.size = w.heap.size) (hold : ∀ c, c ≠ b → w'.heap[c]? = w.heap[c]?) (hnc : ∀ cs T fz, w.heap[b]? ≠ some (.cells cs T fz))
    (hblk : ∀ f : Loc → Option Nat, RelBlk { G with o := f } w' r b base blk) (hrel : ∀ G' : Gh, RelV G' w' v y) (hno : noFlag v) (hd : ∀ d, x.dst = some d → d < act.tmps.size) :
    ∃ G', Next x fr hp G act w N (finX x fr v) (hput hp r blk) G' (act.put x.dst y) w' := by
  let f : Loc → Option Nat := fun l => if ∃ t, x.dst = some t ∧ l = .slot t then none else G.o l
  have hfn : ∀ l b, f l = some b → G.o l = some b := by
    intro l b h
    simp only [f] at h
    split at h
    · cases h
    · exact h
  have hkb := (hv.mkk r _ hm).1
  have hne : ∀ c, G.k c ≠ .mb → c ≠ b := fun c h e => h (by rw [e]; exact hkb)
  have hwr : ∀ t, t ∈ x.wr ↔ x.dst = some t := by
    intro t
    cases h : x.dst <;> simp [XO.wr, hx, mvs, h, eq_comm]
  have hfoot : ∀ q, footR fr x.op q → q = r := fun q h => by
    rw [hx] at h
    simp only [footR, hr, Option.some.injEq] at h
    exact h.symm
  refine ⟨{ G with o := f }, ⟨hos, ht, hout, Nat.le_of_eq hsz.symm, fun c _ h => ⟨h, hold c (hne c (by rw [h]; simp))⟩, fun c g _ h => ⟨g, Nat.le_refl _, h, fun i _ => cell_of_heap (hold c (hne c (by rw [h]; simp))) i⟩,
      fun c _ _ h _ => ⟨rfl, hold c (hne c h)⟩, fun _ _ h => h, fun c _ h => ⟨h, fun cs T fz hh => ?_⟩⟩,
    ⟨hv.lev, hv.inj, fun q a h => ⟨(hv.mkk q a h).1, by rw [hsz]; exact (hv.mkk q a h).2⟩, fun l l' c h1 h2 => hv.oinj _ _ c (hfn _ _ h1) (hfn _ _ h2), fun l c h => by rw [hsz]; exact hv.ok _ _ (hfn _ _ h)⟩,
    put_size .., put_defers .., fun t h => put_ne _ _ _ _ h, ?_, ?_, fun l c h1 h2 => .inl ⟨l, h1, hfn _ _ h2⟩, fun _ => rfl, fun q h1 h2 => absurd h1 h2, fun q c base h1 h2 => (by rw [show G.m q = some (c, base) from h2] at h1; cases h1), ?_, ?_⟩
  · by_cases e : c = b
    · rw [e] at hh; exact absurd hh (hnc _ _ _)
    · exact ⟨cs, by rw [hold c e, hh], rfl⟩
  · intro t h
    have hdt := (hwr t).1 h
    unfold RelS
    rw [show fget (finX x fr v) t = v by simp [finX, hdt, fget_fput], hdt, put_eq _ _ _ (hd t hdt)]
    exact ⟨hrel _, .of_noFlag hno⟩
  · intro l h
    simp only [f]
    rw [if_neg]
    rintro ⟨t, h1, rfl⟩
    exact h (.inl ⟨t, (hwr t).2 h1, rfl⟩)
  · intro q c base2 h1 h2
    refine hold c fun e => h2 ⟨by rw [hx]; rfl, ?_⟩
    have := hv.inj q r _ _ h1 hm e
    rw [this, hx]
    exact hr
  · intro _ q c base2 blk2 h1 h2 h3
    have hq := hfoot q h1
    subst hq
    rw [hget_hput hg, if_pos rfl] at h3
    injection h3 with h3
    subst h3
    have : (c, base2) = (b, base) := Option.some.inj (h2.symm.trans hm)
    injection this with e1 e2
    subst e1 e2
    exact hblk f
theorem hput_same : ∀ {hp : Heap} {r : Ref} {b : Blk}, hget hp r = some b → ∀ q, hget (hput hp r b) q = hget hp q := fun {hp r b} h q => by
  rw [hget_hput h]
  split
  · rename_i e; rw [e, h]
  · rfl
theorem step_nexts {a : XArg} (hx : x.op = .nexts a) (hchk : chkOp P prims (.nexts a) o = true) (hxd : x.dst = o.dst) (hd : ∀ d, x.dst = some d → d < act.tmps.size)
    (he : evOp C gl (x.dst.getD 0) (.nexts a) fr hp = some (v, fr1, hp1)) (hv : Valid G w N) (hs : ∀ t ∈ rds (.nexts a), RelS G w fr act t)
    (hh : ∀ r, footR fr x.op r → ∀ b base blk, G.m r = some (b, base) → hget hp r = some blk → RelBlk G w r b base blk)
    (hK : ∀ G' act' w', Next x fr hp G act w N (finX x fr1 v) hp1 G' act' w' → K act' w') : o.wp P act w K Q := by
  simp only [chkOp] at hchk
  split at hchk
  · rename_i b ho
    have hr := arg_rel (w := w) (G := G) hchk (ats1 hs)
    simp only [evOp] at he
    split at he
    · rename_i r ha
      rw [ha] at hr
      obtain ⟨bb, base, hy, hm⟩ := ptr_form hr
      have hfoot : footR fr x.op r := by rw [hx]; simp [footR, ha, ptrOf]
      split at he
      · rename_i s pos hg
        obtain ⟨s', hs', hb, hbase⟩ := hh r hfoot bb base _ hm hg
        subst hs' hbase
        have hbs := (hv.mkk r _ hm).2
        have hobj : (getObj bb).run P w = .ok (.stringIter s' pos) w := by simp [getObj, Sem.run, hb]
        split at he
        · rename_i hlt
          have hlt' : pos < s'.size := by
            have e : s'.size = s'.data.toList.length := Array.length_toList.symm
            omega
          have hdec : decodeAt s'.data.toList pos = Utf8.decode s' pos := by simp [decodeAt]
          rcases hdc : Utf8.decode s' pos with ⟨c, wd⟩
          rw [hdec, hdc] at he
          simp only [Option.some.injEq, Prod.mk.injEq] at he
          obtain ⟨rfl, rfl, rfl⟩ := he
          have hset : (setObj bb (.stringIter s' (pos + wd))).run P w = .ok () { w with heap := w.heap.setIfInBounds bb (.stringIter s' (pos + wd)) } := by simp [setObj, Sem.run, hb]
          have hrun : (execOp act.eval o).run P w = .ok (.value (.tuple #[.bool true, goInt pos, .int .i32 c])) { w with heap := w.heap.setIfInBounds bb (.stringIter s' (pos + wd)) } := by
            simp only [execOp, ho, hy, Instr.next, Sem.run_bind, Result.andThen_ok, hobj, Nat.add_zero, if_pos hlt', hdc, hset, Sem.run_pure]
          obtain ⟨G', hn⟩ := next_nexts (x := x) (fr := fr) (act := act) (w' := { w with heap := w.heap.setIfInBounds bb (.stringIter s' (pos + wd)) }) (blk := .iter s'.data.toList (pos + wd)) (v := .tup [.bool true, .int .i64 pos, .int .i32 c]) (y := .tuple #[.bool true, goInt pos, .int .i32 c])
            hx hv (by rw [ha]; rfl) hm hg rfl rfl rfl (by simp) (fun e he => by simp [Array.getElem?_setIfInBounds, Ne.symm he]) (fun cs T fz => by rw [hb]; simp) (fun f => ⟨s', rfl, by simp [hbs], rfl⟩)
            (fun G' => .tup _ _ rfl fun j u z hu hz => by
              match j with
              | 0 => simp at hu hz; subst hu hz; exact .bool _
              | 1 => simp at hu hz; subst hu hz; exact .int _ _
              | 2 => simp at hu hz; subst hu hz; exact .int _ _
              | j + 3 => simp at hu) trivial hd
          exact wp_of_run hrun (hxd ▸ hK _ _ _ hn)
        · rename_i hlt
          simp only [Option.some.injEq, Prod.mk.injEq] at he
          obtain ⟨rfl, rfl, rfl⟩ := he
          have hlt' : ¬ pos < s'.size := by
            have e : s'.size = s'.data.toList.length := Array.length_toList.symm
            omega
          have hrun : (execOp act.eval o).run P w = .ok (.value (.tuple #[.bool false])) w := by
            simp only [execOp, ho, hy, Instr.next, Sem.run_bind, Result.andThen_ok, hobj, Nat.add_zero, if_neg hlt', Sem.run_pure]
          obtain ⟨G', hn⟩ := next_keep (x := x) (hp := hp) (fr := fr) (act := act) (v := .tup [.bool false]) (y := .tuple #[.bool false]) hv (fun t ht hdt => by
            cases h : x.dst <;> simp [XO.wr, hx, mvs, h] at ht hdt
            exact absurd ht.symm hdt) hh hd (.tup _ _ rfl fun j u z hu hz => by
              match j with
              | 0 => simp at hu hz; subst hu hz; exact .bool _
              | j + 1 => simp at hu) trivial
          exact wp_of_run hrun (hxd ▸ hK _ _ _ hn)
      · cases he
    · cases he
  · cases hchk
theorem step_bslice {z : Nat} {zs : List AV} {ps : List (Nat × Nat × XArg)} (hx : x.op = .bslice z zs ps) (hchk : chkOp P prims (.bslice z zs ps) o = true) (hxd : x.dst = o.dst) (hd : ∀ d, x.dst = some d → d < act.tmps.size)
    (he : evOp C gl d (.bslice z zs ps) fr hp = some (v, fr1, hp1)) (hv : Valid G w N) (hs : ∀ t ∈ rds (.bslice z zs ps), RelS G w fr act t)
    (hK : ∀ G' act' w', Next x fr hp G act w N (finX x fr1 v) hp1 G' act' w' → K act' w') : o.wp P act w K Q := by
  simp only [chkOp] at hchk
  split at hchk
  · rename_i T len qs ho
    split at hchk
    · rename_i E hT
      split at hchk
      · rename_i i hi
        split at hchk
        · rename_i zv hzv
          simp only [Bool.and_eq_true, beq_iff_eq, decide_eq_true_eq] at hchk
          obtain ⟨⟨⟨⟨h1, h2⟩, h3⟩, h4⟩, h5⟩ := hchk
          simp only [evOp] at he
          split at he
          · rename_i cs hcs
            split at he
            · rename_i hcond
              simp only [Option.some.injEq, Prod.mk.injEq] at he
              obtain ⟨rfl, rfl, rfl⟩ := he
              have hs' : ∀ p ∈ ps, ∀ t ∈ argTmp p.2.2, RelS G w fr act t := fun p hp t ht => hs t (mem_ats (List.mem_map.2 ⟨p, hp, rfl⟩) ht)
              have hzr : RelCs G w zs (initCells (if len * z = 0 then #[] else zv.cells) (len * z)) := by
                have := (constCells_rel (G := G) (w := w) h4).1
                simpa using this
              obtain ⟨xs, h6, h7⟩ := run_bslice (P := P) ho hT hi h1 hzv h3 hzr h5 hs' hcs
              have hlen : cs.length = len * z := by rw [fillX_length hcs, h2]
              have hdiv : cs.length / z = len := by rw [hlen]; exact Nat.mul_div_cancel _ hcond.2
              rw [hdiv] at hK
              obtain ⟨G', hn⟩ := next_newblk (x := x) (hp := hp) (fr := fr) (fr1 := fr) (k := .st) (own := false) (w' := w.alloc (.cells xs E)) (v := .lst .tight z (chunks z len cs)) (y := .slice (some ⟨w.heap.size, 0, none⟩) len len) hv
                (by rw [hx]; simp [cls]) (by rw [hx]; simp [cls]) rfl rfl rfl (by simp) (fun b hb => heap_alloc_lt w _ b hb) (by simp) (fun h => by cases h) hd (fun t ht => by rw [hx] at ht; simp [mvs] at ht) (fun G' hm hk1 hk2 _ hE => by
                  have hM := mem_new hv h7 hE
                  have hM' : MemAt G' (w.alloc (.cells xs E)) cs w.heap.size 0 := hM.withO (f := G'.o)
                  obtain ⟨X, hA⟩ := lstAt_chunks (n := len) hM' hcond.1 ⟨by simp, .inl hk2⟩ (by rw [hlen]; exact Nat.le_refl _)
                  have := hA.rel (ow := .tight) (cap := len) (by simp) (by rw [chunks_length]; exact Nat.le_refl _) (by rw [chunks_length]; exact fun _ => rfl)
                  rw [chunks_length] at this
                  exact ⟨this, trivial⟩)
              exact wp_of_run h6 (hxd ▸ hK _ _ _ hn)
            · cases he
          · cases he
        · cases hchk
      · cases hchk
    · cases hchk
  · cases hchk
theorem step_op (hsup : supOp x.op = true) (hC : CallOk P gl C) (hP : PrimOk P prims) (hchk : chkOp P prims x.op o = true) (hxd : x.dst = o.dst) (hd : ∀ d, x.dst = some d → d < act.tmps.size)
    (he : evOp C gl (x.dst.getD 0) x.op fr hp = some (v, fr1, hp1)) (hv : Valid G w N) (hN : hp.length = N) (hs : ∀ t ∈ rds x.op, RelS G w fr act t)
    (hh : ∀ r, footR fr x.op r → ∀ b base blk, G.m r = some (b, base) → hget hp r = some blk → RelBlk G w r b base blk) (hg : GlOk G w gl) (hfresh : cls x.op = 2 → hp ≠ [] → hget hp1 (newRef x hp) ≠ none → G.m (newRef x hp) = none)
    (hK : ∀ G' act' w', Next x fr hp G act w N (finX x fr1 v) hp1 G' act' w' → K act' w') : o.wp P act w K Q := by
  unfold supOp at hsup
  rw [Bool.or_eq_true] at hsup
  rcases hsup with hsup | hsup
  · obtain ⟨⟨y, h1, h2⟩, h3, rfl, rfl⟩ := op_pure hsup hchk he hs hh hg
    obtain ⟨c2, c3, cm⟩ := pure_cls hsup
    obtain ⟨G', hn⟩ := next_val (hp := hp1) hv c2 c3 cm h2 h3 hd
    exact wp_of_run h1 (hxd ▸ hK _ _ _ hn)
  · cases hx : x.op <;> rw [hx] at hsup <;> (try (cases hsup; done)) <;> rw [hx] at hchk he hs
    case bslice z zs ps => exact step_bslice hx hchk hxd hd he hv hs hK
    case thw s => exact step_thw hx hchk hxd hd he hv hN hs hfresh hK
    case nexts a => exact step_nexts hx hchk hxd hd he hv hs hh hK
    case ownd s => exact step_ownd hx hchk hxd hd he hv hs hK
    case callw f as => exact step_callw hC hx hchk hxd hd he hv hN hs hh hg hK
    case calld g as => exact step_calld hC hx hchk hxd hd he hv hN hs hh hg hK
    case lown a => exact step_lown hx hchk hxd hd he hv hs hh hK
    case rngs a => exact step_rngs hx hchk hxd hd he hv hN hs hfresh hK
    all_goals simp only [evOp] at he
    case stop => cases he
    case own s =>
      simp only [Option.some.injEq, Prod.mk.injEq] at he
      obtain ⟨rfl, rfl, rfl⟩ := he
      have ho : o.op = .move (.tmp s) ∨ o.op = .assign (.tmp s) := by
        simp only [chkOp] at hchk
        split at hchk
        · rename_i t ho; simp at hchk; subst hchk; exact .inl ho
        · rename_i t ho; simp at hchk; subst hchk; exact .inr ho
        · cases hchk
      obtain ⟨G', hn⟩ := next_own (hp := hp) (by rw [hx]; rfl) (by rw [hx]; simp [cls]) (by rw [hx]; simp [cls]) hv (hs s (by simp [rds])) hd
      exact wp_of_run (gives_own ho) (hxd ▸ hK _ _ _ hn)
    case alloc zs =>
      simp only [chkOp] at hchk
      split at hchk
      · rename_i T ho
        obtain ⟨xs, h1, h2, h3⟩ := run_alloc (P := P) (G := G) (w := w) (act := act) ho hchk
        split at he
        · rename_i r hp' hb
          simp only [Option.some.injEq, Prod.mk.injEq] at he
          obtain ⟨rfl, rfl, rfl⟩ := he
          obtain ⟨G', hn⟩ := next_new (x := x) (T := T) hv hN (by rw [hx]; rfl) (by rw [hx]; rfl) hb (hfresh (by rw [hx]; rfl) (mkBlk_facts hb).2.2.2.1 (mkBlk_new hb ▸ (mkBlk_facts hb).2.2.2.2.1)) h2 (fun u hu => (h3 u hu).2) hd
          exact wp_of_run h1 (hxd ▸ hK _ _ _ hn)
        · cases he
      · cases hchk
    case box a n =>
      simp only [chkOp] at hchk
      split at hchk
      · rename_i T b ho
        split at he
        · rename_i hcond
          obtain ⟨xs, h1, h2⟩ := run_box (P := P) (G := G) (w := w) hchk ho (ats1 hs) hcond.2
          split at he
          · rename_i r hp' hb
            simp only [Option.some.injEq, Prod.mk.injEq] at he
            obtain ⟨rfl, rfl, rfl⟩ := he
            obtain ⟨G', hn⟩ := next_new (x := x) (T := T) hv hN (by rw [hx]; rfl) (by rw [hx]; rfl) hb (hfresh (by rw [hx]; rfl) (mkBlk_facts hb).2.2.2.1 (mkBlk_new hb ▸ (mkBlk_facts hb).2.2.2.2.1)) h2 (cellsOf_noFlag (earg_noFlag hchk)) hd
            exact wp_of_run h1 (hxd ▸ hK _ _ _ hn)
          · cases he
        · cases he
      · cases hchk
    case store a y n =>
      simp only [chkOp] at hchk
      split at hchk
      · rename_i T b c ho
        simp only [Bool.and_eq_true, sizeIs] at hchk
        obtain ⟨⟨h1, h2⟩, h3⟩ := hchk
        split at h3
        · rename_i i hi
          split at he
          · rename_i hcond
            split at he
            · rename_i hp' hst
              simp only [Option.some.injEq, Prod.mk.injEq] at he
              obtain ⟨rfl, rfl, rfl⟩ := he
              exact next_store hx hxd hv hN ho h1 h2 hi (by simpa using h3) hs hh hd hcond.1 hcond.2 hst hK
            · cases he
          · cases he
        · cases h3
      · cases hchk
    case callq f as =>
      simp only [chkOp] at hchk
      split at hchk
      · rename_i g bs hcall
        simp only [Bool.and_eq_true, beq_iff_eq] at hchk
        obtain ⟨⟨rfl, h1⟩, h2⟩ := hchk
        split at he
        · rename_i hfree
          split at he
          · rename_i v' hq hc
            simp only [Option.some.injEq, Prod.mk.injEq] at he
            obtain ⟨rfl, rfl, rfl⟩ := he
            obtain ⟨h3, h4⟩ := eargs_rel h1 (fun a ha t ht => hs t (mem_ats ha ht))
            exact next_callq hC (by rw [hx]; simp [cls]) (by rw [hx]; simp [cls]) (by rw [hx]; rfl) hxd hv h2 (run_call hcall) h3 h4 (eargs_noFlag h1) hfree hg hc hd hK
          · cases he
        · cases he
      · cases hchk
    case prim id f as =>
      simp only [chkOp] at hchk
      split at hchk
      · rename_i g bs hcall
        simp only [Bool.and_eq_true, beq_iff_eq] at hchk
        obtain ⟨⟨rfl, h1⟩, h2⟩ := hchk
        split at he
        · rename_i u hu
          simp only [Option.some.injEq, Prod.mk.injEq] at he
          obtain ⟨rfl, rfl, rfl⟩ := he
          obtain ⟨h3, h4⟩ := eargs_rel h1 (fun a ha t ht => hs t (mem_ats ha ht))
          obtain ⟨z, h5, h6, h7⟩ := hP (f, id) (by simpa using h2) _ _ hu G w (bs.map act.eval).toArray (by simp [h3]) (fun j u z h8 h9 => h4 j u z h8 (by simpa using h9))
          obtain ⟨G', hn⟩ := next_val (hp := hp) (x := x) hv (by rw [hx]; simp [cls]) (by rw [hx]; simp [cls]) (by rw [hx]; rfl) h6 h7 hd
          exact wp_of_run (by rw [run_call hcall]; exact h5) (hxd ▸ hK _ _ _ hn)
        · cases he
      · cases hchk
end
end Go.Proofs.Ytpfollpbkpgglaa.Sx
