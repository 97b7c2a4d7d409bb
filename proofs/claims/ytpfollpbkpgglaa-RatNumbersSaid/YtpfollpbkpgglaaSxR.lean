/- SX, part R: any operation. -/
import Derived.Test.YtpfollpbkpgglaaSxQ
set_option linter.unusedVariables false
set_option linter.unusedSimpArgs false
namespace Go.Proofs.Ytpfollpbkpgglaa.Sx
open Go
section
variable {P : Program} {G : Gh} {w : World} {N : Nat} {x : XO} {fr : List AV} {hp : Heap} {act : Act} {o : Oper} {K : Act → World → Prop} {Q : Exit → Act → World → Prop}
  {C : CallT} {gl : Nat → List AV} {d : Nat} {v : AV} {fr1 : List AV} {hp1 : Heap} {prims : List (Nat × Nat)}
theorem op_pure {x : XOp} (hx : pureOp x = true) (hc : chkOp P prims x o = true) (he : evOp C gl d x fr hp = some (v, fr1, hp1)) (hs : ∀ t ∈ rds x, RelS G w fr act t)
    (hh : ∀ r, footR fr x r → ∀ b base blk, G.m r = some (b, base) → hget hp r = some blk → RelBlk G w r b base blk) (hg : GlOk G w gl) : OpGives P G w act o v fr fr1 hp hp1 := by
  cases x <;> (try (cases hx; done))
  case mov => exact op_mov hc he hs
  case pick => exact op_pick hc he hs
  case build => exact op_build hc he hs
  case load => exact op_load hc he hs hh hg
  case nilck => exact op_nilck hc he hs
  case bin => exact op_bin hc he hs
  case beq => exact op_beq hc he hs
  case eqnil => exact op_eqnil hc he hs
  case eqagg => exact op_eqagg hc he hs
  case neg => exact op_neg hc he hs
  case not => exact op_not hc he hs
  case cpl => exact op_cpl hc he hs
  case conv => exact op_conv hc he hs
  case same => exact op_same hc he hs
  case mkif => exact op_mkif hc he hs
  case mkfn => exact op_mkfn hc he hs
  case faddr => exact op_faddr hc he hs
  case field => exact op_field hc he hs
  case iaddr => exact op_iaddr hc he hs
  case iarr => exact op_iarr hc he hs
  case idxs => exact op_idxs hc he hs
  case idxa => exact op_idxa hc he hs
  case ext => exact op_ext hc he hs
  case lens => exact op_lens hc he hs
  case mx => exact op_mx hc he hs
  case mn => exact op_mn hc he hs
theorem pure_cls {x : XOp} (hx : pureOp x = true) : cls x ≠ 2 ∧ cls x ≠ 3 ∧ mvs x = [] := by
  cases x <;> (try (cases hx; done)) <;> simp [cls, mvs]
def supOp (x : XOp) : Bool := pureOp x || (match x with
  | .own _ | .alloc _ | .box _ _ | .store _ _ _ | .callq _ _ | .prim _ _ _ | .stop => true
  | _ => false)
theorem RelBlk.withO {f : Loc → Option Nat} {r : Ref} {b base : Nat} {blk : Blk} (h : RelBlk G w r b base blk) (hf : ∀ i, f (.cell r i) = G.o (.cell r i)) : RelBlk { G with o := f } w r b base blk := by
  cases blk with
  | cells vs =>
    obtain ⟨cs, T, h1, h2, h3⟩ := h
    refine ⟨cs, T, h1, h2, fun i v z hi hz => ?_⟩
    obtain ⟨h4, h5⟩ := h3 i v z hi hz
    exact ⟨h4.withO (f := f), h5.withO (hf i)⟩
  | iter s pos => exact h
/-- An operation that its guard leaves out. -/
theorem next_skip (hv : Valid G w N) (hs : ∀ t ∈ x.nm, RelS G w fr act t) (hh : ∀ r, footR fr x.op r → ∀ b base blk, G.m r = some (b, base) → hget hp r = some blk → RelBlk G w r b base blk)
    (hd : ∀ d, x.dst = some d → d < act.tmps.size) : ∃ G', Next x fr hp G act w N (finX x fr (.tup [])) hp G' (act.put x.dst undef) w := by
  let f : Loc → Option Nat := fun l => if ∃ t, x.dst = some t ∧ l = .slot t then none else G.o l
  have hfn : ∀ l b, f l = some b → G.o l = some b := by
    intro l b h
    simp only [f] at h
    split at h
    · cases h
    · exact h
  refine ⟨{ G with o := f }, .of_same rfl rfl rfl (Nat.le_refl _) (fun _ _ => rfl) (fun _ _ => rfl) (fun _ _ h => h), ⟨hv.lev, hv.inj, hv.mkk, fun l l' b h1 h2 => hv.oinj _ _ b (hfn _ _ h1) (hfn _ _ h2), fun l b h => hv.ok _ _ (hfn _ _ h)⟩,
    put_size .., put_defers .., fun t h => put_ne _ _ _ _ h, ?_, ?_, fun l b h1 h2 => .inl ⟨l, h1, hfn _ _ h2⟩, fun _ => rfl, fun r h1 h2 => absurd h1 h2, fun r b base h1 h2 => (by rw [show G.m r = some (b, base) from h2] at h1; cases h1), fun _ _ _ _ _ => rfl, ?_⟩
  · intro t ht
    unfold RelS
    by_cases hdt : x.dst = some t
    · rw [show fget (finX x fr (.tup [])) t = .tup [] by simp [finX, hdt, fget_fput], hdt, put_eq _ _ _ (hd t hdt)]
      exact ⟨.tup [] #[] rfl (by simp), .of_noFlag trivial⟩
    · have e1 : fget (finX x fr (.tup [])) t = fget fr t := by
        simp only [finX]
        split
        · rename_i d hd'; rw [fget_fput, if_neg (fun e => hdt (by rw [hd', e]))]
        · rfl
      rw [e1, put_ne _ _ _ _ hdt]
      obtain ⟨h1, h2⟩ := hs t (by simp [XO.nm, ht])
      exact ⟨h1.withO, h2.withO (by simp only [f]; rw [if_neg (fun ⟨u, h3, h4⟩ => hdt (by injection h4 with h4; rw [h4]; exact h3))])⟩
  · intro l h
    simp only [f]
    rw [if_neg]
    rintro ⟨t, h1, rfl⟩
    exact h (.inl ⟨t, by simp [XO.wr, h1], rfl⟩)
  · intro _ r b base blk h1 h2 h3
    exact (hh r h1 b base blk h2 h3).withO (fun i => by simp only [f]; rw [if_neg (fun ⟨u, _, h4⟩ => by cases h4)])
theorem wp_of_run {y : Value} {w' : World} (h : (execOp act.eval o).run P w = .ok (.value y) w') (hK : K (act.put o.dst y) w') : o.wp P act w K Q := by
  unfold Oper.wp
  rw [h]
  exact hK
theorem step_op (hsup : supOp x.op = true) (hC : CallOk P gl C) (hP : PrimOk P prims) (hchk : chkOp P prims x.op o = true) (hxd : x.dst = o.dst) (hd : ∀ d, x.dst = some d → d < act.tmps.size)
    (he : evOp C gl (x.dst.getD 0) x.op fr hp = some (v, fr1, hp1)) (hv : Valid G w N) (hN : hp.length = N) (hs : ∀ t ∈ rds x.op, RelS G w fr act t)
    (hh : ∀ r, footR fr x.op r → ∀ b base blk, G.m r = some (b, base) → hget hp r = some blk → RelBlk G w r b base blk) (hg : GlOk G w gl) (hfresh : cls x.op = 2 → G.m (newRef x hp) = none)
    (hK : ∀ G' act' w', Next x fr hp G act w N (finX x fr1 v) hp1 G' act' w' → K act' w') : o.wp P act w K Q := by
  unfold supOp at hsup
  rw [Bool.or_eq_true] at hsup
  rcases hsup with hsup | hsup
  · obtain ⟨⟨y, h1, h2⟩, h3, rfl, rfl⟩ := op_pure hsup hchk he hs hh hg
    obtain ⟨c2, c3, cm⟩ := pure_cls hsup
    obtain ⟨G', hn⟩ := next_val (hp := hp1) hv c2 c3 cm h2 h3 hd
    exact wp_of_run h1 (hxd ▸ hK _ _ _ hn)
  · cases hx : x.op <;> rw [hx] at hsup <;> (try (cases hsup; done)) <;> rw [hx] at hchk he hs <;> simp only [evOp] at he
    case stop => cases he
    case own s =>
      simp only [Option.some.injEq, Prod.mk.injEq] at he
      obtain ⟨rfl, rfl, rfl⟩ := he
      have ho : o.op = .move (.tmp s) ∨ o.op = .assign (.tmp s) := by
        simp only [chkOp] at hchk
        split at hchk
        · rename_i t ho; simp at hchk; subst hchk; exact .inl ho
        · rename_i t ho; simp at hchk; subst hchk; exact .inr ho
        · cases hchk
      obtain ⟨G', hn⟩ := next_own (hp := hp) hx hv (hs s (by simp [rds])) hd
      exact wp_of_run (gives_own ho) (hxd ▸ hK _ _ _ hn)
    case alloc zs =>
      simp only [chkOp] at hchk
      split at hchk
      · rename_i T ho
        obtain ⟨xs, h1, h2, h3⟩ := run_alloc (P := P) (G := G) (w := w) (act := act) ho hchk
        split at he
        · rename_i r hp' hb
          simp only [Option.some.injEq, Prod.mk.injEq] at he
          obtain ⟨rfl, rfl, rfl⟩ := he
          obtain ⟨G', hn⟩ := next_new (x := x) (T := T) hv hN (by rw [hx]; rfl) (by rw [hx]; rfl) hb (hfresh (by rw [hx]; rfl)) h2 (fun u hu => (h3 u hu).2) hd
          exact wp_of_run h1 (hxd ▸ hK _ _ _ hn)
        · cases he
      · cases hchk
    case box a n =>
      simp only [chkOp] at hchk
      split at hchk
      · rename_i T b ho
        split at he
        · rename_i hcond
          obtain ⟨xs, h1, h2⟩ := run_box (P := P) (G := G) (w := w) hchk ho (ats1 hs) hcond.2
          split at he
          · rename_i r hp' hb
            simp only [Option.some.injEq, Prod.mk.injEq] at he
            obtain ⟨rfl, rfl, rfl⟩ := he
            obtain ⟨G', hn⟩ := next_new (x := x) (T := T) hv hN (by rw [hx]; rfl) (by rw [hx]; rfl) hb (hfresh (by rw [hx]; rfl)) h2 (cellsOf_noFlag (earg_noFlag hchk)) hd
            exact wp_of_run h1 (hxd ▸ hK _ _ _ hn)
          · cases he
        · cases he
      · cases hchk
    case store a y n =>
      simp only [chkOp] at hchk
      split at hchk
      · rename_i T b c ho
        simp only [Bool.and_eq_true, sizeIs] at hchk
        obtain ⟨⟨h1, h2⟩, h3⟩ := hchk
        split at h3
        · rename_i i hi
          split at he
          · rename_i hcond
            split at he
            · rename_i hp' hst
              simp only [Option.some.injEq, Prod.mk.injEq] at he
              obtain ⟨rfl, rfl, rfl⟩ := he
              exact next_store hx hxd hv hN ho h1 h2 hi (by simpa using h3) hs hh hd hcond.1 hcond.2 hst hK
            · cases he
          · cases he
        · cases h3
      · cases hchk
    case callq f as =>
      simp only [chkOp] at hchk
      split at hchk
      · rename_i g bs hcall
        simp only [Bool.and_eq_true, beq_iff_eq] at hchk
        obtain ⟨⟨rfl, h1⟩, h2⟩ := hchk
        split at he
        · rename_i hfree
          split at he
          · rename_i v' hq hc
            simp only [Option.some.injEq, Prod.mk.injEq] at he
            obtain ⟨rfl, rfl, rfl⟩ := he
            obtain ⟨h3, h4⟩ := eargs_rel h1 (fun a ha t ht => hs t (mem_ats ha ht))
            exact next_callq hC (by rw [hx]; simp [cls]) (by rw [hx]; simp [cls]) (by rw [hx]; rfl) hxd hv h2 (run_call hcall) h3 h4 (eargs_noFlag h1) hfree hg hc hd hK
          · cases he
        · cases he
      · cases hchk
    case prim id f as =>
      simp only [chkOp] at hchk
      split at hchk
      · rename_i g bs hcall
        simp only [Bool.and_eq_true, beq_iff_eq] at hchk
        obtain ⟨⟨rfl, h1⟩, h2⟩ := hchk
        split at he
        · rename_i u hu
          simp only [Option.some.injEq, Prod.mk.injEq] at he
          obtain ⟨rfl, rfl, rfl⟩ := he
          obtain ⟨h3, h4⟩ := eargs_rel h1 (fun a ha t ht => hs t (mem_ats ha ht))
          obtain ⟨z, h5, h6, h7⟩ := hP (f, id) (by simpa using h2) _ _ hu G w (bs.map act.eval).toArray (by simp [h3]) (fun j u z h8 h9 => h4 j u z h8 (by simpa using h9))
          obtain ⟨G', hn⟩ := next_val (hp := hp) (x := x) hv (by rw [hx]; simp [cls]) (by rw [hx]; simp [cls]) (by rw [hx]; rfl) h6 h7 hd
          exact wp_of_run (by rw [run_call hcall]; exact h5) (hxd ▸ hK _ _ _ hn)
        · cases he
      · cases hchk
end
end Go.Proofs.Ytpfollpbkpgglaa.Sx
