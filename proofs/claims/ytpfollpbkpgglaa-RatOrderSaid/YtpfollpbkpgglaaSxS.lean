/- SX, part S: what an operation leaves as it was, in the small language. -/
import Derived.Test.YtpfollpbkpgglaaSxR
set_option linter.unusedVariables false
set_option linter.unusedSimpArgs false
namespace Go.Proofs.Ytpfollpbkpgglaa.Sx
open Go
theorem hget_ver : ∀ {hp : Heap} {r : Ref} {b : Blk}, hget hp r = some b → r.lev + 1 = hp.length → r.ver < nv hp r.site
  | [], _, _, h, _ => by cases h
  | l :: t, r, b, h, hl => by
    simp only [List.length_cons, Nat.add_right_cancel_iff] at hl
    simp only [hget, if_pos hl] at h
    simp only [nv, nextVer]
    split at h
    · rename_i v b' hv
      split at h
      · rename_i e; omega
      · cases h
    · cases h
structure EvFacts (x : XO) (fr : List AV) (hp : Heap) (fr' : List AV) (hp' : Heap) : Prop where
  off : ∀ t, t ∉ x.wr → fget fr' t = fget fr t
  len : hp'.length = hp.length
  ver : ∀ s, nv hp s ≤ nv hp' s
  heap : ∀ r blk, ¬ (cls x.op = 3 ∧ footR fr x.op r) → hget hp' r = some blk → hget hp r = some blk ∨ (cls x.op = 2 ∧ r = newRef x hp)
theorem fget_finX {x : XO} {fr : List AV} {v : AV} {t : Nat} (h : x.dst ≠ some t) : fget (finX x fr v) t = fget fr t := by
  simp only [finX]
  split
  · rename_i d hd; rw [fget_fput, if_neg (fun e => h (by rw [hd, e]))]
  · rfl
theorem fget_drop1 {fr : List AV} {y : XArg} {t : Nat} (h : t ∉ ats [y]) : fget (drop1 fr y) t = fget fr t := by
  cases y with
  | cst _ => rfl
  | glob _ => rfl
  | tmp s =>
    have hne : t ≠ s := fun e => h (by simp [ats, e])
    simp only [drop1]
    split <;> first | rw [fget_fput, if_neg hne] | rfl
theorem nv_hput {hp : Heap} {r : Ref} {b b0 : Blk} (h : hget hp r = some b0) (s : Nat) : nv (hput hp r b) s = nv hp s := by
  cases hp with
  | nil => cases h
  | cons l t =>
    simp only [hput]
    split
    · rename_i hl
      simp only [hget, if_pos hl] at h
      simp only [nv, nextVer, lget_lput]
      split at h
      · rename_i v b' hv
        split at h
        · rename_i e
          by_cases hs : s = r.site
          · rw [if_pos hs, hs, hv]
            simp [e]
          · rw [if_neg hs]
        · cases h
      · cases h
    · rfl
theorem sameVers_next : ∀ {l m : Level}, sameVers l m = true → ∀ s, nextVer l s = nextVer m s
  | [], [], _, s => rfl
  | none :: l, none :: m, h, s => by
    cases s with
    | zero => rfl
    | succ s => exact sameVers_next (l := l) (m := m) h s
  | some (v, a) :: l, some (u, b) :: m, h, s => by
    simp only [sameVers, Bool.and_eq_true, beq_iff_eq] at h
    cases s with
    | zero => simp [nextVer, lget, h.1]
    | succ s => exact sameVers_next (l := l) (m := m) h.2 s
  | [], _ :: _, h, _ => by simp [sameVers] at h
  | _ :: _, [], h, _ => by cases ‹Option (Nat × Blk)› <;> simp [sameVers] at h
  | none :: _, some _ :: _, h, _ => by simp [sameVers] at h
  | some _ :: _, none :: _, h, _ => by simp [sameVers] at h
theorem sameTop_facts {hp hp' : Heap} (h : sameTop hp hp' = true) : hp'.length = hp.length ∧ ∀ s, nv hp s ≤ nv hp' s := by
  unfold sameTop at h
  split at h
  · simp only [Bool.and_eq_true, beq_iff_eq] at h
    exact ⟨by simp [h.2], fun s => Nat.le_of_eq (sameVers_next h.1 s)⟩
  · exact ⟨rfl, fun _ => Nat.le_refl _⟩
  · cases h
section
variable {C : CallT} {gl : Nat → List AV} {x : XO} {fr : List AV} {hp : Heap} {v : AV} {fr1 : List AV} {hp1 : Heap}
/-- What stays for operations that touch no memory of the call's own. -/
theorem pure_same {y : XOp} {d : Nat} (hy : pureOp y = true) (he : evOp C gl d y fr hp = some (v, fr1, hp1)) : fr1 = fr ∧ hp1 = hp := by
  cases y <;> (try (cases hy; done)) <;> simp only [evOp] at he
  all_goals (repeat' (first | (cases he; done) | (simp only [Option.some.injEq, Prod.mk.injEq] at he; exact ⟨he.2.1.symm, he.2.2.symm⟩) | split at he))
theorem evOp_facts (hsup : supOp x.op = true) (he : evOp C gl (x.dst.getD 0) x.op fr hp = some (v, fr1, hp1)) :
    EvFacts x fr hp (finX x fr1 v) hp1 ∧ True := by
  have hdst : ∀ t, t ∉ x.wr → x.dst ≠ some t := fun t h e => h (by simp [XO.wr, e])
  have hmv : ∀ t, t ∉ x.wr → t ∉ mvs x.op := fun t h e => h (by simp [XO.wr, e])
  have same : cls x.op ≠ 2 → fr1 = fr ∧ hp1 = hp → EvFacts x fr hp (finX x fr1 v) hp1 ∧ True := by
    rintro h ⟨rfl, rfl⟩
    exact ⟨⟨fun t ht => fget_finX (hdst t ht), rfl, fun _ => Nat.le_refl _, fun r blk _ h => .inl h⟩, trivial⟩
  have new : ∀ b r, mkBlk hp (x.dst.getD 0) b = some (r, hp1) → fr1 = fr → cls x.op = 2 → EvFacts x fr hp (finX x fr1 v) hp1 ∧ True := by
    rintro b r hb rfl h2
    obtain ⟨h3, h4, h5, h6, h7, h8⟩ := mkBlk_facts hb
    refine ⟨⟨fun t ht => fget_finX (hdst t ht), h3, h4, fun q blk _ hq => ?_⟩, trivial⟩
    by_cases hqr : q = r
    · exact .inr ⟨h2, hqr.trans h5⟩
    · exact .inl (h8 q blk hq hqr)
  unfold supOp at hsup
  rw [Bool.or_eq_true] at hsup
  rcases hsup with hsup | hsup
  · exact same (pure_cls hsup).1 (pure_same hsup he)
  · cases hx : x.op <;> rw [hx] at hsup <;> (try (cases hsup; done)) <;> rw [hx] at he <;> simp only [evOp] at he
    case stop => cases he
    case thw s =>
      split at he
      · rename_i z es hes
        split at he
        · split at he
          · rename_i r hp' hb
            simp only [Option.some.injEq, Prod.mk.injEq] at he
            obtain ⟨rfl, rfl, rfl⟩ := he
            obtain ⟨h3, h4, h5, h6, h7, h8⟩ := mkBlk_facts hb
            refine ⟨⟨fun t ht => ?_, h3, h4, fun q blk _ hq => ?_⟩, trivial⟩
            · have hm := hmv t ht
              rw [hx] at hm
              rw [fget_finX (hdst t ht), fget_fput, if_neg (by simpa [mvs] using hm)]
            · by_cases hqr : q = r
              · exact .inr ⟨by rw [hx]; rfl, hqr.trans h5⟩
              · exact .inl (h8 q blk hq hqr)
          · cases he
        · cases he
      all_goals first
        | (cases he; done)
        | (simp only [Option.some.injEq, Prod.mk.injEq] at he
           obtain ⟨rfl, rfl, rfl⟩ := he
           exact ⟨⟨fun t ht => fget_finX (hdst t ht), rfl, fun _ => Nat.le_refl _, fun r blk _ h => .inl h⟩, trivial⟩)
    case ownd s =>
      simp only [Option.some.injEq, Prod.mk.injEq] at he
      obtain ⟨_, rfl, rfl⟩ := he
      refine ⟨⟨fun t ht => ?_, rfl, fun _ => Nat.le_refl _, fun r blk _ h => .inl h⟩, trivial⟩
      rw [fget_finX (hdst t ht), fget_drop1]
      have := hmv t ht
      rw [hx] at this
      simpa [mvs, ats] using this
    case lown a =>
      split at he
      · rename_i r off ha
        split at he
        · rename_i cs hcs
          have hg : hget hp r = some (.cells cs) := by
            unfold cellsAt at hcs
            split at hcs
            · rename_i vs' hb; injection hcs with hcs; subst hcs; exact hb
            · cases hcs
          split at he
          · simp only [Option.some.injEq, Prod.mk.injEq] at he
            obtain ⟨rfl, rfl, rfl⟩ := he
            refine ⟨⟨fun t ht => fget_finX (hdst t ht), hput_length _ _ _, fun s => by rw [nv_hput hg]; exact Nat.le_refl _, fun q blk hq h => ?_⟩, trivial⟩
            rw [hget_hput hg] at h
            split at h
            · rename_i e
              refine absurd ⟨by rw [hx]; rfl, ?_⟩ hq
              rw [hx, e]
              simp [footR, ha, ptrOf]
            · exact .inl h
          · simp only [Option.some.injEq, Prod.mk.injEq] at he
            exact same (by rw [hx]; simp [cls]) ⟨he.2.1.symm, he.2.2.symm⟩
          · cases he
        · cases he
      · cases he
    case calld g as =>
      split at he
      · split at he
        · split at he
          · rename_i hst
            simp only [Option.some.injEq, Prod.mk.injEq] at he
            obtain ⟨rfl, rfl, rfl⟩ := he
            obtain ⟨h3, h4⟩ := sameTop_facts hst
            exact ⟨⟨fun t ht => fget_finX (hdst t ht), h3, h4, fun q blk hq _ => absurd ⟨by rw [hx]; rfl, by rw [hx]; simp [footR, cls]⟩ hq⟩, trivial⟩
          · cases he
        · cases he
      · cases he
    case callw f as =>
      split at he
      · split at he
        · rename_i hst
          simp only [Option.some.injEq, Prod.mk.injEq] at he
          obtain ⟨rfl, rfl, rfl⟩ := he
          obtain ⟨h3, h4⟩ := sameTop_facts hst
          exact ⟨⟨fun t ht => fget_finX (hdst t ht), h3, h4, fun q blk hq _ => absurd ⟨by rw [hx]; rfl, by rw [hx]; simp [footR, cls]⟩ hq⟩, trivial⟩
        · cases he
      · cases he
    case nexts a =>
      split at he
      · rename_i r ha
        split at he
        · rename_i ss pos hg
          split at he
          · simp only [Option.some.injEq, Prod.mk.injEq] at he
            obtain ⟨rfl, rfl, rfl⟩ := he
            refine ⟨⟨fun t ht => fget_finX (hdst t ht), hput_length _ _ _, fun s => by rw [nv_hput hg]; exact Nat.le_refl _, fun q blk hq h => ?_⟩, trivial⟩
            rw [hget_hput hg] at h
            split at h
            · rename_i e
              refine absurd ⟨by rw [hx]; rfl, ?_⟩ hq
              rw [hx, e]
              simp [footR, ha, ptrOf]
            · exact .inl h
          · simp only [Option.some.injEq, Prod.mk.injEq] at he
            exact same (by rw [hx]; simp [cls]) ⟨he.2.1.symm, he.2.2.symm⟩
        · cases he
      · cases he
    case rngs a =>
      split at he
      · split at he
        · rename_i r hp' hb
          simp only [Option.some.injEq, Prod.mk.injEq] at he
          obtain ⟨rfl, rfl, rfl⟩ := he
          exact new _ r hb rfl (by rw [hx]; rfl)
        · cases he
      · cases he
    case bslice z zs ps =>
      refine same (by rw [hx]; simp [cls]) ?_
      split at he
      · split at he
        · simp only [Option.some.injEq, Prod.mk.injEq] at he
          exact ⟨he.2.1.symm, he.2.2.symm⟩
        · cases he
      · cases he
    case own s =>
      simp only [Option.some.injEq, Prod.mk.injEq] at he
      obtain ⟨rfl, rfl, rfl⟩ := he
      refine ⟨⟨fun t ht => ?_, rfl, fun _ => Nat.le_refl _, fun r blk _ h => .inl h⟩, trivial⟩
      rw [fget_finX (hdst t ht), fget_drop1]
      have := hmv t ht
      rw [hx] at this
      simpa [mvs, ats] using this
    case alloc zs =>
      split at he
      · rename_i r hp' hb
        simp only [Option.some.injEq, Prod.mk.injEq] at he
        obtain ⟨rfl, rfl, rfl⟩ := he
        exact new _ r hb rfl (by rw [hx]; rfl)
      · cases he
    case box a n =>
      split at he
      · split at he
        · rename_i r hp' hb
          simp only [Option.some.injEq, Prod.mk.injEq] at he
          obtain ⟨rfl, rfl, rfl⟩ := he
          exact new _ r hb rfl (by rw [hx]; rfl)
        · cases he
      · cases he
    case store a y n =>
      split at he
      · split at he
        · rename_i hp' hst
          simp only [Option.some.injEq, Prod.mk.injEq] at he
          obtain ⟨rfl, rfl, rfl⟩ := he
          unfold stAt at hst
          split at hst
          · rename_i r off hae
            split at hst
            · rename_i cs hcs
              split at hst
              · injection hst with hst
                subst hst
                have hg : hget hp r = some (.cells cs) := by
                  unfold cellsAt at hcs
                  split at hcs
                  · rename_i vs' hb; injection hcs with hcs; subst hcs; exact hb
                  · cases hcs
                refine ⟨⟨fun t ht => ?_, hput_length _ _ _, fun s => by rw [nv_hput hg]; exact Nat.le_refl _, fun q blk hq h => ?_⟩, trivial⟩
                · rw [fget_finX (hdst t ht), fget_drop1]
                  have := hmv t ht
                  rw [hx] at this
                  simpa [mvs] using this
                · rw [hget_hput hg] at h
                  split at h
                  · rename_i e
                    refine absurd ⟨by rw [hx]; rfl, ?_⟩ hq
                    rw [hx, e]
                    simp [footR, hae, ptrOf]
                  · exact .inl h
              · cases hst
            · cases hst
          · cases hst
        · cases he
      · cases he
    case callq f as =>
      refine same (by rw [hx]; simp [cls]) ?_
      split at he
      · split at he
        · simp only [Option.some.injEq, Prod.mk.injEq] at he
          exact ⟨he.2.1.symm, he.2.2.symm⟩
        · cases he
      · cases he
    case prim id f as =>
      refine same (by rw [hx]; simp [cls]) ?_
      split at he
      · simp only [Option.some.injEq, Prod.mk.injEq] at he
        exact ⟨he.2.1.symm, he.2.2.symm⟩
      · cases he
theorem evO_cases {fr' : List AV} {hp' : Heap} (h : evO C gl x fr hp = some (fr', hp')) :
    ((x.guard = none ∨ ∃ t b, x.guard = some (t, b) ∧ fget fr t = .bool b) ∧ ∃ v fr1, evOp C gl (x.dst.getD 0) x.op fr hp = some (v, fr1, hp') ∧ fr' = finX x fr1 v) ∨
    (∃ t b, x.guard = some (t, b) ∧ ((∃ c, fget fr t = .bool c ∧ c ≠ b) ∨ fget fr t = .tup []) ∧ fr' = finX x fr (.tup []) ∧ hp' = hp) := by
  have go : (match evOp C gl (x.dst.getD 0) x.op fr hp with
      | some (v, fr', hp') => some ((match x.dst with | some d => fput fr' d v | none => fr'), hp')
      | none => none) = some (fr', hp') → ∃ v fr1, evOp C gl (x.dst.getD 0) x.op fr hp = some (v, fr1, hp') ∧ fr' = finX x fr1 v := by
    intro h
    split at h
    · rename_i v fr1 hp1 he
      simp only [Option.some.injEq, Prod.mk.injEq] at h
      obtain ⟨h1, h2⟩ := h
      subst h2
      exact ⟨v, fr1, he, h1.symm⟩
    · cases h
  simp only [evO] at h
  split at h
  · rename_i hg
    exact .inl ⟨.inl hg, go h⟩
  · rename_i t b hg
    split at h
    · rename_i c hc
      split at h
      · rename_i hcb
        subst hcb
        exact .inl ⟨.inr ⟨t, c, hg, hc⟩, go h⟩
      · rename_i hcb
        simp only [Option.some.injEq, Prod.mk.injEq] at h
        exact .inr ⟨t, b, hg, .inl ⟨c, hc, hcb⟩, h.1.symm, h.2.symm⟩
    · rename_i hc
      simp only [Option.some.injEq, Prod.mk.injEq] at h
      exact .inr ⟨t, b, hg, .inr hc, h.1.symm, h.2.symm⟩
    · cases h
theorem evO_facts {fr' : List AV} {hp' : Heap} (hsup : supOp x.op = true) (h : evO C gl x fr hp = some (fr', hp')) : EvFacts x fr hp fr' hp' := by
  rcases evO_cases h with ⟨_, v, fr1, he, rfl⟩ | ⟨t, b, _, _, rfl, rfl⟩
  · exact (evOp_facts hsup he).1
  · exact ⟨fun t ht => fget_finX (fun e => ht (by simp [XO.wr, e])), rfl, fun _ => Nat.le_refl _, fun r blk _ h => .inl h⟩
end
section
variable {P : Program} {G : Gh} {w : World} {N : Nat} {x : XO} {fr : List AV} {hp : Heap} {act : Act} {o : Oper} {K : Act → World → Prop} {Q : Exit → Act → World → Prop}
  {C : CallT} {gl : Nat → List AV} {prims : List (Nat × Nat)} {ops : Array Oper} {nt i : Nat} {fr' : List AV} {hp' : Heap}
/-- One operation of a region, guard and all. -/
theorem step_xo (hi : ops[i]? = some o) (hsup : supOp x.op = true) (hC : CallOk P gl C) (hP : PrimOk P prims) (hchk : chkXO P prims nt ops.toList x o = true) (hnt : nt ≤ act.tmps.size)
    (he : evO C gl x fr hp = some (fr', hp')) (hv : Valid G w N) (hN : hp.length = N) (hs : ∀ t ∈ x.nm, RelS G w fr act t)
    (hh : ∀ r, footR fr x.op r → ∀ b base blk, G.m r = some (b, base) → hget hp r = some blk → RelBlk G w r b base blk) (hg : GlOk G w gl)
    (hfresh : cls x.op = 2 → hp ≠ [] → hget hp' (newRef x hp) ≠ none → G.m (newRef x hp) = none)
    (hK : ∀ G' act' w', Next x fr hp G act w N fr' hp' G' act' w' → K act' w') : wpOp P ops Q i K act w := by
  simp only [chkXO, Bool.and_eq_true, decide_eq_true_eq] at hchk
  obtain ⟨⟨⟨hxd, h1⟩, h2⟩, h3⟩ := hchk
  have hd : ∀ d, x.dst = some d → d < act.tmps.size := by
    intro d hd
    rw [hxd] at hd
    rw [hd] at h1
    have : d < nt := by simpa using h1
    omega
  have hwant : ∀ t b, x.guard = some (t, b) → ∃ j q, o.guard = some (j, b) ∧ ops[j]? = some q ∧ q.dst = some t := by
    intro t b hgd
    rw [hgd] at h3
    cases hog : o.guard with
    | none => rw [hog] at h3; simp at h3
    | some p =>
      obtain ⟨j, c⟩ := p
      rw [hog] at h3
      simp only [Bool.and_eq_true, beq_iff_eq] at h3
      obtain ⟨h4, h5⟩ := h3
      subst h5
      split at h4
      · rename_i q hq
        exact ⟨j, q, rfl, by simpa using hq, by simpa using h4⟩
      · cases h4
  have hy : ∀ t b, x.guard = some (t, b) → ∀ j q, ops[j]? = some q → q.dst = some t → (∀ c, fget fr t = .bool c → yielded ops act.tmps j = some c) ∧ (fget fr t = .tup [] → yielded ops act.tmps j = none) := by
    intro t b hgd j q hj hq
    have hst := (hs t (by simp [XO.nm, hgd])).1
    refine ⟨fun c hc => ?_, fun hc => ?_⟩
    · rw [hc] at hst
      cases hz : act.tmps.getD t undef <;> rw [hz] at hst <;> cases hst
      have : act.tmps[t]? = some (.bool c) := by
        rw [Array.getD_eq_getD_getElem?] at hz
        cases ht : act.tmps[t]? <;> rw [ht] at hz <;> simp at hz
        · cases hz
        · rw [hz]
      simp [yielded, hj, hq, this]
    · rw [hc] at hst
      cases hz : act.tmps.getD t undef <;> rw [hz] at hst <;> (try (cases hst; done))
      simp only [yielded, hj, hq, Option.bind_some]
      cases ht : act.tmps[t]? with
      | none => rfl
      | some u =>
        rw [Array.getD_eq_getD_getElem?, ht] at hz
        simp at hz
        rw [hz]
  unfold wpOp
  rw [hi]
  simp only
  rcases evO_cases he with ⟨hgd, v, fr1, he2, rfl⟩ | ⟨t, b, hgd, hval, rfl, rfl⟩
  · have hw : Region.wanted o (yielded ops act.tmps) = true := by
      rcases hgd with hgd | ⟨t, b, hgd, hval⟩
      · rw [hgd] at h3
        cases hog : o.guard with
        | none => simp [Region.wanted, hog]
        | some p => rw [hog] at h3; simp at h3
      · obtain ⟨j, q, e1, e2, e3⟩ := hwant t b hgd
        simp [Region.wanted, e1, (hy t b hgd j q e2 e3).1 b hval]
    rw [if_pos hw]
    exact .inl (step_op hsup hC hP h2 hxd hd he2 hv hN (fun t ht => hs t (by simp [XO.nm, ht])) hh hg hfresh hK)
  · have hw : Region.wanted o (yielded ops act.tmps) = false := by
      obtain ⟨j, q, e1, e2, e3⟩ := hwant t b hgd
      rcases hval with ⟨c, hc, hne⟩ | hc
      · simp [Region.wanted, e1, (hy t b hgd j q e2 e3).1 c hc, hne]
      · simp [Region.wanted, e1, (hy t b hgd j q e2 e3).2 hc]
    rw [if_neg (by simp [hw])]
    obtain ⟨G', hn⟩ := next_skip hv hs hh hd
    exact hxd ▸ hK _ _ _ hn
end
end Go.Proofs.Ytpfollpbkpgglaa.Sx
