/- SX, part S: what an operation leaves as it was, in the small language. -/
import Derived.Test.YtjbgceogkgpjpaaGreatDoorSxR
import Derived.Orders
import Derived.Control
import Derived.ScopeJumps
import Derived.Calls
import Derived.Lib.Bytealg
import Derived.Lib.LaidTab
import Derived.Lib.ItoaNum
import Derived.Sort.Grow
import Derived.Deep.Draws
import Derived.Lib.AtoiErrMem
import Derived.Below
import Derived.Laws.Externs
import Derived.WalkKit
set_option linter.unusedVariables false
set_option linter.unusedSimpArgs false
namespace Go.Proofs.YtjbgceogkgpjpaaGreatDoor.Sx
open Go
theorem hget_ver : ∀ {hp : Heap} {r : Ref} {b : Blk}, hget hp r = some b → r.lev + 1 = hp.length → r.ver < nv hp r.site
  | [], _, _, h, _ => by cases h
  | l :: t, r, b, h, hl => by
    simp only [List.length_cons, Nat.add_right_cancel_iff] at hl
    simp only [hget, if_pos hl] at h
    simp only [nv, nextVer]
    split at h
    · rename_i v b' hv
      split at h
      · rename_i e; omega
      · cases h
    · cases h
structure EvFacts (x : XO) (fr : List AV) (hp : Heap) (fr' : List AV) (hp' : Heap) : Prop where
  off : ∀ t, t ∉ x.wr → fget fr' t = fget fr t
  len : hp'.length = hp.length
  ver : ∀ s, nv hp s ≤ nv hp' s
  heap : ∀ r blk, ¬ (cls x.op = 3 ∧ footR fr x.op r) → hget hp' r = some blk → hget hp r = some blk ∨ (cls x.op = 2 ∧ r = newRef x hp)
theorem fget_finX {x : XO} {fr : List AV} {v : AV} {t : Nat} (h : x.dst ≠ some t) : fget (finX x fr v) t = fget fr t := by
  simp only [finX]
  split
  · rename_i d hd; rw [fget_fput, if_neg (fun e => h (by rw [hd, e]))]
  · rfl
theorem fget_drop1 {fr : List AV} {y : XArg} {t : Nat} (h : t ∉ ats [y]) : fget (drop1 fr y) t = fget fr t := by
  cases y with
  | cst _ => rfl
  | glob _ => rfl
  | tmp s =>
    have hne : t ≠ s := fun e => h (by simp [ats, e])
    simp only [drop1]
    split <;> first | rw [fget_fput, if_neg hne] | rfl
theorem nv_hput {hp : Heap} {r : Ref} {b b0 : Blk} (h : hget hp r = some b0) (s : Nat) : nv (hput hp r b) s = nv hp s := by
  cases hp with
  | nil => cases h
  | cons l t =>
    simp only [hput]
    split
    · rename_i hl
      simp only [hget, if_pos hl] at h
      simp only [nv, nextVer, lget_lput]
      split at h
      · rename_i v b' hv
        split at h
        · rename_i e
          by_cases hs : s = r.site
          · rw [if_pos hs, hs, hv]
            simp [e]
          · rw [if_neg hs]
        · cases h
      · cases h
    · rfl
theorem sameVers_next : ∀ {l m : Level}, sameVers l m = true → ∀ s, nextVer l s = nextVer m s
  | [], [], _, s => rfl
  | none :: l, none :: m, h, s => by
    cases s with
    | zero => rfl
    | succ s => exact sameVers_next (l := l) (m := m) h s
  | some (v, a) :: l, some (u, b) :: m, h, s => by
    simp only [sameVers, Bool.and_eq_true, beq_iff_eq] at h
    cases s with
    | zero => simp [nextVer, lget, h.1]
    | succ s => exact sameVers_next (l := l) (m := m) h.2 s
  | [], _ :: _, h, _ => by simp [sameVers] at h
  | _ :: _, [], h, _ => by cases ‹Option (Nat × Blk)› <;> simp [sameVers] at h
  | none :: _, some _ :: _, h, _ => by simp [sameVers] at h
  | some _ :: _, none :: _, h, _ => by simp [sameVers] at h
theorem sameTop_facts {hp hp' : Heap} (h : sameTop hp hp' = true) : hp'.length = hp.length ∧ ∀ s, nv hp s ≤ nv hp' s := by
  unfold sameTop at h
  split at h
  · simp only [Bool.and_eq_true, beq_iff_eq] at h
    exact ⟨by simp [h.2], fun s => Nat.le_of_eq (sameVers_next h.1 s)⟩
  · exact ⟨rfl, fun _ => Nat.le_refl _⟩
  · cases h
section
variable {C : CallT} {gl : Nat → List AV} {x : XO} {fr : List AV} {hp : Heap} {v : AV} {fr1 : List AV} {hp1 : Heap}
theorem pure_same {y : XOp} {d : Nat} (hy : pureOp y = true) (he : evOp C gl d y fr hp = some (v, fr1, hp1)) : fr1 = fr ∧ hp1 = hp := by
  cases y <;> (try (cases hy; done)) <;> simp only [evOp] at he
  all_goals (repeat' (first | (cases he; done) | (simp only [Option.some.injEq, Prod.mk.injEq] at he; exact ⟨he.2.1.symm, he.2.2.symm⟩) | split at he))
theorem evOp_facts (hsup : supOp x.op = true) (he : evOp C gl (x.dst.getD 0) x.op fr hp = some (v, fr1, hp1)) :
    EvFacts x fr hp (finX x fr1 v) hp1 ∧ True := by
  have hdst : ∀ t, t ∉ x.wr → x.dst ≠ some t := fun t h e => h (by simp [XO.wr, e])
  have hmv : ∀ t, t ∉ x.wr → t ∉ mvs x.op := fun t h e => h (by simp [XO.wr, e])
  have same : cls x.op ≠ 2 → fr1 = fr ∧ hp1 = hp → EvFacts x fr hp (finX x fr1 v) hp1 ∧ True := by
    rintro h ⟨rfl, rfl⟩
    exact ⟨⟨fun t ht => fget_finX (hdst t ht), rfl, fun _ => Nat.le_refl _, fun r blk _ h => .inl h⟩, trivial⟩
  have new : ∀ b r, mkBlk hp (x.dst.getD 0) b = some (r, hp1) → fr1 = fr → cls x.op = 2 → EvFacts x fr hp (finX x fr1 v) hp1 ∧ True := by
    rintro b r hb rfl h2
    obtain ⟨h3, h4, h5, h6, h7, h8⟩ := mkBlk_facts hb
    refine ⟨⟨fun t ht => fget_finX (hdst t ht), h3, h4, fun q blk _ hq => ?_⟩, trivial⟩
    by_cases hqr : q = r
    · exact .inr ⟨h2, hqr.trans h5⟩
    · exact .inl (h8 q blk hq hqr)
  unfold supOp at hsup
  rw [Bool.or_eq_true] at hsup
  rcases hsup with hsup | hsup
  · exact same (pure_cls hsup).1 (pure_same hsup he)
  · cases hx : x.op <;> rw [hx] at hsup <;> (try (cases hsup; done)) <;> rw [hx] at he <;> simp only [evOp] at he
    case app u z bytes s a =>
      have fin : (fr1 = fr ∨ fr1 = drop1 fr (.tmp s)) → hp1 = hp → EvFacts x fr hp (finX x fr1 v) hp1 ∧ True := by
        rintro h rfl
        refine ⟨⟨fun t ht => ?_, rfl, fun _ => Nat.le_refl _, fun r blk _ h => .inl h⟩, trivial⟩
        rw [fget_finX (hdst t ht)]
        rcases h with rfl | rfl
        · rfl
        · rw [fget_drop1]
          have := hmv t ht
          rw [hx] at this
          simpa [mvs, ats] using this
      split at he
      · split at he
        · split at he
          · simp only [Option.some.injEq, Prod.mk.injEq] at he
            exact fin (.inr he.2.1.symm) he.2.2.symm
          · split at he <;> (try (cases he; done))
            simp only [Option.some.injEq, Prod.mk.injEq] at he
            exact fin (.inr he.2.1.symm) he.2.2.symm
          · cases he
        · split at he
          · split at he
            · split at he
              · simp only [Option.some.injEq, Prod.mk.injEq] at he
                exact fin (.inl he.2.1.symm) he.2.2.symm
              · cases he
            · split at he
              · simp only [Option.some.injEq, Prod.mk.injEq] at he
                exact fin (.inr he.2.1.symm) he.2.2.symm
              · cases he
            · cases he
          · cases he
      · cases he
    case appstr u s a =>
      have fin : (fr1 = fr ∨ fr1 = drop1 fr (.tmp s)) → hp1 = hp → EvFacts x fr hp (finX x fr1 v) hp1 ∧ True := by
        rintro h rfl
        refine ⟨⟨fun t ht => ?_, rfl, fun _ => Nat.le_refl _, fun r blk _ h => .inl h⟩, trivial⟩
        rw [fget_finX (hdst t ht)]
        rcases h with rfl | rfl
        · rfl
        · rw [fget_drop1]
          have := hmv t ht
          rw [hx] at this
          simpa [mvs, ats] using this
      split at he
      · split at he
        · split at he
          · simp only [Option.some.injEq, Prod.mk.injEq] at he
            exact fin (.inr he.2.1.symm) he.2.2.symm
          · split at he <;> (try (cases he; done))
            simp only [Option.some.injEq, Prod.mk.injEq] at he
            exact fin (.inr he.2.1.symm) he.2.2.symm
          · cases he
        · split at he
          · split at he
            · simp only [Option.some.injEq, Prod.mk.injEq] at he
              exact fin (.inl he.2.1.symm) he.2.2.symm
            · cases he
          · split at he
            · simp only [Option.some.injEq, Prod.mk.injEq] at he
              exact fin (.inr he.2.1.symm) he.2.2.symm
            · cases he
          · cases he
      · cases he
    case strb a =>
      split at he
      · split at he
        · simp only [Option.some.injEq, Prod.mk.injEq] at he
          obtain ⟨rfl, rfl, rfl⟩ := he
          exact ⟨⟨fun t ht => fget_finX (hdst t ht), rfl, fun _ => Nat.le_refl _, fun r blk _ h => .inl h⟩, trivial⟩
        · cases he
      · cases he
    case lown a =>
      split at he
      · rename_i r off ha
        split at he
        · rename_i cs hcs
          have hg : hget hp r = some (.cells cs) := by
            unfold cellsAt at hcs
            split at hcs
            · rename_i vs' hb; injection hcs with hcs; subst hcs; exact hb
            · cases hcs
          split at he
          · simp only [Option.some.injEq, Prod.mk.injEq] at he
            obtain ⟨rfl, rfl, rfl⟩ := he
            refine ⟨⟨fun t ht => fget_finX (hdst t ht), hput_length _ _ _, fun s => by rw [nv_hput hg]; exact Nat.le_refl _, fun q blk hq h => ?_⟩, trivial⟩
            rw [hget_hput hg] at h
            split at h
            · rename_i e
              refine absurd ⟨by rw [hx]; rfl, ?_⟩ hq
              rw [hx, e]
              simp [footR, ha, ptrOf]
            · exact .inl h
          · simp only [Option.some.injEq, Prod.mk.injEq] at he
            exact same (by rw [hx]; simp [cls]) ⟨he.2.1.symm, he.2.2.symm⟩
          · cases he
        · cases he
      · cases he
    case calld g as =>
      split at he
      · split at he
        · split at he
          · rename_i hst
            simp only [Option.some.injEq, Prod.mk.injEq] at he
            obtain ⟨rfl, rfl, rfl⟩ := he
            obtain ⟨h3, h4⟩ := sameTop_facts hst
            exact ⟨⟨fun t ht => fget_finX (hdst t ht), h3, h4, fun q blk hq _ => absurd ⟨by rw [hx]; rfl, by rw [hx]; simp [footR, cls]⟩ hq⟩, trivial⟩
          · cases he
        · cases he
      · cases he
    case callw f as =>
      split at he
      · split at he
        · rename_i hst
          simp only [Option.some.injEq, Prod.mk.injEq] at he
          obtain ⟨rfl, rfl, rfl⟩ := he
          obtain ⟨h3, h4⟩ := sameTop_facts hst
          exact ⟨⟨fun t ht => fget_finX (hdst t ht), h3, h4, fun q blk hq _ => absurd ⟨by rw [hx]; rfl, by rw [hx]; simp [footR, cls]⟩ hq⟩, trivial⟩
        · cases he
      · cases he
    case nexts a =>
      split at he
      · rename_i r ha
        split at he
        · rename_i ss pos hg
          split at he
          · simp only [Option.some.injEq, Prod.mk.injEq] at he
            obtain ⟨rfl, rfl, rfl⟩ := he
            refine ⟨⟨fun t ht => fget_finX (hdst t ht), hput_length _ _ _, fun s => by rw [nv_hput hg]; exact Nat.le_refl _, fun q blk hq h => ?_⟩, trivial⟩
            rw [hget_hput hg] at h
            split at h
            · rename_i e
              refine absurd ⟨by rw [hx]; rfl, ?_⟩ hq
              rw [hx, e]
              simp [footR, ha, ptrOf]
            · exact .inl h
          · simp only [Option.some.injEq, Prod.mk.injEq] at he
            exact same (by rw [hx]; simp [cls]) ⟨he.2.1.symm, he.2.2.symm⟩
        · cases he
      · cases he
    case rngs a =>
      split at he
      · split at he
        · rename_i r hp' hb
          simp only [Option.some.injEq, Prod.mk.injEq] at he
          obtain ⟨rfl, rfl, rfl⟩ := he
          exact new _ r hb rfl (by rw [hx]; rfl)
        · cases he
      · cases he
    case bslice z zs ps =>
      refine same (by rw [hx]; simp [cls]) ?_
      split at he
      · split at he
        · simp only [Option.some.injEq, Prod.mk.injEq] at he
          exact ⟨he.2.1.symm, he.2.2.symm⟩
        · cases he
      · cases he
    case own s =>
      simp only [Option.some.injEq, Prod.mk.injEq] at he
      obtain ⟨rfl, rfl, rfl⟩ := he
      refine ⟨⟨fun t ht => ?_, rfl, fun _ => Nat.le_refl _, fun r blk _ h => .inl h⟩, trivial⟩
      rw [fget_finX (hdst t ht), fget_drop1]
      have := hmv t ht
      rw [hx] at this
      simpa [mvs, ats] using this
    case allocb t e =>
      split at he
      · rename_i r hp' hb
        simp only [Option.some.injEq, Prod.mk.injEq] at he
        obtain ⟨rfl, rfl, rfl⟩ := he
        exact new _ r hb rfl (by rw [hx]; rfl)
      · cases he
    case alloc zs =>
      split at he
      · rename_i r hp' hb
        simp only [Option.some.injEq, Prod.mk.injEq] at he
        obtain ⟨rfl, rfl, rfl⟩ := he
        exact new _ r hb rfl (by rw [hx]; rfl)
      · cases he
    case box a n =>
      split at he
      · split at he
        · rename_i r hp' hb
          simp only [Option.some.injEq, Prod.mk.injEq] at he
          obtain ⟨rfl, rfl, rfl⟩ := he
          exact new _ r hb rfl (by rw [hx]; rfl)
        · cases he
      · cases he
    case store a y n =>
      split at he
      · split at he
        · rename_i hp' hst
          simp only [Option.some.injEq, Prod.mk.injEq] at he
          obtain ⟨rfl, rfl, rfl⟩ := he
          unfold stAt at hst
          split at hst
          · rename_i r off hae
            split at hst
            · rename_i cs hcs
              split at hst
              · injection hst with hst
                subst hst
                have hg : hget hp r = some (.cells cs) := by
                  unfold cellsAt at hcs
                  split at hcs
                  · rename_i vs' hb; injection hcs with hcs; subst hcs; exact hb
                  · cases hcs
                refine ⟨⟨fun t ht => ?_, hput_length _ _ _, fun s => by rw [nv_hput hg]; exact Nat.le_refl _, fun q blk hq h => ?_⟩, trivial⟩
                · rw [fget_finX (hdst t ht), fget_drop1]
                  have := hmv t ht
                  rw [hx] at this
                  simpa [mvs] using this
                · rw [hget_hput hg] at h
                  split at h
                  · rename_i e
                    refine absurd ⟨by rw [hx]; rfl, ?_⟩ hq
                    rw [hx, e]
                    simp [footR, hae, ptrOf]
                  · exact .inl h
              · cases hst
            · cases hst
          · cases hst
        · cases he
      · cases he
    case callq f as =>
      refine same (by rw [hx]; simp [cls]) ?_
      split at he
      · split at he
        · simp only [Option.some.injEq, Prod.mk.injEq] at he
          exact ⟨he.2.1.symm, he.2.2.symm⟩
        · cases he
      · cases he
    case prim id f as =>
      refine same (by rw [hx]; simp [cls]) ?_
      split at he
      · simp only [Option.some.injEq, Prod.mk.injEq] at he
        exact ⟨he.2.1.symm, he.2.2.symm⟩
      · cases he
theorem evO_cases {fr' : List AV} {hp' : Heap} (h : evO C gl x fr hp = some (fr', hp')) :
    ((x.guard = none ∨ ∃ t b, x.guard = some (t, b) ∧ fget fr t = .bool b) ∧ ∃ v fr1, evOp C gl (x.dst.getD 0) x.op fr hp = some (v, fr1, hp') ∧ fr' = finX x fr1 v) ∨
    (∃ t b, x.guard = some (t, b) ∧ ((∃ c, fget fr t = .bool c ∧ c ≠ b) ∨ fget fr t = .tup []) ∧ fr' = finX x fr (.tup []) ∧ hp' = hp) := by
  have go : (match evOp C gl (x.dst.getD 0) x.op fr hp with
      | some (v, fr', hp') => some ((match x.dst with | some d => fput fr' d v | none => fr'), hp')
      | none => none) = some (fr', hp') → ∃ v fr1, evOp C gl (x.dst.getD 0) x.op fr hp = some (v, fr1, hp') ∧ fr' = finX x fr1 v := by
    intro h
    split at h
    · rename_i v fr1 hp1 he
      simp only [Option.some.injEq, Prod.mk.injEq] at h
      obtain ⟨h1, h2⟩ := h
      subst h2
      exact ⟨v, fr1, he, h1.symm⟩
    · cases h
  simp only [evO] at h
  split at h
  · rename_i hg
    exact .inl ⟨.inl hg, go h⟩
  · rename_i t b hg
    split at h
    · rename_i c hc
      split at h
      · rename_i hcb
        subst hcb
        exact .inl ⟨.inr ⟨t, c, hg, hc⟩, go h⟩
      · rename_i hcb
        simp only [Option.some.injEq, Prod.mk.injEq] at h
        exact .inr ⟨t, b, hg, .inl ⟨c, hc, hcb⟩, h.1.symm, h.2.symm⟩
    · rename_i hc
      simp only [Option.some.injEq, Prod.mk.injEq] at h
      exact .inr ⟨t, b, hg, .inr hc, h.1.symm, h.2.symm⟩
    · cases h
theorem evO_facts {fr' : List AV} {hp' : Heap} (hsup : supOp x.op = true) (h : evO C gl x fr hp = some (fr', hp')) : EvFacts x fr hp fr' hp' := by
  rcases evO_cases h with ⟨_, v, fr1, he, rfl⟩ | ⟨t, b, _, _, rfl, rfl⟩
  · exact (evOp_facts hsup he).1
  · exact ⟨fun t ht => fget_finX (fun e => ht (by simp [XO.wr, e])), rfl, fun _ => Nat.le_refl _, fun r blk _ h => .inl h⟩
end
section
variable {P : Program} {G : Gh} {w : World} {N : Nat} {x : XO} {fr : List AV} {hp : Heap} {act : Act} {o : Oper} {K : Act → World → Prop} {Q : Exit → Act → World → Prop}
  {C : CallT} {gl : Nat → List AV} {prims : List (Nat × Nat)} {ops : Array Oper} {nt i : Nat} {fr' : List AV} {hp' : Heap}
theorem step_xo (hi : ops[i]? = some o) (hsup : supOp x.op = true) (hC : CallOk P gl C) (hP : PrimOk P gl prims) (hchk : chkXO P prims nt ops.toList x o = true) (hnt : nt ≤ act.tmps.size)
    (he : evO C gl x fr hp = some (fr', hp')) (hv : Valid G w N) (hN : hp.length = N) (hs : ∀ t ∈ x.nm, RelS G w fr act t)
    (hh : ∀ r, footR fr x.op r → ∀ b base blk, G.m r = some (b, base) → hget hp r = some blk → RelBlk G w r b base blk) (hg : GlOk G w gl)
    (hfresh : cls x.op = 2 → hp ≠ [] → hget hp' (newRef x hp) ≠ none → G.m (newRef x hp) = none)
    (hK : ∀ G' act' w', Next x fr hp G act w N fr' hp' G' act' w' → K act' w') : wpOp P ops Q i K act w := by
  simp only [chkXO, Bool.and_eq_true, decide_eq_true_eq] at hchk
  obtain ⟨⟨⟨hxd, h1⟩, h2⟩, h3⟩ := hchk
  have hd : ∀ d, x.dst = some d → d < act.tmps.size := by
    intro d hd
    rw [hxd] at hd
    rw [hd] at h1
    have : d < nt := by simpa using h1
    omega
  have hwant : ∀ t b, x.guard = some (t, b) → ∃ j q, o.guard = some (j, b) ∧ ops[j]? = some q ∧ q.dst = some t := by
    intro t b hgd
    rw [hgd] at h3
    cases hog : o.guard with
    | none => rw [hog] at h3; simp at h3
    | some p =>
      obtain ⟨j, c⟩ := p
      rw [hog] at h3
      simp only [Bool.and_eq_true, beq_iff_eq] at h3
      obtain ⟨h4, h5⟩ := h3
      subst h5
      split at h4
      · rename_i q hq
        exact ⟨j, q, rfl, by simpa using hq, by simpa using h4⟩
      · cases h4
  have hy : ∀ t b, x.guard = some (t, b) → ∀ j q, ops[j]? = some q → q.dst = some t → (∀ c, fget fr t = .bool c → yielded ops act.tmps j = some c) ∧ (fget fr t = .tup [] → yielded ops act.tmps j = none) := by
    intro t b hgd j q hj hq
    have hst := (hs t (by simp [XO.nm, hgd])).1
    refine ⟨fun c hc => ?_, fun hc => ?_⟩
    · rw [hc] at hst
      cases hz : act.tmps.getD t undef <;> rw [hz] at hst <;> cases hst
      have : act.tmps[t]? = some (.bool c) := by
        rw [Array.getD_eq_getD_getElem?] at hz
        cases ht : act.tmps[t]? <;> rw [ht] at hz <;> simp at hz
        · cases hz
        · rw [hz]
      simp [yielded, hj, hq, this]
    · rw [hc] at hst
      cases hz : act.tmps.getD t undef <;> rw [hz] at hst <;> (try (cases hst; done))
      simp only [yielded, hj, hq, Option.bind_some]
      cases ht : act.tmps[t]? with
      | none => rfl
      | some u =>
        rw [Array.getD_eq_getD_getElem?, ht] at hz
        simp at hz
        rw [hz]
  unfold wpOp
  rw [hi]
  simp only
  rcases evO_cases he with ⟨hgd, v, fr1, he2, rfl⟩ | ⟨t, b, hgd, hval, rfl, rfl⟩
  · have hw : Region.wanted o (yielded ops act.tmps) = true := by
      rcases hgd with hgd | ⟨t, b, hgd, hval⟩
      · rw [hgd] at h3
        cases hog : o.guard with
        | none => simp [Region.wanted, hog]
        | some p => rw [hog] at h3; simp at h3
      · obtain ⟨j, q, e1, e2, e3⟩ := hwant t b hgd
        simp [Region.wanted, e1, (hy t b hgd j q e2 e3).1 b hval]
    rw [if_pos hw]
    exact .inl (step_op hsup hC hP h2 hxd hd he2 hv hN (fun t ht => hs t (by simp [XO.nm, ht])) hh hg hfresh hK)
  · have hw : Region.wanted o (yielded ops act.tmps) = false := by
      obtain ⟨j, q, e1, e2, e3⟩ := hwant t b hgd
      rcases hval with ⟨c, hc, hne⟩ | hc
      · simp [Region.wanted, e1, (hy t b hgd j q e2 e3).1 c hc, hne]
      · simp [Region.wanted, e1, (hy t b hgd j q e2 e3).2 hc]
    rw [if_neg (by simp [hw])]
    obtain ⟨G', hn⟩ := next_skip hv hs hh hd
    exact hxd ▸ hK _ _ _ hn
end
end Go.Proofs.YtjbgceogkgpjpaaGreatDoor.Sx
namespace Go.Proofs.YtjbgceogkgpjpaaGreatDoor.Sx
open Go
def Wr (x : XO) (fr : List AV) (r : Ref) : Prop := cls x.op = 3 ∧ footR fr x.op r
def Conf (S : Nat → List AV × Heap) (i : Nat) (x : XO) (j : Nat) (y : XO) : Prop :=
  (∃ t, t ∈ x.wr ∧ t ∈ y.nm) ∨ (∃ t, t ∈ y.wr ∧ t ∈ x.nm) ∨ (∃ r, Wr x (S i).1 r ∧ footR (S j).1 y.op r) ∨ (∃ r, Wr y (S j).1 r ∧ footR (S i).1 x.op r) ∨
  (cls x.op = 2 ∧ cls y.op = 3) ∨ (cls x.op = 3 ∧ cls y.op = 2)
theorem Conf.symm {S : Nat → List AV × Heap} {i j : Nat} {x y : XO} (h : Conf S i x j y) : Conf S j y i x := by
  rcases h with h | h | h | h | h | h
  · exact .inr (.inl h)
  · exact .inl h
  · exact .inr (.inr (.inr (.inl h)))
  · exact .inr (.inr (.inl h))
  · exact .inr (.inr (.inr (.inr (.inr ⟨h.2, h.1⟩))))
  · exact .inr (.inr (.inr (.inr (.inl ⟨h.2, h.1⟩))))
structure Reg (P : Program) (C : CallT) (gl : Nat → List AV) (prims : List (Nat × Nat)) (nt N : Nat) (xs : List XO) (ops : Array Oper) (S : Nat → List AV × Heap) : Prop where
  len : xs.length = ops.size
  sup : ∀ (i : Nat) (x : XO), xs[i]? = some x → supOp x.op = true
  chk : ∀ (i : Nat) (x : XO) (o : Oper), xs[i]? = some x → ops[i]? = some o → chkXO P prims nt ops.toList x o = true
  ev : ∀ (i : Nat) (x : XO), xs[i]? = some x → evO C gl x (S i).1 (S i).2 = some (S (i + 1))
  hN : (S 0).2.length = N
structure RInv (xs : List XO) (S : Nat → List AV × Heap) (N : Nat) (G0 : Gh) (w0 : World) (sz : Nat) (df : List Deferred) (L : Nat → Prop) (G : Gh) (act : Act) (w : World) : Prop where
  valid : Valid G w N
  size : act.tmps.size = sz
  defers : act.defers = df
  slot : ∀ (t p : Nat), p ≤ xs.length → (∀ (j : Nat) (x : XO), j < p → xs[j]? = some x → t ∈ x.wr → L j) → (∀ (j : Nat) (x : XO), p ≤ j → xs[j]? = some x → t ∈ x.wr → ¬ L j) → RelS G w (S p).1 act t
  heap : ∀ (r : Ref) (p : Nat), p ≤ xs.length → (∀ (j : Nat) (x : XO), j < p → xs[j]? = some x → Wr x (S j).1 r → L j) → (∀ (j : Nat) (x : XO), p ≤ j → xs[j]? = some x → Wr x (S j).1 r → ¬ L j) →
    ∀ b base blk, G.m r = some (b, base) → hget (S p).2 r = some blk → RelBlk G w r b base blk
  names : ∀ r, G.m r ≠ none → G0.m r ≠ none ∨ ∃ (j : Nat) (x : XO), L j ∧ xs[j]? = some x ∧ cls x.op = 2 ∧ r = newRef x (S j).2 ∧ hget (S (j + 1)).2 r ≠ none
  ext : Ext (fun b => ∃ l, G0.o l = some b) G0 w0 G w
  own : ∀ l b, G.o l = some b → (∃ l', G0.o l' = some b) ∨ w0.heap.size ≤ b
  fresh : ∀ r b base, G.m r = some (b, base) → G0.m r = some (b, base) ∨ ¬ (b < w0.heap.size ∧ G0.k b = .mb)
section
variable {P : Program} {C : CallT} {gl : Nat → List AV} {prims : List (Nat × Nat)} {nt N : Nat} {xs : List XO} {ops : Array Oper} {S : Nat → List AV × Heap} {G0 : Gh} {w0 : World} {sz : Nat} {df : List Deferred}
theorem Reg.facts (h : Reg P C gl prims nt N xs ops S) {i : Nat} {x : XO} (hx : xs[i]? = some x) : EvFacts x (S i).1 (S i).2 (S (i + 1)).1 (S (i + 1)).2 :=
  evO_facts (h.sup i x hx) (h.ev i x hx)
theorem Reg.getx (h : Reg P C gl prims nt N xs ops S) {i : Nat} (hi : i < xs.length) : ∃ x, xs[i]? = some x := ⟨xs[i], by simp [hi]⟩
theorem Reg.lenN (h : Reg P C gl prims nt N xs ops S) : ∀ {p : Nat}, p ≤ xs.length → (S p).2.length = N
  | 0, _ => h.hN
  | p + 1, hp => by
    obtain ⟨x, hx⟩ := h.getx (show p < xs.length from hp)
    rw [(h.facts hx).len]
    exact h.lenN (Nat.le_of_succ_le hp)
theorem Reg.nvle (h : Reg P C gl prims nt N xs ops S) {p : Nat} (s : Nat) : ∀ {q : Nat}, p ≤ q → q ≤ xs.length → nv (S p).2 s ≤ nv (S q).2 s
  | 0, hpq, _ => by rw [Nat.le_zero.1 hpq]; exact Nat.le_refl _
  | q + 1, hpq, hq => by
    rcases Nat.lt_or_ge p (q + 1) with hlt | hge
    · obtain ⟨x, hx⟩ := h.getx (show q < xs.length from hq)
      exact Nat.le_trans (h.nvle s (Nat.le_of_lt_succ hlt) (Nat.le_of_succ_le hq)) ((h.facts hx).ver s)
    · rw [Nat.le_antisymm hpq hge]; exact Nat.le_refl _
theorem idx_lt {i : Nat} {x : XO} (hx : xs[i]? = some x) : i < xs.length := (List.getElem?_eq_some_iff.1 hx).1
theorem Reg.verlt (h : Reg P C gl prims nt N xs ops S) {i : Nat} {x : XO} (hx : xs[i]? = some x) (hn : hget (S (i + 1)).2 (newRef x (S i).2) ≠ none) {q : Nat} (hq : i < q) (hq2 : q ≤ xs.length) :
    (newRef x (S i).2).ver < nv (S q).2 (newRef x (S i).2).site := by
  obtain ⟨b, hb⟩ := Option.ne_none_iff_exists'.1 hn
  have hi := idx_lt hx
  have hpos : 0 < N := by
    have : (S (i + 1)).2 ≠ [] := fun e => by rw [e] at hb; cases hb
    rw [← h.lenN (show i + 1 ≤ xs.length from hi)]
    exact List.length_pos_iff.2 this
  have h1 := hget_ver hb (by
    show (S i).2.length - 1 + 1 = _
    rw [h.lenN (Nat.le_of_lt hi), h.lenN (show i + 1 ≤ xs.length from hi)]
    omega)
  exact Nat.lt_of_lt_of_le h1 (h.nvle _ hq hq2)
theorem Reg.newne (h : Reg P C gl prims nt N xs ops S) {i j : Nat} {x y : XO} (hx : xs[i]? = some x) (hy : xs[j]? = some y) (hn : hget (S (i + 1)).2 (newRef x (S i).2) ≠ none) (hij : i < j) :
    newRef x (S i).2 ≠ newRef y (S j).2 := by
  intro e
  have h1 := h.verlt hx hn hij (Nat.le_of_lt (idx_lt hy))
  have e1 : (newRef x (S i).2).ver = (newRef y (S j).2).ver := by rw [e]
  have e2 : (newRef x (S i).2).site = (newRef y (S j).2).site := by rw [e]
  rw [e1, e2] at h1
  exact absurd h1 (Nat.lt_irrefl _)
theorem Reg.slotStays (h : Reg P C gl prims nt N xs ops S) {t p : Nat} : ∀ {q : Nat}, p ≤ q → q ≤ xs.length → (∀ (j : Nat) (x : XO), p ≤ j → j < q → xs[j]? = some x → t ∉ x.wr) → fget (S q).1 t = fget (S p).1 t
  | 0, hpq, _, _ => by rw [Nat.le_zero.1 hpq]
  | q + 1, hpq, hq, hw => by
    rcases Nat.lt_or_ge p (q + 1) with hlt | hge
    · obtain ⟨x, hx⟩ := h.getx (show q < xs.length from hq)
      rw [(h.facts hx).off t (hw q x (Nat.le_of_lt_succ hlt) (Nat.lt_succ_self q) hx)]
      exact h.slotStays (Nat.le_of_lt_succ hlt) (Nat.le_of_succ_le hq) (fun j x h1 h2 => hw j x h1 (Nat.lt_succ_of_lt h2))
    · rw [Nat.le_antisymm hpq hge]
theorem Reg.blkStays (h : Reg P C gl prims nt N xs ops S) {r : Ref} {p : Nat} {blk : Blk} : ∀ {q : Nat}, p ≤ q → q ≤ xs.length → (∀ (j : Nat) (x : XO), p ≤ j → j < q → xs[j]? = some x → ¬ Wr x (S j).1 r) →
    (∀ (j : Nat) (x : XO), p ≤ j → j < q → xs[j]? = some x → cls x.op = 2 → hget (S (j + 1)).2 r ≠ none → r ≠ newRef x (S j).2) → hget (S q).2 r = some blk → hget (S p).2 r = some blk
  | 0, hpq, _, _, _, hg => by rw [Nat.le_zero.1 hpq]; exact hg
  | q + 1, hpq, hq, hw, hn, hg => by
    rcases Nat.lt_or_ge p (q + 1) with hlt | hge
    · obtain ⟨x, hx⟩ := h.getx (show q < xs.length from hq)
      have hp := Nat.le_of_lt_succ hlt
      rcases (h.facts hx).heap r blk (hw q x hp (Nat.lt_succ_self q) hx) hg with h1 | ⟨h1, h2⟩
      · exact h.blkStays hp (Nat.le_of_succ_le hq) (fun j x h1 h2 => hw j x h1 (Nat.lt_succ_of_lt h2)) (fun j x h1 h2 => hn j x h1 (Nat.lt_succ_of_lt h2)) h1
      · exact absurd h2 (hn q x hp (Nat.lt_succ_self q) hx h1 (by rw [hg]; simp))
    · rw [Nat.le_antisymm hpq hge]; exact hg
theorem wr_nm {x : XO} {t : Nat} (h : t ∈ x.wr) : t ∈ x.nm := by simp [XO.nm, h]
theorem inv_step (h : Reg P C gl prims nt N xs ops S) (hC : CallOk P gl C) (hP : PrimOk P gl prims) (hg : GlOk G0 w0 gl) (hv0 : Valid G0 w0 N) (hnt : nt ≤ sz) (hf0 : ∀ r, G0.m r ≠ none → r.lev + 1 = N → r.ver < nv (S 0).2 r.site)
    {L : Nat → Prop} {G : Gh} {act : Act} {w : World} (hI : RInv xs S N G0 w0 sz df L G act w) {i : Nat} {x : XO} (hx : xs[i]? = some x) (hiL : ¬ L i)
    (hord : ∀ (j : Nat) (y : XO), xs[j]? = some y → Conf S i x j y → (j < i → L j) ∧ (i < j → ¬ L j)) {K : Act → World → Prop} {Q : Exit → Act → World → Prop}
    (hK : ∀ G' act' w', RInv xs S N G0 w0 sz df (fun j => L j ∨ j = i) G' act' w' → K act' w') : wpOp P ops Q i K act w := by
  have hi := idx_lt hx
  obtain ⟨o, ho⟩ : ∃ o, ops[i]? = some o := ⟨ops[i]'(by rw [← h.len]; exact hi), by simp⟩
  have hNpos : ∀ r, G0.m r ≠ none → r.lev + 1 = N → ∀ q, q ≤ xs.length → r.ver < nv (S q).2 r.site := fun r h1 h2 q hq => Nat.lt_of_lt_of_le (hf0 r h1 h2) (h.nvle _ (Nat.zero_le q) hq)
  have hlevnew : ∀ (j : Nat) (y : XO), xs[j]? = some y → 0 < N → (newRef y (S j).2).lev + 1 = N := by
    intro j y hy hpos
    show (S j).2.length - 1 + 1 = N
    rw [h.lenN (Nat.le_of_lt (idx_lt hy))]
    omega
  have hNp : ∀ {q : Nat} {r : Ref}, q ≤ xs.length → hget (S q).2 r ≠ none → 0 < N := by
    intro q r hq hr
    rw [← h.lenN hq]
    refine List.length_pos_iff.2 fun e => hr ?_
    rw [e]; rfl
  -- no name of before, and no name of an operation that has run, is the name that one that has not run will give
  have hnotnew : ∀ (j : Nat) (y : XO), xs[j]? = some y → ¬ L j → hget (S (j + 1)).2 (newRef y (S j).2) ≠ none → G.m (newRef y (S j).2) = none := by
    intro j y hy hj hne
    cases hgm : G.m (newRef y (S j).2) with
    | none => rfl
    | some a =>
      exfalso
      rcases hI.names (newRef y (S j).2) (by rw [hgm]; simp) with h1 | ⟨k, z, h1, h2, h3, h4, h5⟩
      · exact absurd (hNpos _ h1 (hlevnew j y hy (hNp (show j + 1 ≤ xs.length from idx_lt hy) hne)) j (Nat.le_of_lt (idx_lt hy))) (Nat.lt_irrefl _)
      · rcases Nat.lt_trichotomy j k with hlt | heq | hgt
        · exact h.newne hy h2 hne hlt h4
        · rw [heq] at hj; exact hj h1
        · exact h.newne h2 hy (by rw [← h4]; exact h5) hgt h4.symm
  refine step_xo ho (h.sup i x hx) hC hP (h.chk i x o hx ho) (by rw [hI.size]; exact hnt) (h.ev i x hx) hI.valid (h.lenN (Nat.le_of_lt hi)) ?_ ?_ (hg.ext hv0 hI.ext) (fun _ _ hne => hnotnew i x hx hiL hne) ?_
  · intro t ht
    refine hI.slot t i (Nat.le_of_lt hi) (fun j y hj hy hw => (hord j y hy (.inr (.inl ⟨t, hw, ht⟩))).1 hj) (fun j y hj hy hw => ?_)
    rcases Nat.lt_or_eq_of_le hj with hlt | heq
    · exact (hord j y hy (.inr (.inl ⟨t, hw, ht⟩))).2 hlt
    · exact heq ▸ hiL
  · intro r hr b base blk hm hb
    refine hI.heap r i (Nat.le_of_lt hi) (fun j y hj hy hw => (hord j y hy (.inr (.inr (.inr (.inl ⟨r, hw, hr⟩))))).1 hj) (fun j y hj hy hw => ?_) b base blk hm hb
    rcases Nat.lt_or_eq_of_le hj with hlt | heq
    · exact (hord j y hy (.inr (.inr (.inr (.inl ⟨r, hw, hr⟩))))).2 hlt
    · exact heq ▸ hiL
  · intro G' act' w' hn
    refine hK G' act' w' ⟨hn.valid, hn.size.trans hI.size, hn.defers.trans hI.defers, ?_, ?_, ?_, ?_, ?_, ?_⟩
    · intro t p hp h1 h2
      by_cases ht : t ∈ x.wr
      · have hip : i < p := Nat.lt_of_not_le fun hle => h2 i x hle hx ht (.inr rfl)
        have hst := hn.slots t ht
        have e : fget (S p).1 t = fget (S (i + 1)).1 t := h.slotStays hip hp fun j y hj hjp hy hw => by
          have hc : Conf S i x j y := .inl ⟨t, ht, wr_nm hw⟩
          rcases h1 j y hjp hy hw with h3 | h3
          · exact (hord j y hy hc).2 hj h3
          · omega
        unfold RelS at hst ⊢
        rw [e]
        exact hst
      · have hd : x.dst ≠ some t := fun e => ht (by simp [XO.wr, e])
        have hst : RelS G w (S p).1 act t := by
          refine hI.slot t p hp (fun j y hj hy hw => ?_) (fun j y hj hy hw hL => h2 j y hj hy hw (.inl hL))
          rcases h1 j y hj hy hw with h3 | h3
          · exact h3
          · subst h3
            rw [hx] at hy
            injection hy with hy
            subst hy
            exact absurd hw ht
        have hnt' : ¬ Touch x (S i).1 (.slot t) := by
          rintro (⟨u, hu, e⟩ | ⟨_, r, k, _, e⟩)
          · injection e with e; subst e; exact ht hu
          · cases e
        have := hst.ext hI.valid hn.ext (hn.oo _ hnt') (fun c hc ⟨l, hl, hl2⟩ => hnt' (by rw [hI.valid.oinj _ _ c hc hl2]; exact hl))
        unfold RelS at this ⊢
        rw [hn.tmps t hd]
        exact this
    · intro r p hp h1 h2 b base blk hm hb
      by_cases hw : Wr x (S i).1 r
      · have hip : i < p := Nat.lt_of_not_le fun hle => h2 i x hle hx hw (.inr rfl)
        have hmm : G'.m = G.m := hn.mm (by rw [hw.1]; decide)
        have hgm : G.m r ≠ none := by rw [← hmm, hm]; simp
        have e : hget (S (i + 1)).2 r = some blk := h.blkStays hip hp (fun j y hj hjp hy hwy => by
            have hc : Conf S i x j y := .inr (.inr (.inl ⟨r, hw, hwy.2⟩))
            rcases h1 j y hjp hy hwy with h3 | h3
            · exact (hord j y hy hc).2 hj h3
            · omega) (fun j y hj hjp hy hc2 hne e => by
            have hc : Conf S i x j y := .inr (.inr (.inr (.inr (.inr ⟨hw.1, hc2⟩))))
            have hjL := (hord j y hy hc).2 hj
            exact hgm (e ▸ hnotnew j y hy hjL (e ▸ hne))) hb
        exact hn.blk hw.1 r b base blk hw.2 hm e
      · by_cases hgm : G.m r = none
        · obtain ⟨hc2, hr, hne, hrel⟩ := hn.mnew r hgm (by rw [hm]; simp)
          have hpos := hNp (show i + 1 ≤ xs.length from hi) hne
          have hip : i < p := Nat.lt_of_not_le fun hle => by
            have h3 := hget_ver hb (by rw [h.lenN hp, hr]; exact hlevnew i x hx hpos)
            have h4 := h.nvle r.site hle (Nat.le_of_lt hi)
            rw [hr] at h3 h4
            exact absurd (Nat.lt_of_lt_of_le h3 h4) (Nat.lt_irrefl _)
          refine hrel b base blk hm (h.blkStays hip hp (fun j y hj hjp hy hwy => ?_) (fun j y hj hjp hy hc hne' e => h.newne hx hy (hr ▸ hne) hj (hr ▸ e)) hb)
          have hc : Conf S i x j y := .inr (.inr (.inr (.inr (.inl ⟨hc2, hwy.1⟩))))
          rcases h1 j y hjp hy hwy with h3 | h3
          · exact (hord j y hy hc).2 hj h3
          · omega
        · obtain ⟨a, ha⟩ := Option.ne_none_iff_exists'.1 hgm
          have : a = (b, base) := Option.some.inj ((hn.ext.mm r a ha).symm.trans hm)
          subst this
          have hrel : RelBlk G w r b base blk := by
            refine hI.heap r p hp (fun j y hj hy hwy => ?_) (fun j y hj hy hwy hL => h2 j y hj hy hwy (.inl hL)) b base blk ha hb
            rcases h1 j y hj hy hwy with h3 | h3
            · exact h3
            · subst h3
              rw [hx] at hy
              injection hy with hy
              subst hy
              exact absurd hwy hw
          have hnt' : ∀ k, ¬ Touch x (S i).1 (.cell r k) := by
            rintro k (⟨u, hu, e⟩ | ⟨h3, q, k', h4, e⟩)
            · cases e
            · injection e with e1 e2; subst e1; exact hw ⟨h3, h4⟩
          exact hrel.ext hI.valid hn.ext (hn.mbk r b base ha hw) (fun k => hn.oo _ (hnt' k)) (fun k c hc ⟨l, hl, hl2⟩ => hnt' k (by rw [hI.valid.oinj _ _ c hc hl2]; exact hl))
    · intro r hr
      by_cases hgm : G.m r = none
      · obtain ⟨hc2, hrr, hne, _⟩ := hn.mnew r hgm hr
        exact .inr ⟨i, x, .inr rfl, hx, hc2, hrr, hne⟩
      · rcases hI.names r hgm with h1 | ⟨k, z, h1, h2⟩
        · exact .inl h1
        · exact .inr ⟨k, z, .inl h1, h2⟩
    · exact hI.ext.trans hn.ext fun b hb ⟨l, _, hl⟩ => (hI.own l b hl).resolve_right (by omega)
    · intro l b hl
      by_cases ht : Touch x (S i).1 l
      · rcases hn.on l b ht hl with ⟨l', _, h1⟩ | h1
        · exact hI.own l' b h1
        · exact .inr (Nat.le_trans hI.ext.size h1)
      · rw [hn.oo l ht] at hl
        exact hI.own l b hl
    · intro r b base hr
      cases hgm : G.m r with
      | none => exact .inr fun ⟨e1, e2⟩ => hn.mfr r b base hgm hr ⟨Nat.lt_of_lt_of_le e1 hI.ext.size, (hI.ext.mb b e1 e2).1⟩
      | some a =>
        have : a = (b, base) := Option.some.inj ((hn.ext.mm r a hgm).symm.trans hr)
        subst this
        exact hI.fresh r b base hgm
end
end Go.Proofs.YtjbgceogkgpjpaaGreatDoor.Sx
namespace Go.Proofs.YtjbgceogkgpjpaaGreatDoor.Sx
open Go
structure FInv (N : Nat) (G0 : Gh) (w0 : World) (sz : Nat) (df : List Deferred) (fr : List AV) (hp : Heap) (G : Gh) (act : Act) (w : World) : Prop where
  valid : Valid G w N
  size : act.tmps.size = sz
  defers : act.defers = df
  slot : ∀ t, RelS G w fr act t
  heap : RelHeap G w hp
  names : ∀ r, G.m r ≠ none → r.lev + 1 = N → r.ver < nv hp r.site
  ext : Ext (fun b => ∃ l, G0.o l = some b) G0 w0 G w
  own : ∀ l b, G.o l = some b → (∃ l', G0.o l' = some b) ∨ w0.heap.size ≤ b
  fresh : ∀ r b base, G.m r = some (b, base) → G0.m r = some (b, base) ∨ ¬ (b < w0.heap.size ∧ G0.k b = .mb)
  low : ∀ r, G.m r ≠ none → G0.m r ≠ none ∨ r.lev + 1 = N
  hN : hp.length = N
theorem trace {C : CallT} {gl : Nat → List AV} : ∀ {xs : List XO} {fr fr' : List AV} {hp hp' : Heap}, evOps C gl xs fr hp = some (fr', hp') →
    ∃ S : Nat → List AV × Heap, S 0 = (fr, hp) ∧ S xs.length = (fr', hp') ∧ ∀ (i : Nat) (x : XO), xs[i]? = some x → evO C gl x (S i).1 (S i).2 = some (S (i + 1))
  | [], fr, fr', hp, hp', h => by
    simp only [evOps, Option.some.injEq, Prod.mk.injEq] at h
    exact ⟨fun _ => (fr, hp), rfl, by rw [h.1, h.2], fun i x hx => by simp at hx⟩
  | x :: xs, fr, fr', hp, hp', h => by
    simp only [evOps] at h
    split at h
    · rename_i fr1 hp1 he
      obtain ⟨S, h1, h2, h3⟩ := trace h
      refine ⟨fun i => match i with | 0 => (fr, hp) | i + 1 => S i, rfl, h2, fun i y hy => ?_⟩
      cases i with
      | zero =>
        simp only [List.getElem?_cons_zero, Option.some.injEq] at hy
        subst hy
        show evO C gl x fr hp = some (S 0)
        rw [h1]; exact he
      | succ i => exact h3 i y (by simpa using hy)
    · cases h
theorem chkOps_spec {P : Program} {prims : List (Nat × Nat)} {nt : Nat} {all : List Oper} : ∀ {xs : List XO} {os : List Oper}, chkOps P prims nt all xs os = true →
    xs.length = os.length ∧ ∀ (i : Nat) (x : XO) (o : Oper), xs[i]? = some x → os[i]? = some o → chkXO P prims nt all x o = true
  | [], [], _ => ⟨rfl, fun i x o h => by simp at h⟩
  | [], _ :: _, h => by simp [chkOps] at h
  | _ :: _, [], h => by simp [chkOps] at h
  | x :: xs, o :: os, h => by
    simp only [chkOps, Bool.and_eq_true] at h
    obtain ⟨h1, h2⟩ := chkOps_spec h.2
    refine ⟨by simp [h1], fun i y q hy hq => ?_⟩
    cases i with
    | zero => simp at hy hq; subst hy hq; exact h.1
    | succ i => exact h2 i y q (by simpa using hy) (by simpa using hq)
theorem countP_lt {p q : Nat → Bool} : ∀ {l : List Nat}, (∀ j ∈ l, q j = true → p j = true) → ∀ {a : Nat}, a ∈ l → p a = true → q a = false → l.countP q < l.countP p
  | [], _, _, ha, _, _ => by cases ha
  | b :: l, h, a, ha, hp, hq => by
    have hle : l.countP q ≤ l.countP p := List.countP_mono_left (fun j hj hj2 => h j (by simp [hj]) hj2)
    rw [List.countP_cons, List.countP_cons]
    rcases List.mem_cons.1 ha with rfl | ha
    · simp only [hp, hq, if_true, Bool.false_eq_true, if_false]; omega
    · have ih := countP_lt (fun j hj hj2 => h j (by simp [hj]) hj2) ha hp hq
      have hb : q b = true → p b = true := h b (by simp)
      cases hqb : q b with
      | false => simp only [Bool.false_eq_true, if_false]; split <;> omega
      | true => simp only [hb hqb, if_true]; omega
theorem testBit_pow_eq {e i : Nat} (h : (2 ^ e).testBit i = true) : i = e := by
  rw [Nat.testBit_two_pow] at h
  have h' : e = i := by simpa using h
  exact h'.symm
theorem masks_spec : ∀ (l : List Oper) (acc : List Nat), ∃ ext, masks l acc = acc ++ ext ∧ ext.length = l.length ∧ ∀ (k : Nat) (o : Oper), l[k]? = some o → ∀ i, (ext.getD k 0).testBit i = true →
    ∃ e ∈ edges o, i = e ∨ ((acc ++ ext.take k).getD e 0).testBit i = true
  | [], acc => ⟨[], by simp [masks], rfl, fun k o h => by simp at h⟩
  | o :: l, acc => by
    obtain ⟨ext, h1, h2, h3⟩ := masks_spec l (acc ++ [(edges o).foldl (fun s e => s ||| (2 ^ e ||| acc.getD e 0)) 0])
    refine ⟨(edges o).foldl (fun s e => s ||| (2 ^ e ||| acc.getD e 0)) 0 :: ext, (by simp only [masks]; rw [h1, List.append_assoc]; rfl), by simp [h2], fun k q hk i hi => ?_⟩
    cases k with
    | zero =>
      simp only [List.getElem?_cons_zero, Option.some.injEq] at hk
      subst hk
      have key : ∀ (es : List Nat) (s : Nat), (es.foldl (fun s e => s ||| (2 ^ e ||| acc.getD e 0)) s).testBit i = true → s.testBit i = true ∨ ∃ e ∈ es, i = e ∨ (acc.getD e 0).testBit i = true := by
        intro es
        induction es with
        | nil => intro s h; exact .inl h
        | cons e es ih =>
          intro s h
          rcases ih _ h with h | ⟨e', h4, h5⟩
          · simp only [Nat.testBit_or, Bool.or_eq_true] at h
            rcases h with h | h | h
            · exact .inl h
            · exact .inr ⟨e, by simp, .inl (testBit_pow_eq h)⟩
            · exact .inr ⟨e, by simp, .inr h⟩
          · exact .inr ⟨e', by simp [h4], h5⟩
      rcases key _ _ hi with h | ⟨e, h4, h5⟩
      · simp at h
      · exact ⟨e, h4, h5.imp id (fun h => by simpa using h)⟩
    | succ k =>
      obtain ⟨e, h4, h5⟩ := h3 k q (by simpa using hk) i (by simpa using hi)
      exact ⟨e, h4, h5.imp id (fun h => by simpa [List.append_assoc] using h)⟩
theorem masks_reach {os : List Oper} {L : Nat → Prop} (hcl : ∀ (j : Nat) (o : Oper), os[j]? = some o → L j → ∀ e ∈ edges o, L e) (hlt : ∀ (j : Nat) (o : Oper), os[j]? = some o → ∀ e ∈ edges o, e < j) :
    ∀ (j : Nat) (o : Oper), os[j]? = some o → (∀ e ∈ edges o, L e) → ∀ i, ((masks os []).getD j 0).testBit i = true → L i := by
  obtain ⟨ext, h1, h2, h3⟩ := masks_spec os []
  intro j
  induction j using Nat.strongRecOn with
  | _ j ih =>
    intro o ho he i hi
    rw [h1, List.nil_append] at hi
    obtain ⟨e, h4, h5⟩ := h3 j o ho i hi
    rcases h5 with rfl | h5
    · exact he _ h4
    · have hej := hlt j o ho e h4
      have hjl : j < os.length := (List.getElem?_eq_some_iff.1 ho).1
      have hoe : os[e]? = some (os[e]'(by omega)) := List.getElem?_eq_getElem (by omega)
      refine ih e hej _ hoe (hcl e _ hoe (he e h4)) i ?_
      rw [h1, List.nil_append]
      simpa [List.getD, List.getElem?_take, hej] using h5
theorem foot_cls {fr : List AV} {x : XOp} {r : Ref} (h : footR fr x r) : 1 ≤ cls x := by
  cases x <;> simp [footR, cls] at h ⊢
theorem conf_conflict {S : Nat → List AV × Heap} {i j : Nat} {x y : XO} (h : Conf S i x j y) : conflict x y = true := by
  have hm : ∀ (a b : List Nat) (t : Nat), t ∈ a → t ∈ b → meets a b = true := fun a b t h1 h2 => by
    simp only [meets, List.any_eq_true]
    exact ⟨t, h1, by simpa using h2⟩
  unfold conflict
  rcases h with ⟨t, h1, h2⟩ | ⟨t, h1, h2⟩ | ⟨r, h1, h2⟩ | ⟨r, h1, h2⟩ | ⟨h1, h2⟩ | ⟨h1, h2⟩
  · simp [hm _ _ t h1 h2]
  · simp [hm _ _ t h1 h2]
  · simp [h1.1, foot_cls h2]
  · simp [h1.1, foot_cls h2]
  · simp [h1, h2]
  · simp [h1, h2]
theorem ptrOf_uf (v : AV) : ptrOf (uf v) = ptrOf v := by
  cases v <;> try rfl
  rename_i o z es
  cases o <;> rfl
section
variable {P : Program} {C : CallT} {gl : Nat → List AV} {prims : List (Nat × Nat)} {nt N : Nat} {xs : List XO} {ops : Array Oper} {S : Nat → List AV × Heap} {G0 G : Gh} {w0 w : World} {sz : Nat} {df : List Deferred} {act : Act}
theorem exempt_apart (h : Reg P C gl prims nt N xs ops S) {aps : List (Nat × Nat)} (ha : apsOk (S xs.length).1 aps = true) {i j : Nat} {x y : XO} (hx : xs[i]? = some x) (hy : xs[j]? = some y) (he : exempt xs aps i j x y = true) : ¬ Conf S i x j y := by
  simp only [exempt, Bool.and_eq_true, Bool.not_eq_true'] at he
  obtain ⟨⟨h1, h2⟩, h3⟩ := he
  have hm : ∀ (a b : List Nat) (t : Nat), t ∈ a → t ∈ b → meets a b = true := fun a b t h1 h2 => by
    simp only [meets, List.any_eq_true]
    exact ⟨t, h1, by simpa using h2⟩
  split at h3
  · rename_i a b ea eb
    simp only [Bool.and_eq_true] at h3
    obtain ⟨⟨h4, h5⟩, h6⟩ := h3
    have hstay : ∀ (k a : Nat), standing xs k a = true → k ≤ xs.length → fget (S xs.length).1 a = fget (S k).1 a := by
      intro k a hst hk
      refine h.slotStays hk (Nat.le_refl _) fun q z h7 h8 hz hw => ?_
      have := List.all_eq_true.1 hst z (by
        refine List.mem_of_getElem? (i := q - k) ?_
        rw [List.getElem?_drop, show k + (q - k) = q by omega]
        exact hz)
      simp at this
      exact this hw
    have hfoot : ∀ (fr : List AV) (z : XO) (c : Nat) (r : Ref), ptrSlot z.op = some c → footR fr z.op r → ptrOf (fget fr c) = some r := by
      intro fr z c r hc hf
      cases hz : z.op <;> rw [hz] at hc hf <;> (try (cases hc; done))
      case load a n agg => cases a <;> simp [ptrSlot] at hc; subst hc; simpa [footR, earg, ptrOf_uf] using hf
      case lown a => cases a <;> simp [ptrSlot] at hc; subst hc; simpa [footR, earg, ptrOf_uf] using hf
      case store a y n => cases a <;> simp [ptrSlot] at hc; subst hc; simpa [footR, earg, ptrOf_uf] using hf
    have hap : ∀ (l : List (Nat × Nat)), apsOk (S xs.length).1 l = true → (a, b) ∈ l → apartV (fget (S xs.length).1 a) (fget (S xs.length).1 b) = true := by
      intro l
      induction l with
      | nil => intro _ hm; cases hm
      | cons p l ih =>
        obtain ⟨c, d⟩ := p
        intro hl hm
        simp only [apsOk, Bool.and_eq_true] at hl
        rcases List.mem_cons.1 hm with e | hm
        · injection e with e1 e2; subst e1 e2; exact hl.1
        · exact ih hl.2 hm
    have hne := hap aps ha (by simpa using h4)
    rw [hstay i a h5 (Nat.le_of_lt (idx_lt hx)), hstay j b h6 (Nat.le_of_lt (idx_lt hy))] at hne
    have hnn : ∀ r, ptrOf (fget (S i).1 a) = some r → ptrOf (fget (S j).1 b) = some r → False := by
      intro r h7 h8
      cases hu : fget (S i).1 a <;> rw [hu] at h7 hne <;> simp [ptrOf] at h7
      cases hv : fget (S j).1 b <;> rw [hv] at h8 hne <;> simp [ptrOf] at h8
      simp [apartV] at hne
      exact hne (h7.trans h8.symm)
    have hc2 : ∀ (z : XO) (c : Nat), ptrSlot z.op = some c → cls z.op ≠ 2 := by
      intro z c hc
      cases hz : z.op <;> rw [hz] at hc <;> first | (cases hc; done) | simp [cls]
    rintro (⟨t, h7, h8⟩ | ⟨t, h7, h8⟩ | ⟨r, h7, h8⟩ | ⟨r, h7, h8⟩ | ⟨h7, h8⟩ | ⟨h7, h8⟩)
    · rw [hm _ _ t h7 h8] at h1; cases h1
    · rw [hm _ _ t h7 h8] at h2; cases h2
    · exact hnn r (hfoot _ _ _ r ea h7.2) (hfoot _ _ _ r eb h8)
    · exact hnn r (hfoot _ _ _ r ea h8) (hfoot _ _ _ r eb h7.2)
    · exact hc2 x a ea h7
    · exact hc2 y b eb h8
  · cases h3
theorem rinv_init (h : Reg P C gl prims nt N xs ops S) (hF : FInv N G0 w0 sz df (S 0).1 (S 0).2 G act w) : RInv xs S N G w sz df (fun _ => False) G act w where
  valid := hF.valid
  size := hF.size
  defers := hF.defers
  slot := fun t p hp h1 _ => by
    have := hF.slot t
    unfold RelS at this ⊢
    rw [h.slotStays (Nat.zero_le p) hp (fun j x _ hj hx hw => h1 j x hj hx hw)]
    exact this
  heap := fun r p hp h1 _ b base blk hm hb => by
    refine hF.heap r b base blk hm (h.blkStays (Nat.zero_le p) hp (fun j x _ hj hx hw => h1 j x hj hx hw) (fun j x _ hj hx hc hne e => ?_) hb)
    have hNp : 0 < N := by
      rw [← h.lenN (show j + 1 ≤ xs.length from idx_lt hx)]
      refine List.length_pos_iff.2 fun e => hne ?_
      rw [e]; rfl
    have hl : r.lev + 1 = N := by
      rw [e]
      show (S j).2.length - 1 + 1 = N
      rw [h.lenN (Nat.le_of_lt (idx_lt hx))]
      omega
    have h3 := Nat.lt_of_lt_of_le (hF.names r (by rw [hm]; simp) hl) (h.nvle r.site (Nat.zero_le j) (Nat.le_of_lt (idx_lt hx)))
    rw [e] at h3
    exact Nat.lt_irrefl _ h3
  names := fun r hr => .inl hr
  ext := .refl _ _ _
  own := fun l b h => .inl ⟨l, h⟩
  fresh := fun r b base h => .inl h
theorem rinv_done (h : Reg P C gl prims nt N xs ops S) (hF : FInv N G0 w0 sz df (S 0).1 (S 0).2 G act w) {L : Nat → Prop} (hL : ∀ (j : Nat) (x : XO), xs[j]? = some x → L j) {G' : Gh} {act' : Act} {w' : World}
    (hI : RInv xs S N G w sz df L G' act' w') : FInv N G0 w0 sz df (S xs.length).1 (S xs.length).2 G' act' w' where
  valid := hI.valid
  size := hI.size
  defers := hI.defers
  slot := fun t => hI.slot t xs.length (Nat.le_refl _) (fun j x _ hx _ => hL j x hx) (fun j x hj hx _ => absurd (idx_lt hx) (Nat.not_lt.2 hj))
  heap := fun r b base blk hm hb => hI.heap r xs.length (Nat.le_refl _) (fun j x _ hx _ => hL j x hx) (fun j x hj hx _ => absurd (idx_lt hx) (Nat.not_lt.2 hj)) b base blk hm hb
  names := fun r hr hl => by
    rcases hI.names r hr with h1 | ⟨j, x, _, hx, _, e, hne⟩
    · exact Nat.lt_of_lt_of_le (hF.names r h1 hl) (h.nvle _ (Nat.zero_le _) (Nat.le_refl _))
    · have := h.verlt hx (e ▸ hne) (idx_lt hx) (Nat.le_refl _)
      rw [e]; exact this
  ext := hF.ext.trans hI.ext fun b hb ⟨l, hl⟩ => (hF.own l b hl).resolve_right (by omega)
  own := fun l b hl => by
    rcases hI.own l b hl with ⟨l', h1⟩ | h1
    · exact hF.own l' b h1
    · exact .inr (Nat.le_trans hF.ext.size h1)
  fresh := fun r b base hr => by
    rcases hI.fresh r b base hr with h1 | h1
    · exact hF.fresh r b base h1
    · exact .inr fun ⟨e1, e2⟩ => h1 ⟨Nat.lt_of_lt_of_le e1 hF.ext.size, (hF.ext.mb b e1 e2).1⟩
  low := fun r hr => by
    rcases hI.names r hr with h1 | ⟨j, x, _, hx, _, e, hne⟩
    · exact hF.low r h1
    · refine .inr ?_
      have hNp : 0 < N := by
        rw [← h.lenN (show j + 1 ≤ xs.length from idx_lt hx)]
        refine List.length_pos_iff.2 fun e => hne ?_
        rw [e]; rfl
      rw [e]
      show (S j).2.length - 1 + 1 = N
      rw [h.lenN (Nat.le_of_lt (idx_lt hx))]
      omega
  hN := h.lenN (Nat.le_refl _)
theorem rinv_text (h : Reg P C gl prims nt N xs ops S) (hC : CallOk P gl C) (hP : PrimOk P gl prims) (hg : GlOk G w gl) (hv : Valid G w N) (hnt : nt ≤ sz) (hf0 : ∀ r, G.m r ≠ none → r.lev + 1 = N → r.ver < nv (S 0).2 r.site)
    {Q : Exit → Act → World → Prop} (hQ : ∀ G' act' w', RInv xs S N G w sz df (fun j => j < xs.length) G' act' w' → Q .normal act' w') :
    ∀ (k i : Nat), i + k = xs.length → ∀ {G' : Gh} {act' : Act} {w' : World}, RInv xs S N G w sz df (fun j => j < i) G' act' w' → wpOps P ops Q (List.range' i k) act' w'
  | 0, i, hk, G', act', w', hI => by
    have e : i = xs.length := by omega
    subst e
    exact hQ _ _ _ hI
  | k + 1, i, hk, G', act', w', hI => by
    rw [List.range'_succ, wpOps_cons]
    obtain ⟨x, hx⟩ := h.getx (show i < xs.length by omega)
    refine inv_step h hC hP hg hv hnt hf0 hI hx (Nat.lt_irrefl _) (fun j y hy _ => ⟨fun h => h, fun h => by omega⟩) fun G2 act2 w2 hI2 => ?_
    refine rinv_text h hC hP hg hv hnt hf0 hQ k (i + 1) (by omega) (G' := G2) ?_
    have e : (fun j => j < i ∨ j = i) = (fun j => j < i + 1) := funext fun j => propext (by omega)
    rw [← e]
    exact hI2
theorem rinv_any (h : Reg P C gl prims nt N xs ops S) (hC : CallOk P gl C) (hP : PrimOk P gl prims) (hg : GlOk G w gl) (hv : Valid G w N) (hnt : nt ≤ sz) (hf0 : ∀ r, G.m r ≠ none → r.lev + 1 = N → r.ver < nv (S 0).2 r.site)
    {aps : List (Nat × Nat)} (hdraw : drawOk xs ops.toList aps = true) (haps : apsOk (S xs.length).1 aps = true)
    {Q : Exit → Act → World → Prop} (hQ : ∀ (L : Nat → Prop) G' act' w', (∀ (j : Nat) (x : XO), xs[j]? = some x → L j) → RInv xs S N G w sz df L G' act' w' → Q .normal act' w') :
    ∀ (k : Nat) (listed : Array Bool), listed.size = ops.size → (List.range ops.size).countP (fun j => !(listed.getD j false)) ≤ k →
      (∀ (j : Nat) (o : Oper), ops[j]? = some o → listed.getD j false = true → ∀ e ∈ edges o, listed.getD e false = true) →
      ∀ {G' : Gh} {act' : Act} {w' : World}, RInv xs S N G w sz df (fun j => listed.getD j false = true) G' act' w' → wpAny P .any ops Q k listed act' w' := by
  have hedge : ∀ (o : Oper) (e : Nat), e ∈ edges o ↔ ∃ d ∈ o.after, Region.binds .any d = true ∧ d.on = e := by
    intro o e
    simp only [edges, List.mem_filterMap]
    constructor
    · rintro ⟨d, h1, h2⟩
      split at h2
      · rename_i hb; injection h2 with h2; exact ⟨d, by simpa using h1, hb, h2⟩
      · cases h2
    · rintro ⟨d, h1, h2, h3⟩
      exact ⟨d, by simpa using h1, by rw [if_pos h2, h3]⟩
  have hd : ∀ j, j < xs.length → (∀ o, ops[j]? = some o → ∀ e ∈ edges o, e < j) ∧ ∀ i x y, i < j → xs[i]? = some x → xs[j]? = some y → conflict x y = true → ((masks ops.toList []).getD j 0).testBit i = true ∨ exempt xs aps i j x y = true := by
    intro j hj
    have := List.all_eq_true.1 hdraw j (by simpa using hj)
    simp only [Bool.and_eq_true] at this
    obtain ⟨h1, h2⟩ := this
    refine ⟨fun o ho e he => ?_, fun i x y hi hx hy hc => ?_⟩
    · have ho' : ops.toList[j]? = some o := by simpa using ho
      rw [ho'] at h1
      simp only [Option.map_some, Option.getD_some] at h1
      exact of_decide_eq_true (List.all_eq_true.1 h1 e he)
    · have := List.all_eq_true.1 h2 i (by simpa using hi)
      rw [hx, hy] at this
      simp only [hc, Bool.not_true, Bool.false_or, Bool.or_eq_true] at this
      exact this
  have hlt : ∀ (j : Nat) (o : Oper), ops.toList[j]? = some o → ∀ e ∈ edges o, e < j := fun j o ho => (hd j (by rw [h.len]; have := (List.getElem?_eq_some_iff.1 ho).1; simpa using this)).1 o (by simpa using ho)
  -- nothing ready: all has run
  have hall : ∀ (listed : Array Bool), listed.size = ops.size → Region.ready .any ops listed = [] → ∀ (j : Nat) (x : XO), xs[j]? = some x → listed.getD j false = true := by
    intro listed hsz hr j
    induction j using Nat.strongRecOn with
    | _ j ih =>
      intro x hx
      have hj := idx_lt hx
      rw [h.len] at hj
      cases hb : listed.getD j false with
      | true => rfl
      | false =>
        exfalso
        have : j ∈ Region.ready .any ops listed := by
          rw [mem_ready]
          refine ⟨?_, ops[j], by simp [hj], fun e he hbind => ?_⟩
          · simp [hsz, hj] at hb ⊢
            exact hb
          · have he' : e.on ∈ edges ops[j] := (hedge _ _).2 ⟨e, he, hbind, rfl⟩
            have hej := hlt j ops[j] (by simp [hj]) e.on he'
            obtain ⟨y, hy⟩ := h.getx (show e.on < xs.length by rw [h.len]; omega)
            exact ih e.on hej y hy
        rw [hr] at this
        cases this
  intro k
  induction k with
  | zero =>
    intro listed hsz hcnt hcl G' act' w' hI
    have hz : ∀ j, j < ops.size → listed.getD j false = true := by
      intro j hj
      have h0 := List.countP_eq_zero.1 (Nat.le_zero.1 hcnt) j (by simpa using hj)
      simpa using h0
    refine ⟨?_, hQ _ _ _ _ (fun j x hx => hz j (by rw [← h.len]; exact idx_lt hx)) hI⟩
    cases hr : Region.ready .any ops listed with
    | nil => rfl
    | cons i l =>
      exfalso
      have hi : i ∈ Region.ready .any ops listed := by rw [hr]; simp
      obtain ⟨h1, o, ho, _⟩ := mem_ready.1 hi
      have hi2 := (Array.getElem?_eq_some_iff.1 ho).1
      have := hz i hi2
      simp [hsz, hi2] at h1 this
      rw [this] at h1
      cases h1
  | succ k ih =>
    intro listed hsz hcnt hcl G' act' w' hI
    refine ⟨fun hr => hQ _ _ _ _ (hall listed hsz hr) hI, fun i hi => ?_⟩
    obtain ⟨h1, o, ho, h2⟩ := mem_ready.1 hi
    have hi2 := (Array.getElem?_eq_some_iff.1 ho).1
    obtain ⟨x, hx⟩ := h.getx (show i < xs.length by rw [h.len]; exact hi2)
    have hiL : ¬ listed.getD i false = true := by
      simp [hsz, hi2] at h1 ⊢
      exact h1
    have hed : ∀ e ∈ edges o, listed.getD e false = true := fun e he => by
      obtain ⟨d, h3, h4, h5⟩ := (hedge o e).1 he
      rw [← h5]; exact h2 d h3 h4
    have hreach : ∀ (j : Nat) (q : Oper), ops[j]? = some q → (∀ e ∈ edges q, listed.getD e false = true) → ∀ i, ((masks ops.toList []).getD j 0).testBit i = true → listed.getD i false = true :=
      fun j q hq he => masks_reach (L := fun j => listed.getD j false = true) (fun j o ho => hcl j o (by simpa using ho)) hlt j q (by simpa using hq) he
    refine inv_step h hC hP hg hv hnt hf0 hI hx hiL (fun j y hy hc => ⟨fun hji => ?_, fun hij hL => ?_⟩) fun G2 act2 w2 hI2 => ?_
    · rcases (hd i (idx_lt hx)).2 j y x hji hy hx (conf_conflict hc.symm) with h3 | h3
      · exact hreach i o ho hed j h3
      · exact absurd hc.symm (exempt_apart h haps hy hx h3)
    · rcases (hd j (idx_lt hy)).2 i x y hij hx hy (conf_conflict hc) with h3 | h3
      · have hj2 : j < ops.size := by rw [← h.len]; exact idx_lt hy
        exact hiL (hreach j ops[j] (by simp [hj2]) (hcl j ops[j] (by simp [hj2]) hL) i h3)
      · exact exempt_apart h haps hx hy h3 hc
    · have hset : ∀ j, (listed.setIfInBounds i true).getD j false = true ↔ listed.getD j false = true ∨ j = i := by
        intro j
        by_cases e : i = j
        · subst e
          simp [hsz, hi2]
        · rw [getD_set_ne false e]
          exact ⟨.inl, fun h => h.resolve_right (fun h => e h.symm)⟩
      refine ih (listed.setIfInBounds i true) (by simpa using hsz) ?_ ?_ (G' := G2) ?_
      · have hlt2 : (List.range ops.size).countP (fun j => !((listed.setIfInBounds i true).getD j false)) < (List.range ops.size).countP (fun j => !(listed.getD j false)) := by
          refine countP_lt (a := i) (fun j _ hj => ?_) (by simpa using hi2) (by simpa using hiL) (by
            have := (hset i).2 (.inr rfl)
            rw [this]; rfl)
          cases hlj : listed.getD j false with
          | false => rfl
          | true => rw [(hset j).2 (.inl hlj)] at hj; cases hj
        omega
      · intro j q hq hj e he
        rw [hset] at hj ⊢
        rcases hj with hj | rfl
        · exact .inl (hcl j q hq hj e he)
        · rw [ho] at hq
          injection hq with hq
          subst hq
          exact .inl (hed e he)
      · have e : (fun j => (listed.setIfInBounds i true).getD j false = true) = (fun j => listed.getD j false = true ∨ j = i) := funext fun j => propext (hset j)
        rw [e]
        exact hI2
end
end Go.Proofs.YtjbgceogkgpjpaaGreatDoor.Sx
namespace Go.Proofs.YtjbgceogkgpjpaaGreatDoor.Sx
open Go
def supOps (xs : List XO) : Bool := xs.all fun x => supOp x.op
def supCode : XCode → Bool
  | .skip | .exit _ | .ret => true
  | .region _ xs _ => supOps xs
  | .seq a b => supCode a && supCode b
  | .cond _ a b => supCode a && supCode b
  | .block _ a => supCode a
  | .loop a => supCode a
  | .scope a => supCode a
  | .label _ | .goto _ => true
def exitOf : XExit → Exit
  | .normal => .normal
  | .exit id => .exit id
  | .goto l => .goto l
  | .ret => .ret
section
variable {P : Program} {C : CallT} {gl : Nat → List AV} {prims : List (Nat × Nat)} {nt N : Nat} {G0 G : Gh} {w0 w : World} {sz : Nat} {df : List Deferred} {act : Act}
theorem FInv.drew {fr : List AV} {hp : Heap} (h : FInv N G0 w0 sz df fr hp G act w) : FInv N G0 w0 sz df fr hp G act { w with drawn := w.drawn + 1 } := by
  have hE : ∀ A, Ext A G w G { w with drawn := w.drawn + 1 } := fun A => .of_same rfl rfl rfl (Nat.le_refl _) (fun _ _ => rfl) (fun _ _ => rfl) (fun _ _ h => h)
  exact {
    valid := ⟨h.valid.lev, h.valid.inj, h.valid.mkk, h.valid.oinj, h.valid.ok⟩
    size := h.size
    defers := h.defers
    slot := fun t => (h.slot t).ext h.valid (hE fun _ => False) rfl (fun _ _ h => h)
    heap := fun r b base blk hm hb => (h.heap r b base blk hm hb).ext h.valid (hE fun _ => False) rfl (fun _ => rfl) (fun _ _ _ h => h)
    names := h.names
    ext := h.ext.trans (hE fun _ => False) (fun _ _ h => h.elim)
    own := h.own
    fresh := h.fresh
    low := h.low
    hN := h.hN }
theorem wp_region_x (hC : CallOk P gl C) (hP : PrimOk P gl prims) (hg : GlOk G0 w0 gl) (hv0 : Valid G0 w0 N) (hmix : P.follows .mixedOrders = true) (hnt : nt ≤ sz) {xs : List XO} {aps : List (Nat × Nat)} {id : Nat} {ops : Array Oper} {dr : Bool}
    (hsup : supOps xs = true) (hchk : chkOps P prims nt ops.toList xs ops.toList = true) (hdraw : dr = true → drawOk xs ops.toList aps = true) {fr fr' : List AV} {hp hp' : Heap}
    (he : evOps C gl xs fr hp = some (fr', hp')) (haps : apsOk fr' aps = true) (hF : FInv N G0 w0 sz df fr hp G act w) {Q : Exit → Act → World → Prop}
    (hQ : ∀ G' act' w', FInv N G0 w0 sz df fr' hp' G' act' w' → Q .normal act' w') : (Code.region id ops dr).wp P Q act w := by
  obtain ⟨S, h0, hn, hS⟩ := trace he
  obtain ⟨h1, h2⟩ := chkOps_spec hchk
  have hR : Reg P C gl prims nt N xs ops S :=
    ⟨by simpa using h1, fun i x hx => List.all_eq_true.1 hsup x (List.mem_of_getElem? hx), fun i x o hx ho => h2 i x o hx (by simpa using ho), hS, by rw [h0]; exact hF.hN⟩
  have key : ∀ {w : World}, FInv N G0 w0 sz df fr hp G act w → FInv N G0 w0 sz df (S 0).1 (S 0).2 G act w ∧ GlOk G w gl := fun hF => ⟨by rw [h0]; exact hF, hg.ext hv0 hF.ext⟩
  cases dr with
  | false =>
    obtain ⟨hF0, hg0⟩ := key hF
    refine wp_region ?_
    rw [List.range_eq_range']
    refine rinv_text hR hC hP hg0 hF0.valid hnt hF0.names (df := df) (Q := Q) (fun G' act' w' hI => ?_) ops.size 0 (by rw [hR.len]; omega) (G' := G) ?_
    · have := rinv_done hR hF0 (fun j x hx => idx_lt hx) hI
      rw [hn] at this
      exact hQ _ _ _ this
    · have e : (fun j : Nat => j < 0) = fun _ : Nat => False := funext fun j => propext ⟨fun h => absurd h (Nat.not_lt_zero _), False.elim⟩
      rw [e]
      exact rinv_init hR hF0
  | true =>
    obtain ⟨hF0, hg0⟩ := key hF.drew
    refine wp_region_any hmix ?_
    refine rinv_any hR hC hP hg0 hF0.valid hnt hF0.names (hdraw rfl) (by rw [hn]; exact haps) (df := df) (Q := Q) (fun L G' act' w' hL hI => ?_) ops.size _ (by simp) ?_ ?_ (G' := G) ?_
    · have := rinv_done hR hF0 hL hI
      rw [hn] at this
      exact hQ _ _ _ this
    · exact Nat.le_trans List.countP_le_length (by simp)
    · intro j o ho hj
      simp [Array.getElem?_replicate] at hj
      split at hj <;> simp at hj
    · have e : (fun j => (Array.replicate ops.size false).getD j false = true) = fun _ : Nat => False := by
        refine funext fun j => propext ⟨fun h => ?_, fun h => h.elim⟩
        simp [Array.getElem?_replicate] at h
        split at h <;> simp at h
      rw [e]
      exact rinv_init hR hF0
theorem least {p : Nat → Prop} (h : ∃ k, p k) : ∃ k, p k ∧ ∀ j, p j → k ≤ j := by
  obtain ⟨k, hk⟩ := h
  induction k using Nat.strongRecOn with
  | _ k ih =>
    by_cases h2 : ∃ j, j < k ∧ p j
    · obtain ⟨j, hj, hpj⟩ := h2
      exact ih j hj hpj
    · exact ⟨k, hk, fun j hj => Nat.le_of_not_lt fun hlt => h2 ⟨j, hlt, hj⟩⟩
open Classical in noncomputable def leastOr (p : Nat → Prop) : Nat := if h : ∃ k, p k then Classical.choose (least h) else 0
theorem leastOr_spec {p : Nat → Prop} (h : ∃ k, p k) : p (leastOr p) ∧ ∀ j, p j → leastOr p ≤ j := by
  unfold leastOr
  rw [dif_pos h]
  exact Classical.choose_spec (least h)
def Exit.away (J : Nat → Act → World → Prop) (Q : Exit → Act → World → Prop) : Exit → Act → World → Prop
  | .goto l, a, w => J l a w
  | e, a, w => Q e a w
theorem wp_scope_multi {c : Code} {Q : Exit → Act → World → Prop} {a : Act} {w : World} (J : Nat → Nat → Act → World → Prop)
    (first : c.wp P (Exit.away (fun l a w => ∃ k, J k l a w) Q) a w)
    (pass : ∀ k l a w, J k l a w → ∃ rest, findLabel c l = some rest ∧ rest.wp P (Exit.away (fun l' a' w' => ∃ k', k' < k ∧ J k' l' a' w') Q) a w) : (Code.scope c).wp P Q a w := by
  intro b k cs
  have hg : ∀ l rest, findLabel c l = some rest → gotoIn l (.inScope c :: k) = some (.code rest :: .inScope c :: k) := fun l rest hf => by simp [gotoIn, hf]
  have key : ∀ n l a w, J n l a w → ∀ rest, findLabel c l = some rest → ∃ e a' w', Q e a' w' ∧ Arrives P (lone (b.at a (.code rest :: .inScope c :: k)) cs w) b k cs e a' w' := by
    intro n
    induction n using Nat.strongRecOn with
    | _ n ih =>
      intro l a w hJ rest hrest
      obtain ⟨rest', hr', hwp⟩ := pass n l a w hJ
      obtain rfl : rest = rest' := Option.some.inj (hrest.symm.trans hr')
      obtain ⟨e, a₁, w₁, hq, harr⟩ := hwp b (.inScope c :: k) cs
      cases e with
      | normal => exact ⟨.normal, a₁, w₁, hq, Steps.trans harr (.one step_inScope)⟩
      | exit id => exact ⟨.exit id, a₁, w₁, hq, fun k' hk => harr k' (by simp [exitTo, hk])⟩
      | goto l' =>
        obtain ⟨k', hlt, hJ'⟩ := hq
        obtain ⟨rest2, hr2, _⟩ := pass k' l' a₁ w₁ hJ'
        obtain ⟨e₂, a₂, w₂, hq₂, harr₂⟩ := ih k' hlt l' a₁ w₁ hJ' rest2 hr2
        exact ⟨e₂, a₂, w₂, hq₂, .of_steps (harr _ (hg l' rest2 hr2)) harr₂⟩
      | ret => exact ⟨_, a₁, w₁, hq, harr⟩
      | panic ch => exact ⟨_, a₁, w₁, hq, harr⟩
      | outgrown => exact ⟨_, a₁, w₁, hq, harr⟩
  obtain ⟨e, a₁, w₁, hq, harr⟩ := first b (.inScope c :: k) cs
  cases e with
  | normal => exact ⟨.normal, a₁, w₁, hq, .head step_scope (Steps.trans harr (.one step_inScope))⟩
  | exit id => exact ⟨.exit id, a₁, w₁, hq, fun k' hk => .head step_scope (harr k' (by simp [exitTo, hk]))⟩
  | goto l' =>
    obtain ⟨n, hJ'⟩ := hq
    obtain ⟨rest2, hr2, _⟩ := pass n l' a₁ w₁ hJ'
    obtain ⟨e₂, a₂, w₂, hq₂, harr₂⟩ := key n l' a₁ w₁ hJ' rest2 hr2
    exact ⟨e₂, a₂, w₂, hq₂, .of_steps (.head step_scope (harr _ (hg l' rest2 hr2))) harr₂⟩
  | ret => exact ⟨_, a₁, w₁, hq, .of_steps (.one step_scope) harr⟩
  | panic ch => exact ⟨_, a₁, w₁, hq, .of_steps (.one step_scope) harr⟩
  | outgrown => exact ⟨_, a₁, w₁, hq, .of_steps (.one step_scope) harr⟩
theorem evJump_cases {f : Option Nat → St → Option (XExit × St)} : ∀ {j : Nat} {o : Option Nat} {s : St} {r : XExit × St}, evJump f j o s = some r →
    ∃ j', j' < j ∧ ((∃ l s1, f o s = some (.goto l, s1) ∧ evJump f j' (some l) s1 = some r) ∨ (f o s = some r ∧ ∀ l s1, r ≠ (.goto l, s1)))
  | 0, _, _, _, h => by simp [evJump] at h
  | j + 1, o, s, r, h => by
    simp only [evJump] at h
    refine ⟨j, Nat.lt_succ_self j, ?_⟩
    split at h
    · rename_i l s1 hf
      exact .inl ⟨l, s1, hf, h⟩
    · rename_i hne
      exact .inr ⟨h, fun l s1 e => hne l s1 (by rw [h, e])⟩
theorem hasLab_of : ∀ {x : XCode} {l : Nat} {s : St} {r : XExit × St} {n : Nat}, evLab C gl n x l s = some r → hasLab x l = true := by
  intro x
  induction x with
  | seq a b iha ihb =>
    intro l s r n h
    simp only [evLab] at h
    simp only [hasLab, Bool.or_eq_true]
    split at h
    · rename_i hl; exact .inl hl
    · exact .inr (ihb h)
  | label l' =>
    intro l s r n h
    simp only [evLab] at h
    split at h
    · rename_i hl; simp [hasLab, hl]
    · cases h
  | _ => intros; rename_i h; simp [evLab] at h
theorem lab_find : ∀ {x : XCode} {c : Code} {l : Nat}, chkCode P prims nt x c = true → hasLab x l = (findLabel c l).isSome := by
  intro x
  induction x with
  | seq a b iha ihb =>
    intro c l hc
    cases c <;> simp only [chkCode, Bool.false_eq_true] at hc
    simp only [Bool.and_eq_true] at hc
    simp only [hasLab, findLabel]
    rw [iha hc.1, ihb hc.2]
    rename_i ca cb
    cases findLabel ca l <;> simp
  | label l' =>
    intro c l hc
    cases c <;> simp [chkCode] at hc
    subst hc
    simp only [hasLab, findLabel]
    split <;> simp_all
  | _ => intro c l hc; cases c <;> simp [chkCode] at hc <;> rfl
theorem wp_code2 (hC : CallOk P gl C) (hP : PrimOk P gl prims) (hg : GlOk G0 w0 gl) (hv0 : Valid G0 w0 N) (hmix : P.follows .mixedOrders = true) (hnt : nt ≤ sz) (n : Nat) :
    ∀ (x : XCode), (∀ (c : Code), chkCode P prims nt x c = true → supCode x = true → ∀ {s s' : St} {e : XExit}, evCode C gl n x s = some (e, s') → ∀ {G : Gh} {act : Act} {w : World}, FInv N G0 w0 sz df s.fr s.hp G act w →
    ∀ {Q : Exit → Act → World → Prop}, (∀ G' act' w', FInv N G0 w0 sz df s'.fr s'.hp G' act' w' → Q (exitOf e) act' w') → c.wp P Q act w) ∧
    (∀ (c : Code), chkCode P prims nt x c = true → supCode x = true → ∀ {l : Nat} {rest : Code}, findLabel c l = some rest → ∀ {s s' : St} {e : XExit}, evLab C gl n x l s = some (e, s') → ∀ {G : Gh} {act : Act} {w : World}, FInv N G0 w0 sz df s.fr s.hp G act w →
    ∀ {Q : Exit → Act → World → Prop}, (∀ G' act' w', FInv N G0 w0 sz df s'.fr s'.hp G' act' w' → Q (exitOf e) act' w') → rest.wp P Q act w) := by
  intro x
  induction x with
  | skip =>
    refine ⟨?_, fun c _ _ l rest _ s s' e he => by simp [evLab] at he⟩
    intro c hc _ s s' e he G act w hF Q hQ
    cases c <;> simp [chkCode] at hc
    simp only [evCode, Option.some.injEq, Prod.mk.injEq] at he
    obtain ⟨rfl, rfl⟩ := he
    exact wp_skip (hQ _ _ _ hF)
  | region dr xs aps =>
    refine ⟨?_, fun c _ _ l rest _ s s' e he => by simp [evLab] at he⟩
    intro c hc hsup s s' e he G act w hF Q hQ
    cases c <;> simp only [chkCode, Bool.false_eq_true] at hc
    simp only [Bool.and_eq_true, beq_iff_eq, Bool.or_eq_true, Bool.not_eq_true'] at hc
    obtain ⟨⟨h1, h2⟩, h3⟩ := hc
    subst h1
    simp only [evCode] at he
    split at he
    · rename_i fr' hp' hev
      split at he
      · rename_i haps
        simp only [Option.some.injEq, Prod.mk.injEq] at he
        obtain ⟨rfl, rfl⟩ := he
        exact wp_region_x hC hP hg hv0 hmix hnt hsup h2 (fun h => h3.resolve_left (by rw [h]; simp)) hev haps hF hQ
      · cases he
    · cases he
  | seq a b iha ihb =>
    constructor
    · intro c hc hsup s s' e he G act w hF Q hQ
      cases c <;> simp only [chkCode, Bool.false_eq_true] at hc
      simp only [Bool.and_eq_true] at hc
      simp only [supCode, Bool.and_eq_true] at hsup
      simp only [evCode] at he
      refine wp_seq ?_
      split at he
      · rename_i s1 he1
        exact iha.1 _ hc.1 hsup.1 he1 hF fun G1 act1 w1 hF1 => ihb.1 _ hc.2 hsup.2 he hF1 hQ
      · rename_i hne
        refine iha.1 _ hc.1 hsup.1 he hF fun G1 act1 w1 hF1 => ?_
        cases e with
        | normal => exact absurd he (hne _)
        | exit id => exact hQ _ _ _ hF1
        | goto l => exact hQ _ _ _ hF1
        | ret => exact hQ _ _ _ hF1
    · intro c hc hsup l rest hf s s' e he G act w hF Q hQ
      cases c <;> simp only [chkCode, Bool.false_eq_true] at hc
      simp only [Bool.and_eq_true] at hc
      simp only [supCode, Bool.and_eq_true] at hsup
      have hlab := lab_find (l := l) hc.1
      simp only [evLab] at he
      simp only [findLabel] at hf
      split at he
      · rename_i hl
        rw [hl] at hlab
        split at hf
        · rename_i ra hra
          simp only [Option.some.injEq] at hf
          subst hf
          refine wp_seq ?_
          split at he
          · rename_i s1 he1
            exact iha.2 _ hc.1 hsup.1 hra he1 hF fun G1 act1 w1 hF1 => ihb.1 _ hc.2 hsup.2 he hF1 hQ
          · rename_i hne
            refine iha.2 _ hc.1 hsup.1 hra he hF fun G1 act1 w1 hF1 => ?_
            cases e with
            | normal => exact absurd he (hne _)
            | exit id => exact hQ _ _ _ hF1
            | goto l => exact hQ _ _ _ hF1
            | ret => exact hQ _ _ _ hF1
        · rename_i hra
          rw [hra] at hlab
          simp at hlab
      · rename_i hl
        split at hf
        · rename_i ra hra
          rw [hra] at hlab
          exact absurd hlab hl
        · exact ihb.2 _ hc.2 hsup.2 hf he hF hQ
  | cond x a b iha ihb =>
    refine ⟨?_, fun c _ _ l rest _ s s' e he => by simp [evLab] at he⟩
    intro c hc hsup s s' e he G act w hF Q hQ
    cases c <;> simp only [chkCode, Bool.false_eq_true] at hc
    simp only [Bool.and_eq_true] at hc
    simp only [supCode, Bool.and_eq_true] at hsup
    simp only [evCode] at he
    have hr := arg_rel (w := w) (G := G) (fr := s.fr) (act := act) hc.1.1 (fun t _ => hF.slot t)
    split at he
    · rename_i hx
      rw [hx] at hr
      rename_i o _ _ _
      cases hz : act.eval _ <;> rw [hz] at hr <;> cases hr
      exact wp_cond_true hz (iha.1 _ hc.1.2 hsup.1 he hF hQ)
    · rename_i hx
      rw [hx] at hr
      cases hz : act.eval _ <;> rw [hz] at hr <;> cases hr
      exact wp_cond_false hz (ihb.1 _ hc.2 hsup.2 he hF hQ)
    · cases he
  | block id a iha =>
    refine ⟨?_, fun c _ _ l rest _ s s' e he => by simp [evLab] at he⟩
    intro c hc hsup s s' e he G act w hF Q hQ
    cases c <;> simp only [chkCode, Bool.false_eq_true] at hc
    simp only [Bool.and_eq_true, beq_iff_eq] at hc
    obtain ⟨h1, h2⟩ := hc
    subst h1
    simp only [evCode] at he
    refine wp_block ?_
    split at he
    · rename_i i s1 he1
      refine iha.1 _ h2 hsup he1 hF fun G1 act1 w1 hF1 => ?_
      simp only [exitOf, Exit.inBlock]
      split at he
      · rename_i hi
        simp only [Option.some.injEq, Prod.mk.injEq] at he
        obtain ⟨rfl, rfl⟩ := he
        rw [if_pos hi]
        exact hQ _ _ _ hF1
      · rename_i hi
        simp only [Option.some.injEq, Prod.mk.injEq] at he
        obtain ⟨rfl, rfl⟩ := he
        rw [if_neg hi]
        exact hQ _ _ _ hF1
    · rename_i hne
      refine iha.1 _ h2 hsup he hF fun G1 act1 w1 hF1 => ?_
      cases e with
      | exit i => exact absurd he (hne _ _)
      | normal => exact hQ _ _ _ hF1
      | goto l => exact hQ _ _ _ hF1
      | ret => exact hQ _ _ _ hF1
  | loop a iha =>
    refine ⟨?_, fun c _ _ l rest _ s s' e he => by simp [evLab] at he⟩
    intro c hc hsup s s' e he G act w hF Q hQ
    cases c <;> simp only [chkCode, Bool.false_eq_true] at hc
    rename_i c
    simp only [evCode] at he
    let J : Act → World → Nat → Prop := fun a1 w1 k => ∃ G1 s1, FInv N G0 w0 sz df s1.fr s1.hp G1 a1 w1 ∧ evLoop (fun s => evCode C gl n a s) k s1 = some (e, s')
    refine wp_loop (fun a1 w1 => ∃ k, J a1 w1 k) (fun a1 w1 => leastOr (J a1 w1)) ⟨n, G, s, hF, he⟩ fun a1 w1 hI => ?_
    obtain ⟨⟨G1, s1, hF1, hev⟩, hmin⟩ := leastOr_spec hI
    cases hk : leastOr (J a1 w1) with
    | zero => rw [hk] at hev; cases hev
    | succ k =>
      rw [hk] at hev
      simp only [evLoop] at hev
      split at hev
      · rename_i s2 he2
        refine iha.1 _ hc hsup he2 hF1 fun G2 a2 w2 hF2 => ?_
        have hJ : J a2 w2 k := ⟨G2, s2, hF2, hev⟩
        exact ⟨⟨k, hJ⟩, Nat.lt_of_le_of_lt ((leastOr_spec ⟨k, hJ⟩).2 k hJ) (Nat.lt_succ_self k)⟩
      · rename_i hne
        refine iha.1 _ hc hsup hev hF1 fun G2 a2 w2 hF2 => ?_
        cases e with
        | normal => exact absurd hev (hne _)
        | exit i => exact hQ _ _ _ hF2
        | goto l => exact hQ _ _ _ hF2
        | ret => exact hQ _ _ _ hF2
  | exit id =>
    refine ⟨?_, fun c _ _ l rest _ s s' e he => by simp [evLab] at he⟩
    intro c hc _ s s' e he G act w hF Q hQ
    cases c <;> simp [chkCode] at hc
    subst hc
    simp only [evCode, Option.some.injEq, Prod.mk.injEq] at he
    obtain ⟨rfl, rfl⟩ := he
    exact wp_exit (hQ _ _ _ hF)
  | ret =>
    refine ⟨?_, fun c _ _ l rest _ s s' e he => by simp [evLab] at he⟩
    intro c hc _ s s' e he G act w hF Q hQ
    cases c <;> simp [chkCode] at hc
    simp only [evCode, Option.some.injEq, Prod.mk.injEq] at he
    obtain ⟨rfl, rfl⟩ := he
    exact wp_ret (hQ _ _ _ hF)
  | scope a iha =>
    refine ⟨?_, fun c _ _ l rest _ s s' e he => by simp [evLab] at he⟩
    intro c hc hsup s s' e he G act w hF Q hQ
    cases c <;> simp only [chkCode, Bool.false_eq_true] at hc
    rename_i c
    simp only [evCode] at he
    obtain ⟨f, hf⟩ : ∃ f : Option Nat → St → Option (XExit × St), f = fun o s => match o with | none => evCode C gl n a s | some l => evLab C gl n a l s := ⟨_, rfl⟩
    have f0 : ∀ s, f none s = evCode C gl n a s := fun s => by rw [hf]
    have f1 : ∀ l s, f (some l) s = evLab C gl n a l s := fun l s => by rw [hf]
    have he : evJump f n none s = some (e, s') := by rw [hf]; exact he
    clear hf
    refine wp_scope_multi (fun k l a1 w1 => ∃ G1 s1, FInv N G0 w0 sz df s1.fr s1.hp G1 a1 w1 ∧ evJump f k (some l) s1 = some (e, s')) ?_ ?_
    · obtain ⟨j, _, ⟨l, s1, h1, h2⟩ | ⟨h1, h2⟩⟩ := evJump_cases he
      · rw [f0] at h1
        exact iha.1 _ hc hsup h1 hF fun G1 a1 w1 hF1 => ⟨j, G1, s1, hF1, h2⟩
      · rw [f0] at h1
        refine iha.1 _ hc hsup h1 hF fun G1 a1 w1 hF1 => ?_
        cases e with
        | normal => exact hQ _ _ _ hF1
        | exit id => exact hQ _ _ _ hF1
        | goto l => exact absurd rfl (h2 l s')
        | ret => exact hQ _ _ _ hF1
    · rintro k l a1 w1 ⟨G1, s1, hF1, hj⟩
      obtain ⟨j, hjk, ⟨l', s2, h1, h2⟩ | ⟨h1, h2⟩⟩ := evJump_cases hj
      · rw [f1] at h1
        have hl := hasLab_of h1
        rw [lab_find hc] at hl
        obtain ⟨rest, hrest⟩ := Option.isSome_iff_exists.1 hl
        exact ⟨rest, hrest, iha.2 _ hc hsup hrest h1 hF1 fun G2 a2 w2 hF2 => ⟨j, hjk, G2, s2, hF2, h2⟩⟩
      · rw [f1] at h1
        have hl := hasLab_of h1
        rw [lab_find hc] at hl
        obtain ⟨rest, hrest⟩ := Option.isSome_iff_exists.1 hl
        refine ⟨rest, hrest, iha.2 _ hc hsup hrest h1 hF1 fun G2 a2 w2 hF2 => ?_⟩
        cases e with
        | normal => exact hQ _ _ _ hF2
        | exit id => exact hQ _ _ _ hF2
        | goto l => exact absurd rfl (h2 l s')
        | ret => exact hQ _ _ _ hF2
  | label l' =>
    constructor
    · intro c hc _ s s' e he G act w hF Q hQ
      cases c <;> simp [chkCode] at hc
      simp only [evCode, Option.some.injEq, Prod.mk.injEq] at he
      obtain ⟨rfl, rfl⟩ := he
      exact wp_label (hQ _ _ _ hF)
    · intro c hc _ l rest hf s s' e he G act w hF Q hQ
      cases c <;> simp [chkCode] at hc
      subst hc
      simp only [evLab] at he
      simp only [findLabel] at hf
      split at he
      · rename_i hl
        subst hl
        simp only [Option.some.injEq, Prod.mk.injEq] at he
        obtain ⟨rfl, rfl⟩ := he
        simp at hf
        subst hf
        exact wp_skip (hQ _ _ _ hF)
      · cases he
  | goto l =>
    refine ⟨?_, fun c _ _ l rest _ s s' e he => by simp [evLab] at he⟩
    intro c hc _ s s' e he G act w hF Q hQ
    cases c <;> simp [chkCode] at hc
    subst hc
    simp only [evCode, Option.some.injEq, Prod.mk.injEq] at he
    obtain ⟨rfl, rfl⟩ := he
    exact wp_goto (hQ _ _ _ hF)
theorem wp_code (hC : CallOk P gl C) (hP : PrimOk P gl prims) (hg : GlOk G0 w0 gl) (hv0 : Valid G0 w0 N) (hmix : P.follows .mixedOrders = true) (hnt : nt ≤ sz) (n : Nat)
    (x : XCode) (c : Code) (hc : chkCode P prims nt x c = true) (hs : supCode x = true) {s s' : St} {e : XExit} (he : evCode C gl n x s = some (e, s')) {G : Gh} {act : Act} {w : World} (hF : FInv N G0 w0 sz df s.fr s.hp G act w)
    {Q : Exit → Act → World → Prop} (hQ : ∀ G' act' w', FInv N G0 w0 sz df s'.fr s'.hp G' act' w' → Q (exitOf e) act' w') : c.wp P Q act w :=
  (wp_code2 hC hP hg hv0 hmix hnt n x).1 c hc hs he hF hQ
end
end Go.Proofs.YtjbgceogkgpjpaaGreatDoor.Sx
namespace Go.Proofs.YtjbgceogkgpjpaaGreatDoor.Sx
open Go
theorem mapO_spec {f : AV → Option AV} : ∀ {l l' : List AV}, mapO f l = some l' → l'.length = l.length ∧ ∀ (j : Nat) (v' : AV), l'[j]? = some v' → ∃ v, l[j]? = some v ∧ f v = some v'
  | [], l', h => by
    simp only [mapO, Option.some.injEq] at h
    subst h
    exact ⟨rfl, by simp⟩
  | v :: l, l', h => by
    simp only [mapO] at h
    split at h
    · rename_i v' hv
      split at h
      · rename_i l2 hl
        injection h with h
        subst h
        obtain ⟨h1, h2⟩ := mapO_spec hl
        refine ⟨by simp [h1], fun j u hu => ?_⟩
        cases j with
        | zero => simp at hu; subst hu; exact ⟨v, rfl, hv⟩
        | succ j => simpa using h2 j u (by simpa using hu)
      · cases h
    · cases h
section
variable {G G' : Gh} {w : World} {N : Nat} {hp : Heap}
structure Shuts (N : Nat) (G : Gh) (w : World) (hp : Heap) (G' : Gh) : Prop where
  m : ∀ r x, G.m r = some x → r.lev ≠ N → G'.m r = some x
  st : ∀ b, b < w.heap.size → G.k b = .st → G'.k b = .st
  gr : ∀ b f, b < w.heap.size → G.k b = .gr f → ∃ f', f ≤ f' ∧ G'.k b = .gr f'
  own : ∀ r b base, G.m r = some (b, base) → r.lev = N → G'.k b = .st ∧ b < w.heap.size
  heap : RelHeap G w hp
theorem cellsAt_get {r : Ref} {vs : List AV} (h : cellsAt hp r = some vs) : hget hp r = some (.cells vs) := by
  unfold cellsAt at h
  split at h
  · rename_i vs' hb; injection h with h; subst h; exact hb
  · cases h
theorem mem_take {cs : List AV} {b q k : Nat} (h : MemAt G w cs b q) : MemAt G w (cs.take k) b q := by
  intro j v hj
  rw [List.getElem?_take] at hj
  split at hj
  · exact h j v hj
  · cases hj
theorem shut_rel (hS : Shuts N G w hp G') : ∀ (n : Nat) (v v' : AV) (y : Value), shut hp N n v = some v' → RelV G w v y → RelV G' w v' y ∧ noFlag v'
  | 0, _, _, _, h, _ => by cases h
  | n + 1, v, v', y, h, hr => by
    have mem : ∀ {cs cs' : List AV} {b q : Nat}, mapO (shut hp N n) cs = some cs' → MemAt G w cs b q → MemAt G' w cs' b q := by
      intro cs cs' b q hm hM j u hu
      obtain ⟨u0, h1, h2⟩ := (mapO_spec hm).2 j u hu
      obtain ⟨x, h3, h4⟩ := hM j u0 h1
      exact ⟨x, h3, (shut_rel hS n u0 u x h2 h4).1⟩
    have arr : ∀ {cs cs' : List AV} {xs : Array Value}, mapO (shut hp N n) cs = some cs' → cs.length = xs.size → (∀ (j : Nat) (v : AV) (x : Value), cs[j]? = some v → xs[j]? = some x → RelV G w v x) →
        cs'.length = xs.size ∧ ∀ (j : Nat) (v : AV) (x : Value), cs'[j]? = some v → xs[j]? = some x → RelV G' w v x := by
      intro cs cs' xs hm hl hh
      refine ⟨(mapO_spec hm).1.trans hl, fun j u x hu hx => ?_⟩
      obtain ⟨u0, h1, h2⟩ := (mapO_spec hm).2 j u hu
      exact (shut_rel hS n u0 u x h2 (hh j u0 x h1 hx)).1
    have plain : refFree v = true → some (uf v) = some v' → RelV G' w v' y ∧ noFlag v' := by
      intro hf h
      injection h with h
      subst h
      exact ⟨(hr.noRef2 hS.st hS.gr hf).uf, noFlag_uf v⟩
    cases hr with
    | ptr r off b base hm =>
      simp only [shut] at h
      split at h
      · rename_i hl
        split at h
        · rename_i vs hvs
          split at h
          · rename_i cs hcs
            split at h
            · rename_i hf
              injection h with h
              subst h
              have hM := mem hcs ((hS.heap r b base _ hm (cellsAt_get hvs)).mem.drop (k := off))
              obtain ⟨X, hX⟩ := hM.choose
              obtain ⟨h5, h6⟩ := hS.own r b base hm hl
              exact ⟨.elp cs b (base + off) X ⟨h6, .inl h5⟩ (fun j u hu => refFreeL_mem hf _ (List.mem_of_getElem? hu)) (fun j u hu => (hX j u hu).1) (fun j u hu => (hX j u hu).2), trivial⟩
            · cases h
          · cases h
        · cases h
      · rename_i hl
        injection h with h
        subst h
        exact ⟨.ptr r off b base (hS.m r _ hm hl), trivial⟩
    | sl r z off len b base cap hm hcap hsz =>
      simp only [shut] at h
      split at h
      · rename_i hl
        split at h
        · rename_i vs hvs
          split at h
          · rename_i cs hcs
            split at h
            · rename_i hcond
              obtain ⟨hf, hfit⟩ := hcond
              injection h with h
              subst h
              have hM := mem hcs (mem_take (k := len * z) ((hS.heap r b base _ hm (cellsAt_get hvs)).mem.drop (k := off)))
              obtain ⟨h5, h6⟩ := hS.own r b base hm hl
              have hlen : len * z ≤ cs.length := by
                rw [(mapO_spec hcs).1]
                simp
                omega
              obtain ⟨X, hA⟩ := lstAt_chunks (n := len) hM hf ⟨h6, .inl h5⟩ hlen
              have := hA.rel (ow := .none) (cap := cap) (by simp) (by rw [chunks_length]; exact hcap) (by simp)
              rw [chunks_length] at this
              exact ⟨this, trivial⟩
            · cases h
          · cases h
        · cases h
      · rename_i hl
        injection h with h
        subst h
        exact ⟨.sl r z off len b base cap (hS.m r _ hm hl) hcap hsz, trivial⟩
    | agg cs xs hl hh =>
      simp only [shut, Option.map_eq_some_iff] at h
      obtain ⟨cs', h1, rfl⟩ := h
      obtain ⟨h2, h3⟩ := arr h1 hl hh
      exact ⟨.agg cs' xs h2 h3, trivial⟩
    | tup cs xs hl hh =>
      simp only [shut, Option.map_eq_some_iff] at h
      obtain ⟨cs', h1, rfl⟩ := h
      obtain ⟨h2, h3⟩ := arr h1 hl hh
      exact ⟨.tup cs' xs h2 h3, trivial⟩
    | ifc t u x hr =>
      simp only [shut, Option.map_eq_some_iff] at h
      obtain ⟨u', h1, rfl⟩ := h
      exact ⟨.ifc t u' x (shut_rel hS n u u' x h1 hr).1, trivial⟩
    | fn f ds cs xs ys hl hm hh hs =>
      simp only [shut] at h
      split at h
      · rename_i ds' hds
        simp only [Option.map_eq_some_iff] at h
        obtain ⟨cs', h1, rfl⟩ := h
        obtain ⟨h2, h3⟩ := arr hds hl hh
        obtain ⟨h4, h5⟩ := arr h1 hm hs
        exact ⟨.fn f ds' cs' xs ys h2 h4 h3 h5, trivial⟩
      · cases h
    | undef x => exact plain rfl h
    | bool b => exact plain rfl h
    | int k n => exact plain rfl h
    | str x => exact plain rfl h
    | opq x h0 => exact plain rfl h
    | nilptr => exact plain rfl h
    | nilsl => exact plain rfl h
    | nilif => exact plain rfl h
    | nilfn => exact plain rfl h
    | elp cs b o X hc hf hx hh => exact plain rfl h
    | gptr g => exact plain rfl h
    | uniq z es x => exact plain rfl h
    | lst ow z es b o cap X hu hl ht hc hz hf hx hh => exact plain rfl h
    | emp z a => exact plain rfl h
    | lenv n a cap => exact plain rfl h
    | anyi k n => exact plain rfl h
end
end Go.Proofs.YtjbgceogkgpjpaaGreatDoor.Sx
namespace Go.Proofs.YtjbgceogkgpjpaaGreatDoor.Sx
open Go
def OwnLev (N : Nat) (G : Gh) (b : Nat) : Prop := ∃ r base, G.m r = some (b, base) ∧ r.lev = N
open Classical in noncomputable def closeG (N : Nat) (G : Gh) (bres ores : Option Nat) : Gh where
  m := fun r => if r.lev < N then G.m r else none
  k := fun b => if bres = some b then .un else if OwnLev N G b then .st else G.k b
  o := fun l => match l with
    | .res => ores
    | .cell r i => if r.lev < N then G.o (.cell r i) else none
    | .slot _ => none
section
variable {P : Program} {N : Nat} {G0 G : Gh} {w0 w : World} {sz : Nat} {df : List Deferred} {fr : List AV} {l : Level} {hp : Heap} {act : Act} {bres ores : Option Nat}
theorem ownLev_mb (hv : Valid G w (N + 1)) {b : Nat} (h : OwnLev N G b) : G.k b = .mb ∧ b < w.heap.size := by
  obtain ⟨r, base, h1, _⟩ := h
  exact hv.mkk r _ h1
theorem close_k (hb : ∀ b, bres = some b → OwnLev N G b) {b : Nat} (h : ¬ OwnLev N G b) : (closeG N G bres ores).k b = G.k b := by
  simp only [closeG]
  rw [if_neg (fun e => h (hb b e)), if_neg h]
theorem close_k' (hv : Valid G w (N + 1)) (hb : ∀ b, bres = some b → OwnLev N G b) {b : Nat} (h : G.k b ≠ .mb) : (closeG N G bres ores).k b = G.k b :=
  close_k hb (fun e => h (ownLev_mb hv e).1)
theorem close_m {r : Ref} (h : r.lev < N) : (closeG N G bres ores).m r = G.m r := by
  simp only [closeG]; rw [if_pos h]
theorem close_ext (hF : FInv (N + 1) G0 w0 sz df fr (l :: hp) G act w) (hv0 : Valid G0 w0 N) (hb : ∀ b, bres = some b → OwnLev N G b) :
    Ext (fun b => ∃ l, G0.o l = some b) G0 w0 (closeG N G bres ores) w where
  os := hF.ext.os
  tape := hF.ext.tape
  output := hF.ext.output
  size := hF.ext.size
  st := fun b h1 h2 => by
    obtain ⟨h3, h4⟩ := hF.ext.st b h1 h2
    exact ⟨by rw [close_k' hF.valid hb (by rw [h3]; simp), h3], h4⟩
  gr := fun b f h1 h2 => by
    obtain ⟨f', h3, h4, h5⟩ := hF.ext.gr b f h1 h2
    exact ⟨f', h3, by rw [close_k' hF.valid hb (by rw [h4]; simp), h4], h5⟩
  keep := fun b h1 h2 h3 h4 => by
    obtain ⟨h5, h6⟩ := hF.ext.keep b h1 h2 h3 h4
    exact ⟨by rw [close_k' hF.valid hb (by rw [h5]; exact h3), h5], h6⟩
  mm := fun r x h => by
    rw [close_m (hv0.lev r x h)]
    exact hF.ext.mm r x h
  mb := fun b h1 h2 => by
    obtain ⟨h3, h4⟩ := hF.ext.mb b h1 h2
    refine ⟨?_, h4⟩
    rw [close_k hb, h3]
    rintro ⟨r, base, h5, h6⟩
    rcases hF.fresh r b base h5 with h7 | h7
    · have := hv0.lev r _ h7; omega
    · exact h7 ⟨h1, h2⟩
theorem close_valid (hF : FInv (N + 1) G0 w0 sz df fr (l :: hp) G act w) (hb : ∀ b, bres = some b → OwnLev N G b) (ho : ∀ b, ores = some b → (∃ t, G.o (.slot t) = some b) ∨ bres = some b) :
    Valid (closeG N G bres ores) w N where
  lev := fun r x h => by
    simp only [closeG] at h
    split at h
    · assumption
    · cases h
  inj := fun r r' x y h h' he => by
    simp only [closeG] at h h'
    split at h
    · split at h'
      · exact hF.valid.inj r r' x y h h' he
      · cases h'
    · cases h
  mkk := fun r x h => by
    simp only [closeG] at h
    split at h
    · rename_i hl
      obtain ⟨h1, h2⟩ := hF.valid.mkk r x h
      refine ⟨?_, h2⟩
      rw [close_k hb, h1]
      rintro ⟨q, base, h3, h4⟩
      have := hF.valid.inj r q x _ h h3 rfl
      rw [this] at hl
      omega
    · cases h
  oinj := fun l1 l2 b h1 h2 => by
    have hno : ∀ q i, G.o (.cell q i) = some b → ∀ b', ores = some b' → b' ≠ b := by
      intro q i hc b' hb' e
      subst e
      rcases ho b' hb' with ⟨t, ht⟩ | hr
      · cases hF.valid.oinj _ _ b' hc ht
      · have h3 := (ownLev_mb hF.valid (hb b' hr)).1
        rcases (hF.valid.ok _ _ hc).2 with ⟨f, h4⟩ | h4 <;> rw [h3] at h4 <;> cases h4
    cases l1 with
    | slot t => cases h1
    | res =>
      cases l2 with
      | slot t => cases h2
      | res => rfl
      | cell q i =>
        simp only [closeG] at h1 h2
        split at h2
        · exact absurd rfl (hno q i h2 b h1)
        · cases h2
    | cell q i =>
      simp only [closeG] at h1
      split at h1
      · cases l2 with
        | slot t => cases h2
        | res => exact absurd rfl (hno q i h1 b h2)
        | cell q' i' =>
          simp only [closeG] at h2
          split at h2
          · exact hF.valid.oinj _ _ b h1 h2
          · cases h2
      · cases h1
  ok := fun l1 b h1 => by
    have key : ∀ l', G.o l' = some b → b < w.heap.size ∧ ((∃ f, (closeG N G bres ores).k b = .gr f) ∨ (closeG N G bres ores).k b = .un) := by
      intro l' h2
      obtain ⟨h3, h4⟩ := hF.valid.ok l' b h2
      refine ⟨h3, ?_⟩
      rw [close_k' hF.valid hb (by rcases h4 with ⟨f, h4⟩ | h4 <;> rw [h4] <;> simp)]
      exact h4
    cases l1 with
    | slot t => cases h1
    | res =>
      rcases ho b h1 with ⟨t, ht⟩ | hr
      · exact key _ ht
      · exact ⟨(ownLev_mb hF.valid (hb b hr)).2, .inr (by simp only [closeG]; rw [if_pos hr])⟩
    | cell q i =>
      simp only [closeG] at h1
      split at h1
      · exact key _ h1
      · cases h1
theorem close_st (hF : FInv (N + 1) G0 w0 sz df fr (l :: hp) G act w) (hb : ∀ b, bres = some b → OwnLev N G b) {b : Nat} (h : G.k b = .st) : (closeG N G bres ores).k b = .st := by
  rw [close_k' hF.valid hb (by rw [h]; simp), h]
theorem close_gr (hF : FInv (N + 1) G0 w0 sz df fr (l :: hp) G act w) (hb : ∀ b, bres = some b → OwnLev N G b) {b f : Nat} (h : G.k b = .gr f) : ∃ f', f ≤ f' ∧ (closeG N G bres ores).k b = .gr f' :=
  ⟨f, Nat.le_refl _, by rw [close_k' hF.valid hb (by rw [h]; simp), h]⟩
theorem close_heap (hF : FInv (N + 1) G0 w0 sz df fr (l :: hp) G act w) (hb : ∀ b, bres = some b → OwnLev N G b) : RelHeap (closeG N G bres ores) w hp := by
  intro r b base blk hm hg
  have hlen : hp.length = N := by have := hF.hN; simpa using this
  simp only [closeG] at hm
  split at hm
  · rename_i hl
    have hg' : hget (l :: hp) r = some blk := by
      simp only [hget]
      rw [if_neg (by omega)]
      exact hg
    have hr := hF.heap r b base blk hm hg'
    cases blk with
    | cells vs =>
      obtain ⟨cs, T, h1, h2, h3⟩ := hr
      refine ⟨cs, T, h1, h2, fun i v x hi hx => ?_⟩
      obtain ⟨h4, h5⟩ := h3 i v x hi hx
      refine ⟨?_, ?_⟩
      · refine RelV.mapG (G := G.below (r.lev + 1)) (G' := (closeG N G bres ores).below (r.lev + 1)) (fun q a hq => ?_) (fun c _ h => close_st (ores := ores) hF hb h) (fun c f _ h => close_gr (ores := ores) hF hb h) h4
        simp only [Gh.below] at hq ⊢
        split at hq
        · rename_i hlt
          rw [if_pos hlt, close_m (by omega)]
          exact hq
        · cases hq
      · refine h5.mapG (fun c _ h => close_st (ores := ores) hF hb h) (fun c f _ h => close_gr (ores := ores) hF hb h) (fun c hc => ⟨?_, ?_⟩)
        · simp only [closeG]; rw [if_pos hl]; exact hc
        · refine close_k' hF.valid hb ?_
          rcases (hF.valid.ok _ _ hc).2 with ⟨f, h6⟩ | h6 <;> rw [h6] <;> simp
    | iter s pos => exact hr
    | bld t e bs =>
      obtain ⟨h0, p, v, h1, h2, h3, hn, h4⟩ := hr
      refine ⟨h0, p, v, h1, h2, h3, hn, fun g hg => ⟨?_, ?_⟩⟩
      · simp only [closeG]; rw [if_pos hl]; exact (h4 g hg).1
      · rw [close_k' hF.valid hb (by rw [(h4 g hg).2]; simp)]; exact (h4 g hg).2
  · cases hm
theorem close_mm (hF : FInv (N + 1) G0 w0 sz df fr (l :: hp) G act w) (hv0 : Valid G0 w0 N) : (closeG N G bres ores).m = G0.m := by
  funext r
  simp only [closeG]
  cases h0 : G0.m r with
  | some x => rw [if_pos (hv0.lev r x h0)]; exact hF.ext.mm r x h0
  | none =>
    split
    · rename_i hl
      cases hg : G.m r with
      | none => rfl
      | some x =>
        rcases hF.low r (by rw [hg]; simp) with h1 | h1
        · exact absurd h0 h1
        · omega
    · rfl
theorem close_own (hF : FInv (N + 1) G0 w0 sz df fr (l :: hp) G act w) (hv0 : Valid G0 w0 N) (hb : ∀ b, bres = some b → OwnLev N G b) (ho : ∀ b, ores = some b → (∃ t, G.o (.slot t) = some b) ∨ bres = some b)
    {l1 : Loc} {b : Nat} (h : (closeG N G bres ores).o l1 = some b) : (∃ l', G0.o l' = some b) ∨ w0.heap.size ≤ b := by
  cases l1 with
  | slot t => cases h
  | cell q i =>
    simp only [closeG] at h
    split at h
    · exact hF.own _ b h
    · cases h
  | res =>
    rcases ho b h with ⟨t, ht⟩ | hr
    · exact hF.own _ b ht
    · rcases Nat.lt_or_ge b w0.heap.size with hlt | hge
      · left
        have hmb := (ownLev_mb hF.valid (hb b hr)).1
        by_cases h1 : G0.k b = .st
        · rw [(hF.ext.st b hlt h1).1] at hmb; cases hmb
        · by_cases h2 : G0.k b = .mb
          · obtain ⟨r, base, h3, h4⟩ := hb b hr
            rcases hF.fresh r b base h3 with h5 | h5
            · have := hv0.lev r _ h5; omega
            · exact absurd ⟨hlt, h2⟩ h5
          · by_cases h3 : ∃ l, G0.o l = some b
            · exact h3
            · rw [(hF.ext.keep b hlt h1 h2 h3).1] at hmb
              exact absurd hmb h2
      · exact .inr hge
theorem close_shuts (hF : FInv (N + 1) G0 w0 sz df fr (l :: hp) G act w) : Shuts N G w (l :: hp) (closeG N G none ores) where
  m := fun r x h1 h2 => by
    have := hF.valid.lev r x h1
    rw [close_m (by omega)]; exact h1
  st := fun b _ h => close_st hF (fun _ h => by cases h) h
  gr := fun b f _ h => close_gr hF (fun _ h => by cases h) h
  own := fun r b base h1 h2 => by
    refine ⟨?_, (hF.valid.mkk r _ h1).2⟩
    simp only [closeG]
    rw [if_neg (by simp), if_pos ⟨r, base, h1, h2⟩]
  heap := hF.heap
/-! ### results -/
def resRun (act : Act) : ResultVar → Sem Value
  | .tmp t => pure (act.tmps.getD t undef)
  | .cell a t => do loadVar t (← asAddr (act.tmps.getD a undef))
theorem run_res1 {gl : Nat → List AV} (hF : FInv (N + 1) G0 w0 sz df fr (l :: hp) G act w) {x : XRes} {t : ResultVar} (hc : chkRes P [x] [t] = true) {v : AV} (he : evRes ⟨fr, l :: hp⟩ x = some v) :
    ∃ y, (resRun act t).run P w = .ok y w ∧ RelV G w v y ∧
      (noFlag v ∨ ∃ t, OwnOk G w (.slot t) v y) := by
  cases x with
  | tmp t0 =>
    cases t <;> simp [chkRes] at hc
    subst hc
    simp only [evRes, Option.some.injEq] at he
    subst he
    exact ⟨_, rfl, (hF.slot t0).1, .inr ⟨t0, (hF.slot t0).2⟩⟩
  | cell t0 n agg =>
    cases t <;> simp [chkRes] at hc
    rename_i a T
    obtain ⟨rfl, h1⟩ := hc
    simp only [typeIs] at h1
    split at h1
    · rename_i i d hi hd
      simp only [Bool.and_eq_true, beq_iff_eq] at h1
      simp only [evRes] at he
      split at he
      · rename_i r off hr
        split at he
        · rename_i vs hvs
          have h2 := (hF.slot t0).1
          rw [hr] at h2
          obtain ⟨b, base, h3, h4⟩ := ptr_form h2
          have hM := (hF.heap r b base _ h4 (cellsAt_get hvs)).mem.drop (k := off)
          obtain ⟨y, h5, h6⟩ := loadVar_rel (P := P) hM hi hd h1.1 h1.2 he
          refine ⟨y, ?_, h6, .inl (ldCells_noFlag he)⟩
          simp only [resRun, h3, asAddr, Sem.run_bind, Sem.run_pure, Result.andThen_ok]
          exact h5
        · cases he
      · cases he
    · cases h1
theorem run_res {gl : Nat → List AV} (hF : FInv (N + 1) G0 w0 sz df fr (l :: hp) G act w) : ∀ {xs : List XRes} {ts : List ResultVar}, chkRes P xs ts = true → ∀ {vs : List AV}, evResL ⟨fr, l :: hp⟩ xs = some vs →
    ∃ ys : List Value, (ts.mapM (resRun act)).run P w = .ok ys w ∧ ys.length = vs.length ∧
      ∀ (j : Nat) (v : AV) (y : Value), vs[j]? = some v → ys[j]? = some y → RelV G w v y ∧ (noFlag v ∨ ∃ t, OwnOk G w (.slot t) v y)
  | [], [], _, vs, he => by
    simp only [evResL, Option.some.injEq] at he
    subst he
    exact ⟨[], by simp, rfl, by simp⟩
  | [], _ :: _, hc, _, _ => by simp [chkRes] at hc
  | x :: xs, [], hc, _, _ => by cases x <;> simp [chkRes] at hc
  | x :: xs, t :: ts, hc, vs, he => by
    simp only [evResL] at he
    split at he
    · rename_i v hv
      split at he
      · rename_i vs' hvs
        injection he with he
        subst he
        have hc1 : chkRes P [x] [t] = true ∧ chkRes P xs ts = true := by
          cases x <;> cases t <;> simp [chkRes] at hc ⊢ <;> simp [hc]
        obtain ⟨y, h1, h2, h3⟩ := run_res1 (gl := gl) hF hc1.1 hv
        obtain ⟨ys, h4, h5, h6⟩ := run_res (gl := gl) hF hc1.2 hvs
        refine ⟨y :: ys, ?_, by simp [h5], fun j u z hu hz => ?_⟩
        · rw [List.mapM_cons]
          simp only [Sem.run_bind]
          rw [h1]
          simp only [Result.andThen_ok]
          rw [h4]
          simp
        · cases j with
          | zero => simp at hu hz; subst hu hz; exact ⟨h2, h3⟩
          | succ j => exact h6 j u z (by simpa using hu) (by simpa using hz)
      · cases he
    · cases he
end
end Go.Proofs.YtjbgceogkgpjpaaGreatDoor.Sx
namespace Go.Proofs.YtjbgceogkgpjpaaGreatDoor.Sx
open Go
section
variable {P : Program} {N : Nat} {G0 G : Gh} {w0 w : World} {sz : Nat} {df : List Deferred} {fr : List AV} {l : Level} {hp : Heap} {act : Act}
def outOf (ys : List Value) : Value := match ys with | [y] => y | ys => .tuple ys.toArray
structure Back (N : Nat) (G0 : Gh) (w0 : World) (hp : Heap) (G' : Gh) (w : World) (v : AV) (y : Value) : Prop where
  ext : Ext (fun b => ∃ l, G0.o l = some b) G0 w0 G' w
  valid : Valid G' w N
  rel : RelV G' w v y
  res : OwnOk G' w .res v y
  heap : RelHeap G' w hp
  mm : G'.m = G0.m
  own : ∀ l b, G'.o l = some b → (∃ l', G0.o l' = some b) ∨ w0.heap.size ≤ b
theorem back_of (hF : FInv (N + 1) G0 w0 sz df fr (l :: hp) G act w) (hv0 : Valid G0 w0 N) {bres ores : Option Nat} (hb : ∀ b, bres = some b → OwnLev N G b) (ho : ∀ b, ores = some b → (∃ t, G.o (.slot t) = some b) ∨ bres = some b)
    {v : AV} {y : Value} (h1 : RelV (closeG N G bres ores) w v y) (h2 : OwnOk (closeG N G bres ores) w .res v y) : Back N G0 w0 hp (closeG N G bres ores) w v y :=
  ⟨close_ext hF hv0 hb, close_valid hF hb ho, h1, h2, close_heap hF hb, close_mm hF hv0, fun _ _ h => close_own hF hv0 hb ho h⟩
theorem done1 (hF : FInv (N + 1) G0 w0 sz df fr (l :: hp) G act w) (hv0 : Valid G0 w0 N) {u v : AV} {y : Value} (hs : shut (l :: hp) N shutDepth u = some v) (hr : RelV G w u y) : ∃ G', Back N G0 w0 hp G' w v y := by
  obtain ⟨h1, h2⟩ := shut_rel (close_shuts (ores := none) hF) shutDepth u v y hs hr
  exact ⟨_, back_of hF hv0 (bres := none) (ores := none) (fun _ h => by cases h) (fun _ h => by cases h) h1 (.of_noFlag h2)⟩
theorem done_tup (hF : FInv (N + 1) G0 w0 sz df fr (l :: hp) G act w) (hv0 : Valid G0 w0 N) {us : List AV} {v : AV} {ys : List Value} (hl : ys.length = us.length)
    (hr : ∀ (j : Nat) (u : AV) (y : Value), us[j]? = some u → ys[j]? = some y → RelV G w u y) (hs : (mapO (shut (l :: hp) N shutDepth) us).map .tup = some v) : ∃ G', Back N G0 w0 hp G' w v (.tuple ys.toArray) := by
  simp only [Option.map_eq_some_iff] at hs
  obtain ⟨cs, h1, rfl⟩ := hs
  obtain ⟨h2, h3⟩ := mapO_spec h1
  refine ⟨_, back_of hF hv0 (bres := none) (ores := none) (fun _ h => by cases h) (fun _ h => by cases h) (.tup cs ys.toArray (by simp [h2, hl]) fun j c y hc hy => ?_) (.of_noFlag trivial)⟩
  obtain ⟨u, h4, h5⟩ := h3 j c hc
  exact (shut_rel (close_shuts (ores := none) hF) shutDepth u c y h5 (hr j u y h4 (by simpa using hy))).1
theorem done (hF : FInv (N + 1) G0 w0 sz df fr (l :: hp) G act w) (hv0 : Valid G0 w0 N) {us : List AV} {v : AV} {ys : List Value} (hl : ys.length = us.length)
    (hr : ∀ (j : Nat) (u : AV) (y : Value), us[j]? = some u → ys[j]? = some y → RelV G w u y ∧ (noFlag u ∨ ∃ t, OwnOk G w (.slot t) u y)) (hs : retOf (l :: hp) N us = some v) : ∃ G', Back N G0 w0 hp G' w v (outOf ys) := by
  unfold retOf at hs
  split at hs
  · rename_i o z es
    injection hs with hs
    subst hs
    match ys, hl with
    | [y], _ =>
      obtain ⟨h1, h2⟩ := hr 0 _ y rfl rfl
      show ∃ G', Back N G0 w0 hp G' w _ y
      rcases h2 with h2 | ⟨t, h2⟩
      · exact ⟨_, back_of hF hv0 (bres := none) (ores := none) (fun _ h => by cases h) (fun _ h => by cases h) (h1.noRef2 (fun b _ h => close_st hF (fun _ h => by cases h) h) (fun b f _ h => close_gr hF (fun _ h => by cases h) h) rfl) (.of_noFlag h2)⟩
      · refine ⟨_, back_of hF hv0 (bres := none) (ores := G.o (.slot t)) (fun _ h => by cases h) (fun b h => .inl ⟨t, h⟩) (h1.noRef2 (fun b _ h => close_st hF (fun _ h => by cases h) h) (fun b f _ h => close_gr hF (fun _ h => by cases h) h) rfl) ?_⟩
        refine h2.mapG (fun b _ h => close_st hF (fun _ h => by cases h) h) (fun b f _ h => close_gr hF (fun _ h => by cases h) h) fun b hb => ⟨hb, ?_⟩
        refine close_k' hF.valid (fun _ h => by cases h) ?_
        rcases (hF.valid.ok _ _ hb).2 with ⟨f, h6⟩ | h6 <;> rw [h6] <;> simp
  · rename_i r z off len
    match ys, hl with
    | [y], _ =>
      obtain ⟨h1, _⟩ := hr 0 _ y rfl rfl
      show ∃ G', Back N G0 w0 hp G' w _ y
      split at hs
      · rename_i o2 z2 es hsh
        split at hs
        · rename_i hbare
          injection hs with hs
          subst hs
          obtain ⟨h3, h4⟩ := shut_rel (close_shuts (ores := none) hF) shutDepth _ _ y hsh h1
          have hlev : r.lev = N := by
            refine Classical.byContradiction fun hne => ?_
            simp only [shutDepth, shut] at hsh
            rw [if_neg hne] at hsh
            cases hsh
          obtain ⟨b, base, cap, rfl, hm, hcap, cs, T, fz, hc1, hc2⟩ := sl_form h1
          have hown : OwnLev N G b := ⟨r, base, hm, hlev⟩
          have hz2 : z2 = z := by
            simp only [shutDepth, shut] at hsh
            rw [if_pos hlev] at hsh
            split at hsh
            · split at hsh
              · split at hsh
                · injection hsh with hsh; injection hsh with _ e _; exact e.symm
                · cases hsh
              · cases hsh
            · cases hsh
          subst hz2
          obtain ⟨X, hle, hlen, hAz, hAx, hAr⟩ : ∃ X : Nat → Nat → Value, es.length ≤ cap ∧ len = es.length ∧ (∀ (i : Nat) (e : List AV), es[i]? = some e → e.length = z2) ∧
              (∀ (i : Nat) (e : List AV) (j : Nat) (v : AV), es[i]? = some e → e[j]? = some v → w.cell? ⟨b, base + off + i * z2 + j, none⟩ = some (X i j)) ∧
              (∀ (i : Nat) (e : List AV) (j : Nat) (v : AV), es[i]? = some e → e[j]? = some v → RelV (closeG N G none none) w v (X i j)) := by
            rcases lst_or h3 (noFlag_lst h4).2 with ⟨b', q, cap', X, e1, hl', _, hA⟩ | ⟨_, h6, a, e1⟩
            · injection e1 with e1 e2 e3
              injection e1 with e1
              injection e1 with e1 e4 e5
              subst e1 e2 e3 e4
              exact ⟨X, hl', rfl, hA.hz, hA.hx, hA.hr⟩
            · injection e1 with e1 e2 e3
              subst e2 e3 h6
              exact ⟨fun _ _ => .nilIface, Nat.zero_le _, rfl, fun i e h => by simp at h, fun i e j v h => by simp at h, fun i e j v h => by simp at h⟩
          subst hlen
          have hblk : ∃ ds, w.heap[b]? = some (.cells ds T (0, 0)) ∧ ds = cs := by
            have hcell : ∃ vs, cellsAt (l :: hp) r = some vs := by
              simp only [shutDepth, shut] at hsh
              rw [if_pos hlev] at hsh
              split at hsh
              · exact ⟨_, by assumption⟩
              · cases hsh
            obtain ⟨vs, hvs⟩ := hcell
            obtain ⟨ds, T', g1, _, _⟩ := hF.heap r b base _ hm (cellsAt_get hvs)
            rw [hc1] at g1
            injection g1 with g1
            injection g1 with g1 g2 g3
            subst g1 g2 g3
            exact ⟨_, hc1, rfl⟩
          obtain ⟨ds, hd1, rfl⟩ := hblk
          refine ⟨_, back_of hF hv0 (bres := some b) (ores := some b) (fun _ h => by injection h with h; subst h; exact hown) (fun c h => .inr h) (.uniq _ _ _) ?_⟩
          refine OwnOk.mk_small hbare.2 ⟨b, base + off, cap, rfl, hle, rfl, ⟨ds, T, (0, 0), hd1, hc2, fun i _ _ h => Nat.not_lt_zero _ h.2⟩, (fun h => by cases h), fun _ => ⟨by simp [closeG], ⟨ds, T, hd1⟩, X, hAz, fun i e j u hi hj => ?_⟩⟩
          have hbu : bareV u = true := List.all_eq_true.1 (List.all_eq_true.1 hbare.1 e (List.mem_of_getElem? hi)) u (List.mem_of_getElem? hj)
          exact ⟨bare_free hbu, hAx i e j u hi hj, bare_rel hbu (hAr i e j u hi hj)⟩
        · cases hs
      · cases hs
  · rename_i u _ _
    match ys, hl with
    | [y], _ => exact done1 hF hv0 hs (hr 0 _ y rfl rfl).1
  · rename_i z es us hne
    split at hs
    · rename_i hz
      split at hs
      · rename_i cs hcs
        split at hs
        · rename_i hfree
          injection hs with hs
          subst hs
          have e : outOf ys = .tuple ys.toArray := by
            match ys, hl with
            | [y], hl => exact absurd (List.eq_nil_of_length_eq_zero (by simpa using hl.symm)) (fun h => hne h)
            | _ :: _ :: _, _ => rfl
          rw [e]
          obtain ⟨h2, h3⟩ := mapO_spec hcs
          match ys, hl with
          | y :: ys, hl =>
            obtain ⟨_, g2⟩ := hr 0 _ y rfl rfl
            rcases g2 with g2 | ⟨t, g2⟩
            · exact absurd g2 (fun h => h)
            · have hR : ∀ (j : Nat) (c : AV) (u : Value), cs[j]? = some c → ys[j]? = some u → RelV (closeG N G none (G.o (.slot t))) w c u := by
                intro j c u hc hu
                obtain ⟨v, h4, h5⟩ := h3 j c hc
                exact (shut_rel (close_shuts (ores := G.o (.slot t)) hF) shutDepth v c u h5 (hr (j + 1) v u (by simpa using h4) (by simpa using hu)).1).1
              refine ⟨_, back_of hF hv0 (bres := none) (ores := G.o (.slot t)) (fun _ h => by cases h) (fun b h => .inl ⟨t, h⟩) (.uniq _ _ _) ?_⟩
              have hC : OwnOk (closeG N G none (G.o (.slot t))) w .res (.lst .uniq z es) y :=
                g2.mapG (fun b _ h => close_st hF (fun _ h => by cases h) h) (fun b f _ h => close_gr hF (fun _ h => by cases h) h) fun b hb => ⟨hb, by
                  refine close_k' hF.valid (fun _ h => by cases h) ?_
                  rcases (hF.valid.ok _ _ hb).2 with ⟨f, h6⟩ | h6 <;> rw [h6] <;> simp⟩
              refine ⟨z, es, y, .inr ⟨by omega, by omega, cs, (y :: ys).toArray, rfl, rfl, by simp, ?_, hfree, fun j c u hc hu => ⟨refFreeL_mem hfree _ (List.mem_of_getElem? hc), hR j c u hc (by simpa using hu)⟩⟩, hC.small hz⟩
              simp only [List.size_toArray, List.length_cons] at hl ⊢
              omega
        · cases hs
      · cases hs
    · cases hs
  · rename_i h1 h2 h3 h4
    have e : outOf ys = .tuple ys.toArray := by
      match ys, hl with
      | [], _ => rfl
      | [y], hl =>
        match us, hl with
        | [u], _ => exact absurd rfl (h3 u)
      | _ :: _ :: _, _ => rfl
    rw [e]
    exact done_tup hF hv0 hl (fun j u y hu hy => (hr j u y hu hy).1) hs
theorem results_gen (rs : Array ResultVar) (f : ResultVar → Sem Value) (hf : ∀ t, f t = resRun act t) :
    (do let vs ← rs.mapM f; pure (if h : vs.size = 1 then vs[0] else Value.tuple vs) : Sem Value).run P w = ((rs.toList.mapM (resRun act)).run P w).andThen fun ys w => .ok (outOf ys) w := by
  rw [show f = resRun act from funext hf, Array.mapM_eq_mapM_toList]
  simp only [Sem.run_bind, Sem.run_map]
  cases (rs.toList.mapM (resRun act)).run P w with
  | halt x w' => rfl
  | ok ys w' =>
    simp only [Result.andThen_ok, Sem.run_pure]
    congr 1
    match ys with
    | [] => rfl
    | [y] => rfl
    | _ :: _ :: _ => simp [outOf]
theorem run_results {fn : Func} (hF : FInv (N + 1) G0 w0 sz df fr (l :: hp) G act w) {xs : List XRes} (hc : chkRes P xs fn.results.toList = true) {us : List AV} (he : evResL ⟨fr, l :: hp⟩ xs = some us) :
    ∃ ys : List Value, (results fn act.tmps).run P w = .ok (outOf ys) w ∧ ys.length = us.length ∧ ∀ (j : Nat) (v : AV) (y : Value), us[j]? = some v → ys[j]? = some y → RelV G w v y ∧ (noFlag v ∨ ∃ t, OwnOk G w (.slot t) v y) := by
  obtain ⟨ys, h1, h2, h3⟩ := run_res (gl := fun _ => []) hF hc he
  refine ⟨ys, ?_, h2, h3⟩
  have h4 : (results fn act.tmps).run P w = ((fn.results.toList.mapM (resRun act)).run P w).andThen fun ys w => .ok (outOf ys) w :=
    results_gen fn.results _ (fun t => by cases t <;> rfl)
  rw [h4, h1]
  rfl
end
def HOne (P : Program) (f id : Nat) : Prop :=
  ∀ (args : List AV) (hp : Heap) (v : AV) (hp' : Heap), hprimX id args hp = some (v, hp') → ∀ (G : Gh) (w : World) (xs : Array Value), Valid G w hp.length → args.length = xs.size →
    (∀ (j : Nat) (u : AV) (z : Value), args[j]? = some u → xs[j]? = some z → RelV G w u z ∧ OwnOk G w (.slot j) u z) → RelHeap G w hp →
    bodied P f = true ∧ Calls P f xs w fun e w' => ∃ z G', e = .returned z ∧ Ext (fun b => ∃ l, G.o l = some b) G w G' w' ∧ Valid G' w' hp.length ∧ RelV G' w' v z ∧ OwnOk G' w' .res v z ∧ RelHeap G' w' hp' ∧ G'.m = G.m ∧
      (∀ l b, G'.o l = some b → (∃ l', G.o l' = some b) ∨ w.heap.size ≤ b)
def Checked0 (P : Program) (prims : List (Nat × Nat)) (X : List (Option XFn)) : Prop :=
  ∀ (f : Nat) (x : XFn), X[f]? = some (some x) → (∃ F, P.funcs[f]? = some F ∧ chkFn P prims x F = true ∧ supCode x.body = true) ∨ ∃ id, spec x = some id ∧ HOne P f id
theorem evCall_ok {P : Program} {prims : List (Nat × Nat)} {X : List (Option XFn)} {gl : Nat → List AV} (hX : Checked0 P prims X) (hP : PrimOk P gl prims) (hmix : P.follows .mixedOrders = true) : ∀ n, CallOk P gl (evCall X gl n)
  | 0 => fun f args hp v hp' h => by cases h
  | n + 1 => by
    intro f args hp v hp' h G0 w0 xs hv0 hlen hargs hH hg
    simp only [evCall] at h
    split at h
    · rename_i x hx
      obtain ⟨F, hF, hchk, hsup⟩ | ⟨id, hid, hone⟩ := hX f x hx
      rotate_left
      · rw [hid] at h
        exact hone args hp v hp' h G0 w0 xs hv0 hlen hargs hH
      simp only [chkFn, Bool.and_eq_true, beq_iff_eq] at hchk
      obtain ⟨⟨⟨⟨hname, hnt⟩, hres⟩, hbody⟩, hspec⟩ := hchk
      rw [Option.isNone_iff_eq_none.1 hspec] at h
      simp only at h
      split at hbody
      · rename_i c hc
        have hv1 : Valid G0 w0 (hp.length + 1) := ⟨fun r x h => Nat.lt_succ_of_lt (hv0.lev r x h), hv0.inj, hv0.mkk, hv0.oinj, hv0.ok⟩
        let act : Act := { tmps := xs ++ Array.replicate (F.ntmps - xs.size) undef, defers := [] }
        have hinit : FInv (hp.length + 1) G0 w0 act.tmps.size [] args ([] :: hp) G0 act w0 := {
          valid := hv1
          size := rfl
          defers := rfl
          slot := fun t => by
            unfold RelS
            rcases Nat.lt_or_ge t args.length with hlt | hge
            · have e1 : args[t]? = some (fget args t) := by
                clear hargs h hlen act
                induction args generalizing t with
                | nil => simp at hlt
                | cons a l ih =>
                  cases t with
                  | zero => rfl
                  | succ t => simpa [fget] using ih t (by simpa using hlt)
              have e2 : xs[t]? = some (act.tmps.getD t undef) := by
                have ht : t < xs.size := by omega
                simp [act, Array.getElem?_append, ht]
              exact hargs t _ _ e1 e2
            · have e1 : fget args t = .undef := by
                clear hargs h hlen act
                induction args generalizing t with
                | nil => exact fget_nil t
                | cons a l ih =>
                  cases t with
                  | zero => simp at hge
                  | succ t => simpa [fget] using ih t (by simpa using hge)
              rw [e1]
              exact ⟨.undef _, .of_noFlag trivial⟩
          heap := fun r b base blk hm hb => by
            refine hH r b base blk hm ?_
            simp only [hget] at hb
            split at hb
            · simp [lget] at hb
            · exact hb
          names := fun r h1 h2 => by
            obtain ⟨a, ha⟩ := Option.ne_none_iff_exists'.1 h1
            have := hv0.lev r a ha
            omega
          ext := .refl _ _ _
          own := fun l b h => .inl ⟨l, h⟩
          fresh := fun r b base h => .inl h
          low := fun r h => .inl h
          hN := rfl }
        have hsz : F.ntmps ≤ act.tmps.size := by
          simp [act]; omega
        have fin : ∀ {s : St}, finish s x.results = some (v, hp') → ∀ {G : Gh} {a : Act} {w : World}, FInv (hp.length + 1) G0 w0 act.tmps.size [] s.fr s.hp G a w →
            a.defers = [] ∧ ∃ z, (results F a.tmps).run P w = .ok z w ∧ ∃ G', Back hp.length G0 w0 hp' G' w v z := by
          intro s hs G a w hI
          obtain ⟨fr, shp⟩ := s
          cases shp with
          | nil => simp [finish] at hs
          | cons l hp2 =>
            have hl2 : hp2.length = hp.length := by have := hI.hN; simpa using this
            simp only [finish] at hs
            split at hs
            · rename_i us hus
              split at hs
              · rename_i v' hv'
                injection hs with hs
                injection hs with hs1 hs2
                subst hs1 hs2
                rw [hl2] at hv'
                obtain ⟨ys, h1, h2, h3⟩ := run_results hI hres hus
                exact ⟨hI.defers, _, h1, done hI hv0 h2 h3 hv'⟩
              · cases hs
            · cases hs
        refine ⟨by unfold bodied; rw [hF]; simp only [hc, Option.isSome_some, Bool.true_and]; exact hname, ?_⟩
        refine calls_of_wp hF hc ?_
        have hg1 : GlOk G0 w0 gl := hg
        split at h
        · rename_i s hev
          refine wp_code (evCall_ok hX hP hmix n) hP hg1 hv1 hmix hsz n x.body c (by rw [← hnt] at *; exact hbody) hsup hev hinit fun G' a' w' hI => ?_
          obtain ⟨h1, z, h2, G2, h3⟩ := fin h hI
          exact ⟨h1, z, h2, z, G2, rfl, h3.ext, h3.valid, h3.rel, h3.res, h3.heap, h3.mm, h3.own⟩
        · rename_i s hev
          refine wp_code (evCall_ok hX hP hmix n) hP hg1 hv1 hmix hsz n x.body c (by rw [← hnt] at *; exact hbody) hsup hev hinit fun G' a' w' hI => ?_
          obtain ⟨h1, z, h2, G2, h3⟩ := fin h hI
          exact ⟨h1, z, h2, z, G2, rfl, h3.ext, h3.valid, h3.rel, h3.res, h3.heap, h3.mm, h3.own⟩
        · cases h
      · cases hbody
    · cases h
end Go.Proofs.YtjbgceogkgpjpaaGreatDoor.Sx
namespace Go.Proofs.YtjbgceogkgpjpaaGreatDoor.Sx
open Go Go.RowKit
def AllOk (P : Program) (prims : List (Nat × Nat)) : List (Option XFn) → Nat → Prop
  | [], _ => True
  | none :: l, i => AllOk P prims l (i + 1)
  | some x :: l, i => ((∃ F, P.funcs[i]? = some F ∧ (chkFn P prims x F && supCode x.body) = true) ∨ ∃ id, spec x = some id ∧ HOne P i id) ∧ AllOk P prims l (i + 1)
theorem allOk_get {P : Program} {prims : List (Nat × Nat)} : ∀ {X : List (Option XFn)} {i : Nat}, AllOk P prims X i → ∀ (f : Nat) (x : XFn), X[f]? = some (some x) → (∃ F, P.funcs[i + f]? = some F ∧ chkFn P prims x F = true ∧ supCode x.body = true) ∨ ∃ id, spec x = some id ∧ HOne P (i + f) id
  | [], _, _, f, x, h => by simp at h
  | none :: l, i, hA, f, x, h => by
    cases f with
    | zero => simp at h
    | succ f =>
      have := allOk_get (i := i + 1) hA f x (by simpa using h)
      rw [show i + (f + 1) = i + 1 + f by omega]
      exact this
  | some y :: l, i, hA, f, x, h => by
    cases f with
    | zero =>
      simp at h
      subst h
      rcases hA.1 with ⟨F, h1, h2⟩ | h1
      · exact .inl ⟨F, h1, by simpa using h2⟩
      · exact .inr h1
    | succ f =>
      have := allOk_get (i := i + 1) hA.2 f x (by simpa using h)
      rw [show i + (f + 1) = i + 1 + f by omega]
      exact this
theorem checked_of {P : Program} {prims : List (Nat × Nat)} {X : List (Option XFn)} (h : AllOk P prims X 0) : Checked0 P prims X := fun f x hx => by
  have := allOk_get h f x hx
  rwa [Nat.zero_add] at this
def flatG : Gh where
  m := fun _ => none
  k := fun _ => .st
  o := fun _ => none
theorem flat_valid {w : World} : Valid flatG w 0 := ⟨fun _ _ h => (by cases h), fun _ _ _ _ h => (by cases h), fun _ _ h => (by cases h), fun _ _ _ h => (by cases h), fun _ _ h => (by cases h)⟩
theorem law_true_gl {P : Program} {prims : List (Nat × Nat)} {X : List (Option XFn)} (hX : Checked0 P prims X) {gl : Nat → List AV} (hP : PrimOk P gl prims) (hmix : P.follows .mixedOrders = true) {n f : Nat} {args : List AV} {hq : Heap}
    (he : evCall X gl n f args [] = some (.bool true, hq)) {xs : Array Value} {W : World} (hgl : GlOk flatG W gl) (hlen : args.length = xs.size)
    (hrel : ∀ (j : Nat) (u : AV) (z : Value), args[j]? = some u → xs[j]? = some z → RelV flatG W u z ∧ noFlag u) :
    Calls P f xs W fun e W' => e = .returned (.bool true) ∧ Below W.heap.size W W' := by
  refine Calls.mono (evCall_ok hX hP hmix n f args [] _ hq he flatG W xs flat_valid hlen (fun j u z hu hz => ⟨(hrel j u z hu hz).1, .of_noFlag (hrel j u z hu hz).2⟩) (fun r b base blk h => by cases h) hgl).2 ?_
  rintro e W' ⟨z, G', rfl, hE, _, hR, _⟩
  cases hR
  exact ⟨rfl, hE.os, hE.tape, hE.output, hE.size, fun k hk => (hE.st k hk rfl).2⟩
def PrimOne (P : Program) (gl : Nat → List AV) (f id : Nat) : Prop :=
  ∀ (as : List AV) (v : AV), primX id as = some v → ∀ (G : Gh) (w : World) (xs : Array Value), GlOk G w gl → as.length = xs.size → (∀ (j : Nat) (u : AV) (z : Value), as[j]? = some u → xs[j]? = some z → RelV G w u z) →
    PrimAns P f xs v G w
theorem prims_nil {P : Program} {gl : Nat → List AV} : PrimOk P gl [] := ⟨fun p hp => (by cases hp), fun p hp => (by cases hp)⟩
theorem primM_none {P : Program} {f id : Nat} (h : id ≠ 100) : PrimMOne P f id := by
  intro es es' he
  unfold primM at he
  split at he
  · exact absurd rfl h
  · cases he
theorem primY_no {id : Nat} {as : List AV} {v : AV} (h : primY id as = some v) : 1000 ≤ id := by
  unfold primY at h
  split at h
  · cases h
  · omega
theorem primX_none {P : Program} {gl : Nat → List AV} {f id : Nat} (h : 13 ≤ id) (h' : id < 1000 := by decide) : PrimOne P gl f id := by
  intro as v he
  unfold primX at he
  split at he <;> first | omega | (have := primY_no he; omega) | cases he
theorem prims_cons {P : Program} {gl : Nat → List AV} {f id : Nat} {l : List (Nat × Nat)} (h : PrimOne P gl f id) (hl : PrimOk P gl l) (hm : PrimMOne P f id := by first | exact primM_none (by decide) | assumption) : PrimOk P gl ((f, id) :: l) := by
  refine ⟨fun p hp => ?_, fun p hp => ?_⟩
  · rcases List.mem_cons.1 hp with rfl | hp
    · exact h
    · exact hl.1 p hp
  · rcases List.mem_cons.1 hp with rfl | hp
    · exact hm
    · exact hl.2 p hp
theorem tup2 {G : Gh} {w : World} {u v : AV} {a b : Value} (h1 : RelV G w u a) (h2 : RelV G w v b) : RelV G w (.tup [u, v]) (.tuple #[a, b]) := by
  refine .tup _ _ rfl fun j c x hc hx => ?_
  match j with
  | 0 => simp at hc hx; subst hc hx; exact h1
  | 1 => simp at hc hx; subst hc hx; exact h2
  | j + 2 => simp at hc
theorem two_vals {G : Gh} {w : World} {a b : AV} {xs : Array Value} (hl : [a, b].length = xs.size)
    (hr : ∀ (j : Nat) (u : AV) (z : Value), [a, b][j]? = some u → xs[j]? = some z → RelV G w u z) : ∃ x y, xs = #[x, y] ∧ RelV G w a x ∧ RelV G w b y := by
  obtain ⟨l⟩ := xs
  match l, hl with
  | [x, y], _ => exact ⟨x, y, rfl, hr 0 _ x rfl rfl, hr 1 _ y rfl rfl⟩
theorem indexByte_find (c : UInt8) : ∀ s : List UInt8, Lib.indexByte s c = (match s.findIdx? (fun b => b == c) with | some i => (i : Int) | none => -1)
  | [] => rfl
  | b :: l => by
    rw [Lib.indexByte, indexByte_find c l, List.findIdx?_cons]
    by_cases h : (b == c) = true
    · simp [h]
    · simp only [h, if_false]
      cases l.findIdx? (fun b => b == c) with
      | none => rfl
      | some i =>
        have hne : (((i : Nat) : Int) == -1) = false := by rw [beq_eq_false_iff_ne]; omega
        simp only [hne, Option.map_some, Bool.false_eq_true, if_false]
        exact (Int.natCast_succ i).symm
theorem prim_index {P : Program} {gl : Nat → List AV} {f : Nat} {fn : Func} (hf : P.funcs[f]? = some fn) (hname : (fn.name == "runtime.NumGoroutine") = false) (hb : fn.body.isNone = true) (hn : Extern.findNext fn = none) (he : Extern.find fn = some Extern.BytealgIndexByte.indexByte) : PrimOne P gl f 2 := by
  intro as v h G w xs hG hl hr
  unfold primX at h
  split at h <;> (try (cases h; done)) <;> (try (have := primY_no h; omega)) <;> rename_i e <;> (try (cases e; done))
  injection h with h
  subst h
  obtain ⟨x, y, rfl, h1, h2⟩ := two_vals hl hr
  cases h1; cases h2
  refine .inl ?_
  rw [run_callFunc_extern hf hname hb hn he, Lib.run_indexByteString, indexByte_find]
  exact ⟨_, rfl, .int _ _, trivial⟩
theorem prim_clone {P : Program} {gl : Nat → List AV} {f : Nat} (hb : bodied P f = true) (h : ∀ (s : ByteArray) (w : World), s.size ≤ 281474976710656 → Calls P f #[.string s] w fun e w' => e = .returned (.string s) ∧ Below w.heap.size w w') : PrimOne P gl f 4 := by
  intro as v h0 G w xs hG hl hr
  unfold primX at h0
  split at h0 <;> (try (cases h0; done)) <;> (try (have := primY_no h0; omega)) <;> rename_i e <;> (try (cases e; done))
  split at h0
  · rename_i hlen
    injection h0 with h0
    subst h0
    obtain ⟨l⟩ := xs
    match l, hl with
    | [x], _ =>
      have h1 := hr 0 _ x rfl rfl
      cases h1
      refine .inr ⟨hb, Calls.mono (h _ w ?_) ?_⟩
      · rw [Array.length_toList] at hlen
        exact hlen
      · rintro e w' ⟨rfl, hB⟩
        exact ⟨_, rfl, hB, fun _ _ => .str _, trivial⟩
  · cases h0
theorem decF_eq : ∀ (n u : Nat), u < 10 ^ n → 0 < n → decF n u = Lib.decDigits u
  | n + 1, u, h, _ => by
    rw [decF, Lib.decDigits]
    by_cases hu : u < 10
    · rw [if_pos hu, dif_pos hu]
    · rw [if_neg hu, dif_neg hu, decF_eq n (u / 10) (by rw [Nat.pow_succ] at h; omega) (by rcases n with _ | n; · simp at h; omega
                                                                                           · omega)]
theorem decI_eq (n : Int) (h : -9223372036854775808 ≤ n ∧ n ≤ 9223372036854775807) : decI n = Lib.itoa n := by
  unfold decI Lib.itoa
  split
  · rw [decF_eq 20 _ (by omega) (by omega)]
  · rw [decF_eq 20 _ (by omega) (by omega)]
theorem tab_of_gl {P : Program} {G : Gh} {w : World} {gl : Nat → List AV} {name : String} {g : Nat} {k : IntKind} {zs : List Int} (hG : GlOk G w gl) (hg : P.globalNamed name = some g) (hne : zs ≠ []) (hz : gl g = zs.map (AV.int k)) : Lib.TabIs P w name k zs := by
  rcases hG g with h | ⟨_, _, _, hM, cs, T, fz, hc, hs⟩
  · rw [hz] at h; simp at h; exact absurd h hne
  · unfold Lib.TabIs World.var?
    rw [hg, Option.bind_some, hc]
    simp only [Option.some.injEq]
    apply Array.ext'
    apply List.ext_getElem?
    intro i
    rw [hz] at hM hs
    by_cases hi : i < zs.length
    · obtain ⟨x, hx, hr⟩ := hM i (.int k zs[i]) (by simp [hi])
      cases hr
      simp [World.cell?, hc] at hx
      simp [hx, hi]
    · rw [List.getElem?_eq_none (by simp at hs ⊢; omega), List.getElem?_eq_none (by simp; omega)]
theorem below_grow {w : World} (k : Nat) (os : Array Obj) : Below w.heap.size w (Go.Sort.grow (w.drewN k) os) :=
  ⟨rfl, rfl, rfl, by simp [Go.Sort.grow, World.drewN], fun b hb => by simp only [Go.Sort.grow, World.drewN]; exact Array.getElem?_append_left hb⟩
theorem prim_fmt {P : Program} {gl : Nat → List AV} {f g : Nat} {nm : String} (hb : bodied P f = true) (hg : P.globalNamed nm = some g) (hz : gl g = Lib.pow10Tab.map (AV.int .u64))
    (h : ∀ (n : Int) (w : World), -9223372036854775808 ≤ n → n ≤ 9223372036854775807 → Lib.TabIs P w nm .u64 Lib.pow10Tab →
      Calls P f #[.int .i64 n, .int .i64 10] w fun e w' => e = .returned (.string ⟨(Lib.itoa n).toArray⟩) ∧ ∃ k os, w' = Go.Sort.grow (w.drewN k) os) : PrimOne P gl f 5 := by
  intro as v h0 G w xs hG hl hr
  unfold primX at h0
  split at h0 <;> (try (cases h0; done)) <;> (try (have := primY_no h0; omega)) <;> rename_i e <;> (try (cases e; done))
  split at h0
  · rename_i hn
    obtain ⟨rfl, h1, h2⟩ := hn
    injection h0 with h0
    subst h0
    obtain ⟨x, y, rfl, r1, r2⟩ := two_vals hl hr
    cases r1; cases r2
    refine .inr ⟨hb, Calls.mono (h _ w h1 h2 (tab_of_gl hG hg (by simp [Lib.pow10Tab]) hz)) ?_⟩
    rintro e w' ⟨rfl, k, os, rfl⟩
    refine ⟨_, rfl, below_grow k os, fun G' _ => ?_, trivial⟩
    rw [decI_eq _ ⟨h1, h2⟩]
    exact RelV.str ⟨(Lib.itoa _).toArray⟩
  · cases h0
theorem errvar_of_gl {G : Gh} {w : World} {gl : Nat → List AV} {g t : Nat} {u : AV} (hG : GlOk G w gl) (hz : gl g = [.ifc t u]) : ∃ ev, w.cell? ⟨g, 0, none⟩ = some ev ∧ (ev = .nilIface ∨ ∃ te pe, ev = .iface te pe) := by
  obtain ⟨x, hx, hr⟩ := hG.mem g 0 (.ifc t u) (by rw [hz]; rfl)
  cases hr
  exact ⟨_, hx, .inr ⟨_, _, rfl⟩⟩
theorem prim_parse2 {P : Program} {gl : Nat → List AV} {f g1 g2 t1 t2 E T U : Nat} {u1 u2 : AV} {id : Nat} (hid : id = 1000 + T) (hT : T < 500) (hb : bodied P f = true) (hz1 : gl g1 = [.ifc t1 u1]) (hz2 : gl g2 = [.ifc t2 u2])
    (ho : ∀ (s : ByteArray) (_ : s.size ≤ 9223372036854775806) (v : Int) (_ : Lib.parseIntB 64 s.data.toList = .ok v) (w : World), Calls P f #[.string s, .int .i64 10, .int .i64 64] w fun e w' => e = .returned (.tuple #[.int .i64 v, .nilIface]) ∧ (w' = w ∨ ∃ t, w' = Lib.bytesWorld w E t))
    (hs : ∀ (s : ByteArray) (_ : s.size ≤ 281474976710656) (_ : ∀ v, Lib.parseIntB 64 s.data.toList ≠ .ok v) (_ : Lib.parseIntB 64 s.data.toList ≠ .range) (ev : Value) (w : World) (_ : w.cell? ⟨g1, 0, none⟩ = some ev) (_ : ev = .nilIface ∨ ∃ te pe, ev = .iface te pe),
      Calls P f #[.string s, .int .i64 10, .int .i64 64] w fun e w' => ∃ N, e = .returned (.tuple #[.int .i64 (0), .iface T (.pointer (some ⟨N, 0, none⟩))]) ∧ w.heap.size ≤ N ∧ w'.heap[N]? = some (.cells #[.string ⟨#[80, 97, 114, 115, 101, 73, 110, 116]⟩, .string s, ev] U (0, 0)) ∧ Below w.heap.size w w')
    (hr' : ∀ (s : ByteArray) (_ : s.size ≤ 281474976710656) (_ : Lib.parseIntB 64 s.data.toList = .range) (ev : Value) (w : World) (_ : w.cell? ⟨g2, 0, none⟩ = some ev) (_ : ev = .nilIface ∨ ∃ te pe, ev = .iface te pe),
      Calls P f #[.string s, .int .i64 10, .int .i64 64] w fun e w' => ∃ N, e = .returned (.tuple #[.int .i64 (Lib.intSat 64 s.data.toList), .iface T (.pointer (some ⟨N, 0, none⟩))]) ∧ w.heap.size ≤ N ∧ w'.heap[N]? = some (.cells #[.string ⟨#[80, 97, 114, 115, 101, 73, 110, 116]⟩, .string s, ev] U (0, 0)) ∧ Below w.heap.size w w') : PrimOne P gl f id := by
  subst hid
  intro as v h0 G w xs hG hl hr
  have hz : primZ T as = some v := by
    unfold primX at h0
    split at h0 <;> first | omega | skip
    unfold primY at h0
    rw [if_neg (by omega), if_pos (by omega), Nat.add_sub_cancel_left] at h0
    exact h0
  clear h0
  unfold primZ at hz
  split at hz <;> (try (cases hz; done)) <;> (try (rw [if_neg (by omega)] at hz; cases hz; done))
  rename_i s b k
  split at hz
  · rename_i hn
    obtain ⟨rfl, rfl, hlen, _⟩ := hn
    injection hz with hz
    subst hz
    obtain ⟨l⟩ := xs
    match l, hl with
    | [x, y, z], _ =>
      have r1 := hr 0 _ x rfl rfl
      have r2 := hr 1 _ y rfl rfl
      have r3 := hr 2 _ z rfl rfl
      cases r2; cases r3
      obtain ⟨q, hq⟩ : ∃ q : ByteArray, x = .string q ∧ s = q.data.toList := by cases r1; exact ⟨_, rfl, rfl⟩
      obtain ⟨rfl, rfl⟩ := hq
      have hlen' : q.size ≤ 281474976710656 := by rw [Array.length_toList] at hlen; exact hlen
      have fin : ∀ (m : Int) (u : AV) (y : Value) (w' : World), parI q.data.toList = m → (∀ G' : Gh, RelV G' w' u y) → noFlag u → Below w.heap.size w w' →
          ∃ z, (Ending.returned (.tuple #[.int .i64 m, y])) = Ending.returned z ∧ Below w.heap.size w w' ∧ (∀ G' : Gh, (∀ b, w.heap.size ≤ b → b < w'.heap.size → G'.k b = .st) → RelV G' w' (.tup [.int .i64 (parI q.data.toList), u]) z) ∧ noFlag (.tup [.int .i64 (parI q.data.toList), u]) := by
        rintro m u y w' rfl hu hnf hB
        exact ⟨_, rfl, hB, fun G' _ => tup2 (.int _ _) (hu G'), by simp [noFlag, hnf]⟩
      cases hp : Lib.parseIntB 64 q.data.toList with
      | ok m =>
        refine .inr ⟨hb, Calls.mono (ho q (by omega) m hp w) ?_⟩
        rintro e w' ⟨rfl, hw⟩
        refine fin m .nilif _ w' (by simp only [parI, hp]) (fun _ => .nilif) trivial ?_
        rcases hw with rfl | ⟨t, rfl⟩
        · exact Below.refl _ _
        · exact Lib.bytesWorld_below _ _ _
      | range =>
        obtain ⟨ev, h1, h2⟩ := errvar_of_gl hG hz2
        refine .inr ⟨hb, Calls.mono (hr' q hlen' hp ev w h1 h2) ?_⟩
        rintro e w' ⟨N, rfl, _, _, hB⟩
        exact fin _ (.ifc T .undef) _ w' (by simp only [parI, hp]) (fun _ => .ifc _ _ _ (.undef _)) trivial hB
      | _ =>
        obtain ⟨ev, h1, h2⟩ := errvar_of_gl hG hz1
        refine .inr ⟨hb, Calls.mono (hs q hlen' (by simp [hp]) (by simp [hp]) ev w h1 h2) ?_⟩
        rintro e w' ⟨N, rfl, _, _, hB⟩
        exact fin 0 (.ifc T .undef) _ w' (by simp only [parI, hp]) (fun _ => .ifc _ _ _ (.undef _)) trivial hB
  · cases hz
end Go.Proofs.YtjbgceogkgpjpaaGreatDoor.Sx
