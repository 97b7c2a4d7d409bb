/- EV, part A: the evaluator without fuel: what a call answers, for enough fuel. -/
import Derived.Test.YtjbgceogkgpjpaaGreatDoorSxA
set_option linter.unusedVariables false
set_option linter.unusedSimpArgs false
namespace Go.Proofs.YtjbgceogkgpjpaaGreatDoor.Sx

def CLe (C D : CallT) : Prop := ∀ f as hp r, C f as hp = some r → D f as hp = some r
theorem CLe.refl (C : CallT) : CLe C C := fun _ _ _ _ h => h

theorem evOp_mono {C D : CallT} (h : CLe C D) {gl : Nat → List AV} {d : Nat} {x : XOp} {fr : List AV} {hp : Heap} {r : AV × List AV × Heap}
    (e : evOp C gl d x fr hp = some r) : evOp D gl d x fr hp = some r := by
  cases x <;> first | exact e | skip
  case callq f as =>
    simp only [evOp] at e ⊢
    split at e
    · rename_i hc
      rw [if_pos hc]
      split at e
      · rename_i v _ he
        rw [h _ _ _ _ he]
        exact e
      · cases e
    · cases e
  case callqd f as =>
    simp only [evOp] at e ⊢
    split at e
    · rename_i hc
      rw [if_pos hc]
      split at e
      · rename_i v _ he
        rw [h _ _ _ _ he]
        exact e
      · cases e
    · cases e
  case callw f as =>
    simp only [evOp] at e ⊢
    split at e
    · rename_i v _ he
      rw [h _ _ _ _ he]
      exact e
    · cases e
  case callm f s as =>
    simp only [evOp] at e ⊢
    split at e
    · rename_i v _ he
      rw [h _ _ _ _ he]
      exact e
    · cases e
  case calld g as =>
    simp only [evOp] at e ⊢
    split at e
    · rename_i hg
      split at e
      · rename_i v _ he
        rw [h _ _ _ _ he]
        exact e
      · cases e
    · cases e
  case calldq g as =>
    simp only [evOp] at e ⊢
    split at e
    · split at e
      · rename_i hc
        rw [if_pos hc]
        split at e
        · rename_i v _ he
          rw [h _ _ _ _ he]
          exact e
        · cases e
      · cases e
    · cases e
  case inv tab a as =>
    simp only [evOp] at e ⊢
    split at e
    · split at e
      · split at e
        · rename_i hc
          rw [if_pos hc]
          split at e
          · rename_i v _ he
            rw [h _ _ _ _ he]
            exact e
          · cases e
        · cases e
      · cases e
    · cases e

theorem evO_mono {C D : CallT} (h : CLe C D) {gl : Nat → List AV} {o : XO} {fr : List AV} {hp : Heap} {r : List AV × Heap}
    (e : evO C gl o fr hp = some r) : evO D gl o fr hp = some r := by
  have key : ∀ r', (match evOp C gl (o.dst.getD 0) o.op fr hp with
    | some (v, fr', hp') => some ((match o.dst with | some d => fput fr' d v | none => fr'), hp')
    | none => none) = some r' → (match evOp D gl (o.dst.getD 0) o.op fr hp with
    | some (v, fr', hp') => some ((match o.dst with | some d => fput fr' d v | none => fr'), hp')
    | none => none) = some r' := by
    intro r' he
    cases hx : evOp C gl (o.dst.getD 0) o.op fr hp with
    | none => rw [hx] at he; cases he
    | some q => rw [hx] at he; rw [evOp_mono h hx]; exact he
  unfold evO at e ⊢
  cases hg : o.guard with
  | none => rw [hg] at e; exact key r e
  | some g =>
    obtain ⟨t, b⟩ := g
    rw [hg] at e
    simp only at e ⊢
    split at e
    · rename_i c hc
      split at e
      · rename_i hcb
        rw [if_pos hcb]
        exact key r e
      · rename_i hcb
        rw [if_neg hcb]
        exact e
    · exact e
    · cases e

theorem evOps_mono {C D : CallT} (h : CLe C D) {gl : Nat → List AV} : ∀ {ops : List XO} {fr : List AV} {hp : Heap} {r : List AV × Heap},
    evOps C gl ops fr hp = some r → evOps D gl ops fr hp = some r
  | [], _, _, _, e => e
  | o :: rest, fr, hp, r, e => by
    simp only [evOps] at e ⊢
    split at e
    · rename_i fr' hp' he
      rw [evO_mono h he]
      exact evOps_mono h e
    · cases e

theorem evLoop_mono {f g : St → Option (XExit × St)} (h : ∀ s r, f s = some r → g s = some r) : ∀ {n m : Nat}, n ≤ m → ∀ {s : St} {r : XExit × St}, evLoop f n s = some r → evLoop g m s = some r
  | 0, _, _, _, _, e => by simp [evLoop] at e
  | n + 1, 0, hnm, _, _, _ => by omega
  | n + 1, m + 1, hnm, s, r, e => by
    simp only [evLoop] at e ⊢
    cases hf : f s with
    | none => rw [hf] at e; cases e
    | some q =>
      rw [hf] at e
      rw [h s q hf]
      obtain ⟨x, s'⟩ := q
      cases x <;> first | exact evLoop_mono h (by omega) e | exact e

theorem evJump_mono {f g : Option Nat → St → Option (XExit × St)} (h : ∀ o s r, f o s = some r → g o s = some r) : ∀ {n m : Nat} {o : Option Nat} {s : St} {r : XExit × St}, n ≤ m → evJump f n o s = some r → evJump g m o s = some r
  | 0, _, _, _, _, _, e => by simp [evJump] at e
  | n + 1, 0, _, _, _, hm, _ => by omega
  | n + 1, m + 1, o, s, r, hm, e => by
    simp only [evJump] at e ⊢
    cases hf : f o s with
    | none => rw [hf] at e; cases e
    | some q =>
      rw [hf] at e
      rw [h o s q hf]
      obtain ⟨x, s'⟩ := q
      cases x <;> first | exact evJump_mono h (by omega) e | exact e
def scF (C : CallT) (gl : Nat → List AV) (n : Nat) (c : XCode) (o : Option Nat) (s : St) : Option (XExit × St) := match o with | none => evCode C gl n c s | some l => evLab C gl n c l s
theorem evCode_scope (C : CallT) (gl : Nat → List AV) (n : Nat) (c : XCode) (s : St) : evCode C gl n (.scope c) s = evJump (scF C gl n c) n none s := by
  simp only [evCode]
  rfl
theorem evCode_mono2 {C D : CallT} (h : CLe C D) {gl : Nat → List AV} {n m : Nat} (hnm : n ≤ m) (c : XCode) :
    (∀ {s : St} {r : XExit × St}, evCode C gl n c s = some r → evCode D gl m c s = some r) ∧ (∀ {l : Nat} {s : St} {r : XExit × St}, evLab C gl n c l s = some r → evLab D gl m c l s = some r) := by
  induction c with
  | skip => exact ⟨fun e => e, fun e => by simp [evLab] at e⟩
  | region b ops aps =>
    refine ⟨?_, fun e => by simp [evLab] at e⟩
    intro s r e
    simp only [evCode] at e ⊢
    split at e
    · rename_i fr hp he
      rw [evOps_mono h he]
      exact e
    · cases e
  | seq a b iha ihb =>
    constructor
    · intro s r e
      simp only [evCode] at e ⊢
      cases ha : evCode C gl n a s with
      | none => rw [ha] at e; cases e
      | some q =>
        rw [ha] at e
        rw [iha.1 ha]
        obtain ⟨x, s'⟩ := q
        cases x <;> first | exact ihb.1 e | exact e
    · intro l s r e
      simp only [evLab] at e ⊢
      split at e
      · rename_i hl
        rw [if_pos hl]
        cases ha : evLab C gl n a l s with
        | none => rw [ha] at e; cases e
        | some q =>
          rw [ha] at e
          rw [iha.2 ha]
          obtain ⟨x, s'⟩ := q
          cases x <;> first | exact ihb.1 e | exact e
      · rename_i hl
        rw [if_neg hl]
        exact ihb.2 e
  | cond c a b iha ihb =>
    refine ⟨?_, fun e => by simp [evLab] at e⟩
    intro s r e
    simp only [evCode] at e ⊢
    split at e
    · exact iha.1 e
    · exact ihb.1 e
    · cases e
  | block id c ih =>
    refine ⟨?_, fun e => by simp [evLab] at e⟩
    intro s r e
    simp only [evCode] at e ⊢
    cases ha : evCode C gl n c s with
    | none => rw [ha] at e; cases e
    | some q => rw [ha] at e; rw [ih.1 ha]; exact e
  | loop c ih =>
    refine ⟨?_, fun e => by simp [evLab] at e⟩
    intro s r e
    simp only [evCode] at e ⊢
    exact evLoop_mono (fun s r hh => ih.1 hh) hnm e
  | exit id => exact ⟨fun e => e, fun e => by simp [evLab] at e⟩
  | scope c ih =>
    refine ⟨?_, fun e => by simp [evLab] at e⟩
    intro s r e
    rw [evCode_scope] at e ⊢
    refine evJump_mono (fun o s r hh => ?_) hnm e
    cases o with
    | none => exact ih.1 hh
    | some l => exact ih.2 hh
  | label l => exact ⟨fun e => e, fun e => e⟩
  | goto l => exact ⟨fun e => e, fun e => by simp [evLab] at e⟩
  | ret => exact ⟨fun e => e, fun e => by simp [evLab] at e⟩
theorem evCode_mono {C D : CallT} (h : CLe C D) {gl : Nat → List AV} {n m : Nat} (hnm : n ≤ m) {c : XCode} {s : St} {r : XExit × St} (e : evCode C gl n c s = some r) : evCode D gl m c s = some r :=
  (evCode_mono2 h hnm c).1 e

theorem evCall_mono {X : List (Option XFn)} {gl : Nat → List AV} : ∀ {n m : Nat}, n ≤ m → CLe (evCall X gl n) (evCall X gl m)
  | 0, _, _ => fun _ _ _ _ e => by simp [evCall] at e
  | n + 1, 0, h => by omega
  | n + 1, m + 1, h => fun f as hp r e => by
    have hC : CLe (evCall X gl n) (evCall X gl m) := evCall_mono (by omega)
    simp only [evCall] at e ⊢
    split at e
    · rename_i fn hx
      cases hs : spec fn with
      | some id => rw [hs] at e; exact e
      | none =>
        rw [hs] at e
        simp only at e ⊢
        cases hc : evCode (evCall X gl n) gl n fn.body ⟨as, [] :: hp⟩ with
        | none => rw [hc] at e; cases e
        | some q => rw [hc] at e; rw [evCode_mono hC (by omega) hc]; exact e
    · cases e

/-! ### no fuel -/
open Classical in noncomputable def lim {α : Type} (F : Nat → Option α) : Option α := if h : ∃ r, ∃ n, F n = some r then some h.choose else none
theorem lim_iff {α : Type} {F : Nat → Option α} (hm : ∀ n m r, n ≤ m → F n = some r → F m = some r) {r : α} : lim F = some r ↔ ∃ n, F n = some r := by
  unfold lim
  constructor
  · intro h
    split at h
    · rename_i hh
      injection h with h
      subst h
      exact hh.choose_spec
    · cases h
  · rintro ⟨n, hn⟩
    have hh : ∃ r, ∃ n, F n = some r := ⟨r, n, hn⟩
    rw [dif_pos hh]
    obtain ⟨m, hm'⟩ := hh.choose_spec
    have h1 := hm n (max n m) r (Nat.le_max_left _ _) hn
    have h2 := hm m (max n m) _ (Nat.le_max_right _ _) hm'
    rw [h1] at h2
    exact h2.symm

noncomputable def CL (X : List (Option XFn)) (gl : Nat → List AV) : CallT := fun f as hp => lim fun n => evCall X gl n f as hp
theorem CL_iff {X : List (Option XFn)} {gl : Nat → List AV} {f : Nat} {as : List AV} {hp : Heap} {r : AV × Heap} :
    CL X gl f as hp = some r ↔ ∃ n, evCall X gl n f as hp = some r := lim_iff fun _ _ _ h e => evCall_mono h _ _ _ _ e
theorem le_CL (X : List (Option XFn)) (gl : Nat → List AV) (n : Nat) : CLe (evCall X gl n) (CL X gl) := fun _ _ _ _ e => CL_iff.2 ⟨n, e⟩

theorem evOp_cont {X : List (Option XFn)} {gl : Nat → List AV} {d : Nat} {x : XOp} {fr : List AV} {hp : Heap} {r : AV × List AV × Heap}
    (e : evOp (CL X gl) gl d x fr hp = some r) : ∃ n, evOp (evCall X gl n) gl d x fr hp = some r := by
  cases x <;> first | exact ⟨0, e⟩ | skip
  case callq f as =>
    simp only [evOp] at e ⊢
    split at e
    · rename_i hc
      split at e
      · rename_i v _ he
        obtain ⟨n, hn⟩ := CL_iff.1 he
        refine ⟨n, ?_⟩
        rw [if_pos hc, hn]
        exact e
      · cases e
    · cases e
  case callqd f as =>
    simp only [evOp] at e ⊢
    split at e
    · rename_i hc
      split at e
      · rename_i v _ he
        obtain ⟨n, hn⟩ := CL_iff.1 he
        refine ⟨n, ?_⟩
        rw [if_pos hc, hn]
        exact e
      · cases e
    · cases e
  case callw f as =>
    simp only [evOp] at e ⊢
    split at e
    · rename_i v _ he
      obtain ⟨n, hn⟩ := CL_iff.1 he
      refine ⟨n, ?_⟩
      rw [hn]
      exact e
    · cases e
  case callm f s as =>
    simp only [evOp] at e ⊢
    split at e
    · rename_i v _ he
      obtain ⟨n, hn⟩ := CL_iff.1 he
      refine ⟨n, ?_⟩
      rw [hn]
      exact e
    · cases e
  case calld g as =>
    simp only [evOp] at e ⊢
    split at e
    · rename_i hg
      split at e
      · rename_i v _ he
        obtain ⟨n, hn⟩ := CL_iff.1 he
        refine ⟨n, ?_⟩
        rw [hn]
        exact e
      · cases e
    · cases e
  case calldq g as =>
    simp only [evOp] at e ⊢
    split at e
    · split at e
      · rename_i hc
        split at e
        · rename_i v _ he
          obtain ⟨n, hn⟩ := CL_iff.1 he
          refine ⟨n, ?_⟩
          rw [if_pos hc, hn]
          exact e
        · cases e
      · cases e
    · cases e
  case inv tab a as =>
    simp only [evOp] at e ⊢
    split at e
    · rename_i hv
      split at e
      · rename_i hl
        split at e
        · rename_i hc
          split at e
          · rename_i v _ he
            obtain ⟨n, hn⟩ := CL_iff.1 he
            refine ⟨n, ?_⟩
            rw [if_pos hc, hn]
            exact e
          · cases e
        · cases e
      · cases e
    · cases e

theorem evO_cont {X : List (Option XFn)} {gl : Nat → List AV} {o : XO} {fr : List AV} {hp : Heap} {r : List AV × Heap}
    (e : evO (CL X gl) gl o fr hp = some r) : ∃ n, evO (evCall X gl n) gl o fr hp = some r := by
  have key : ∀ r', (match evOp (CL X gl) gl (o.dst.getD 0) o.op fr hp with
    | some (v, fr', hp') => some ((match o.dst with | some d => fput fr' d v | none => fr'), hp')
    | none => none) = some r' → ∃ n, (match evOp (evCall X gl n) gl (o.dst.getD 0) o.op fr hp with
    | some (v, fr', hp') => some ((match o.dst with | some d => fput fr' d v | none => fr'), hp')
    | none => none) = some r' := by
    intro r' he
    cases hx : evOp (CL X gl) gl (o.dst.getD 0) o.op fr hp with
    | none => rw [hx] at he; cases he
    | some q => rw [hx] at he; obtain ⟨n, hn⟩ := evOp_cont hx; exact ⟨n, by rw [hn]; exact he⟩
  unfold evO at e ⊢
  cases hg : o.guard with
  | none => rw [hg] at e; exact key r e
  | some g =>
    obtain ⟨t, b⟩ := g
    rw [hg] at e
    simp only at e ⊢
    split at e
    · rename_i c hc
      split at e
      · rename_i hcb
        simp only [if_pos hcb]
        exact key r e
      · rename_i hcb
        simp only [if_neg hcb]
        exact ⟨0, e⟩
    · exact ⟨0, e⟩
    · cases e

theorem evOps_cont {X : List (Option XFn)} {gl : Nat → List AV} : ∀ {ops : List XO} {fr : List AV} {hp : Heap} {r : List AV × Heap},
    evOps (CL X gl) gl ops fr hp = some r → ∃ n, evOps (evCall X gl n) gl ops fr hp = some r
  | [], _, _, _, e => ⟨0, e⟩
  | o :: rest, fr, hp, r, e => by
    simp only [evOps] at e ⊢
    split at e
    · rename_i fr' hp' he
      obtain ⟨n, hn⟩ := evO_cont he
      obtain ⟨m, hm⟩ := evOps_cont e
      refine ⟨max n m, ?_⟩
      rw [evO_mono (evCall_mono (Nat.le_max_left n m)) hn]
      exact evOps_mono (evCall_mono (Nat.le_max_right n m)) hm
    · cases e

theorem evCode_cont2 {X : List (Option XFn)} {gl : Nat → List AV} {k : Nat} (c : XCode) :
    (∀ {s : St} {r : XExit × St}, evCode (CL X gl) gl k c s = some r → ∃ n, evCode (evCall X gl n) gl n c s = some r) ∧ (∀ {l : Nat} {s : St} {r : XExit × St}, evLab (CL X gl) gl k c l s = some r → ∃ n, evLab (evCall X gl n) gl n c l s = some r) := by
  have up : ∀ {n m : Nat} {c : XCode} {s : St} {r : XExit × St}, n ≤ m → evCode (evCall X gl n) gl n c s = some r → evCode (evCall X gl m) gl m c s = some r :=
    fun h e => evCode_mono (evCall_mono h) h e
  have upl : ∀ {n m : Nat} {c : XCode} {l : Nat} {s : St} {r : XExit × St}, n ≤ m → evLab (evCall X gl n) gl n c l s = some r → evLab (evCall X gl m) gl m c l s = some r :=
    fun h e => (evCode_mono2 (evCall_mono h) h _).2 e
  induction c with
  | skip => exact ⟨fun e => ⟨0, e⟩, fun e => by simp [evLab] at e⟩
  | region b ops aps =>
    refine ⟨?_, fun e => by simp [evLab] at e⟩
    intro s r e
    simp only [evCode] at e ⊢
    split at e
    · rename_i fr hp he
      obtain ⟨n, hn⟩ := evOps_cont he
      exact ⟨n, by rw [hn]; exact e⟩
    · cases e
  | seq a b iha ihb =>
    constructor
    · intro s r e
      simp only [evCode] at e
      cases ha : evCode (CL X gl) gl k a s with
      | none => rw [ha] at e; cases e
      | some q =>
        rw [ha] at e
        obtain ⟨n, hn⟩ := iha.1 ha
        obtain ⟨x, s'⟩ := q
        cases x with
        | normal =>
          obtain ⟨m, hm⟩ := ihb.1 e
          refine ⟨max n m, ?_⟩
          simp only [evCode]
          rw [up (Nat.le_max_left n m) hn]
          exact up (Nat.le_max_right n m) hm
        | exit i => exact ⟨n, by simp only [evCode]; rw [hn]; exact e⟩
        | goto l => exact ⟨n, by simp only [evCode]; rw [hn]; exact e⟩
        | ret => exact ⟨n, by simp only [evCode]; rw [hn]; exact e⟩
    · intro l s r e
      simp only [evLab] at e
      split at e
      · rename_i hl
        cases ha : evLab (CL X gl) gl k a l s with
        | none => rw [ha] at e; cases e
        | some q =>
          rw [ha] at e
          obtain ⟨n, hn⟩ := iha.2 ha
          obtain ⟨x, s'⟩ := q
          cases x with
          | normal =>
            obtain ⟨m, hm⟩ := ihb.1 e
            refine ⟨max n m, ?_⟩
            simp only [evLab]
            rw [if_pos hl, upl (Nat.le_max_left n m) hn]
            exact up (Nat.le_max_right n m) hm
          | exit i => exact ⟨n, by simp only [evLab]; rw [if_pos hl, hn]; exact e⟩
          | goto l' => exact ⟨n, by simp only [evLab]; rw [if_pos hl, hn]; exact e⟩
          | ret => exact ⟨n, by simp only [evLab]; rw [if_pos hl, hn]; exact e⟩
      · rename_i hl
        obtain ⟨n, hn⟩ := ihb.2 e
        exact ⟨n, by simp only [evLab]; rw [if_neg hl]; exact hn⟩
  | cond c a b iha ihb =>
    refine ⟨?_, fun e => by simp [evLab] at e⟩
    intro s r e
    simp only [evCode] at e ⊢
    split at e
    · exact iha.1 e
    · exact ihb.1 e
    · cases e
  | block id c ih =>
    refine ⟨?_, fun e => by simp [evLab] at e⟩
    intro s r e
    simp only [evCode] at e ⊢
    cases ha : evCode (CL X gl) gl k c s with
    | none => rw [ha] at e; cases e
    | some q => rw [ha] at e; obtain ⟨n, hn⟩ := ih.1 ha; exact ⟨n, by rw [hn]; exact e⟩
  | loop c ih =>
    refine ⟨?_, fun e => by simp [evLab] at e⟩
    intro s r e
    have : ∀ (j : Nat) (s : St), evLoop (fun s => evCode (CL X gl) gl k c s) j s = some r → ∃ n, evLoop (fun s => evCode (evCall X gl n) gl n c s) n s = some r := by
      intro j
      induction j with
      | zero => intro s e; simp [evLoop] at e
      | succ j ihj =>
        intro s e
        simp only [evLoop] at e
        cases hf : evCode (CL X gl) gl k c s with
        | none => rw [hf] at e; cases e
        | some q =>
          rw [hf] at e
          obtain ⟨n, hn⟩ := ih.1 hf
          obtain ⟨x, s'⟩ := q
          have done : ∀ y, y = (x, s') → x ≠ .normal → some y = some r → ∃ n, evLoop (fun s => evCode (evCall X gl n) gl n c s) n s = some r := by
            intro y hy hx he
            refine ⟨n + 1, ?_⟩
            simp only [evLoop]
            rw [up (Nat.le_succ n) hn]
            subst hy
            cases x <;> first | exact absurd rfl hx | exact he
          cases x with
          | normal =>
            obtain ⟨m, hm⟩ := ihj s' e
            refine ⟨max n m + 1, ?_⟩
            simp only [evLoop]
            rw [up (Nat.le_trans (Nat.le_max_left n m) (Nat.le_succ _)) hn]
            exact evLoop_mono (fun s r hh => up (Nat.le_trans (Nat.le_max_right n m) (Nat.le_succ _)) hh) (Nat.le_max_right n m) hm
          | exit i => exact done _ rfl (by simp) e
          | goto l => exact done _ rfl (by simp) e
          | ret => exact done _ rfl (by simp) e
    simp only [evCode] at e ⊢
    exact this k s e
  | exit id => exact ⟨fun e => ⟨0, e⟩, fun e => by simp [evLab] at e⟩
  | scope c ih =>
    refine ⟨?_, fun e => by simp [evLab] at e⟩
    intro s r e
    have hup : ∀ (o : Option Nat) (s : St) (r : XExit × St), scF (CL X gl) gl k c o s = some r → ∃ n, scF (evCall X gl n) gl n c o s = some r := by
      intro o s r h
      cases o with
      | none => exact ih.1 h
      | some l => exact ih.2 h
    have lift : ∀ {n m : Nat}, n ≤ m → ∀ (o : Option Nat) (s : St) (r : XExit × St), scF (evCall X gl n) gl n c o s = some r → scF (evCall X gl m) gl m c o s = some r := by
      intro n m hnm o s r h
      cases o with
      | none => exact up hnm h
      | some l => exact upl hnm h
    have : ∀ (j : Nat) (o : Option Nat) (s : St), evJump (scF (CL X gl) gl k c) j o s = some r → ∃ n, evJump (scF (evCall X gl n) gl n c) n o s = some r := by
      intro j
      induction j with
      | zero => intro o s e; simp [evJump] at e
      | succ j ihj =>
        intro o s e
        simp only [evJump] at e
        split at e
        · rename_i l s' hf
          obtain ⟨n, hn⟩ := hup _ _ _ hf
          obtain ⟨m, hm⟩ := ihj _ _ e
          refine ⟨max n m + 1, ?_⟩
          simp only [evJump]
          rw [lift (Nat.le_trans (Nat.le_max_left n m) (Nat.le_succ _)) _ _ _ hn]
          exact evJump_mono (lift (Nat.le_trans (Nat.le_max_right n m) (Nat.le_succ _))) (Nat.le_max_right n m) hm
        · rename_i hne
          obtain ⟨n, hn⟩ := hup _ _ _ e
          refine ⟨n + 1, ?_⟩
          simp only [evJump]
          rw [lift (Nat.le_succ n) _ _ _ hn]
          obtain ⟨x, s'⟩ := r
          cases x with
          | goto l => exact absurd e (hne _ _)
          | normal => rfl
          | exit i => rfl
          | ret => rfl
    rw [evCode_scope] at e
    obtain ⟨n, hn⟩ := this k none s e
    exact ⟨n, by rw [evCode_scope]; exact hn⟩
  | label l => exact ⟨fun e => ⟨0, e⟩, fun e => ⟨0, e⟩⟩
  | goto l => exact ⟨fun e => ⟨0, e⟩, fun e => by simp [evLab] at e⟩
  | ret => exact ⟨fun e => ⟨0, e⟩, fun e => by simp [evLab] at e⟩
theorem evCode_cont {X : List (Option XFn)} {gl : Nat → List AV} {k : Nat} {c : XCode} {s : St} {r : XExit × St} (e : evCode (CL X gl) gl k c s = some r) : ∃ n, evCode (evCall X gl n) gl n c s = some r :=
  (evCode_cont2 c).1 e

noncomputable def LC (X : List (Option XFn)) (gl : Nat → List AV) (c : XCode) (s : St) : Option (XExit × St) := lim fun n => evCode (CL X gl) gl n c s
theorem LC_iff {X : List (Option XFn)} {gl : Nat → List AV} {c : XCode} {s : St} {r : XExit × St} : LC X gl c s = some r ↔ ∃ n, evCode (CL X gl) gl n c s = some r :=
  lim_iff fun _ _ _ h e => evCode_mono (CLe.refl _) h e
theorem LC_lift {X : List (Option XFn)} {gl : Nat → List AV} {c : XCode} {s : St} {n m : Nat} {r : XExit × St} (h : n ≤ m) (e : evCode (CL X gl) gl n c s = some r) : evCode (CL X gl) gl m c s = some r :=
  evCode_mono (CLe.refl _) h e
theorem opt_ext {α : Type} {a b : Option α} (h : ∀ r, a = some r ↔ b = some r) : a = b := by
  cases a with
  | none => cases b with
    | none => rfl
    | some y => exact ((h y).2 rfl)
  | some x => exact ((h x).1 rfl).symm

def seqK (r : Option (XExit × St)) (k : St → Option (XExit × St)) : Option (XExit × St) :=
  match r with
  | some (.normal, s) => k s
  | r => r
def blockK (id : Nat) (r : Option (XExit × St)) : Option (XExit × St) :=
  match r with
  | some (.exit i, s) => if i = id then some (.normal, s) else some (.exit i, s)
  | r => r
def regK (aps : List (Nat × Nat)) (r : Option (List AV × Heap)) : Option (XExit × St) :=
  match r with
  | some (fr, hp) => if apsOk fr aps = true then some (.normal, ⟨fr, hp⟩) else none
  | none => none
def condK (v : AV) (a b : Option (XExit × St)) : Option (XExit × St) :=
  match v with
  | .bool true => a
  | .bool false => b
  | _ => none

section
variable {X : List (Option XFn)} {gl : Nat → List AV}
theorem LC_skip (s : St) : LC X gl .skip s = some (.normal, s) := LC_iff.2 ⟨0, rfl⟩
theorem LC_ret (s : St) : LC X gl .ret s = some (.ret, s) := LC_iff.2 ⟨0, rfl⟩
theorem LC_exit (id : Nat) (s : St) : LC X gl (.exit id) s = some (.exit id, s) := LC_iff.2 ⟨0, rfl⟩
theorem LC_region (b : Bool) (ops : List XO) (aps : List (Nat × Nat)) (s : St) : LC X gl (.region b ops aps) s = regK aps (evOps (CL X gl) gl ops s.fr s.hp) := by
  apply opt_ext
  intro r
  rw [LC_iff]
  exact ⟨fun ⟨n, h⟩ => h, fun h => ⟨0, h⟩⟩
theorem LC_seq (a b : XCode) (s : St) : LC X gl (.seq a b) s = seqK (LC X gl a s) (LC X gl b) := by
  apply opt_ext
  intro r
  rw [LC_iff]
  constructor
  · rintro ⟨n, h⟩
    simp only [evCode] at h
    cases ha : evCode (CL X gl) gl n a s with
    | none => rw [ha] at h; cases h
    | some q =>
      rw [ha] at h
      rw [LC_iff.2 ⟨n, ha⟩]
      obtain ⟨x, s'⟩ := q
      cases x <;> first | exact LC_iff.2 ⟨n, h⟩ | exact h
  · intro h
    cases ha : LC X gl a s with
    | none => rw [ha] at h; cases h
    | some q =>
      rw [ha] at h
      obtain ⟨n, hn⟩ := LC_iff.1 ha
      obtain ⟨x, s'⟩ := q
      cases x with
      | normal =>
        obtain ⟨m, hm⟩ := LC_iff.1 (show LC X gl b s' = some r from h)
        refine ⟨max n m, ?_⟩
        simp only [evCode]
        rw [LC_lift (Nat.le_max_left n m) hn]
        exact LC_lift (Nat.le_max_right n m) hm
      | exit i => exact ⟨n, by simp only [evCode]; rw [hn]; exact h⟩
      | goto l => exact ⟨n, by simp only [evCode]; rw [hn]; exact h⟩
      | ret => exact ⟨n, by simp only [evCode]; rw [hn]; exact h⟩
theorem LC_cond (c : XArg) (a b : XCode) (s : St) : LC X gl (.cond c a b) s = condK (earg s.fr c) (LC X gl a s) (LC X gl b s) := by
  apply opt_ext
  intro r
  rw [LC_iff]
  simp only [evCode]
  generalize earg s.fr c = v
  unfold condK
  cases v <;> first | exact ⟨fun ⟨_, h⟩ => (by cases h), fun h => (by cases h)⟩ | skip
  rename_i bb
  cases bb
  · exact LC_iff.symm
  · exact LC_iff.symm
theorem LC_block (id : Nat) (c : XCode) (s : St) : LC X gl (.block id c) s = blockK id (LC X gl c s) := by
  apply opt_ext
  intro r
  rw [LC_iff]
  constructor
  · rintro ⟨n, h⟩
    simp only [evCode] at h
    cases ha : evCode (CL X gl) gl n c s with
    | none => rw [ha] at h; cases h
    | some q => rw [ha] at h; rw [LC_iff.2 ⟨n, ha⟩]; exact h
  · intro h
    cases ha : LC X gl c s with
    | none => rw [ha] at h; cases h
    | some q =>
      rw [ha] at h
      obtain ⟨n, hn⟩ := LC_iff.1 ha
      exact ⟨n, by simp only [evCode]; rw [hn]; exact h⟩
theorem LC_loop (c : XCode) (s : St) : LC X gl (.loop c) s = seqK (LC X gl c s) (LC X gl (.loop c)) := by
  apply opt_ext
  intro r
  rw [LC_iff]
  constructor
  · rintro ⟨n, h⟩
    simp only [evCode] at h
    cases n with
    | zero => simp [evLoop] at h
    | succ n =>
      simp only [evLoop] at h
      cases ha : evCode (CL X gl) gl (n + 1) c s with
      | none => rw [ha] at h; cases h
      | some q =>
        rw [ha] at h
        rw [LC_iff.2 ⟨n + 1, ha⟩]
        obtain ⟨x, s'⟩ := q
        cases x with
        | normal =>
          refine LC_iff.2 ⟨n + 1, ?_⟩
          simp only [evCode]
          exact evLoop_mono (fun _ _ h => h) (Nat.le_succ n) h
        | exit i => exact h
        | goto l => exact h
        | ret => exact h
  · intro h
    cases ha : LC X gl c s with
    | none => rw [ha] at h; cases h
    | some q =>
      rw [ha] at h
      obtain ⟨n, hn⟩ := LC_iff.1 ha
      obtain ⟨x, s'⟩ := q
      have done : x ≠ .normal → some (x, s') = some r → ∃ n, evCode (CL X gl) gl n (.loop c) s = some r := by
        intro hx he
        refine ⟨n + 1, ?_⟩
        simp only [evCode, evLoop]
        rw [LC_lift (Nat.le_succ n) hn]
        cases x <;> first | exact absurd rfl hx | exact he
      cases x with
      | normal =>
        obtain ⟨m, hm⟩ := LC_iff.1 (show LC X gl (.loop c) s' = some r from h)
        refine ⟨max n m + 1, ?_⟩
        simp only [evCode, evLoop] at hm ⊢
        rw [LC_lift (Nat.le_trans (Nat.le_max_left n m) (Nat.le_succ _)) hn]
        exact evLoop_mono (fun s r hh => LC_lift (Nat.le_trans (Nat.le_max_right n m) (Nat.le_succ _)) hh) (Nat.le_max_right n m) hm
      | exit i => exact done (by simp) h
      | goto l => exact done (by simp) h
      | ret => exact done (by simp) h
def finK (rs : List XRes) (r : Option (XExit × St)) : Option (AV × Heap) :=
  match r with
  | some (.normal, s) => finish s rs
  | some (.ret, s) => finish s rs
  | _ => none
theorem CL_spec {f : Nat} {fn : XFn} (id : Nat) (hx : X[f]? = some (some fn)) (hs : spec fn = some id) (as : List AV) (hp : Heap) : CL X gl f as hp = hprimX id as hp := by
  apply opt_ext
  intro r
  rw [CL_iff]
  constructor
  · rintro ⟨n, h⟩
    cases n with
    | zero => simp [evCall] at h
    | succ n => simp only [evCall, hx, hs] at h; exact h
  · intro h
    refine ⟨1, ?_⟩
    simp only [evCall, hx, hs]
    exact h
theorem CL_eq {f : Nat} {fn : XFn} (hx : X[f]? = some (some fn)) (as : List AV) (hp : Heap) (hs : spec fn = none := by rfl) : CL X gl f as hp = finK fn.results (LC X gl fn.body ⟨as, [] :: hp⟩) := by
  apply opt_ext
  intro r
  rw [CL_iff]
  constructor
  · rintro ⟨n, h⟩
    cases n with
    | zero => simp [evCall] at h
    | succ n =>
      simp only [evCall, hx, hs] at h
      cases ha : evCode (evCall X gl n) gl n fn.body ⟨as, [] :: hp⟩ with
      | none => rw [ha] at h; cases h
      | some q =>
        rw [ha] at h
        rw [LC_iff.2 ⟨n, evCode_mono (le_CL X gl n) (Nat.le_refl n) ha⟩]
        obtain ⟨x, s⟩ := q
        cases x <;> exact h
  · intro h
    cases ha : LC X gl fn.body ⟨as, [] :: hp⟩ with
    | none => rw [ha] at h; cases h
    | some q =>
      rw [ha] at h
      obtain ⟨k, hk⟩ := LC_iff.1 ha
      obtain ⟨n, hn⟩ := evCode_cont hk
      refine ⟨n + 1, ?_⟩
      simp only [evCall, hx, hs]
      rw [hn]
      obtain ⟨x, s⟩ := q
      cases x <;> exact h
end
end Go.Proofs.YtjbgceogkgpjpaaGreatDoor.Sx
namespace Go.Proofs.YtjbgceogkgpjpaaGreatDoor.Sx
mutual
def avEq : AV → AV → Bool
  | .undef, .undef => true
  | .bool a, .bool b => a == b
  | .int k a, .int l b => decide (k = l) && a == b
  | .str a, .str b => a == b
  | .nilptr, .nilptr => true
  | .nilsl, .nilsl => true
  | .nilif, .nilif => true
  | .nilfn, .nilfn => true
  | .gptr a, .gptr b => a == b
  | .elp a, .elp b => avEqL a b
  | .lst o z es, .lst p y fs => decide (o = p) && z == y && avEqLL es fs
  | .agg a, .agg b => avEqL a b
  | .tup a, .tup b => avEqL a b
  | .fn f a b, .fn g c d => f == g && avEqL a c && avEqL b d
  | .ifc t a, .ifc u b => t == u && avEq a b
  | _, _ => false
def avEqL : List AV → List AV → Bool
  | [], [] => true
  | a :: l, b :: m => avEq a b && avEqL l m
  | _, _ => false
def avEqLL : List (List AV) → List (List AV) → Bool
  | [], [] => true
  | a :: l, b :: m => avEqL a b && avEqLL l m
  | _, _ => false
end
mutual
theorem avEq_sound : ∀ (a b : AV), avEq a b = true → a = b
  | .undef, b, h => by cases b <;> simp [avEq] at h; rfl
  | .bool x, b, h => by cases b <;> simp [avEq] at h; rw [h]
  | .int k x, b, h => by cases b <;> simp [avEq] at h; rw [h.1, h.2]
  | .str x, b, h => by cases b <;> simp [avEq] at h; rw [h]
  | .opq x, b, h => by cases b <;> simp [avEq] at h
  | .nilptr, b, h => by cases b <;> simp [avEq] at h; rfl
  | .nilsl, b, h => by cases b <;> simp [avEq] at h; rfl
  | .nilif, b, h => by cases b <;> simp [avEq] at h; rfl
  | .nilfn, b, h => by cases b <;> simp [avEq] at h; rfl
  | .ptr r o, b, h => by cases b <;> simp [avEq] at h
  | .elp x, b, h => by
    cases b <;> simp [avEq] at h
    rw [avEqL_sound _ _ h]
  | .gptr x, b, h => by cases b <;> simp [avEq] at h; rw [h]
  | .sl r z o n, b, h => by cases b <;> simp [avEq] at h
  | .lst o z es, b, h => by
    cases b <;> simp [avEq] at h
    rw [h.1.1, h.1.2, avEqLL_sound _ _ h.2]
  | .agg x, b, h => by
    cases b <;> simp [avEq] at h
    rw [avEqL_sound _ _ h]
  | .tup x, b, h => by
    cases b <;> simp [avEq] at h
    rw [avEqL_sound _ _ h]
  | .fn f x y, b, h => by
    cases b <;> simp [avEq] at h
    rw [h.1.1, avEqL_sound _ _ h.1.2, avEqL_sound _ _ h.2]
  | .ifc t x, b, h => by
    cases b <;> simp [avEq] at h
    rw [h.1, avEq_sound _ _ h.2]
theorem avEqL_sound : ∀ (a b : List AV), avEqL a b = true → a = b
  | [], b, h => by cases b <;> simp [avEqL] at h; rfl
  | x :: l, b, h => by
    cases b <;> simp [avEqL] at h
    rw [avEq_sound _ _ h.1, avEqL_sound _ _ h.2]
theorem avEqLL_sound : ∀ (a b : List (List AV)), avEqLL a b = true → a = b
  | [], b, h => by cases b <;> simp [avEqLL] at h; rfl
  | x :: l, b, h => by
    cases b <;> simp [avEqLL] at h
    rw [avEqL_sound _ _ h.1, avEqLL_sound _ _ h.2]
end
abbrev Told := List (Nat × List AV × AV)
def toldC : Told → CallT
  | [], _, _, _ => none
  | (g, bs, r) :: l, f, as, hp => if g == f && avEqL bs as then (match hp with | [] => some (r, []) | _ => none) else toldC l f as hp
def ToldOk (X : List (Option XFn)) (gl : Nat → List AV) (N : Nat) : Told → Prop
  | [] => True
  | (g, bs, r) :: l => evCall X gl N g bs [] = some (r, []) ∧ ToldOk X gl N l
theorem toldC_le {X : List (Option XFn)} {gl : Nat → List AV} {N : Nat} : ∀ {T : Told}, ToldOk X gl N T → CLe (toldC T) (evCall X gl N)
  | [], _ => fun f as hp r h => by simp [toldC] at h
  | (g, bs, r) :: l, h => fun f as hp r' e => by
    simp only [toldC] at e
    split at e
    · rename_i hc
      simp only [Bool.and_eq_true, beq_iff_eq] at hc
      obtain ⟨rfl, hbs⟩ := hc
      obtain rfl := avEqL_sound _ _ hbs
      cases hp with
      | nil => simp only [Option.some.injEq] at e; subst e; exact h.1
      | cons a t => cases e
    · exact toldC_le h.2 f as hp r' e
def evTold (T : Told) (X : List (Option XFn)) (gl : Nat → List AV) : Nat → CallT
  | 0, _, _, _ => none
  | n + 1, f, args, hp => match toldC T f args hp with
    | some r => some r
    | none => match X[f]? with
      | some (some fn) => match spec fn with
        | some id => hprimX id args hp
        | none => match evCode (evTold T X gl n) gl n fn.body ⟨args, [] :: hp⟩ with
          | some (.normal, s) => finish s fn.results
          | some (.ret, s) => finish s fn.results
          | _ => none
      | _ => none
theorem evTold_le {X : List (Option XFn)} {gl : Nat → List AV} {N : Nat} {T : Told} (hT : ToldOk X gl N T) : ∀ n, CLe (evTold T X gl n) (evCall X gl (N + n))
  | 0 => fun _ _ _ _ h => by simp [evTold] at h
  | n + 1 => fun f args hp r h => by
    simp only [evTold] at h
    cases ht : toldC T f args hp with
    | some q => rw [ht] at h; injection h with h; subst h; exact evCall_mono (by omega) _ _ _ _ (toldC_le hT _ _ _ _ ht)
    | none =>
      rw [ht] at h
      simp only at h
      have hC := evTold_le hT n
      rw [show N + (n + 1) = (N + n) + 1 by omega]
      simp only [evCall]
      split at h
      · rename_i fn hx
        cases hs : spec fn with
        | some id => rw [hs] at h; rw [hx]; simp only [hs]; exact h
        | none =>
          rw [hs] at h
          simp only at h
          cases hc : evCode (evTold T X gl n) gl n fn.body ⟨args, [] :: hp⟩ with
          | none => rw [hc] at h; cases h
          | some q =>
            rw [hc] at h
            have hm := evCode_mono hC (show n ≤ N + n by omega) hc
            rw [hx]
            simp only [hs, hm]
            exact h
      · cases h
def ToldCL (X : List (Option XFn)) (gl : Nat → List AV) : Told → Prop
  | [] => True
  | (g, bs, r) :: l => CL X gl g bs [] = some (r, []) ∧ ToldCL X gl l
theorem told_mono {X : List (Option XFn)} {gl : Nat → List AV} {N M : Nat} (h : N ≤ M) : ∀ {T : Told}, ToldOk X gl N T → ToldOk X gl M T
  | [], _ => trivial
  | (_, _, _) :: _, hT => ⟨evCall_mono h _ _ _ _ hT.1, told_mono h hT.2⟩
theorem told_lift {X : List (Option XFn)} {gl : Nat → List AV} : ∀ {T : Told}, ToldCL X gl T → ∃ N, ToldOk X gl N T
  | [], _ => ⟨0, trivial⟩
  | (g, bs, r) :: l, h => by
    obtain ⟨n, hn⟩ := CL_iff.1 h.1
    obtain ⟨m, hm⟩ := told_lift h.2
    exact ⟨n + m, evCall_mono (by omega) _ _ _ _ hn, told_mono (by omega) hm⟩
theorem CL_told {X : List (Option XFn)} {gl : Nat → List AV} {T : Told} (hT : ToldCL X gl T) (n : Nat) {f : Nat} {args : List AV} {hp : Heap} {r : AV × Heap} (h : evTold T X gl n f args hp = some r) : CL X gl f args hp = some r := by
  obtain ⟨N, hN⟩ := told_lift hT
  exact CL_iff.2 ⟨N + n, evTold_le hN n _ _ _ _ h⟩
def glOf : List (Nat × List AV) → Nat → List AV
  | [], _ => []
  | (g, l) :: r, h => if g = h then l else glOf r h
end Go.Proofs.YtjbgceogkgpjpaaGreatDoor.Sx
