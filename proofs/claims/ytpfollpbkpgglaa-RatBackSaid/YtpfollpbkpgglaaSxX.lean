/- SX, part X: a function of the small language is the machine's call. -/
import Derived.Test.YtpfollpbkpgglaaSxW
import Derived.Calls
set_option linter.unusedVariables false
set_option linter.unusedSimpArgs false
namespace Go.Proofs.Ytpfollpbkpgglaa.Sx
open Go
def OwnLev (N : Nat) (G : Gh) (b : Nat) : Prop := ∃ r base, G.m r = some (b, base) ∧ r.lev = N
open Classical in noncomputable def closeG (N : Nat) (G : Gh) (bres ores : Option Nat) : Gh where
  m := fun r => if r.lev < N then G.m r else none
  k := fun b => if bres = some b then .un else if OwnLev N G b then .st else G.k b
  o := fun l => match l with
    | .res => ores
    | .cell r i => if r.lev < N then G.o (.cell r i) else none
    | .slot _ => none
section
variable {P : Program} {N : Nat} {G0 G : Gh} {w0 w : World} {sz : Nat} {df : List Deferred} {fr : List AV} {l : Level} {hp : Heap} {act : Act} {bres ores : Option Nat}
theorem ownLev_mb (hv : Valid G w (N + 1)) {b : Nat} (h : OwnLev N G b) : G.k b = .mb ∧ b < w.heap.size := by
  obtain ⟨r, base, h1, _⟩ := h
  exact hv.mkk r _ h1
theorem close_k (hb : ∀ b, bres = some b → OwnLev N G b) {b : Nat} (h : ¬ OwnLev N G b) : (closeG N G bres ores).k b = G.k b := by
  simp only [closeG]
  rw [if_neg (fun e => h (hb b e)), if_neg h]
theorem close_k' (hv : Valid G w (N + 1)) (hb : ∀ b, bres = some b → OwnLev N G b) {b : Nat} (h : G.k b ≠ .mb) : (closeG N G bres ores).k b = G.k b :=
  close_k hb (fun e => h (ownLev_mb hv e).1)
theorem close_m {r : Ref} (h : r.lev < N) : (closeG N G bres ores).m r = G.m r := by
  simp only [closeG]; rw [if_pos h]
theorem close_ext (hF : FInv (N + 1) G0 w0 sz df fr (l :: hp) G act w) (hv0 : Valid G0 w0 N) (hb : ∀ b, bres = some b → OwnLev N G b) :
    Ext (fun b => ∃ l, G0.o l = some b) G0 w0 (closeG N G bres ores) w where
  os := hF.ext.os
  tape := hF.ext.tape
  output := hF.ext.output
  size := hF.ext.size
  st := fun b h1 h2 => by
    obtain ⟨h3, h4⟩ := hF.ext.st b h1 h2
    exact ⟨by rw [close_k' hF.valid hb (by rw [h3]; simp), h3], h4⟩
  gr := fun b f h1 h2 => by
    obtain ⟨f', h3, h4, h5⟩ := hF.ext.gr b f h1 h2
    exact ⟨f', h3, by rw [close_k' hF.valid hb (by rw [h4]; simp), h4], h5⟩
  keep := fun b h1 h2 h3 h4 => by
    obtain ⟨h5, h6⟩ := hF.ext.keep b h1 h2 h3 h4
    exact ⟨by rw [close_k' hF.valid hb (by rw [h5]; exact h3), h5], h6⟩
  mm := fun r x h => by
    rw [close_m (hv0.lev r x h)]
    exact hF.ext.mm r x h
  mb := fun b h1 h2 => by
    obtain ⟨h3, h4⟩ := hF.ext.mb b h1 h2
    refine ⟨?_, h4⟩
    rw [close_k hb, h3]
    rintro ⟨r, base, h5, h6⟩
    rcases hF.fresh r b base h5 with h7 | h7
    · have := hv0.lev r _ h7; omega
    · exact h7 ⟨h1, h2⟩
theorem close_valid (hF : FInv (N + 1) G0 w0 sz df fr (l :: hp) G act w) (hb : ∀ b, bres = some b → OwnLev N G b) (ho : ∀ b, ores = some b → (∃ t, G.o (.slot t) = some b) ∨ bres = some b) :
    Valid (closeG N G bres ores) w N where
  lev := fun r x h => by
    simp only [closeG] at h
    split at h
    · assumption
    · cases h
  inj := fun r r' x y h h' he => by
    simp only [closeG] at h h'
    split at h
    · split at h'
      · exact hF.valid.inj r r' x y h h' he
      · cases h'
    · cases h
  mkk := fun r x h => by
    simp only [closeG] at h
    split at h
    · rename_i hl
      obtain ⟨h1, h2⟩ := hF.valid.mkk r x h
      refine ⟨?_, h2⟩
      rw [close_k hb, h1]
      rintro ⟨q, base, h3, h4⟩
      have := hF.valid.inj r q x _ h h3 rfl
      rw [this] at hl
      omega
    · cases h
  oinj := fun l1 l2 b h1 h2 => by
    have hno : ∀ q i, G.o (.cell q i) = some b → ∀ b', ores = some b' → b' ≠ b := by
      intro q i hc b' hb' e
      subst e
      rcases ho b' hb' with ⟨t, ht⟩ | hr
      · cases hF.valid.oinj _ _ b' hc ht
      · have h3 := (ownLev_mb hF.valid (hb b' hr)).1
        rcases (hF.valid.ok _ _ hc).2 with ⟨f, h4⟩ | h4 <;> rw [h3] at h4 <;> cases h4
    cases l1 with
    | slot t => cases h1
    | res =>
      cases l2 with
      | slot t => cases h2
      | res => rfl
      | cell q i =>
        simp only [closeG] at h1 h2
        split at h2
        · exact absurd rfl (hno q i h2 b h1)
        · cases h2
    | cell q i =>
      simp only [closeG] at h1
      split at h1
      · cases l2 with
        | slot t => cases h2
        | res => exact absurd rfl (hno q i h1 b h2)
        | cell q' i' =>
          simp only [closeG] at h2
          split at h2
          · exact hF.valid.oinj _ _ b h1 h2
          · cases h2
      · cases h1
  ok := fun l1 b h1 => by
    have key : ∀ l', G.o l' = some b → b < w.heap.size ∧ ((∃ f, (closeG N G bres ores).k b = .gr f) ∨ (closeG N G bres ores).k b = .un) := by
      intro l' h2
      obtain ⟨h3, h4⟩ := hF.valid.ok l' b h2
      refine ⟨h3, ?_⟩
      rw [close_k' hF.valid hb (by rcases h4 with ⟨f, h4⟩ | h4 <;> rw [h4] <;> simp)]
      exact h4
    cases l1 with
    | slot t => cases h1
    | res =>
      rcases ho b h1 with ⟨t, ht⟩ | hr
      · exact key _ ht
      · exact ⟨(ownLev_mb hF.valid (hb b hr)).2, .inr (by simp only [closeG]; rw [if_pos hr])⟩
    | cell q i =>
      simp only [closeG] at h1
      split at h1
      · exact key _ h1
      · cases h1
theorem close_st (hF : FInv (N + 1) G0 w0 sz df fr (l :: hp) G act w) (hb : ∀ b, bres = some b → OwnLev N G b) {b : Nat} (h : G.k b = .st) : (closeG N G bres ores).k b = .st := by
  rw [close_k' hF.valid hb (by rw [h]; simp), h]
theorem close_gr (hF : FInv (N + 1) G0 w0 sz df fr (l :: hp) G act w) (hb : ∀ b, bres = some b → OwnLev N G b) {b f : Nat} (h : G.k b = .gr f) : ∃ f', f ≤ f' ∧ (closeG N G bres ores).k b = .gr f' :=
  ⟨f, Nat.le_refl _, by rw [close_k' hF.valid hb (by rw [h]; simp), h]⟩
theorem close_heap (hF : FInv (N + 1) G0 w0 sz df fr (l :: hp) G act w) (hb : ∀ b, bres = some b → OwnLev N G b) : RelHeap (closeG N G bres ores) w hp := by
  intro r b base blk hm hg
  have hlen : hp.length = N := by have := hF.hN; simpa using this
  simp only [closeG] at hm
  split at hm
  · rename_i hl
    have hg' : hget (l :: hp) r = some blk := by
      simp only [hget]
      rw [if_neg (by omega)]
      exact hg
    have hr := hF.heap r b base blk hm hg'
    cases blk with
    | cells vs =>
      obtain ⟨cs, T, h1, h2, h3⟩ := hr
      refine ⟨cs, T, h1, h2, fun i v x hi hx => ?_⟩
      obtain ⟨h4, h5⟩ := h3 i v x hi hx
      refine ⟨?_, ?_⟩
      · refine RelV.mapG (G := G.below (r.lev + 1)) (G' := (closeG N G bres ores).below (r.lev + 1)) (fun q a hq => ?_) (fun c _ h => close_st (ores := ores) hF hb h) (fun c f _ h => close_gr (ores := ores) hF hb h) h4
        simp only [Gh.below] at hq ⊢
        split at hq
        · rename_i hlt
          rw [if_pos hlt, close_m (by omega)]
          exact hq
        · cases hq
      · refine h5.mapG (fun c _ h => close_st (ores := ores) hF hb h) (fun c f _ h => close_gr (ores := ores) hF hb h) (fun c hc => ⟨?_, ?_⟩)
        · simp only [closeG]; rw [if_pos hl]; exact hc
        · refine close_k' hF.valid hb ?_
          rcases (hF.valid.ok _ _ hc).2 with ⟨f, h6⟩ | h6 <;> rw [h6] <;> simp
    | iter s pos => exact hr
  · cases hm
theorem close_mm (hF : FInv (N + 1) G0 w0 sz df fr (l :: hp) G act w) (hv0 : Valid G0 w0 N) : (closeG N G bres ores).m = G0.m := by
  funext r
  simp only [closeG]
  cases h0 : G0.m r with
  | some x => rw [if_pos (hv0.lev r x h0)]; exact hF.ext.mm r x h0
  | none =>
    split
    · rename_i hl
      cases hg : G.m r with
      | none => rfl
      | some x =>
        rcases hF.low r (by rw [hg]; simp) with h1 | h1
        · exact absurd h0 h1
        · omega
    · rfl
theorem close_own (hF : FInv (N + 1) G0 w0 sz df fr (l :: hp) G act w) (hv0 : Valid G0 w0 N) (hb : ∀ b, bres = some b → OwnLev N G b) (ho : ∀ b, ores = some b → (∃ t, G.o (.slot t) = some b) ∨ bres = some b)
    {l1 : Loc} {b : Nat} (h : (closeG N G bres ores).o l1 = some b) : (∃ l', G0.o l' = some b) ∨ w0.heap.size ≤ b := by
  cases l1 with
  | slot t => cases h
  | cell q i =>
    simp only [closeG] at h
    split at h
    · exact hF.own _ b h
    · cases h
  | res =>
    rcases ho b h with ⟨t, ht⟩ | hr
    · exact hF.own _ b ht
    · rcases Nat.lt_or_ge b w0.heap.size with hlt | hge
      · left
        have hmb := (ownLev_mb hF.valid (hb b hr)).1
        by_cases h1 : G0.k b = .st
        · rw [(hF.ext.st b hlt h1).1] at hmb; cases hmb
        · by_cases h2 : G0.k b = .mb
          · obtain ⟨r, base, h3, h4⟩ := hb b hr
            rcases hF.fresh r b base h3 with h5 | h5
            · have := hv0.lev r _ h5; omega
            · exact absurd ⟨hlt, h2⟩ h5
          · by_cases h3 : ∃ l, G0.o l = some b
            · exact h3
            · rw [(hF.ext.keep b hlt h1 h2 h3).1] at hmb
              exact absurd hmb h2
      · exact .inr hge
theorem close_shuts (hF : FInv (N + 1) G0 w0 sz df fr (l :: hp) G act w) : Shuts N G w (l :: hp) (closeG N G none ores) where
  m := fun r x h1 h2 => by
    have := hF.valid.lev r x h1
    rw [close_m (by omega)]; exact h1
  st := fun b _ h => close_st hF (fun _ h => by cases h) h
  gr := fun b f _ h => close_gr hF (fun _ h => by cases h) h
  own := fun r b base h1 h2 => by
    refine ⟨?_, (hF.valid.mkk r _ h1).2⟩
    simp only [closeG]
    rw [if_neg (by simp), if_pos ⟨r, base, h1, h2⟩]
  heap := hF.heap
/-! ### results -/
def resRun (act : Act) : ResultVar → Sem Value
  | .tmp t => pure (act.tmps.getD t undef)
  | .cell a t => do loadVar t (← asAddr (act.tmps.getD a undef))
theorem run_res1 {gl : Nat → List AV} (hF : FInv (N + 1) G0 w0 sz df fr (l :: hp) G act w) {x : XRes} {t : ResultVar} (hc : chkRes P [x] [t] = true) {v : AV} (he : evRes ⟨fr, l :: hp⟩ x = some v) :
    ∃ y, (resRun act t).run P w = .ok y w ∧ RelV G w v y ∧
      (noFlag v ∨ ∃ t, OwnOk G w (.slot t) v y) := by
  cases x with
  | tmp t0 =>
    cases t <;> simp [chkRes] at hc
    subst hc
    simp only [evRes, Option.some.injEq] at he
    subst he
    exact ⟨_, rfl, (hF.slot t0).1, .inr ⟨t0, (hF.slot t0).2⟩⟩
  | cell t0 n agg =>
    cases t <;> simp [chkRes] at hc
    rename_i a T
    obtain ⟨rfl, h1⟩ := hc
    simp only [typeIs] at h1
    split at h1
    · rename_i i d hi hd
      simp only [Bool.and_eq_true, beq_iff_eq] at h1
      simp only [evRes] at he
      split at he
      · rename_i r off hr
        split at he
        · rename_i vs hvs
          have h2 := (hF.slot t0).1
          rw [hr] at h2
          obtain ⟨b, base, h3, h4⟩ := ptr_form h2
          have hM := (hF.heap r b base _ h4 (cellsAt_get hvs)).mem.drop (k := off)
          obtain ⟨y, h5, h6⟩ := loadVar_rel (P := P) hM hi hd h1.1 h1.2 he
          refine ⟨y, ?_, h6, .inl (ldCells_noFlag he)⟩
          simp only [resRun, h3, asAddr, Sem.run_bind, Sem.run_pure, Result.andThen_ok]
          exact h5
        · cases he
      · cases he
    · cases h1
theorem run_res {gl : Nat → List AV} (hF : FInv (N + 1) G0 w0 sz df fr (l :: hp) G act w) : ∀ {xs : List XRes} {ts : List ResultVar}, chkRes P xs ts = true → ∀ {vs : List AV}, evResL ⟨fr, l :: hp⟩ xs = some vs →
    ∃ ys : List Value, (ts.mapM (resRun act)).run P w = .ok ys w ∧ ys.length = vs.length ∧
      ∀ (j : Nat) (v : AV) (y : Value), vs[j]? = some v → ys[j]? = some y → RelV G w v y ∧ (noFlag v ∨ ∃ t, OwnOk G w (.slot t) v y)
  | [], [], _, vs, he => by
    simp only [evResL, Option.some.injEq] at he
    subst he
    exact ⟨[], by simp, rfl, by simp⟩
  | [], _ :: _, hc, _, _ => by simp [chkRes] at hc
  | x :: xs, [], hc, _, _ => by cases x <;> simp [chkRes] at hc
  | x :: xs, t :: ts, hc, vs, he => by
    simp only [evResL] at he
    split at he
    · rename_i v hv
      split at he
      · rename_i vs' hvs
        injection he with he
        subst he
        have hc1 : chkRes P [x] [t] = true ∧ chkRes P xs ts = true := by
          cases x <;> cases t <;> simp [chkRes] at hc ⊢ <;> simp [hc]
        obtain ⟨y, h1, h2, h3⟩ := run_res1 (gl := gl) hF hc1.1 hv
        obtain ⟨ys, h4, h5, h6⟩ := run_res (gl := gl) hF hc1.2 hvs
        refine ⟨y :: ys, ?_, by simp [h5], fun j u z hu hz => ?_⟩
        · rw [List.mapM_cons]
          simp only [Sem.run_bind]
          rw [h1]
          simp only [Result.andThen_ok]
          rw [h4]
          simp
        · cases j with
          | zero => simp at hu hz; subst hu hz; exact ⟨h2, h3⟩
          | succ j => exact h6 j u z (by simpa using hu) (by simpa using hz)
      · cases he
    · cases he
end
end Go.Proofs.Ytpfollpbkpgglaa.Sx
