/- EV, part P: blocks of frames further up, and loops that count. -/
import Derived.Test.YtjbgceogkgpjpaaGreatDoorEvX
import Derived.Test.YtjbgceogkgpjpaaGreatDoorEvR
set_option linter.unusedVariables false
set_option linter.unusedSimpArgs false
namespace Go.Proofs.YtjbgceogkgpjpaaGreatDoor.Sx
open Go
def bput (h : Heap) (r : Ref) (cs : List AV) : Heap := hput h r (.cells cs)
theorem cellsAt_lt {h : Heap} {r : Ref} {cs : List AV} (hc : cellsAt h r = some cs) : r.lev < h.length := by
  induction h with
  | nil => simp [cellsAt, hget] at hc
  | cons l h ih =>
    by_cases hl : r.lev = h.length
    · rw [hl]; simp
    · have : cellsAt h r = some cs := by
        unfold cellsAt at hc ⊢
        rw [hget, if_neg hl] at hc
        exact hc
      have := ih this
      simp only [List.length_cons]
      omega
theorem cellsAt_ne {h : Heap} {r : Ref} {cs : List AV} (hc : cellsAt h r = some cs) : (r.lev = h.length) = False := by
  have := cellsAt_lt hc
  simp; omega
theorem cellsAt_cons {l : Level} {h : Heap} {r : Ref} (hr : (r.lev = h.length) = False) : cellsAt (l :: h) r = cellsAt h r := by
  unfold cellsAt
  rw [hget, if_neg (by simp [hr])]
theorem bput_top (l : Level) (h : Heap) (s v : Nat) (cs : List AV) : bput (l :: h) ⟨h.length, s, v⟩ cs = lputc l s v cs :: h := by
  simp [bput, hput, lputc]
theorem sameVers_put : ∀ {l : Level} {s v : Nat} {b b' : Blk}, lget l s = some (v, b) → sameVers l (lput l s (some (v, b'))) = true
  | [], _, _, _, _, h => by simp [lget] at h
  | x :: l, 0, v, b, b', h => by
    simp only [lget] at h
    subst h
    simp [lput, sameVers, sameVers_refl]
  | x :: l, s + 1, v, b, b', h => by
    simp only [lget] at h
    have := sameVers_put (b' := b') h
    cases x with
    | none => simpa [lput, sameVers] using this
    | some p => obtain ⟨u, c⟩ := p; simpa [lput, sameVers] using this
theorem ldAt_cons (gl : Nat → List AV) {l : Level} {h : Heap} {r : Ref} (off n : Nat) (agg : Bool) (hr : (r.lev = h.length) = False) : ldAt gl (l :: h) (.ptr r off) n agg = ldK n agg off (cellsAt h r) := by
  simp only [ldAt, cellsAt_cons hr]
  cases cellsAt h r <;> rfl
def StepOk (J : List AV → Heap → Prop) (Q : XExit → List AV → Heap → Prop) : Option (XExit × St) → Prop
  | some (.normal, s) => J s.fr s.hp
  | some (e, s) => Q e s.fr s.hp
  | none => False
theorem StepOk_n {J : List AV → Heap → Prop} {Q : XExit → List AV → Heap → Prop} (fr : List AV) (hp : Heap) : StepOk J Q (some (.normal, ⟨fr, hp⟩)) = J fr hp := rfl
theorem StepOk_r {J : List AV → Heap → Prop} {Q : XExit → List AV → Heap → Prop} (fr : List AV) (hp : Heap) : StepOk J Q (some (.ret, ⟨fr, hp⟩)) = Q .ret fr hp := rfl
theorem StepOk_e {J : List AV → Heap → Prop} {Q : XExit → List AV → Heap → Prop} (i : Nat) (fr : List AV) (hp : Heap) : StepOk J Q (some (.exit i, ⟨fr, hp⟩)) = Q (.exit i) fr hp := rfl
theorem StepOk_g {J : List AV → Heap → Prop} {Q : XExit → List AV → Heap → Prop} (i : Nat) (fr : List AV) (hp : Heap) : StepOk J Q (some (.goto i, ⟨fr, hp⟩)) = Q (.goto i) fr hp := rfl
theorem LC_up {X : List (Option XFn)} {gl : Nat → List AV} {c : XCode} (n : Nat) (I : Nat → List AV → Heap → Prop) (Q : XExit → List AV → Heap → Prop)
    (hs : ∀ i, i < n → ∀ fr hp, I i fr hp → StepOk (I (i + 1)) Q (LC X gl c ⟨fr, hp⟩)) (he : ∀ fr hp, I n fr hp → StepOk (fun _ _ => False) Q (LC X gl c ⟨fr, hp⟩)) :
    ∀ (m i : Nat) (_ : i + m = n) (fr : List AV) (hp : Heap), I i fr hp → ∃ e s, LC X gl (.loop c) ⟨fr, hp⟩ = some (e, s) ∧ e ≠ .normal ∧ Q e s.fr s.hp := by
  intro m
  induction m with
  | zero =>
    intro i hi fr hp hI
    obtain rfl : i = n := by omega
    have := he fr hp hI
    rw [LC_loop]
    cases hr : LC X gl c ⟨fr, hp⟩ with
    | none => rw [hr] at this; exact this.elim
    | some p =>
      obtain ⟨e, s⟩ := p
      rw [hr] at this
      cases e with
      | normal => exact this.elim
      | exit k => exact ⟨_, _, rfl, by simp, this⟩
      | goto k => exact ⟨_, _, rfl, by simp, this⟩
      | ret => exact ⟨_, _, rfl, by simp, this⟩
  | succ m ih =>
    intro i hi fr hp hI
    have := hs i (by omega) fr hp hI
    rw [LC_loop]
    cases hr : LC X gl c ⟨fr, hp⟩ with
    | none => rw [hr] at this; exact this.elim
    | some p =>
      obtain ⟨e, s⟩ := p
      rw [hr] at this
      cases e with
      | normal => exact ih (i + 1) (by omega) s.fr s.hp this
      | exit k => exact ⟨_, _, rfl, by simp, this⟩
      | goto k => exact ⟨_, _, rfl, by simp, this⟩
      | ret => exact ⟨_, _, rfl, by simp, this⟩
theorem LC_upK {X : List (Option XFn)} {gl : Nat → List AV} {c : XCode} (n : Nat) (I : Nat → List AV → Heap → Prop) (Q : XExit → List AV → Heap → Prop) {fr : List AV} {hp : Heap} (K : Option (XExit × St) → Prop)
    (h0 : I 0 fr hp) (hs : ∀ i, i < n → ∀ fr hp, I i fr hp → StepOk (I (i + 1)) Q (LC X gl c ⟨fr, hp⟩)) (he : ∀ fr hp, I n fr hp → StepOk (fun _ _ => False) Q (LC X gl c ⟨fr, hp⟩))
    (hk : ∀ e fr hp, e ≠ .normal → Q e fr hp → K (some (e, ⟨fr, hp⟩))) : K (LC X gl (.loop c) ⟨fr, hp⟩) := by
  obtain ⟨e, s, h1, h2, h3⟩ := LC_up n I Q hs he n 0 (by omega) fr hp h0
  rw [h1]
  exact hk e s.fr s.hp h2 h3
attribute [go_sem] StepOk_n StepOk_r StepOk_e StepOk_g
end Go.Proofs.YtjbgceogkgpjpaaGreatDoor.Sx
