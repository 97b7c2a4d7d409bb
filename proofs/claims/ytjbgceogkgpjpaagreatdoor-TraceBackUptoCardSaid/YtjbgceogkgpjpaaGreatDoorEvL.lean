/- EV, part L: scopes without fuel: a run goes on at the label that it jumps to. -/
import Derived.Test.YtjbgceogkgpjpaaGreatDoorEvS
set_option linter.unusedVariables false
set_option linter.unusedSimpArgs false
namespace Go.Proofs.YtjbgceogkgpjpaaGreatDoor.Sx
variable {X : List (Option XFn)} {gl : Nat → List AV}
noncomputable def LB (X : List (Option XFn)) (gl : Nat → List AV) (c : XCode) (l : Nat) (s : St) : Option (XExit × St) := lim fun n => evLab (CL X gl) gl n c l s
theorem LB_lift {c : XCode} {l : Nat} {s : St} {n m : Nat} {r : XExit × St} (h : n ≤ m) (e : evLab (CL X gl) gl n c l s = some r) : evLab (CL X gl) gl m c l s = some r :=
  (evCode_mono2 (CLe.refl _) h c).2 e
theorem LB_iff {c : XCode} {l : Nat} {s : St} {r : XExit × St} : LB X gl c l s = some r ↔ ∃ n, evLab (CL X gl) gl n c l s = some r :=
  lim_iff fun _ _ _ h e => LB_lift h e
noncomputable def LJ (X : List (Option XFn)) (gl : Nat → List AV) (c : XCode) (o : Option Nat) (s : St) : Option (XExit × St) := lim fun n => evJump (scF (CL X gl) gl n c) n o s
theorem scF_mono {c : XCode} {n m : Nat} (h : n ≤ m) (o : Option Nat) (s : St) (r : XExit × St) (e : scF (CL X gl) gl n c o s = some r) : scF (CL X gl) gl m c o s = some r := by
  cases o with
  | none => exact LC_lift h e
  | some l => exact LB_lift h e
theorem LJ_lift {c : XCode} {o : Option Nat} {s : St} {n m : Nat} {r : XExit × St} (h : n ≤ m) (e : evJump (scF (CL X gl) gl n c) n o s = some r) : evJump (scF (CL X gl) gl m c) m o s = some r :=
  evJump_mono (fun o s r e => scF_mono h o s r e) h e
theorem LJ_iff {c : XCode} {o : Option Nat} {s : St} {r : XExit × St} : LJ X gl c o s = some r ↔ ∃ n, evJump (scF (CL X gl) gl n c) n o s = some r :=
  lim_iff fun _ _ _ h e => LJ_lift h e
def jmpK (r : Option (XExit × St)) (k : Nat → St → Option (XExit × St)) : Option (XExit × St) := match r with
  | some (.goto l, s) => k l s
  | r => r
theorem jmpK_r (s : St) (k : Nat → St → Option (XExit × St)) : jmpK (some (.ret, s)) k = some (.ret, s) := rfl
theorem LC_scope (c : XCode) (s : St) : LC X gl (.scope c) s = LJ X gl c none s := by
  apply opt_ext
  intro r
  rw [LC_iff, LJ_iff]
  simp only [evCode_scope]
theorem LJ_step {f : Option (XExit × St)} {c : XCode} {o : Option Nat} {s : St} (hf : ∀ r, f = some r ↔ ∃ n, scF (CL X gl) gl n c o s = some r) : LJ X gl c o s = jmpK f (fun l s => LJ X gl c (some l) s) := by
  apply opt_ext
  intro r
  rw [LJ_iff]
  constructor
  · rintro ⟨n, h⟩
    cases n with
    | zero => simp [evJump] at h
    | succ n =>
      simp only [evJump] at h
      cases ha : scF (CL X gl) gl (n + 1) c o s with
      | none => rw [ha] at h; cases h
      | some q =>
        rw [ha] at h
        rw [(hf q).2 ⟨n + 1, ha⟩]
        obtain ⟨x, s'⟩ := q
        cases x with
        | goto l => exact LJ_iff.2 ⟨n + 1, evJump_mono (fun o s r e => e) (by omega) h⟩
        | normal => exact h
        | exit i => exact h
        | ret => exact h
  · intro h
    cases hf' : f with
    | none => rw [hf'] at h; cases h
    | some q =>
      rw [hf'] at h
      obtain ⟨n, hn⟩ := (hf q).1 hf'
      obtain ⟨x, s'⟩ := q
      cases x with
      | goto l =>
        obtain ⟨m, hm⟩ := LJ_iff.1 (show LJ X gl c (some l) s' = some r from h)
        refine ⟨max n m + 1, ?_⟩
        simp only [evJump]
        rw [scF_mono (by omega) o s _ hn]
        exact evJump_mono (fun o s r e => scF_mono (by omega) o s r e) (Nat.le_max_right n m) hm
      | normal => exact ⟨n + 1, by simp only [evJump]; rw [scF_mono (by omega) o s _ hn]; exact h⟩
      | exit i => exact ⟨n + 1, by simp only [evJump]; rw [scF_mono (by omega) o s _ hn]; exact h⟩
      | ret => exact ⟨n + 1, by simp only [evJump]; rw [scF_mono (by omega) o s _ hn]; exact h⟩
theorem LJ_none (c : XCode) (s : St) : LJ X gl c none s = jmpK (LC X gl c s) (fun l s => LJ X gl c (some l) s) := LJ_step fun _ => LC_iff
theorem LJ_some (c : XCode) (l : Nat) (s : St) : LJ X gl c (some l) s = jmpK (LB X gl c l s) (fun l s => LJ X gl c (some l) s) := LJ_step fun _ => LB_iff
theorem LC_goto (l : Nat) (s : St) : LC X gl (.goto l) s = some (.goto l, s) := LC_iff.2 ⟨0, rfl⟩
theorem LB_label (l' l : Nat) (s : St) : LB X gl (.label l') l s = if l' = l then some (.normal, s) else none := by
  apply opt_ext
  intro r
  rw [LB_iff]
  exact ⟨fun ⟨n, h⟩ => h, fun h => ⟨0, h⟩⟩
theorem LB_seq (a b : XCode) (l : Nat) (s : St) : LB X gl (.seq a b) l s = if hasLab a l = true then seqK (LB X gl a l s) (LC X gl b) else LB X gl b l s := by
  apply opt_ext
  intro r
  rw [LB_iff]
  by_cases hl : hasLab a l = true
  · rw [if_pos hl]
    constructor
    · rintro ⟨n, h⟩
      simp only [evLab] at h
      rw [if_pos hl] at h
      cases ha : evLab (CL X gl) gl n a l s with
      | none => rw [ha] at h; cases h
      | some q =>
        rw [ha] at h
        rw [LB_iff.2 ⟨n, ha⟩]
        obtain ⟨x, s'⟩ := q
        cases x <;> first | exact LC_iff.2 ⟨n, h⟩ | exact h
    · intro h
      cases ha : LB X gl a l s with
      | none => rw [ha] at h; cases h
      | some q =>
        rw [ha] at h
        obtain ⟨n, hn⟩ := LB_iff.1 ha
        obtain ⟨x, s'⟩ := q
        cases x with
        | normal =>
          obtain ⟨m, hm⟩ := LC_iff.1 (show LC X gl b s' = some r from h)
          refine ⟨max n m, ?_⟩
          simp only [evLab]
          rw [if_pos hl, LB_lift (Nat.le_max_left n m) hn]
          exact LC_lift (Nat.le_max_right n m) hm
        | exit i => exact ⟨n, by simp only [evLab]; rw [if_pos hl, hn]; exact h⟩
        | goto l => exact ⟨n, by simp only [evLab]; rw [if_pos hl, hn]; exact h⟩
        | ret => exact ⟨n, by simp only [evLab]; rw [if_pos hl, hn]; exact h⟩
  · rw [if_neg hl]
    simp only [evLab, if_neg hl]
    exact LB_iff.symm
/-! ### make of a slice -/
/-! ### bytes of a text appended -/
def appsK (u : Bool) (sv v : AV) : Option AV := match v with
  | .str b => if b = [] then (match sv with | .nilsl => some .nilsl | .lst o z es => if lenB o z = true then some (.lst o z es) else none | _ => none)
    else match sv with
      | .nilsl => if b.length ≤ room then some (.lst (if u then .uniq else .own) 1 (listOfBytes b)) else none
      | .lst o z' es => if z' = 1 ∧ appMay o u = true ∧ es.length + b.length ≤ room then some (.lst (if u then .uniq else .own) 1 (es ++ listOfBytes b)) else none
      | _ => none
  | _ => none
theorem o_appstr {C : CallT} {gl : Nat → List AV} (d : Nat) (u : Bool) (s : Nat) (a : XArg) (fr : List AV) (hp : Heap) :
    evO1 C gl (some d) (.appstr u s a) fr hp = vK (appsK u (fget fr s) (earg fr a)) (fun v => some (fput (drop1K (fget fr s) fr s) d v, hp)) := by
  simp only [evO1, evOp, appsK]
  cases ha : earg fr a <;> simp only [vK]
  rename_i b
  by_cases hb : b = []
  · simp only [if_pos hb]
    cases hv : fget fr s <;> simp [vK, fin1, drop1, drop1K, hv]
    rename_i o z' es
    by_cases hB : lenB o z' = true <;> cases o <;> simp [drop1, hv, hB]
  · simp only [if_neg hb]
    cases hv : fget fr s <;> simp only [vK]
    · by_cases h : b.length ≤ room <;> simp [h, vK, fin1, drop1K]
    · rename_i o z' es
      by_cases h : z' = 1 ∧ appMay o u = true ∧ es.length + b.length ≤ room
      · simp only [if_pos h, vK, fin1]
        cases o <;> simp [drop1, drop1K, hv]
      · simp only [if_neg h, vK]
theorem appsK_own (es : List (List AV)) (b : List UInt8) (hb : b ≠ []) (h : es.length + b.length ≤ room) : appsK false (.lst .own 1 es) (.str b) = some (.lst .own 1 (es ++ listOfBytes b)) := by simp [appsK, hb, h, appMay]
end Go.Proofs.YtjbgceogkgpjpaaGreatDoor.Sx
