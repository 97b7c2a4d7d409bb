/- EV, part S: slices of slices, lists that become blocks, calls that are handed one. -/
import Derived.Test.YtjbgceogkgpjpaaGreatDoorEvP
set_option linter.unusedVariables false
set_option linter.unusedSimpArgs false
namespace Go.Proofs.YtjbgceogkgpjpaaGreatDoor.Sx
open Go
def sslK (z : Nat) (v : AV) (lo hi mx : Option AV) : Option AV := match v with
  | .nilsl => match mx, optNat lo 0, optNat hi 0 with
    | none, some 0, some 0 => some .nilsl
    | _, _, _ => none
  | .lst o z' es => match optNat lo 0, optNat hi es.length with
    | some l, some h =>
      if z' = z ∧ l ≤ h ∧ h ≤ es.length then
        match mx with
        | none => some (.lst (if o = .tight ∧ hi.isNone then .tight else .none) z ((es.take h).drop l))
        | some m => if optNat (some m) 0 = some h ∧ es ≠ [] then some (.lst .tight z ((es.take h).drop l)) else none
      else none
    | _, _ => none
  | .sl r z' off len => match mx, optNat lo 0, optNat hi len with
    | none, some l, some h => if z' = z ∧ l ≤ h ∧ h ≤ len ∧ (l < len ∨ l = 0) then some (.sl r z (off + l * z) (h - l)) else none
    | _, _, _ => none
  | _ => none
theorem o_ssl {C : CallT} {gl : Nat → List AV} (d z : Nat) (a : XArg) (lo hi mx : Option XArg) (fr : List AV) (hp : Heap) :
    evO1 C gl (some d) (.ssl z a lo hi mx) fr hp = vK (sslK z (earg fr a) (lo.map (earg fr)) (hi.map (earg fr)) (mx.map (earg fr))) (fun v => some (fput fr d v, hp)) := by
  simp only [evO1, evOp, sslK]
  cases earg fr a with
  | nilsl =>
    cases mx <;> rcases optNat (lo.map (earg fr)) 0 with _ | _ | l <;> rcases optNat (hi.map (earg fr)) 0 with _ | _ | h <;> rfl
  | lst o z' es =>
    simp only
    cases optNat (lo.map (earg fr)) 0 <;> cases optNat (hi.map (earg fr)) es.length <;> try rfl
    rename_i l h
    simp only
    by_cases hc : z' = z ∧ l ≤ h ∧ h ≤ es.length
    · simp only [if_pos hc]
      cases mx with
      | none => cases hi <;> rfl
      | some m =>
        simp only [Option.map_some]
        by_cases h2 : optNat (some (earg fr m)) 0 = some h ∧ es ≠ []
        · simp only [if_pos h2]; rfl
        · simp only [if_neg h2]; rfl
    · simp only [if_neg hc]; rfl
  | sl r z' off len =>
    simp only
    cases mx with
    | some m => rfl
    | none =>
      cases optNat (lo.map (earg fr)) 0 <;> cases optNat (hi.map (earg fr)) len <;> try rfl
      rename_i l h
      simp only [Option.map_none]
      by_cases hc : z' = z ∧ l ≤ h ∧ h ≤ len ∧ (l < len ∨ l = 0)
      · simp only [if_pos hc]; rfl
      · simp only [if_neg hc]; rfl
  | _ => rfl
theorem sslK_lo (z z' : Nat) (es : List (List AV)) (k : IntKind) (l : Nat) : sslK z (.lst .none z' es) (some (.int k (l : Int))) none none = if z' = z ∧ l ≤ es.length then some (.lst .none z (es.drop l)) else none := by
  simp [sslK, optNat]
theorem sslK_hi (z z' : Nat) (o : Own) (es : List (List AV)) (k : IntKind) (l : Nat) : sslK z (.lst o z' es) none (some (.int k (l : Int))) none = if z' = z ∧ l ≤ es.length then some (.lst .none z (es.take l)) else none := by
  simp [sslK, optNat]
theorem o_mkfn {C : CallT} {gl : Nat → List AV} (d f : Nat) (ds cs : List XArg) (fr : List AV) (hp : Heap) : evO1 C gl (some d) (.mkfn f ds cs) fr hp = some (fput fr d (.fn f (eargs fr ds) (eargs fr cs)), hp) := rfl
def nckK (v : AV) : Option AV := match v with
  | .ptr r off => some (.ptr r off)
  | .elp cs => some (.elp cs)
  | .fn f ds cs => some (.fn f ds cs)
  | _ => none
theorem nckK_ptr (r : Ref) (off : Nat) : nckK (.ptr r off) = some (.ptr r off) := rfl
theorem nckK_elp (cs : List AV) : nckK (.elp cs) = some (.elp cs) := rfl
theorem demV_uniq (z : Nat) (es : List (List AV)) : demV (.lst .uniq z es) = if z < 1000 then .lst .own z es else .undef := rfl
theorem demV_nil : demV .nilsl = .nilsl := rfl
theorem demV_tight (z : Nat) (es : List (List AV)) : demV (.lst .tight z es) = .lst .none z es := rfl
theorem stAt_topc {l : Level} {h : Heap} {n s v off : Nat} {vs : List AV} (hn : n = h.length) : stAt (l :: h) (.ptr ⟨n, s, v⟩ off) vs = stK l h s v off vs (lcells l s v) := by subst hn; exact stAt_top l h s v off vs
theorem ldAt_topc {gl : Nat → List AV} {l : Level} {h : Heap} {m s v off n : Nat} {agg : Bool} (hn : m = h.length) : ldAt gl (l :: h) (.ptr ⟨m, s, v⟩ off) n agg = ldK n agg off (lcells l s v) := by subst hn; exact ldAt_top gl l h s v off n agg
theorem ecellK_topc {l : Level} {h : Heap} {m s v off n : Nat} {agg : Bool} (hn : m = h.length) : ecellK (l :: h) (.ptr ⟨m, s, v⟩ off) n agg = ldK n agg off (lcells l s v) := by subst hn; exact ecellK_top l h s v off n agg
theorem retOf_none (hp : Heap) (lev : Nat) : retOf hp lev [] = some (.tup []) := rfl
attribute [go_sem] demV_uniq demV_nil demV_tight retOf_none nckK_ptr nckK_elp o_mkfn
end Go.Proofs.YtjbgceogkgpjpaaGreatDoor.Sx
