/- EV, part S: slices of slices, lists that become blocks, calls that are handed one. -/
import Derived.Test.YtgfeladjpjipeaaDoorEvP
set_option linter.unusedVariables false
set_option linter.unusedSimpArgs false
namespace Go.Proofs.YtgfeladjpjipeaaDoor.Sx
open Go
def thwK (d s : Nat) (fr : List AV) (l : Level) (h : Heap) (v : AV) : Option (List AV × Heap) := match v with
  | .lst .uniq z es => if z < 1000 then if es.all (fun e => e.all bareV) = true then some (fput (fput fr s (.sl ⟨h.length, d, nextVer l d⟩ z 0 es.length)) d (.sl ⟨h.length, d, nextVer l d⟩ z 0 es.length), lputc l d (nextVer l d) es.flatten :: h) else none else none
  | .sl r z off len => some (fput fr d (.sl r z off len), l :: h)
  | .nilsl => some (fput fr d .nilsl, l :: h)
  | _ => none
theorem o_thw {C : CallT} {gl : Nat → List AV} (d s : Nat) (fr : List AV) (l : Level) (h : Heap) : evO1 C gl (some d) (.thw s) fr (l :: h) = thwK d s fr l h (fget fr s) := by
  simp only [evO1, evOp, thwK, mkBlk, Option.getD]
  cases fget fr s with
  | lst o z es =>
    cases o with
    | uniq =>
      simp only
      by_cases hz : z < 1000
      · simp only [if_pos hz]
        by_cases hc : es.all (fun e => e.all bareV) = true
        · simp only [if_pos hc]; rfl
        · simp only [if_neg hc]
      · simp only [if_neg hz]
    | _ => rfl
  | _ => rfl
theorem thwK_uniq (d s : Nat) (fr : List AV) (l : Level) (h : Heap) (z : Nat) (es : List (List AV)) : thwK d s fr l h (.lst .uniq z es) =
    if z < 1000 then if es.all (fun e => e.all bareV) = true then some (fput (fput fr s (.sl ⟨h.length, d, nextVer l d⟩ z 0 es.length)) d (.sl ⟨h.length, d, nextVer l d⟩ z 0 es.length), lputc l d (nextVer l d) es.flatten :: h) else none else none := rfl
theorem thwK_nil (d s : Nat) (fr : List AV) (l : Level) (h : Heap) : thwK d s fr l h .nilsl = some (fput fr d .nilsl, l :: h) := rfl
def owndK (v : AV) : Option AV := match v with | .lst .uniq z es => if z < 1000 then some (.lst .own z es) else none | v => some v
theorem o_ownd {C : CallT} {gl : Nat → List AV} (d s : Nat) (fr : List AV) (hp : Heap) : evO1 C gl (some d) (.ownd s) fr hp = vK (owndK (fget fr s)) (fun v => some (fput (drop1K (fget fr s) fr s) d v, hp)) := by
  simp only [evO1, evOp, owndK, fin1, drop1_tmp]
  cases fget fr s with
  | lst o z es =>
    cases o with
    | uniq => by_cases hz : z < 1000 <;> simp [hz, vK]
    | _ => rfl
  | _ => rfl
theorem owndK_uniq (z : Nat) (es : List (List AV)) : owndK (.lst .uniq z es) = if z < 1000 then some (.lst .own z es) else none := rfl
theorem owndK_nil : owndK .nilsl = some .nilsl := rfl
theorem iaddrK_sl (z : Nat) (r : Ref) (z' off len k : Nat) : iaddrK z (.sl r z' off len) (some k) = if z' = z ∧ k < len then some (.ptr r (off + k * z)) else none := rfl
theorem lensK_sl (r : Ref) (z off len : Nat) : lensK false (.sl r z off len) = some (.int .i64 len) := rfl
theorem uf_sl (r : Ref) (z off len : Nat) : uf (.sl r z off len) = .sl r z off len := rfl
def nckK (v : AV) : Option AV := match v with
  | .ptr r off => some (.ptr r off)
  | .elp cs => some (.elp cs)
  | .fn f ds cs => some (.fn f ds cs)
  | _ => none
theorem nckK_ptr (r : Ref) (off : Nat) : nckK (.ptr r off) = some (.ptr r off) := rfl
theorem nckK_elp (cs : List AV) : nckK (.elp cs) = some (.elp cs) := rfl
theorem demV_uniq (z : Nat) (es : List (List AV)) : demV (.lst .uniq z es) = if z < 1000 then .lst .own z es else .undef := rfl
theorem demV_nil : demV .nilsl = .nilsl := rfl
theorem demV_tight (z : Nat) (es : List (List AV)) : demV (.lst .tight z es) = .lst .none z es := rfl
def extmK (d s : Nat) (fr : List AV) (hp : Heap) (v : AV) : Option (List AV × Heap) := match v with
  | .lst .uniq z (cs :: es) => if 1000 ≤ z ∧ z < 2000 then some (fput (fput fr s (.tup (.undef :: cs))) d (.lst .uniq (z - 1000) es), hp) else none
  | .tup (c :: cs) => some (fput (fput fr s (.tup (c :: cs))) d (uf c), hp)
  | _ => none
theorem o_extm {C : CallT} {gl : Nat → List AV} (d s : Nat) (fr : List AV) (hp : Heap) : evO1 C gl (some d) (.extm s) fr hp = extmK d s fr hp (fget fr s) := by
  simp only [evO1, evOp, extmK]
  cases fget fr s with
  | lst o z es =>
    cases o with
    | uniq =>
      cases es with
      | nil => rfl
      | cons cs es => by_cases hz : 1000 ≤ z ∧ z < 2000 <;> simp [hz, fin1]
    | _ => rfl
  | tup l => cases l <;> rfl
  | _ => rfl
theorem extmK_held (d s : Nat) (fr : List AV) (hp : Heap) (z : Nat) (cs : List AV) (es : List (List AV)) : extmK d s fr hp (.lst .uniq z (cs :: es)) = if 1000 ≤ z ∧ z < 2000 then some (fput (fput fr s (.tup (.undef :: cs))) d (.lst .uniq (z - 1000) es), hp) else none := rfl
theorem extmK_tup (d s : Nat) (fr : List AV) (hp : Heap) (c : AV) (cs : List AV) : extmK d s fr hp (.tup (c :: cs)) = some (fput (fput fr s (.tup (c :: cs))) d (uf c), hp) := rfl
theorem stAt_topc {l : Level} {h : Heap} {n s v off : Nat} {vs : List AV} (hn : n = h.length) : stAt (l :: h) (.ptr ⟨n, s, v⟩ off) vs = stK l h s v off vs (lcells l s v) := by subst hn; exact stAt_top l h s v off vs
theorem retOf_none (hp : Heap) (lev : Nat) : retOf hp lev [] = some (.tup []) := rfl
attribute [go_sem] demV_uniq demV_nil demV_tight retOf_none nckK_ptr nckK_elp
end Go.Proofs.YtgfeladjpjipeaaDoor.Sx
