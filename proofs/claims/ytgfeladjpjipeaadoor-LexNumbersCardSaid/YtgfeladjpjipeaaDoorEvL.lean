/- EV, part L: scopes without fuel: a run goes on at the label that it jumps to. -/
import Derived.Test.YtgfeladjpjipeaaDoorEvS
set_option linter.unusedVariables false
set_option linter.unusedSimpArgs false
namespace Go.Proofs.YtgfeladjpjipeaaDoor.Sx
variable {X : List (Option XFn)} {gl : Nat → List AV}
/-! ### make of a slice -/
def mksK (d z : Nat) (zero : List AV) (fr : List AV) (l : Level) (h : Heap) (n m : Option Nat) : Option (List AV × Heap) := match n, m with
  | some n, some m => if n = m ∧ n * (32 * z) ≤ room then some (fput fr d (.sl ⟨h.length, d, nextVer l d⟩ z 0 n), lputc l d (nextVer l d) (List.replicate n zero).flatten :: h) else none
  | _, _ => none
theorem o_mks {C : CallT} {gl : Nat → List AV} (d z : Nat) (zero : List AV) (a b : XArg) (fr : List AV) (l : Level) (h : Heap) : evO1 C gl (some d) (.mks z zero a b) fr (l :: h) = mksK d z zero fr l h (asNat (earg fr a)) (asNat (earg fr b)) := by
  simp only [evO1, evOp, mksK, mkBlk, Option.getD]
  cases asNat (earg fr a) with
  | none => rfl
  | some n =>
    cases asNat (earg fr b) with
    | none => rfl
    | some m =>
      simp only
      by_cases hc : n = m ∧ n * (32 * z) ≤ room
      · rw [if_pos hc, if_pos hc]; rfl
      · rw [if_neg hc, if_neg hc]
theorem mksK_some (d z : Nat) (zero : List AV) (fr : List AV) (l : Level) (h : Heap) (n m : Nat) : mksK d z zero fr l h (some n) (some m) =
    if n = m ∧ n * (32 * z) ≤ room then some (fput fr d (.sl ⟨h.length, d, nextVer l d⟩ z 0 n), lputc l d (nextVer l d) (List.replicate n zero).flatten :: h) else none := rfl
end Go.Proofs.YtgfeladjpjipeaaDoor.Sx
