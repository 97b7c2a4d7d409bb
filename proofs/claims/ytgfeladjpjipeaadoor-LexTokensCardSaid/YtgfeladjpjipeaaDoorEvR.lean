/- EV, part R: a loop over a text's letters. -/
import Derived.Test.YtgfeladjpjipeaaDoorEvB
import Derived.Laws.RangeAny
set_option linter.unusedVariables false
set_option linter.unusedSimpArgs false
namespace Go.Proofs.YtgfeladjpjipeaaDoor.Sx
open Go
theorem lput_lput (l : Level) (s : Nat) (a b : Option (Nat × Blk)) : lput (lput l s a) s b = lput l s b := by
  induction l generalizing s with
  | nil =>
    induction s with
    | zero => rfl
    | succ s ih => simp only [lput]; rw [ih]
  | cons x l ih =>
    cases s with
    | zero => rfl
    | succ s => simp only [lput]; rw [ih]
end Go.Proofs.YtgfeladjpjipeaaDoor.Sx
