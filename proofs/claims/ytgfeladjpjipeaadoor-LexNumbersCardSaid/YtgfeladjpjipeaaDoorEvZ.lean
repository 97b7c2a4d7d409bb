/- EV, part Z: a law by what its call answers; arguments that are read. -/
import Derived.Test.YtgfeladjpjipeaaDoorEvB
import Derived.Test.YtgfeladjpjipeaaDoorSxZ
import Derived.ChangeShapes
import Derived.ChangeArms
import Derived.WideShapes
import Derived.OpenShut
set_option linter.unusedVariables false
set_option linter.unusedSimpArgs false
namespace Go.Proofs.YtgfeladjpjipeaaDoor.Sx
open Go Go.RowKit
theorem law_true_CLg {P : Program} {prims : List (Nat × Nat)} {X : List (Option XFn)} (hX : Checked0 P prims X) {gl : Nat → List AV} (hP : PrimOk P gl prims) (hmix : P.follows .mixedOrders = true) {f : Nat} {args : List AV} {hq : Heap}
    (he : CL X gl f args [] = some (.bool true, hq)) {xs : Array Value} {W : World} (hgl : GlOk flatG W gl) (hlen : args.length = xs.size)
    (hrel : ∀ (j : Nat) (u : AV) (z : Value), args[j]? = some u → xs[j]? = some z → RelV flatG W u z ∧ noFlag u) :
    Calls P f xs W fun e W' => e = .returned (.bool true) ∧ Below W.heap.size W W' := by
  obtain ⟨n, hn⟩ := CL_iff.1 he
  exact law_true_gl hX hP hmix hn hgl hlen hrel
end Go.Proofs.YtgfeladjpjipeaaDoor.Sx
namespace Go.Proofs.YtgfeladjpjipeaaDoor.Sx
open Go Go.RowKit
end Go.Proofs.YtgfeladjpjipeaaDoor.Sx
