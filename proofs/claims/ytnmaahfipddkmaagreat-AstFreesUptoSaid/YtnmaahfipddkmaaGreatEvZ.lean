/- EV, part Z: a law by what its call answers; arguments that are read. -/
import Derived.Test.YtnmaahfipddkmaaGreatEvB
import Derived.Test.YtnmaahfipddkmaaGreatSxZ
import Derived.ChangeShapes
import Derived.ChangeArms
import Derived.WideShapes
import Derived.OpenShut
set_option linter.unusedVariables false
set_option linter.unusedSimpArgs false
namespace Go.Proofs.YtnmaahfipddkmaaGreat.Sx
open Go Go.RowKit
theorem law_true_CL {P : Program} {prims : List (Nat × Nat)} {X : List (Option XFn)} (hX : Checked0 P prims X) (hP : PrimOk P G0 prims) (hmix : P.follows .mixedOrders = true) {f : Nat} {args : List AV} {hq : Heap}
    (he : CL X G0 f args [] = some (.bool true, hq)) {xs : Array Value} {W : World} (hlen : args.length = xs.size)
    (hrel : ∀ (j : Nat) (u : AV) (z : Value), args[j]? = some u → xs[j]? = some z → RelV flatG W u z ∧ noFlag u) :
    Calls P f xs W fun e W' => e = .returned (.bool true) ∧ Below W.heap.size W W' := by
  obtain ⟨n, hn⟩ := CL_iff.1 he
  exact law_true hX hP hmix hn hlen hrel
def IntIn (k : IntKind) (n : Int) : Prop := (Lit.int k n).wf = true
end Go.Proofs.YtnmaahfipddkmaaGreat.Sx
namespace Go.Proofs.YtnmaahfipddkmaaGreat.Sx
open Go Go.RowKit
end Go.Proofs.YtnmaahfipddkmaaGreat.Sx
