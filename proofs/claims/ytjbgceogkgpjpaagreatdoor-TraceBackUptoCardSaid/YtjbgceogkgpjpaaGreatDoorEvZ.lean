/- EV, part Z: a law by what its call answers; arguments that are read. -/
import Derived.Test.YtjbgceogkgpjpaaGreatDoorEvB
import Derived.Test.YtjbgceogkgpjpaaGreatDoorSxZ
import Derived.ChangeShapes
import Derived.ChangeArms
import Derived.WideShapes
import Derived.OpenShut
set_option linter.unusedVariables false
set_option linter.unusedSimpArgs false
namespace Go.Proofs.YtjbgceogkgpjpaaGreatDoor.Sx
open Go Go.RowKit
theorem law_true_CLg {P : Program} {prims : List (Nat × Nat)} {X : List (Option XFn)} (hX : Checked0 P prims X) {gl : Nat → List AV} (hP : PrimOk P gl prims) (hmix : P.follows .mixedOrders = true) {f : Nat} {args : List AV} {hq : Heap}
    (he : CL X gl f args [] = some (.bool true, hq)) {xs : Array Value} {W : World} (hgl : GlOk flatG W gl) (hlen : args.length = xs.size)
    (hrel : ∀ (j : Nat) (u : AV) (z : Value), args[j]? = some u → xs[j]? = some z → RelV flatG W u z ∧ noFlag u) :
    Calls P f xs W fun e W' => e = .returned (.bool true) ∧ Below W.heap.size W W' := by
  obtain ⟨n, hn⟩ := CL_iff.1 he
  exact law_true_gl hX hP hmix hn hgl hlen hrel
theorem str_wf {s : ByteArray} (h : s.size ≤ maxLen) : s.data.toList.length ≤ 9223372036854775807 := by
  have h2 : s.size ≤ 9223372036854775807 := h
  rw [Array.length_toList]
  exact h2
theorem i64_wf {n : Int} (h : (Lit.int .i64 n).wf = true) : -9223372036854775808 ≤ n ∧ n < 9223372036854775808 := by
  simp [Lit.wf, IntKind.min, IntKind.max, IntKind.signed, IntKind.bits] at h
  omega
def IntIn (k : IntKind) (n : Int) : Prop := (Lit.int k n).wf = true
end Go.Proofs.YtjbgceogkgpjpaaGreatDoor.Sx
namespace Go.Proofs.YtjbgceogkgpjpaaGreatDoor.Sx
open Go Go.RowKit
end Go.Proofs.YtjbgceogkgpjpaaGreatDoor.Sx
