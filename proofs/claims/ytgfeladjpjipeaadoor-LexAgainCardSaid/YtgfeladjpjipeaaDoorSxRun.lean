/- One round of each loop. -/
import Derived.Test.YtgfeladjpjipeaaDoorEvA
import Derived.Test.YtgfeladjpjipeaaDoorSxText
import Derived.Attr
set_option linter.unusedVariables false
set_option linter.unusedSimpArgs false
/- The bodies of the loops, opened. Printed by a program of ours. -/
namespace Go.Proofs.YtgfeladjpjipeaaDoor.Sx.T
open Go Go.Proofs.YtgfeladjpjipeaaDoor.Sx
set_option maxRecDepth 10000
theorem x6_l0_run {X : List (Option XFn)} {gl : Nat → List AV} (s : St) : LC X gl x6_l0 s = LC X gl x6_r0 s := rfl
theorem x6_l1_run {X : List (Option XFn)} {gl : Nat → List AV} (s : St) : LC X gl x6_l1 s = LC X gl x6_r1 s := rfl
theorem x6_l2_run {X : List (Option XFn)} {gl : Nat → List AV} (s : St) : LC X gl x6_l2 s = LC X gl x6_r2 s := rfl
theorem x8_l0_run {X : List (Option XFn)} {gl : Nat → List AV} (s : St) : LC X gl x8_l0 s = LC X gl x8_r0 s := rfl
theorem x36_l0_run {X : List (Option XFn)} {gl : Nat → List AV} (s : St) : LC X gl x36_l0 s = LC X gl x36_r0 s := rfl
theorem x37_l0_run {X : List (Option XFn)} {gl : Nat → List AV} (s : St) : LC X gl x37_l0 s = LC X gl x37_r0 s := rfl
theorem x59_l0_run {X : List (Option XFn)} {gl : Nat → List AV} (s : St) : LC X gl x59_l0 s = LC X gl x59_r0 s := rfl
theorem x81_l0_run {X : List (Option XFn)} {gl : Nat → List AV} (s : St) : LC X gl x81_l0 s = LC X gl x81_r0 s := rfl
attribute [go_sem] zo zg x6_r0 x6_r1 x6_r2 x8_r0 x36_r0 x37_r0 x57_r0 x59_r0 x68_r0 x69_r0 x69_r1 x75_r0 x75_r1 x77_r0 x81_r0 x90_r0 x90_r1
end Go.Proofs.YtgfeladjpjipeaaDoor.Sx.T
