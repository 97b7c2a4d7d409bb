/- One round of each loop. -/
import Derived.Test.YtgfeladjpjipeaaDoorEvA
import Derived.Test.YtgfeladjpjipeaaDoorSxText
import Derived.Attr
set_option linter.unusedVariables false
set_option linter.unusedSimpArgs false
/- The bodies of the loops, opened. Printed by a program of ours. -/
namespace Go.Proofs.YtgfeladjpjipeaaDoor.Sx.T
open Go Go.Proofs.YtgfeladjpjipeaaDoor.Sx
set_option maxRecDepth 10000
theorem x4_l0_run {X : List (Option XFn)} {gl : Nat → List AV} (s : St) : LC X gl x4_l0 s = LC X gl x4_r0 s := rfl
theorem x8_l0_run {X : List (Option XFn)} {gl : Nat → List AV} (s : St) : LC X gl x8_l0 s = LC X gl x8_r0 s := rfl
theorem x10_l0_run {X : List (Option XFn)} {gl : Nat → List AV} (s : St) : LC X gl x10_l0 s = LC X gl x10_r0 s := rfl
theorem x11_l0_run {X : List (Option XFn)} {gl : Nat → List AV} (s : St) : LC X gl x11_l0 s = LC X gl x11_r0 s := rfl
theorem x21_l0_run {X : List (Option XFn)} {gl : Nat → List AV} (s : St) : LC X gl x21_l0 s = LC X gl x21_r0 s := rfl
theorem x24_l0_run {X : List (Option XFn)} {gl : Nat → List AV} (s : St) : LC X gl x24_l0 s = LC X gl x24_r0 s := rfl
theorem x25_l0_run {X : List (Option XFn)} {gl : Nat → List AV} (s : St) : LC X gl x25_l0 s = LC X gl x25_r0 s := rfl
theorem x26_l0_run {X : List (Option XFn)} {gl : Nat → List AV} (s : St) : LC X gl x26_l0 s = LC X gl x26_r0 s := rfl
theorem x28_l0_run {X : List (Option XFn)} {gl : Nat → List AV} (s : St) : LC X gl x28_l0 s = LC X gl x28_r0 s := rfl
theorem x29_l0_run {X : List (Option XFn)} {gl : Nat → List AV} (s : St) : LC X gl x29_l0 s = LC X gl x29_r0 s := rfl
theorem x36_l0_run {X : List (Option XFn)} {gl : Nat → List AV} (s : St) : LC X gl x36_l0 s = LC X gl x36_r0 s := rfl
theorem x37_l0_run {X : List (Option XFn)} {gl : Nat → List AV} (s : St) : LC X gl x37_l0 s = LC X gl x37_r0 s := rfl
theorem x41_l0_run {X : List (Option XFn)} {gl : Nat → List AV} (s : St) : LC X gl x41_l0 s = LC X gl x41_r0 s := rfl
theorem x52_l0_run {X : List (Option XFn)} {gl : Nat → List AV} (s : St) : LC X gl x52_l0 s = LC X gl x52_r0 s := rfl
theorem x53_l0_run {X : List (Option XFn)} {gl : Nat → List AV} (s : St) : LC X gl x53_l0 s = LC X gl x53_r0 s := rfl
theorem x54_l0_run {X : List (Option XFn)} {gl : Nat → List AV} (s : St) : LC X gl x54_l0 s = LC X gl x54_r0 s := rfl
theorem x59_l0_run {X : List (Option XFn)} {gl : Nat → List AV} (s : St) : LC X gl x59_l0 s = LC X gl x59_r0 s := rfl
theorem x70_l0_run {X : List (Option XFn)} {gl : Nat → List AV} (s : St) : LC X gl x70_l0 s = LC X gl x70_r0 s := rfl
theorem x72_l0_run {X : List (Option XFn)} {gl : Nat → List AV} (s : St) : LC X gl x72_l0 s = LC X gl x72_r0 s := rfl
theorem x81_l0_run {X : List (Option XFn)} {gl : Nat → List AV} (s : St) : LC X gl x81_l0 s = LC X gl x81_r0 s := rfl
theorem x98_l0_run {X : List (Option XFn)} {gl : Nat → List AV} (s : St) : LC X gl x98_l0 s = LC X gl x98_r0 s := rfl
theorem x99_l0_run {X : List (Option XFn)} {gl : Nat → List AV} (s : St) : LC X gl x99_l0 s = LC X gl x99_r0 s := rfl
theorem x100_l0_run {X : List (Option XFn)} {gl : Nat → List AV} (s : St) : LC X gl x100_l0 s = LC X gl x100_r0 s := rfl
theorem x101_l0_run {X : List (Option XFn)} {gl : Nat → List AV} (s : St) : LC X gl x101_l0 s = LC X gl x101_r0 s := rfl
theorem x102_l0_run {X : List (Option XFn)} {gl : Nat → List AV} (s : St) : LC X gl x102_l0 s = LC X gl x102_r0 s := rfl
attribute [go_sem] zo zg x4_r0 x8_r0 x10_r0 x11_r0 x21_r0 x24_r0 x25_r0 x26_r0 x28_r0 x29_r0 x36_r0 x37_r0 x41_r0 x52_r0 x53_r0 x54_r0 x57_r0 x59_r0 x68_r0 x69_r0 x69_r1 x70_r0 x72_r0 x75_r0 x75_r1 x77_r0 x81_r0 x90_r0 x90_r1 x98_r0 x99_r0 x100_r0 x101_r0 x102_r0
end Go.Proofs.YtgfeladjpjipeaaDoor.Sx.T
