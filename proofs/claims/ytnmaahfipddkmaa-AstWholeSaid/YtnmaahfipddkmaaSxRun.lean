/- One round of each loop. -/
import Derived.Test.YtnmaahfipddkmaaEvA
import Derived.Test.YtnmaahfipddkmaaSxText
import Derived.Attr
set_option linter.unusedVariables false
set_option linter.unusedSimpArgs false
/- The bodies of the loops, opened. Printed by a program of ours. -/
namespace Go.Proofs.Ytnmaahfipddkmaa.Sx.T
open Go Go.Proofs.Ytnmaahfipddkmaa.Sx
set_option maxRecDepth 10000
theorem x7_l0_run {X : List (Option XFn)} {gl : Nat → List AV} (s : St) : LC X gl x7_l0 s = LC X gl x7_r0 s := rfl
theorem x7_l1_run {X : List (Option XFn)} {gl : Nat → List AV} (s : St) : LC X gl x7_l1 s = LC X gl x7_r1 s := rfl
theorem x7_l2_run {X : List (Option XFn)} {gl : Nat → List AV} (s : St) : LC X gl x7_l2 s = LC X gl x7_r2 s := rfl
theorem x10_l0_run {X : List (Option XFn)} {gl : Nat → List AV} (s : St) : LC X gl x10_l0 s = LC X gl x10_r0 s := rfl
theorem x20_l0_run {X : List (Option XFn)} {gl : Nat → List AV} (s : St) : LC X gl x20_l0 s = LC X gl x20_r0 s := rfl
theorem x21_l0_run {X : List (Option XFn)} {gl : Nat → List AV} (s : St) : LC X gl x21_l0 s = LC X gl x21_r0 s := rfl
theorem x22_l0_run {X : List (Option XFn)} {gl : Nat → List AV} (s : St) : LC X gl x22_l0 s = LC X gl x22_r0 s := rfl
theorem x33_l0_run {X : List (Option XFn)} {gl : Nat → List AV} (s : St) : LC X gl x33_l0 s = LC X gl x33_r0 s := rfl
theorem x34_l0_run {X : List (Option XFn)} {gl : Nat → List AV} (s : St) : LC X gl x34_l0 s = LC X gl x34_r0 s := rfl
theorem x36_l0_run {X : List (Option XFn)} {gl : Nat → List AV} (s : St) : LC X gl x36_l0 s = LC X gl x36_r0 s := rfl
theorem x38_l0_run {X : List (Option XFn)} {gl : Nat → List AV} (s : St) : LC X gl x38_l0 s = LC X gl x38_r0 s := rfl
theorem x40_l0_run {X : List (Option XFn)} {gl : Nat → List AV} (s : St) : LC X gl x40_l0 s = LC X gl x40_r0 s := rfl
theorem x42_l0_run {X : List (Option XFn)} {gl : Nat → List AV} (s : St) : LC X gl x42_l0 s = LC X gl x42_r0 s := rfl
theorem x44_l0_run {X : List (Option XFn)} {gl : Nat → List AV} (s : St) : LC X gl x44_l0 s = LC X gl x44_r0 s := rfl
theorem x45_l0_run {X : List (Option XFn)} {gl : Nat → List AV} (s : St) : LC X gl x45_l0 s = LC X gl x45_r0 s := rfl
theorem x45_l1_run {X : List (Option XFn)} {gl : Nat → List AV} (s : St) : LC X gl x45_l1 s = LC X gl x45_r1 s := rfl
theorem x52_l0_run {X : List (Option XFn)} {gl : Nat → List AV} (s : St) : LC X gl x52_l0 s = LC X gl x52_r0 s := rfl
theorem x57_l0_run {X : List (Option XFn)} {gl : Nat → List AV} (s : St) : LC X gl x57_l0 s = LC X gl x57_r0 s := rfl
theorem x62_l0_run {X : List (Option XFn)} {gl : Nat → List AV} (s : St) : LC X gl x62_l0 s = LC X gl x62_r0 s := rfl
theorem x64_l0_run {X : List (Option XFn)} {gl : Nat → List AV} (s : St) : LC X gl x64_l0 s = LC X gl x64_r0 s := rfl
theorem x66_l0_run {X : List (Option XFn)} {gl : Nat → List AV} (s : St) : LC X gl x66_l0 s = LC X gl x66_r0 s := rfl
theorem x68_l0_run {X : List (Option XFn)} {gl : Nat → List AV} (s : St) : LC X gl x68_l0 s = LC X gl x68_r0 s := rfl
theorem x69_l0_run {X : List (Option XFn)} {gl : Nat → List AV} (s : St) : LC X gl x69_l0 s = LC X gl x69_r0 s := rfl
theorem x74_l0_run {X : List (Option XFn)} {gl : Nat → List AV} (s : St) : LC X gl x74_l0 s = LC X gl x74_r0 s := rfl
theorem x79_l0_run {X : List (Option XFn)} {gl : Nat → List AV} (s : St) : LC X gl x79_l0 s = LC X gl x79_r0 s := rfl
theorem x100_l0_run {X : List (Option XFn)} {gl : Nat → List AV} (s : St) : LC X gl x100_l0 s = LC X gl x100_r0 s := rfl
attribute [go_sem] zo zg x7_r0 x7_r1 x7_r2 x10_r0 x15_r0 x20_r0 x21_r0 x22_r0 x24_r0 x33_r0 x34_r0 x36_r0 x38_r0 x40_r0 x42_r0 x44_r0 x45_r0 x45_r1 x52_r0 x57_r0 x62_r0 x64_r0 x66_r0 x68_r0 x69_r0 x74_r0 x79_r0 x100_r0
end Go.Proofs.Ytnmaahfipddkmaa.Sx.T
