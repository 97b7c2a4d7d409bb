/- One round of each loop. -/
import Derived.Test.YtafeikbbjhmlaaaGreatDoorEvA
import Derived.Test.YtafeikbbjhmlaaaGreatDoorSxText
import Derived.Attr
set_option linter.unusedVariables false
set_option linter.unusedSimpArgs false
/- The bodies of the loops, opened. Printed by a program of ours. -/
namespace Go.Proofs.YtafeikbbjhmlaaaGreatDoor.Sx.T
open Go Go.Proofs.YtafeikbbjhmlaaaGreatDoor.Sx
set_option maxRecDepth 10000
theorem x9_l0_run {X : List (Option XFn)} {gl : Nat → List AV} (s : St) : LC X gl x9_l0 s = LC X gl x9_r0 s := rfl
theorem x9_l1_run {X : List (Option XFn)} {gl : Nat → List AV} (s : St) : LC X gl x9_l1 s = LC X gl x9_r1 s := rfl
theorem x10_l0_run {X : List (Option XFn)} {gl : Nat → List AV} (s : St) : LC X gl x10_l0 s = LC X gl x10_r0 s := rfl
theorem x10_l1_run {X : List (Option XFn)} {gl : Nat → List AV} (s : St) : LC X gl x10_l1 s = LC X gl x10_r1 s := rfl
theorem x10_l2_run {X : List (Option XFn)} {gl : Nat → List AV} (s : St) : LC X gl x10_l2 s = LC X gl x10_r2 s := rfl
theorem x13_l0_run {X : List (Option XFn)} {gl : Nat → List AV} (s : St) : LC X gl x13_l0 s = LC X gl x13_r0 s := rfl
theorem x14_l0_run {X : List (Option XFn)} {gl : Nat → List AV} (s : St) : LC X gl x14_l0 s = LC X gl x14_r0 s := rfl
theorem x21_l0_run {X : List (Option XFn)} {gl : Nat → List AV} (s : St) : LC X gl x21_l0 s = LC X gl x21_r0 s := rfl
theorem x24_l0_run {X : List (Option XFn)} {gl : Nat → List AV} (s : St) : LC X gl x24_l0 s = LC X gl x24_r0 s := rfl
theorem x28_l0_run {X : List (Option XFn)} {gl : Nat → List AV} (s : St) : LC X gl x28_l0 s = LC X gl x28_r0 s := rfl
theorem x28_l1_run {X : List (Option XFn)} {gl : Nat → List AV} (s : St) : LC X gl x28_l1 s = LC X gl x28_r1 s := rfl
theorem x29_l0_run {X : List (Option XFn)} {gl : Nat → List AV} (s : St) : LC X gl x29_l0 s = LC X gl x29_r0 s := rfl
theorem x34_l0_run {X : List (Option XFn)} {gl : Nat → List AV} (s : St) : LC X gl x34_l0 s = LC X gl x34_r0 s := rfl
theorem x36_l0_run {X : List (Option XFn)} {gl : Nat → List AV} (s : St) : LC X gl x36_l0 s = LC X gl x36_r0 s := rfl
theorem x46_l0_run {X : List (Option XFn)} {gl : Nat → List AV} (s : St) : LC X gl x46_l0 s = LC X gl x46_r0 s := rfl
theorem x47_l0_run {X : List (Option XFn)} {gl : Nat → List AV} (s : St) : LC X gl x47_l0 s = LC X gl x47_r0 s := rfl
theorem x48_l0_run {X : List (Option XFn)} {gl : Nat → List AV} (s : St) : LC X gl x48_l0 s = LC X gl x48_r0 s := rfl
theorem x49_l0_run {X : List (Option XFn)} {gl : Nat → List AV} (s : St) : LC X gl x49_l0 s = LC X gl x49_r0 s := rfl
theorem x53_l0_run {X : List (Option XFn)} {gl : Nat → List AV} (s : St) : LC X gl x53_l0 s = LC X gl x53_r0 s := rfl
theorem x54_l0_run {X : List (Option XFn)} {gl : Nat → List AV} (s : St) : LC X gl x54_l0 s = LC X gl x54_r0 s := rfl
theorem x55_l0_run {X : List (Option XFn)} {gl : Nat → List AV} (s : St) : LC X gl x55_l0 s = LC X gl x55_r0 s := rfl
theorem x57_l0_run {X : List (Option XFn)} {gl : Nat → List AV} (s : St) : LC X gl x57_l0 s = LC X gl x57_r0 s := rfl
theorem x59_l0_run {X : List (Option XFn)} {gl : Nat → List AV} (s : St) : LC X gl x59_l0 s = LC X gl x59_r0 s := rfl
theorem x60_l0_run {X : List (Option XFn)} {gl : Nat → List AV} (s : St) : LC X gl x60_l0 s = LC X gl x60_r0 s := rfl
theorem x106_l0_run {X : List (Option XFn)} {gl : Nat → List AV} (s : St) : LC X gl x106_l0 s = LC X gl x106_r0 s := rfl
theorem x109_l0_run {X : List (Option XFn)} {gl : Nat → List AV} (s : St) : LC X gl x109_l0 s = LC X gl x109_r0 s := rfl
theorem x135_l0_run {X : List (Option XFn)} {gl : Nat → List AV} (s : St) : LC X gl x135_l0 s = LC X gl x135_r0 s := rfl
theorem x135_l1_run {X : List (Option XFn)} {gl : Nat → List AV} (s : St) : LC X gl x135_l1 s = LC X gl x135_r1 s := rfl
theorem x137_l0_run {X : List (Option XFn)} {gl : Nat → List AV} (s : St) : LC X gl x137_l0 s = LC X gl x137_r0 s := rfl
theorem x154_l0_run {X : List (Option XFn)} {gl : Nat → List AV} (s : St) : LC X gl x154_l0 s = LC X gl x154_r0 s := rfl
theorem x155_l0_run {X : List (Option XFn)} {gl : Nat → List AV} (s : St) : LC X gl x155_l0 s = LC X gl x155_r0 s := rfl
theorem x159_l0_run {X : List (Option XFn)} {gl : Nat → List AV} (s : St) : LC X gl x159_l0 s = LC X gl x159_r0 s := rfl
theorem x160_l0_run {X : List (Option XFn)} {gl : Nat → List AV} (s : St) : LC X gl x160_l0 s = LC X gl x160_r0 s := rfl
attribute [go_sem] zo zg x9_r0 x9_r1 x10_r0 x10_r1 x10_r2 x13_r0 x14_r0 x17_r0 x19_r0 x21_r0 x24_r0 x28_r0 x28_r1 x29_r0 x34_r0 x36_r0 x37_r0 x37_r1 x42_r0 x44_r0 x45_r0 x46_r0 x47_r0 x48_r0 x49_r0 x53_r0 x54_r0 x55_r0 x57_r0 x59_r0 x60_r0 x64_r0 x93_r0 x99_r0 x106_r0 x109_r0 x135_r0 x135_r1 x137_r0 x143_r0 x154_r0 x155_r0 x158_r0 x159_r0 x160_r0
end Go.Proofs.YtafeikbbjhmlaaaGreatDoor.Sx.T
