/- One round of each loop. -/
import Derived.Test.YtafeikbbjhmlaaaGreatDoorEvA
import Derived.Test.YtafeikbbjhmlaaaGreatDoorSxText
import Derived.Attr
set_option linter.unusedVariables false
set_option linter.unusedSimpArgs false
/- The bodies of the loops, opened. Printed by a program of ours. -/
namespace Go.Proofs.YtafeikbbjhmlaaaGreatDoor.Sx.T
open Go Go.Proofs.YtafeikbbjhmlaaaGreatDoor.Sx
set_option maxRecDepth 10000
theorem x9_l0_run {X : List (Option XFn)} {gl : Nat → List AV} (s : St) : LC X gl x9_l0 s = LC X gl x9_r0 s := rfl
theorem x9_l1_run {X : List (Option XFn)} {gl : Nat → List AV} (s : St) : LC X gl x9_l1 s = LC X gl x9_r1 s := rfl
theorem x13_l0_run {X : List (Option XFn)} {gl : Nat → List AV} (s : St) : LC X gl x13_l0 s = LC X gl x13_r0 s := rfl
theorem x17_l0_run {X : List (Option XFn)} {gl : Nat → List AV} (s : St) : LC X gl x17_l0 s = LC X gl x17_r0 s := rfl
theorem x19_l0_run {X : List (Option XFn)} {gl : Nat → List AV} (s : St) : LC X gl x19_l0 s = LC X gl x19_r0 s := rfl
theorem x20_l0_run {X : List (Option XFn)} {gl : Nat → List AV} (s : St) : LC X gl x20_l0 s = LC X gl x20_r0 s := rfl
theorem x20_l1_run {X : List (Option XFn)} {gl : Nat → List AV} (s : St) : LC X gl x20_l1 s = LC X gl x20_r1 s := rfl
theorem x21_l0_run {X : List (Option XFn)} {gl : Nat → List AV} (s : St) : LC X gl x21_l0 s = LC X gl x21_r0 s := rfl
theorem x24_l0_run {X : List (Option XFn)} {gl : Nat → List AV} (s : St) : LC X gl x24_l0 s = LC X gl x24_r0 s := rfl
theorem x34_l0_run {X : List (Option XFn)} {gl : Nat → List AV} (s : St) : LC X gl x34_l0 s = LC X gl x34_r0 s := rfl
theorem x37_l0_run {X : List (Option XFn)} {gl : Nat → List AV} (s : St) : LC X gl x37_l0 s = LC X gl x37_r0 s := rfl
theorem x37_l1_run {X : List (Option XFn)} {gl : Nat → List AV} (s : St) : LC X gl x37_l1 s = LC X gl x37_r1 s := rfl
theorem x42_l0_run {X : List (Option XFn)} {gl : Nat → List AV} (s : St) : LC X gl x42_l0 s = LC X gl x42_r0 s := rfl
theorem x44_l0_run {X : List (Option XFn)} {gl : Nat → List AV} (s : St) : LC X gl x44_l0 s = LC X gl x44_r0 s := rfl
theorem x45_l0_run {X : List (Option XFn)} {gl : Nat → List AV} (s : St) : LC X gl x45_l0 s = LC X gl x45_r0 s := rfl
theorem x46_l0_run {X : List (Option XFn)} {gl : Nat → List AV} (s : St) : LC X gl x46_l0 s = LC X gl x46_r0 s := rfl
theorem x47_l0_run {X : List (Option XFn)} {gl : Nat → List AV} (s : St) : LC X gl x47_l0 s = LC X gl x47_r0 s := rfl
theorem x48_l0_run {X : List (Option XFn)} {gl : Nat → List AV} (s : St) : LC X gl x48_l0 s = LC X gl x48_r0 s := rfl
theorem x49_l0_run {X : List (Option XFn)} {gl : Nat → List AV} (s : St) : LC X gl x49_l0 s = LC X gl x49_r0 s := rfl
theorem x53_l0_run {X : List (Option XFn)} {gl : Nat → List AV} (s : St) : LC X gl x53_l0 s = LC X gl x53_r0 s := rfl
theorem x64_l0_run {X : List (Option XFn)} {gl : Nat → List AV} (s : St) : LC X gl x64_l0 s = LC X gl x64_r0 s := rfl
theorem x93_l0_run {X : List (Option XFn)} {gl : Nat → List AV} (s : St) : LC X gl x93_l0 s = LC X gl x93_r0 s := rfl
theorem x106_l0_run {X : List (Option XFn)} {gl : Nat → List AV} (s : St) : LC X gl x106_l0 s = LC X gl x106_r0 s := rfl
theorem x143_l0_run {X : List (Option XFn)} {gl : Nat → List AV} (s : St) : LC X gl x143_l0 s = LC X gl x143_r0 s := rfl
attribute [go_sem] zo zg x9_r0 x9_r1 x13_r0 x17_r0 x19_r0 x20_r0 x20_r1 x21_r0 x24_r0 x34_r0 x37_r0 x37_r1 x42_r0 x44_r0 x45_r0 x46_r0 x47_r0 x48_r0 x49_r0 x53_r0 x64_r0 x93_r0 x106_r0 x143_r0 x158_r0
end Go.Proofs.YtafeikbbjhmlaaaGreatDoor.Sx.T
