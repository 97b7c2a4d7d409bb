/- One round of each loop. -/
import Derived.Test.YtjbgceogkgpjpaaGreatDoorEvA
import Derived.Test.YtjbgceogkgpjpaaGreatDoorSxText
import Derived.Attr
set_option linter.unusedVariables false
set_option linter.unusedSimpArgs false
/- The bodies of the loops, opened. Printed by a program of ours. -/
namespace Go.Proofs.YtjbgceogkgpjpaaGreatDoor.Sx.T
open Go Go.Proofs.YtjbgceogkgpjpaaGreatDoor.Sx
set_option maxRecDepth 10000
theorem x15_l0_run {X : List (Option XFn)} {gl : Nat → List AV} (s : St) : LC X gl x15_l0 s = LC X gl x15_r0 s := rfl
theorem x15_l1_run {X : List (Option XFn)} {gl : Nat → List AV} (s : St) : LC X gl x15_l1 s = LC X gl x15_r1 s := rfl
theorem x16_l0_run {X : List (Option XFn)} {gl : Nat → List AV} (s : St) : LC X gl x16_l0 s = LC X gl x16_r0 s := rfl
theorem x16_l1_run {X : List (Option XFn)} {gl : Nat → List AV} (s : St) : LC X gl x16_l1 s = LC X gl x16_r1 s := rfl
theorem x18_l0_run {X : List (Option XFn)} {gl : Nat → List AV} (s : St) : LC X gl x18_l0 s = LC X gl x18_r0 s := rfl
theorem x20_l0_run {X : List (Option XFn)} {gl : Nat → List AV} (s : St) : LC X gl x20_l0 s = LC X gl x20_r0 s := rfl
theorem x20_l1_run {X : List (Option XFn)} {gl : Nat → List AV} (s : St) : LC X gl x20_l1 s = LC X gl x20_r1 s := rfl
theorem x22_l0_run {X : List (Option XFn)} {gl : Nat → List AV} (s : St) : LC X gl x22_l0 s = LC X gl x22_r0 s := rfl
theorem x23_l0_run {X : List (Option XFn)} {gl : Nat → List AV} (s : St) : LC X gl x23_l0 s = LC X gl x23_r0 s := rfl
theorem x23_l1_run {X : List (Option XFn)} {gl : Nat → List AV} (s : St) : LC X gl x23_l1 s = LC X gl x23_r1 s := rfl
theorem x33_l0_run {X : List (Option XFn)} {gl : Nat → List AV} (s : St) : LC X gl x33_l0 s = LC X gl x33_r0 s := rfl
theorem x33_l1_run {X : List (Option XFn)} {gl : Nat → List AV} (s : St) : LC X gl x33_l1 s = LC X gl x33_r1 s := rfl
theorem x39_l0_run {X : List (Option XFn)} {gl : Nat → List AV} (s : St) : LC X gl x39_l0 s = LC X gl x39_r0 s := rfl
theorem x51_l0_run {X : List (Option XFn)} {gl : Nat → List AV} (s : St) : LC X gl x51_l0 s = LC X gl x51_r0 s := rfl
theorem x53_l0_run {X : List (Option XFn)} {gl : Nat → List AV} (s : St) : LC X gl x53_l0 s = LC X gl x53_r0 s := rfl
theorem x56_l0_run {X : List (Option XFn)} {gl : Nat → List AV} (s : St) : LC X gl x56_l0 s = LC X gl x56_r0 s := rfl
theorem x63_l0_run {X : List (Option XFn)} {gl : Nat → List AV} (s : St) : LC X gl x63_l0 s = LC X gl x63_r0 s := rfl
theorem x65_l0_run {X : List (Option XFn)} {gl : Nat → List AV} (s : St) : LC X gl x65_l0 s = LC X gl x65_r0 s := rfl
theorem x96_l0_run {X : List (Option XFn)} {gl : Nat → List AV} (s : St) : LC X gl x96_l0 s = LC X gl x96_r0 s := rfl
theorem x125_l0_run {X : List (Option XFn)} {gl : Nat → List AV} (s : St) : LC X gl x125_l0 s = LC X gl x125_r0 s := rfl
theorem x151_l0_run {X : List (Option XFn)} {gl : Nat → List AV} (s : St) : LC X gl x151_l0 s = LC X gl x151_r0 s := rfl
attribute [go_sem] zo zg x10_r0 x15_r0 x15_r1 x16_r0 x16_r1 x18_r0 x20_r0 x20_r1 x22_r0 x23_r0 x23_r1 x25_r0 x27_r0 x33_r0 x33_r1 x39_r0 x51_r0 x53_r0 x56_r0 x63_r0 x65_r0 x68_r0 x96_r0 x115_r0 x125_r0 x135_r0 x135_r1 x147_r0 x147_r1 x151_r0 x157_r0
end Go.Proofs.YtjbgceogkgpjpaaGreatDoor.Sx.T
