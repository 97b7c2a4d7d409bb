/- One round of each loop. -/
import Derived.Test.YtjbgceogkgpjpaaGreatDoorEvA
import Derived.Test.YtjbgceogkgpjpaaGreatDoorSxText
import Derived.Attr
set_option linter.unusedVariables false
set_option linter.unusedSimpArgs false
/- The bodies of the loops, opened. Printed by a program of ours. -/
namespace Go.Proofs.YtjbgceogkgpjpaaGreatDoor.Sx.T
open Go Go.Proofs.YtjbgceogkgpjpaaGreatDoor.Sx
set_option maxRecDepth 10000
theorem x10_l0_run {X : List (Option XFn)} {gl : Nat → List AV} (s : St) : LC X gl x10_l0 s = LC X gl x10_r0 s := rfl
theorem x18_l0_run {X : List (Option XFn)} {gl : Nat → List AV} (s : St) : LC X gl x18_l0 s = LC X gl x18_r0 s := rfl
theorem x25_l0_run {X : List (Option XFn)} {gl : Nat → List AV} (s : St) : LC X gl x25_l0 s = LC X gl x25_r0 s := rfl
theorem x27_l0_run {X : List (Option XFn)} {gl : Nat → List AV} (s : St) : LC X gl x27_l0 s = LC X gl x27_r0 s := rfl
theorem x39_l0_run {X : List (Option XFn)} {gl : Nat → List AV} (s : St) : LC X gl x39_l0 s = LC X gl x39_r0 s := rfl
theorem x53_l0_run {X : List (Option XFn)} {gl : Nat → List AV} (s : St) : LC X gl x53_l0 s = LC X gl x53_r0 s := rfl
theorem x65_l0_run {X : List (Option XFn)} {gl : Nat → List AV} (s : St) : LC X gl x65_l0 s = LC X gl x65_r0 s := rfl
theorem x96_l0_run {X : List (Option XFn)} {gl : Nat → List AV} (s : St) : LC X gl x96_l0 s = LC X gl x96_r0 s := rfl
attribute [go_sem] zo zg x10_r0 x16_r0 x16_r1 x18_r0 x22_r0 x25_r0 x27_r0 x33_r0 x33_r1 x39_r0 x51_r0 x53_r0 x56_r0 x63_r0 x65_r0 x68_r0 x90_r0 x91_r0 x91_r1 x96_r0 x115_r0 x125_r0 x135_r0 x135_r1 x147_r0 x147_r1 x151_r0 x157_r0
end Go.Proofs.YtjbgceogkgpjpaaGreatDoor.Sx.T
