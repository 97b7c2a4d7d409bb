/- One round of each loop. -/
import Derived.Test.YtjbgceogkgpjpaaGreatDoorEvA
import Derived.Test.YtjbgceogkgpjpaaGreatDoorSxText
import Derived.Attr
set_option linter.unusedVariables false
set_option linter.unusedSimpArgs false
/- The bodies of the loops, opened. Printed by a program of ours. -/
namespace Go.Proofs.YtjbgceogkgpjpaaGreatDoor.Sx.T
open Go Go.Proofs.YtjbgceogkgpjpaaGreatDoor.Sx
set_option maxRecDepth 10000
theorem x16_l0_run {X : List (Option XFn)} {gl : Nat → List AV} (s : St) : LC X gl x16_l0 s = LC X gl x16_r0 s := rfl
theorem x16_l1_run {X : List (Option XFn)} {gl : Nat → List AV} (s : St) : LC X gl x16_l1 s = LC X gl x16_r1 s := rfl
theorem x17_l0_run {X : List (Option XFn)} {gl : Nat → List AV} (s : St) : LC X gl x17_l0 s = LC X gl x17_r0 s := rfl
theorem x17_l1_run {X : List (Option XFn)} {gl : Nat → List AV} (s : St) : LC X gl x17_l1 s = LC X gl x17_r1 s := rfl
theorem x30_l0_run {X : List (Option XFn)} {gl : Nat → List AV} (s : St) : LC X gl x30_l0 s = LC X gl x30_r0 s := rfl
theorem x36_l0_run {X : List (Option XFn)} {gl : Nat → List AV} (s : St) : LC X gl x36_l0 s = LC X gl x36_r0 s := rfl
theorem x39_l0_run {X : List (Option XFn)} {gl : Nat → List AV} (s : St) : LC X gl x39_l0 s = LC X gl x39_r0 s := rfl
theorem x41_l0_run {X : List (Option XFn)} {gl : Nat → List AV} (s : St) : LC X gl x41_l0 s = LC X gl x41_r0 s := rfl
theorem x60_l0_run {X : List (Option XFn)} {gl : Nat → List AV} (s : St) : LC X gl x60_l0 s = LC X gl x60_r0 s := rfl
theorem x63_l0_run {X : List (Option XFn)} {gl : Nat → List AV} (s : St) : LC X gl x63_l0 s = LC X gl x63_r0 s := rfl
theorem x64_l0_run {X : List (Option XFn)} {gl : Nat → List AV} (s : St) : LC X gl x64_l0 s = LC X gl x64_r0 s := rfl
theorem x96_l0_run {X : List (Option XFn)} {gl : Nat → List AV} (s : St) : LC X gl x96_l0 s = LC X gl x96_r0 s := rfl
theorem x136_l0_run {X : List (Option XFn)} {gl : Nat → List AV} (s : St) : LC X gl x136_l0 s = LC X gl x136_r0 s := rfl
theorem x137_l0_run {X : List (Option XFn)} {gl : Nat → List AV} (s : St) : LC X gl x137_l0 s = LC X gl x137_r0 s := rfl
theorem x138_l0_run {X : List (Option XFn)} {gl : Nat → List AV} (s : St) : LC X gl x138_l0 s = LC X gl x138_r0 s := rfl
theorem x148_l0_run {X : List (Option XFn)} {gl : Nat → List AV} (s : St) : LC X gl x148_l0 s = LC X gl x148_r0 s := rfl
theorem x149_l0_run {X : List (Option XFn)} {gl : Nat → List AV} (s : St) : LC X gl x149_l0 s = LC X gl x149_r0 s := rfl
attribute [go_sem] zo zg x10_r0 x16_r0 x16_r1 x17_r0 x17_r1 x18_r0 x22_r0 x25_r0 x27_r0 x30_r0 x33_r0 x33_r1 x36_r0 x39_r0 x41_r0 x51_r0 x53_r0 x56_r0 x60_r0 x63_r0 x64_r0 x65_r0 x68_r0 x90_r0 x91_r0 x91_r1 x96_r0 x115_r0 x125_r0 x135_r0 x135_r1 x136_r0 x137_r0 x138_r0 x147_r0 x147_r1 x148_r0 x149_r0 x151_r0 x157_r0
end Go.Proofs.YtjbgceogkgpjpaaGreatDoor.Sx.T
