/- One round of each loop. -/
import Derived.Test.YtnmaahfipddkmaaGreatEvA
import Derived.Test.YtnmaahfipddkmaaGreatSxText
import Derived.Attr
set_option linter.unusedVariables false
set_option linter.unusedSimpArgs false
/- The bodies of the loops, opened. Printed by a program of ours. -/
namespace Go.Proofs.YtnmaahfipddkmaaGreat.Sx.T
open Go Go.Proofs.YtnmaahfipddkmaaGreat.Sx
set_option maxRecDepth 10000
theorem x4_l0_run {X : List (Option XFn)} {gl : Nat → List AV} (s : St) : LC X gl x4_l0 s = LC X gl x4_r0 s := rfl
theorem x4_l1_run {X : List (Option XFn)} {gl : Nat → List AV} (s : St) : LC X gl x4_l1 s = LC X gl x4_r1 s := rfl
theorem x14_l0_run {X : List (Option XFn)} {gl : Nat → List AV} (s : St) : LC X gl x14_l0 s = LC X gl x14_r0 s := rfl
theorem x15_l0_run {X : List (Option XFn)} {gl : Nat → List AV} (s : St) : LC X gl x15_l0 s = LC X gl x15_r0 s := rfl
theorem x16_l0_run {X : List (Option XFn)} {gl : Nat → List AV} (s : St) : LC X gl x16_l0 s = LC X gl x16_r0 s := rfl
theorem x31_l0_run {X : List (Option XFn)} {gl : Nat → List AV} (s : St) : LC X gl x31_l0 s = LC X gl x31_r0 s := rfl
theorem x31_l1_run {X : List (Option XFn)} {gl : Nat → List AV} (s : St) : LC X gl x31_l1 s = LC X gl x31_r1 s := rfl
theorem x31_l2_run {X : List (Option XFn)} {gl : Nat → List AV} (s : St) : LC X gl x31_l2 s = LC X gl x31_r2 s := rfl
theorem x32_l0_run {X : List (Option XFn)} {gl : Nat → List AV} (s : St) : LC X gl x32_l0 s = LC X gl x32_r0 s := rfl
theorem x41_l0_run {X : List (Option XFn)} {gl : Nat → List AV} (s : St) : LC X gl x41_l0 s = LC X gl x41_r0 s := rfl
theorem x42_l0_run {X : List (Option XFn)} {gl : Nat → List AV} (s : St) : LC X gl x42_l0 s = LC X gl x42_r0 s := rfl
theorem x42_l1_run {X : List (Option XFn)} {gl : Nat → List AV} (s : St) : LC X gl x42_l1 s = LC X gl x42_r1 s := rfl
theorem x43_l0_run {X : List (Option XFn)} {gl : Nat → List AV} (s : St) : LC X gl x43_l0 s = LC X gl x43_r0 s := rfl
theorem x43_l1_run {X : List (Option XFn)} {gl : Nat → List AV} (s : St) : LC X gl x43_l1 s = LC X gl x43_r1 s := rfl
theorem x43_l2_run {X : List (Option XFn)} {gl : Nat → List AV} (s : St) : LC X gl x43_l2 s = LC X gl x43_r2 s := rfl
theorem x45_l0_run {X : List (Option XFn)} {gl : Nat → List AV} (s : St) : LC X gl x45_l0 s = LC X gl x45_r0 s := rfl
theorem x46_l0_run {X : List (Option XFn)} {gl : Nat → List AV} (s : St) : LC X gl x46_l0 s = LC X gl x46_r0 s := rfl
theorem x48_l0_run {X : List (Option XFn)} {gl : Nat → List AV} (s : St) : LC X gl x48_l0 s = LC X gl x48_r0 s := rfl
theorem x56_l0_run {X : List (Option XFn)} {gl : Nat → List AV} (s : St) : LC X gl x56_l0 s = LC X gl x56_r0 s := rfl
theorem x57_l0_run {X : List (Option XFn)} {gl : Nat → List AV} (s : St) : LC X gl x57_l0 s = LC X gl x57_r0 s := rfl
theorem x58_l0_run {X : List (Option XFn)} {gl : Nat → List AV} (s : St) : LC X gl x58_l0 s = LC X gl x58_r0 s := rfl
theorem x59_l0_run {X : List (Option XFn)} {gl : Nat → List AV} (s : St) : LC X gl x59_l0 s = LC X gl x59_r0 s := rfl
theorem x59_l1_run {X : List (Option XFn)} {gl : Nat → List AV} (s : St) : LC X gl x59_l1 s = LC X gl x59_r1 s := rfl
theorem x68_l0_run {X : List (Option XFn)} {gl : Nat → List AV} (s : St) : LC X gl x68_l0 s = LC X gl x68_r0 s := rfl
theorem x73_l0_run {X : List (Option XFn)} {gl : Nat → List AV} (s : St) : LC X gl x73_l0 s = LC X gl x73_r0 s := rfl
theorem x74_l0_run {X : List (Option XFn)} {gl : Nat → List AV} (s : St) : LC X gl x74_l0 s = LC X gl x74_r0 s := rfl
theorem x79_l0_run {X : List (Option XFn)} {gl : Nat → List AV} (s : St) : LC X gl x79_l0 s = LC X gl x79_r0 s := rfl
theorem x81_l0_run {X : List (Option XFn)} {gl : Nat → List AV} (s : St) : LC X gl x81_l0 s = LC X gl x81_r0 s := rfl
theorem x83_l0_run {X : List (Option XFn)} {gl : Nat → List AV} (s : St) : LC X gl x83_l0 s = LC X gl x83_r0 s := rfl
theorem x86_l0_run {X : List (Option XFn)} {gl : Nat → List AV} (s : St) : LC X gl x86_l0 s = LC X gl x86_r0 s := rfl
theorem x87_l0_run {X : List (Option XFn)} {gl : Nat → List AV} (s : St) : LC X gl x87_l0 s = LC X gl x87_r0 s := rfl
theorem x92_l0_run {X : List (Option XFn)} {gl : Nat → List AV} (s : St) : LC X gl x92_l0 s = LC X gl x92_r0 s := rfl
theorem x93_l0_run {X : List (Option XFn)} {gl : Nat → List AV} (s : St) : LC X gl x93_l0 s = LC X gl x93_r0 s := rfl
theorem x98_l0_run {X : List (Option XFn)} {gl : Nat → List AV} (s : St) : LC X gl x98_l0 s = LC X gl x98_r0 s := rfl
theorem x103_l0_run {X : List (Option XFn)} {gl : Nat → List AV} (s : St) : LC X gl x103_l0 s = LC X gl x103_r0 s := rfl
theorem x128_l0_run {X : List (Option XFn)} {gl : Nat → List AV} (s : St) : LC X gl x128_l0 s = LC X gl x128_r0 s := rfl
theorem x134_l0_run {X : List (Option XFn)} {gl : Nat → List AV} (s : St) : LC X gl x134_l0 s = LC X gl x134_r0 s := rfl
theorem x135_l0_run {X : List (Option XFn)} {gl : Nat → List AV} (s : St) : LC X gl x135_l0 s = LC X gl x135_r0 s := rfl
theorem x136_l0_run {X : List (Option XFn)} {gl : Nat → List AV} (s : St) : LC X gl x136_l0 s = LC X gl x136_r0 s := rfl
theorem x137_l0_run {X : List (Option XFn)} {gl : Nat → List AV} (s : St) : LC X gl x137_l0 s = LC X gl x137_r0 s := rfl
theorem x138_l0_run {X : List (Option XFn)} {gl : Nat → List AV} (s : St) : LC X gl x138_l0 s = LC X gl x138_r0 s := rfl
attribute [go_sem] zo zg x4_r0 x4_r1 x14_r0 x15_r0 x16_r0 x17_r0 x25_r0 x27_r0 x29_r0 x31_r0 x31_r1 x31_r2 x32_r0 x38_r0 x41_r0 x42_r0 x42_r1 x43_r0 x43_r1 x43_r2 x45_r0 x46_r0 x48_r0 x56_r0 x57_r0 x58_r0 x59_r0 x59_r1 x61_r0 x62_r0 x64_r0 x66_r0 x68_r0 x73_r0 x74_r0 x79_r0 x81_r0 x83_r0 x86_r0 x87_r0 x92_r0 x93_r0 x98_r0 x103_r0 x128_r0 x134_r0 x135_r0 x136_r0 x137_r0 x138_r0
end Go.Proofs.YtnmaahfipddkmaaGreat.Sx.T
