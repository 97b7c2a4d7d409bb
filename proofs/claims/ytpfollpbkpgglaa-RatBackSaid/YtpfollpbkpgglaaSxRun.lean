/- The bodies of the loops, opened. Printed by a program of ours. -/
import Derived.Test.YtpfollpbkpgglaaEvA
import Derived.Test.YtpfollpbkpgglaaSxText
namespace Go.Proofs.Ytpfollpbkpgglaa.Sx.T
open Go Go.Proofs.Ytpfollpbkpgglaa.Sx
set_option maxRecDepth 10000
theorem x26_l0_run {X : List (Option XFn)} {gl : Nat → List AV} (s : St) : LC X gl x26_l0 s = LC X gl (.seq (.seq (.region false [⟨(some 5), .mov (.tmp 1), none⟩,
    ⟨(some 6), .bin .neq (.tmp 5) (.cst (.int .u64 0)), none⟩] [])
  (.cond (.tmp 6) .skip (.exit 0)))
  (.block 1 (.region true [⟨(some 7), .mov (.tmp 1), none⟩,
    ⟨(some 8), .mov (.tmp 0), none⟩,
    ⟨(some 9), .mov (.tmp 1), none⟩,
    ⟨(some 10), .bin .rem (.tmp 8) (.tmp 9), none⟩,
    ⟨(some 0), .own 7, none⟩,
    ⟨(some 1), .own 10, none⟩] []))) s := rfl
theorem x34_l0_run {X : List (Option XFn)} {gl : Nat → List AV} (s : St) : LC X gl x34_l0 s = LC X gl (.seq (.seq (.region false [⟨(some 20), .mov (.tmp 10), none⟩,
    ⟨(some 21), .bin .lss (.tmp 20) (.cst (.int .i64 2)), none⟩] [])
  (.cond (.tmp 21) .skip (.exit 2)))
  (.seq (.block 3 (.seq (.region true [⟨(some 24), .mov (.tmp 8), none⟩,
    ⟨(some 25), .mov (.tmp 10), none⟩,
    ⟨(some 26), .bin .add (.tmp 24) (.tmp 25), none⟩,
    ⟨(some 27), .faddr (.tmp 7) 0, none⟩,
    ⟨(some 28), .iarr 4 1 (.tmp 27) (.tmp 26), none⟩,
    ⟨(some 29), .load (.tmp 28) 1 false, none⟩,
    ⟨(some 30), .mov (.tmp 8), none⟩,
    ⟨(some 31), .faddr (.tmp 5) 0, none⟩,
    ⟨(some 32), .iarr 4 1 (.tmp 31) (.tmp 30), none⟩,
    ⟨(some 33), .load (.tmp 32) 1 false, none⟩,
    ⟨(some 34), .mov (.tmp 10), none⟩,
    ⟨(some 35), .faddr (.tmp 6) 0, none⟩,
    ⟨(some 36), .iarr 4 1 (.tmp 35) (.tmp 34), none⟩,
    ⟨(some 37), .load (.tmp 36) 1 false, none⟩,
    ⟨(some 38), .bin .mul (.tmp 33) (.tmp 37), none⟩,
    ⟨(some 39), .bin .add (.tmp 29) (.tmp 38), none⟩,
    ⟨(some 40), .mov (.tmp 9), none⟩,
    ⟨(some 41), .bin .add (.tmp 39) (.tmp 40), none⟩,
    ⟨(some 11), .own 41, none⟩] [])
  (.seq (.region false [⟨(some 42), .mov (.tmp 8), none⟩,
    ⟨(some 43), .mov (.tmp 10), none⟩,
    ⟨(some 44), .bin .add (.tmp 42) (.tmp 43), none⟩,
    ⟨(some 45), .mov (.tmp 11), none⟩,
    ⟨(some 46), .bin .rem (.tmp 45) (.cst (.int .u64 4294967296)), none⟩,
    ⟨(some 47), .faddr (.tmp 7) 0, none⟩,
    ⟨(some 48), .iarr 4 1 (.tmp 47) (.tmp 44), none⟩,
    ⟨none, .store (.tmp 48) (.tmp 46) 1, none⟩] [])
  (.region false [⟨(some 49), .mov (.tmp 11), none⟩,
    ⟨(some 50), .bin .quo (.tmp 49) (.cst (.int .u64 4294967296)), none⟩,
    ⟨(some 9), .own 50, none⟩] []))))
  (.region false [⟨(some 22), .mov (.tmp 10), none⟩,
    ⟨(some 23), .bin .add (.tmp 22) (.cst (.int .i64 1)), none⟩,
    ⟨(some 10), .own 23, none⟩] []))) s := rfl
theorem x34_l1_run {X : List (Option XFn)} {gl : Nat → List AV} (s : St) : LC X gl x34_l1 s = LC X gl (.seq (.seq (.region false [⟨(some 16), .mov (.tmp 8), none⟩,
    ⟨(some 17), .bin .lss (.tmp 16) (.cst (.int .i64 2)), none⟩] [])
  (.cond (.tmp 17) .skip (.exit 0)))
  (.seq (.block 1 (.seq (.region false [⟨(some 9), .mov (.cst (.int .u64 0)), none⟩] [])
  (.seq (.seq (.region false [⟨(some 10), .mov (.cst (.int .i64 0)), none⟩] [])
  (.block 2 (.loop x34_l0)))
  (.region false [⟨(some 51), .mov (.tmp 8), none⟩,
    ⟨(some 52), .bin .add (.tmp 51) (.cst (.int .i64 2)), none⟩,
    ⟨(some 53), .mov (.tmp 8), none⟩,
    ⟨(some 54), .bin .add (.tmp 53) (.cst (.int .i64 2)), none⟩,
    ⟨(some 55), .faddr (.tmp 7) 0, none⟩,
    ⟨(some 56), .iarr 4 1 (.tmp 55) (.tmp 54), none⟩,
    ⟨(some 57), .load (.tmp 56) 1 false, none⟩,
    ⟨(some 58), .mov (.tmp 9), none⟩,
    ⟨(some 59), .bin .add (.tmp 57) (.tmp 58), none⟩,
    ⟨(some 60), .faddr (.tmp 7) 0, none⟩,
    ⟨(some 61), .iarr 4 1 (.tmp 60) (.tmp 52), none⟩,
    ⟨none, .store (.tmp 61) (.tmp 59) 1, none⟩] []))))
  (.region false [⟨(some 18), .mov (.tmp 8), none⟩,
    ⟨(some 19), .bin .add (.tmp 18) (.cst (.int .i64 1)), none⟩,
    ⟨(some 8), .own 19, none⟩] []))) s := rfl
theorem x35_l0_run {X : List (Option XFn)} {gl : Nat → List AV} (s : St) : LC X gl x35_l0 s = LC X gl (.seq (.seq (.region false [⟨(some 6), .mov (.tmp 5), none⟩,
    ⟨(some 7), .bin .geq (.tmp 6) (.cst (.int .i64 0)), none⟩] [])
  (.cond (.tmp 7) .skip (.exit 0)))
  (.seq (.block 1 (.seq (.seq (.region true [⟨(some 10), .mov (.tmp 5), none⟩,
    ⟨(some 11), .faddr (.tmp 2) 0, none⟩,
    ⟨(some 12), .iarr 4 1 (.tmp 11) (.tmp 10), none⟩,
    ⟨(some 13), .load (.tmp 12) 1 false, none⟩,
    ⟨(some 14), .mov (.tmp 5), none⟩,
    ⟨(some 15), .faddr (.tmp 3) 0, none⟩,
    ⟨(some 16), .iarr 4 1 (.tmp 15) (.tmp 14), none⟩,
    ⟨(some 17), .load (.tmp 16) 1 false, none⟩,
    ⟨(some 18), .bin .lss (.tmp 13) (.tmp 17), none⟩] [])
  (.cond (.tmp 18) (.seq (.region false [⟨(some 4), .mov (.cst (.int .i64 (-1))), none⟩] [])
  .ret) .skip))
  (.seq (.region true [⟨(some 19), .mov (.tmp 5), none⟩,
    ⟨(some 20), .faddr (.tmp 2) 0, none⟩,
    ⟨(some 21), .iarr 4 1 (.tmp 20) (.tmp 19), none⟩,
    ⟨(some 22), .load (.tmp 21) 1 false, none⟩,
    ⟨(some 23), .mov (.tmp 5), none⟩,
    ⟨(some 24), .faddr (.tmp 3) 0, none⟩,
    ⟨(some 25), .iarr 4 1 (.tmp 24) (.tmp 23), none⟩,
    ⟨(some 26), .load (.tmp 25) 1 false, none⟩,
    ⟨(some 27), .bin .gtr (.tmp 22) (.tmp 26), none⟩] [])
  (.cond (.tmp 27) (.seq (.region false [⟨(some 4), .mov (.cst (.int .i64 1)), none⟩] [])
  .ret) .skip))))
  (.region false [⟨(some 8), .mov (.tmp 5), none⟩,
    ⟨(some 9), .bin .sub (.tmp 8) (.cst (.int .i64 1)), none⟩,
    ⟨(some 5), .own 9, none⟩] []))) s := rfl
theorem x40_l0_run {X : List (Option XFn)} {gl : Nat → List AV} (s : St) : LC X gl x40_l0 s = LC X gl (.seq (.seq (.region false [⟨(some 67), .mov (.tmp 15), none⟩,
    ⟨(some 68), .bin .geq (.tmp 67) (.cst (.int .u64 4294967296)), none⟩,
    ⟨(some 69), .mov (.tmp 68), none⟩,
    ⟨(some 70), .mov (.tmp 15), (some (69, false))⟩,
    ⟨(some 71), .mov (.tmp 10), (some (69, false))⟩,
    ⟨(some 72), .bin .mul (.tmp 70) (.tmp 71), (some (69, false))⟩,
    ⟨(some 73), .mov (.tmp 16), (some (69, false))⟩,
    ⟨(some 74), .bin .mul (.cst (.int .u64 4294967296)) (.tmp 73), (some (69, false))⟩,
    ⟨(some 75), .mov (.tmp 13), (some (69, false))⟩,
    ⟨(some 76), .bin .add (.tmp 74) (.tmp 75), (some (69, false))⟩,
    ⟨(some 77), .bin .gtr (.tmp 72) (.tmp 76), (some (69, false))⟩,
    ⟨(some 78), .pick (.tmp 69) (.cst (.bool true)) (.tmp 77), none⟩] [])
  (.cond (.tmp 78) .skip (.exit 0)))
  (.block 1 (.seq (.region false [⟨(some 79), .mov (.tmp 15), none⟩,
    ⟨(some 80), .bin .sub (.tmp 79) (.cst (.int .u64 1)), none⟩,
    ⟨(some 15), .own 80, none⟩] [])
  (.seq (.region false [⟨(some 81), .mov (.tmp 16), none⟩,
    ⟨(some 82), .mov (.tmp 9), none⟩,
    ⟨(some 83), .bin .add (.tmp 81) (.tmp 82), none⟩,
    ⟨(some 16), .own 83, none⟩] [])
  (.seq (.region false [⟨(some 84), .mov (.tmp 16), none⟩,
    ⟨(some 85), .bin .geq (.tmp 84) (.cst (.int .u64 4294967296)), none⟩] [])
  (.cond (.tmp 85) (.exit 0) .skip)))))) s := rfl
theorem x40_l1_run {X : List (Option XFn)} {gl : Nat → List AV} (s : St) : LC X gl x40_l1 s = LC X gl (.seq (.seq (.region false [⟨(some 102), .mov (.tmp 18), none⟩,
    ⟨(some 103), .bin .geq (.tmp 102) (.cst (.int .u64 4294967296)), none⟩,
    ⟨(some 104), .mov (.tmp 103), none⟩,
    ⟨(some 105), .mov (.tmp 18), (some (104, false))⟩,
    ⟨(some 106), .mov (.tmp 10), (some (104, false))⟩,
    ⟨(some 107), .bin .mul (.tmp 105) (.tmp 106), (some (104, false))⟩,
    ⟨(some 108), .mov (.tmp 16), (some (104, false))⟩,
    ⟨(some 109), .bin .mul (.cst (.int .u64 4294967296)) (.tmp 108), (some (104, false))⟩,
    ⟨(some 110), .mov (.tmp 14), (some (104, false))⟩,
    ⟨(some 111), .bin .add (.tmp 109) (.tmp 110), (some (104, false))⟩,
    ⟨(some 112), .bin .gtr (.tmp 107) (.tmp 111), (some (104, false))⟩,
    ⟨(some 113), .pick (.tmp 104) (.cst (.bool true)) (.tmp 112), none⟩] [])
  (.cond (.tmp 113) .skip (.exit 2)))
  (.block 3 (.seq (.region false [⟨(some 114), .mov (.tmp 18), none⟩,
    ⟨(some 115), .bin .sub (.tmp 114) (.cst (.int .u64 1)), none⟩,
    ⟨(some 18), .own 115, none⟩] [])
  (.seq (.region false [⟨(some 116), .mov (.tmp 16), none⟩,
    ⟨(some 117), .mov (.tmp 9), none⟩,
    ⟨(some 118), .bin .add (.tmp 116) (.tmp 117), none⟩,
    ⟨(some 16), .own 118, none⟩] [])
  (.seq (.region false [⟨(some 119), .mov (.tmp 16), none⟩,
    ⟨(some 120), .bin .geq (.tmp 119) (.cst (.int .u64 4294967296)), none⟩] [])
  (.cond (.tmp 120) (.exit 2) .skip)))))) s := rfl
theorem x43_l0_run {X : List (Option XFn)} {gl : Nat → List AV} (s : St) : LC X gl x43_l0 s = LC X gl (.seq (.seq (.region false [⟨(some 9), .load (.tmp 3) 4 true, none⟩,
    ⟨(some 10), .load (.tmp 5) 4 true, none⟩,
    ⟨(some 11), .eqagg true [1, 1, 1, 1] (.tmp 9) (.tmp 10), none⟩] [])
  (.cond (.tmp 11) .skip (.exit 0)))
  (.block 1 (.seq (.region false [⟨(some 13), .load (.tmp 2) 4 true, none⟩,
    ⟨(some 14), .load (.tmp 3) 4 true, none⟩,
    ⟨(some 15), .callq 44 [.tmp 13, .tmp 14], none⟩,
    ⟨(some 12), .mov (.tmp 15), none⟩,
    ⟨(some 16), .ext 12 0, none⟩,
    ⟨(some 17), .ext 12 1, none⟩,
    ⟨(some 6), .alloc [.int .u64 0, .int .u64 0, .int .u64 0, .int .u64 0], none⟩,
    ⟨(some 7), .alloc [.int .u64 0, .int .u64 0, .int .u64 0, .int .u64 0], none⟩,
    ⟨none, .store (.tmp 6) (.tmp 16) 4, none⟩,
    ⟨none, .store (.tmp 7) (.tmp 17) 4, none⟩] [])
  (.seq (.region false [⟨(some 18), .load (.tmp 3) 4 true, none⟩,
    ⟨none, .store (.tmp 2) (.tmp 18) 4, none⟩] [])
  (.region false [⟨(some 19), .load (.tmp 7) 4 true, none⟩,
    ⟨none, .store (.tmp 3) (.tmp 19) 4, none⟩] []))))) s := rfl
theorem x44_l0_run {X : List (Option XFn)} {gl : Nat → List AV} (s : St) : LC X gl x44_l0 s = LC X gl (.seq (.seq (.region false [⟨(some 10), .mov (.tmp 8), none⟩,
    ⟨(some 11), .bin .geq (.tmp 10) (.cst (.int .i64 0)), none⟩] [])
  (.cond (.tmp 11) .skip (.exit 0)))
  (.seq (.block 1 (.seq (.region false [⟨(some 14), .load (.tmp 7) 4 true, none⟩,
    ⟨(some 15), .load (.tmp 7) 4 true, none⟩,
    ⟨(some 16), .callq 47 [.tmp 14, .tmp 15], none⟩,
    ⟨none, .store (.tmp 7) (.tmp 16) 4, none⟩] [])
  (.seq (.region true [⟨(some 17), .faddr (.tmp 7) 0, none⟩,
    ⟨(some 18), .iarr 4 1 (.tmp 17) (.cst (.int .i64 0)), none⟩,
    ⟨(some 19), .load (.tmp 18) 1 false, none⟩,
    ⟨(some 20), .mov (.tmp 8), none⟩,
    ⟨(some 21), .bin .quo (.tmp 20) (.cst (.int .i64 32)), none⟩,
    ⟨(some 22), .faddr (.tmp 2) 0, none⟩,
    ⟨(some 23), .iarr 4 1 (.tmp 22) (.tmp 21), none⟩,
    ⟨(some 24), .load (.tmp 23) 1 false, none⟩,
    ⟨(some 25), .mov (.tmp 8), none⟩,
    ⟨(some 26), .bin .rem (.tmp 25) (.cst (.int .i64 32)), none⟩,
    ⟨(some 27), .conv .u64 (.tmp 26), none⟩,
    ⟨(some 28), .bin .shr (.tmp 24) (.tmp 27), none⟩,
    ⟨(some 29), .bin .rem (.tmp 28) (.cst (.int .u64 2)), none⟩,
    ⟨(some 30), .bin .add (.tmp 19) (.tmp 29), none⟩,
    ⟨(some 31), .faddr (.tmp 7) 0, none⟩,
    ⟨(some 32), .iarr 4 1 (.tmp 31) (.cst (.int .i64 0)), none⟩,
    ⟨none, .store (.tmp 32) (.tmp 30) 1, none⟩] [])
  (.seq (.region false [⟨(some 33), .load (.tmp 7) 4 true, none⟩,
    ⟨(some 34), .load (.tmp 3) 4 true, none⟩,
    ⟨(some 35), .callq 35 [.tmp 33, .tmp 34], none⟩,
    ⟨(some 9), .own 35, none⟩] [])
  (.seq (.region false [⟨(some 36), .mov (.tmp 9), none⟩,
    ⟨(some 37), .bin .geq (.tmp 36) (.cst (.int .i64 0)), none⟩] [])
  (.cond (.tmp 37) (.seq (.region false [⟨(some 38), .load (.tmp 7) 4 true, none⟩,
    ⟨(some 39), .load (.tmp 3) 4 true, none⟩,
    ⟨(some 40), .callq 48 [.tmp 38, .tmp 39], none⟩,
    ⟨none, .store (.tmp 7) (.tmp 40) 4, none⟩] [])
  (.region false [⟨(some 41), .mov (.tmp 8), none⟩,
    ⟨(some 42), .bin .quo (.tmp 41) (.cst (.int .i64 32)), none⟩,
    ⟨(some 43), .mov (.tmp 8), none⟩,
    ⟨(some 44), .bin .quo (.tmp 43) (.cst (.int .i64 32)), none⟩,
    ⟨(some 45), .faddr (.tmp 6) 0, none⟩,
    ⟨(some 46), .iarr 4 1 (.tmp 45) (.tmp 44), none⟩,
    ⟨(some 47), .load (.tmp 46) 1 false, none⟩,
    ⟨(some 48), .mov (.tmp 8), none⟩,
    ⟨(some 49), .bin .rem (.tmp 48) (.cst (.int .i64 32)), none⟩,
    ⟨(some 50), .conv .u64 (.tmp 49), none⟩,
    ⟨(some 51), .bin .shl (.cst (.int .u64 1)) (.tmp 50), none⟩,
    ⟨(some 52), .bin .add (.tmp 47) (.tmp 51), none⟩,
    ⟨(some 53), .faddr (.tmp 6) 0, none⟩,
    ⟨(some 54), .iarr 4 1 (.tmp 53) (.tmp 42), none⟩,
    ⟨none, .store (.tmp 54) (.tmp 52) 1, none⟩] [])) .skip))))))
  (.region false [⟨(some 12), .mov (.tmp 8), none⟩,
    ⟨(some 13), .bin .sub (.tmp 12) (.cst (.int .i64 1)), none⟩,
    ⟨(some 8), .own 13, none⟩] []))) s := rfl
theorem x47_l0_run {X : List (Option XFn)} {gl : Nat → List AV} (s : St) : LC X gl x47_l0 s = LC X gl (.seq (.seq (.region false [⟨(some 9), .mov (.tmp 7), none⟩,
    ⟨(some 10), .bin .lss (.tmp 9) (.cst (.int .i64 4)), none⟩] [])
  (.cond (.tmp 10) .skip (.exit 0)))
  (.seq (.block 1 (.seq (.region true [⟨(some 13), .mov (.tmp 7), none⟩,
    ⟨(some 14), .faddr (.tmp 2) 0, none⟩,
    ⟨(some 15), .iarr 4 1 (.tmp 14) (.tmp 13), none⟩,
    ⟨(some 16), .load (.tmp 15) 1 false, none⟩,
    ⟨(some 17), .mov (.tmp 7), none⟩,
    ⟨(some 18), .faddr (.tmp 3) 0, none⟩,
    ⟨(some 19), .iarr 4 1 (.tmp 18) (.tmp 17), none⟩,
    ⟨(some 20), .load (.tmp 19) 1 false, none⟩,
    ⟨(some 21), .bin .add (.tmp 16) (.tmp 20), none⟩,
    ⟨(some 22), .mov (.tmp 6), none⟩,
    ⟨(some 23), .bin .add (.tmp 21) (.tmp 22), none⟩,
    ⟨(some 8), .own 23, none⟩] [])
  (.seq (.region false [⟨(some 24), .mov (.tmp 7), none⟩,
    ⟨(some 25), .mov (.tmp 8), none⟩,
    ⟨(some 26), .bin .rem (.tmp 25) (.cst (.int .u64 4294967296)), none⟩,
    ⟨(some 27), .faddr (.tmp 5) 0, none⟩,
    ⟨(some 28), .iarr 4 1 (.tmp 27) (.tmp 24), none⟩,
    ⟨none, .store (.tmp 28) (.tmp 26) 1, none⟩] [])
  (.region false [⟨(some 29), .mov (.tmp 8), none⟩,
    ⟨(some 30), .bin .quo (.tmp 29) (.cst (.int .u64 4294967296)), none⟩,
    ⟨(some 6), .own 30, none⟩] []))))
  (.region false [⟨(some 11), .mov (.tmp 7), none⟩,
    ⟨(some 12), .bin .add (.tmp 11) (.cst (.int .i64 1)), none⟩,
    ⟨(some 7), .own 12, none⟩] []))) s := rfl
theorem x48_l0_run {X : List (Option XFn)} {gl : Nat → List AV} (s : St) : LC X gl x48_l0 s = LC X gl (.seq (.seq (.region false [⟨(some 9), .mov (.tmp 7), none⟩,
    ⟨(some 10), .bin .lss (.tmp 9) (.cst (.int .i64 4)), none⟩] [])
  (.cond (.tmp 10) .skip (.exit 0)))
  (.seq (.block 1 (.seq (.region true [⟨(some 13), .mov (.tmp 7), none⟩,
    ⟨(some 14), .faddr (.tmp 2) 0, none⟩,
    ⟨(some 15), .iarr 4 1 (.tmp 14) (.tmp 13), none⟩,
    ⟨(some 16), .load (.tmp 15) 1 false, none⟩,
    ⟨(some 17), .bin .add (.tmp 16) (.cst (.int .u64 4294967296)), none⟩,
    ⟨(some 18), .mov (.tmp 7), none⟩,
    ⟨(some 19), .faddr (.tmp 3) 0, none⟩,
    ⟨(some 20), .iarr 4 1 (.tmp 19) (.tmp 18), none⟩,
    ⟨(some 21), .load (.tmp 20) 1 false, none⟩,
    ⟨(some 22), .bin .sub (.tmp 17) (.tmp 21), none⟩,
    ⟨(some 23), .mov (.tmp 6), none⟩,
    ⟨(some 24), .bin .sub (.tmp 22) (.tmp 23), none⟩,
    ⟨(some 8), .own 24, none⟩] [])
  (.seq (.region false [⟨(some 25), .mov (.tmp 7), none⟩,
    ⟨(some 26), .mov (.tmp 8), none⟩,
    ⟨(some 27), .bin .rem (.tmp 26) (.cst (.int .u64 4294967296)), none⟩,
    ⟨(some 28), .faddr (.tmp 5) 0, none⟩,
    ⟨(some 29), .iarr 4 1 (.tmp 28) (.tmp 25), none⟩,
    ⟨none, .store (.tmp 29) (.tmp 27) 1, none⟩] [])
  (.region false [⟨(some 30), .mov (.tmp 8), none⟩,
    ⟨(some 31), .bin .quo (.tmp 30) (.cst (.int .u64 4294967296)), none⟩,
    ⟨(some 32), .bin .sub (.cst (.int .u64 1)) (.tmp 31), none⟩,
    ⟨(some 6), .own 32, none⟩] []))))
  (.region false [⟨(some 11), .mov (.tmp 7), none⟩,
    ⟨(some 12), .bin .add (.tmp 11) (.cst (.int .i64 1)), none⟩,
    ⟨(some 7), .own 12, none⟩] []))) s := rfl
end Go.Proofs.Ytpfollpbkpgglaa.Sx.T
