/- One round of each loop. -/
import Derived.Test.YtnmaahfipddkmaaEvA
import Derived.Test.YtnmaahfipddkmaaSxText
set_option linter.unusedVariables false
set_option linter.unusedSimpArgs false
/- The bodies of the loops, opened. Printed by a program of ours. -/
namespace Go.Proofs.Ytnmaahfipddkmaa.Sx.T
open Go Go.Proofs.Ytnmaahfipddkmaa.Sx
set_option maxRecDepth 10000
theorem x10_l0_run {X : List (Option XFn)} {gl : Nat → List AV} (s : St) : LC X gl x10_l0 s = LC X gl (.seq (.region false [⟨(some 19), .nexts (.tmp 18), none⟩,
    ⟨(some 20), .ext 19 0, none⟩] [])
  (.seq (.cond (.tmp 20) .skip (.exit 0))
  (.block 1 (.seq (.region false [⟨(some 21), .ext 19 1, none⟩,
    ⟨(some 22), .ext 19 2, none⟩,
    ⟨(some 3), .own 21, none⟩,
    ⟨(some 4), .own 22, none⟩] [])
  (.seq (.region false [⟨(some 23), .mov (.tmp 4), none⟩,
    ⟨(some 24), .bin .geq (.tmp 23) (.cst (.int .i32 97)), none⟩,
    ⟨(some 25), .mov (.tmp 24), none⟩,
    ⟨(some 26), .mov (.tmp 4), (some (25, true))⟩,
    ⟨(some 27), .bin .leq (.tmp 26) (.cst (.int .i32 122)), (some (25, true))⟩,
    ⟨(some 28), .pick (.tmp 25) (.tmp 27) (.cst (.bool false)), none⟩,
    ⟨(some 5), .own 28, none⟩] [])
  (.seq (.region false [⟨(some 29), .mov (.tmp 5), none⟩,
    ⟨(some 30), .not (.tmp 29), none⟩,
    ⟨(some 31), .mov (.tmp 30), none⟩,
    ⟨(some 32), .mov (.tmp 3), (some (31, true))⟩,
    ⟨(some 33), .bin .eql (.tmp 32) (.cst (.int .i64 0)), (some (31, true))⟩,
    ⟨(some 34), .mov (.tmp 33), (some (31, true))⟩,
    ⟨(some 35), .mov (.tmp 4), (some (34, false))⟩,
    ⟨(some 36), .bin .neq (.tmp 35) (.cst (.int .i32 95)), (some (34, false))⟩,
    ⟨(some 37), .mov (.tmp 36), (some (34, false))⟩,
    ⟨(some 38), .mov (.tmp 4), (some (37, true))⟩,
    ⟨(some 39), .bin .lss (.tmp 38) (.cst (.int .i32 48)), (some (37, true))⟩,
    ⟨(some 40), .mov (.tmp 39), (some (37, true))⟩,
    ⟨(some 41), .mov (.tmp 4), (some (40, false))⟩,
    ⟨(some 42), .bin .gtr (.tmp 41) (.cst (.int .i32 57)), (some (40, false))⟩,
    ⟨(some 43), .pick (.tmp 40) (.cst (.bool true)) (.tmp 42), (some (37, true))⟩,
    ⟨(some 44), .pick (.tmp 37) (.tmp 43) (.cst (.bool false)), (some (34, false))⟩,
    ⟨(some 45), .pick (.tmp 34) (.cst (.bool true)) (.tmp 44), (some (31, true))⟩,
    ⟨(some 46), .pick (.tmp 31) (.tmp 45) (.cst (.bool false)), none⟩] [])
  (.cond (.tmp 46) (.seq (.region false [⟨(some 2), .mov (.cst (.bool false)), none⟩] [])
  .ret) .skip))))))) s := rfl
theorem x11_l0_run {X : List (Option XFn)} {gl : Nat → List AV} (s : St) : LC X gl x11_l0 s = LC X gl (.seq (.seq (.region false [⟨(some 25), .mov (.tmp 3), none⟩,
    ⟨(some 26), .mov (.tmp 0), none⟩,
    ⟨(some 27), .lens true (.tmp 26), none⟩,
    ⟨(some 28), .bin .lss (.tmp 25) (.tmp 27), none⟩] [])
  (.cond (.tmp 28) .skip (.exit 0)))
  (.seq (.block 1 (.seq (.region false [⟨(some 31), .mov (.tmp 0), none⟩,
    ⟨(some 32), .mov (.tmp 3), none⟩,
    ⟨(some 33), .idxs (.tmp 31) (.tmp 32), none⟩,
    ⟨(some 4), .own 33, none⟩] [])
  (.seq (.region false [⟨(some 34), .mov (.tmp 4), none⟩,
    ⟨(some 35), .bin .lss (.tmp 34) (.cst (.int .u8 97)), none⟩,
    ⟨(some 36), .mov (.tmp 35), none⟩,
    ⟨(some 37), .mov (.tmp 4), (some (36, false))⟩,
    ⟨(some 38), .bin .gtr (.tmp 37) (.cst (.int .u8 122)), (some (36, false))⟩,
    ⟨(some 39), .pick (.tmp 36) (.cst (.bool true)) (.tmp 38), none⟩,
    ⟨(some 40), .mov (.tmp 39), none⟩,
    ⟨(some 41), .mov (.tmp 4), (some (40, true))⟩,
    ⟨(some 42), .bin .lss (.tmp 41) (.cst (.int .u8 48)), (some (40, true))⟩,
    ⟨(some 43), .mov (.tmp 42), (some (40, true))⟩,
    ⟨(some 44), .mov (.tmp 4), (some (43, false))⟩,
    ⟨(some 45), .bin .gtr (.tmp 44) (.cst (.int .u8 57)), (some (43, false))⟩,
    ⟨(some 46), .pick (.tmp 43) (.cst (.bool true)) (.tmp 45), (some (40, true))⟩,
    ⟨(some 47), .pick (.tmp 40) (.tmp 46) (.cst (.bool false)), none⟩,
    ⟨(some 48), .mov (.tmp 47), none⟩,
    ⟨(some 49), .mov (.tmp 4), (some (48, true))⟩,
    ⟨(some 50), .bin .neq (.tmp 49) (.cst (.int .u8 95)), (some (48, true))⟩,
    ⟨(some 51), .pick (.tmp 48) (.tmp 50) (.cst (.bool false)), none⟩] [])
  (.cond (.tmp 51) (.seq (.region false [⟨(some 2), .mov (.cst (.bool false)), none⟩] [])
  .ret) .skip))))
  (.region false [⟨(some 29), .mov (.tmp 3), none⟩,
    ⟨(some 30), .bin .add (.tmp 29) (.cst (.int .i64 1)), none⟩,
    ⟨(some 3), .own 30, none⟩] []))) s := rfl
theorem x15_l0_run {X : List (Option XFn)} {gl : Nat → List AV} (s : St) : LC X gl x15_l0 s = LC X gl (.seq (.seq (.region false [⟨(some 11), .mov (.tmp 5), none⟩,
    ⟨(some 12), .mov (.tmp 0), none⟩,
    ⟨(some 13), .lens false (.tmp 12), none⟩,
    ⟨(some 14), .bin .lss (.tmp 11) (.tmp 13), none⟩] [])
  (.cond (.tmp 14) .skip (.exit 0)))
  (.seq (.block 1 (.seq (.region true [⟨(some 17), .mov (.tmp 0), none⟩,
    ⟨(some 18), .mov (.tmp 5), none⟩,
    ⟨(some 19), .iaddr 1 (.tmp 17) (.tmp 18), none⟩,
    ⟨(some 20), .load (.tmp 19) 1 false, none⟩,
    ⟨(some 21), .mov (.tmp 1), none⟩,
    ⟨(some 22), .mov (.tmp 5), none⟩,
    ⟨(some 23), .iaddr 1 (.tmp 21) (.tmp 22), none⟩,
    ⟨(some 24), .load (.tmp 23) 1 false, none⟩,
    ⟨(some 25), .bin .neq (.tmp 20) (.tmp 24), none⟩] [])
  (.cond (.tmp 25) (.seq (.region false [⟨(some 4), .mov (.cst (.bool false)), none⟩] [])
  .ret) .skip)))
  (.region false [⟨(some 15), .mov (.tmp 5), none⟩,
    ⟨(some 16), .bin .add (.tmp 15) (.cst (.int .i64 1)), none⟩,
    ⟨(some 5), .own 16, none⟩] []))) s := rfl
theorem x20_l0_run {X : List (Option XFn)} {gl : Nat → List AV} (s : St) : LC X gl x20_l0 s = LC X gl (.seq (.region false [⟨(some 18), .bin .lss (.tmp 17) (.tmp 16), none⟩] [])
  (.seq (.cond (.tmp 18) .skip (.exit 0))
  (.seq (.block 1 (.seq (.region false [⟨(some 19), .iaddr 7 (.tmp 15) (.tmp 17), none⟩,
    ⟨(some 20), .load (.tmp 19) 7 true, none⟩,
    ⟨(some 5), .alloc [.int .i64 0, .str [], .int .i64 0, .int .i64 0, .int .i64 0, .str [], .nilsl], none⟩,
    ⟨none, .store (.tmp 5) (.tmp 20) 7, none⟩] [])
  (.region false [⟨(some 21), .own 3, none⟩,
    ⟨(some 22), .load (.tmp 5) 7 true, none⟩,
    ⟨(some 23), .callq 20 [.tmp 22], none⟩,
    ⟨(some 24), .app true 1 16 21 (.tmp 23), none⟩,
    ⟨(some 3), .own 24, none⟩] [])))
  (.region false [⟨(some 25), .bin .add (.tmp 17) (.cst (.int .i64 1)), none⟩,
    ⟨(some 17), .mov (.tmp 25), none⟩] [])))) s := rfl
theorem x21_l0_run {X : List (Option XFn)} {gl : Nat → List AV} (s : St) : LC X gl x21_l0 s = LC X gl (.seq (.region false [⟨(some 19), .bin .lss (.tmp 18) (.tmp 17), none⟩] [])
  (.seq (.cond (.tmp 19) .skip (.exit 0))
  (.seq (.block 1 (.seq (.region false [⟨(some 20), .iaddr 1 (.tmp 16) (.tmp 18), none⟩,
    ⟨(some 21), .load (.tmp 20) 1 false, none⟩,
    ⟨(some 8), .own 21, none⟩] [])
  (.seq (.region false [⟨(some 22), .load (.tmp 2) 10 true, none⟩,
    ⟨(some 23), .callq 47 [.tmp 22], none⟩,
    ⟨(some 9), .own 23, none⟩] [])
  (.seq (.seq (.region false [⟨(some 24), .mov (.tmp 8), none⟩,
    ⟨(some 25), .bin .lss (.tmp 24) (.cst (.int .i64 0)), none⟩,
    ⟨(some 26), .mov (.tmp 25), none⟩,
    ⟨(some 27), .mov (.tmp 8), (some (26, false))⟩,
    ⟨(some 28), .mov (.tmp 9), (some (26, false))⟩,
    ⟨(some 29), .lens false (.tmp 28), (some (26, false))⟩,
    ⟨(some 30), .bin .geq (.tmp 27) (.tmp 29), (some (26, false))⟩,
    ⟨(some 31), .pick (.tmp 26) (.cst (.bool true)) (.tmp 30), none⟩] [])
  (.cond (.tmp 31) (.seq (.region false [⟨(some 32), .build [.int .i64 0, .str [], .int .i64 0, .nilsl, .nilsl, .int .i64 0, .int .i64 0, .bool false, .nilsl, .nilsl] [], none⟩,
    ⟨none, .store (.tmp 4) (.tmp 32) 10, none⟩,
    ⟨(some 5), .mov (.cst (.int .i64 5)), none⟩] [])
  .ret) .skip))
  (.region false [⟨(some 33), .mov (.tmp 9), none⟩,
    ⟨(some 34), .mov (.tmp 8), none⟩,
    ⟨(some 35), .iaddr 10 (.tmp 33) (.tmp 34), none⟩,
    ⟨(some 36), .load (.tmp 35) 10 true, none⟩,
    ⟨none, .store (.tmp 2) (.tmp 36) 10, none⟩] [])))))
  (.region false [⟨(some 37), .bin .add (.tmp 18) (.cst (.int .i64 1)), none⟩,
    ⟨(some 18), .mov (.tmp 37), none⟩] [])))) s := rfl
theorem x22_l0_run {X : List (Option XFn)} {gl : Nat → List AV} (s : St) : LC X gl x22_l0 s = LC X gl (.seq (.seq (.region false [⟨(some 6), .mov (.tmp 5), none⟩,
    ⟨(some 7), .mov (.tmp 0), none⟩,
    ⟨(some 8), .lens false (.tmp 7), none⟩,
    ⟨(some 9), .bin .lss (.tmp 6) (.tmp 8), none⟩] [])
  (.cond (.tmp 9) .skip (.exit 0)))
  (.seq (.block 1 (.seq (.region false [⟨(some 12), .mov (.tmp 0), none⟩,
    ⟨(some 13), .mov (.tmp 5), none⟩,
    ⟨(some 14), .iaddr 1 (.tmp 12) (.tmp 13), none⟩,
    ⟨(some 15), .load (.tmp 14) 1 false, none⟩,
    ⟨(some 16), .mov (.tmp 1), none⟩,
    ⟨(some 17), .bin .eql (.tmp 15) (.tmp 16), none⟩] [])
  (.cond (.tmp 17) (.seq (.region false [⟨(some 4), .mov (.cst (.bool true)), none⟩] [])
  .ret) .skip)))
  (.region false [⟨(some 10), .mov (.tmp 5), none⟩,
    ⟨(some 11), .bin .add (.tmp 10) (.cst (.int .i64 1)), none⟩,
    ⟨(some 5), .own 11, none⟩] []))) s := rfl
theorem x24_l0_run {X : List (Option XFn)} {gl : Nat → List AV} (s : St) : LC X gl x24_l0 s = LC X gl (.seq (.seq (.region false [⟨(some 6), .mov (.tmp 4), none⟩,
    ⟨(some 7), .mov (.tmp 0), none⟩,
    ⟨(some 8), .lens false (.tmp 7), none⟩,
    ⟨(some 9), .bin .lss (.tmp 6) (.tmp 8), none⟩] [])
  (.cond (.tmp 9) .skip (.exit 0)))
  (.seq (.block 1 (.region true [⟨(some 12), .faddr (.tmp 3) 4, none⟩,
    ⟨(some 13), .lown (.tmp 12), none⟩,
    ⟨(some 14), .mov (.tmp 0), none⟩,
    ⟨(some 15), .mov (.tmp 4), none⟩,
    ⟨(some 16), .iaddr 1 (.tmp 14) (.tmp 15), none⟩,
    ⟨(some 17), .load (.tmp 16) 1 false, none⟩,
    ⟨(some 18), .callq 25 [.tmp 17], none⟩,
    ⟨(some 19), .bslice 7 [.int .i64 0, .str [], .int .i64 0, .int .i64 0, .int .i64 0, .str [], .nilsl] [(0, 7, .tmp 18)], none⟩,
    ⟨(some 20), .app false 7 88 13 (.tmp 19), none⟩,
    ⟨(some 21), .faddr (.tmp 3) 4, none⟩,
    ⟨none, .store (.tmp 21) (.tmp 20) 1, none⟩] [(12, 16)]))
  (.region false [⟨(some 10), .mov (.tmp 4), none⟩,
    ⟨(some 11), .bin .add (.tmp 10) (.cst (.int .i64 1)), none⟩,
    ⟨(some 4), .own 11, none⟩] []))) s := rfl
theorem x29_l0_run {X : List (Option XFn)} {gl : Nat → List AV} (s : St) : LC X gl x29_l0 s = LC X gl (.seq (.seq (.region false [⟨(some 11), .mov (.tmp 5), none⟩,
    ⟨(some 12), .mov (.tmp 0), none⟩,
    ⟨(some 13), .lens false (.tmp 12), none⟩,
    ⟨(some 14), .bin .lss (.tmp 11) (.tmp 13), none⟩] [])
  (.cond (.tmp 14) .skip (.exit 0)))
  (.seq (.block 1 (.seq (.region true [⟨(some 17), .mov (.tmp 0), none⟩,
    ⟨(some 18), .mov (.tmp 5), none⟩,
    ⟨(some 19), .iaddr 1 (.tmp 17) (.tmp 18), none⟩,
    ⟨(some 20), .load (.tmp 19) 1 false, none⟩,
    ⟨(some 21), .mov (.tmp 1), none⟩,
    ⟨(some 22), .mov (.tmp 5), none⟩,
    ⟨(some 23), .iaddr 1 (.tmp 21) (.tmp 22), none⟩,
    ⟨(some 24), .load (.tmp 23) 1 false, none⟩,
    ⟨(some 25), .bin .neq (.tmp 20) (.tmp 24), none⟩] [])
  (.cond (.tmp 25) (.seq (.region false [⟨(some 4), .mov (.cst (.bool false)), none⟩] [])
  .ret) .skip)))
  (.region false [⟨(some 15), .mov (.tmp 5), none⟩,
    ⟨(some 16), .bin .add (.tmp 15) (.cst (.int .i64 1)), none⟩,
    ⟨(some 5), .own 16, none⟩] []))) s := rfl
theorem x30_l0_run {X : List (Option XFn)} {gl : Nat → List AV} (s : St) : LC X gl x30_l0 s = LC X gl (.seq (.seq (.region false [⟨(some 12), .mov (.tmp 5), none⟩,
    ⟨(some 13), .mov (.tmp 0), none⟩,
    ⟨(some 14), .lens false (.tmp 13), none⟩,
    ⟨(some 15), .bin .lss (.tmp 12) (.tmp 14), none⟩] [])
  (.cond (.tmp 15) .skip (.exit 0)))
  (.seq (.block 1 (.seq (.region true [⟨(some 18), .mov (.tmp 0), none⟩,
    ⟨(some 19), .mov (.tmp 5), none⟩,
    ⟨(some 20), .iaddr 7 (.tmp 18) (.tmp 19), none⟩,
    ⟨(some 21), .load (.tmp 20) 7 true, none⟩,
    ⟨(some 22), .mov (.tmp 1), none⟩,
    ⟨(some 23), .mov (.tmp 5), none⟩,
    ⟨(some 24), .iaddr 7 (.tmp 22) (.tmp 23), none⟩,
    ⟨(some 25), .load (.tmp 24) 7 true, none⟩,
    ⟨(some 26), .callq 50 [.tmp 21, .tmp 25], none⟩,
    ⟨(some 6), .own 26, none⟩] [])
  (.seq (.region false [⟨(some 27), .mov (.tmp 6), none⟩,
    ⟨(some 28), .not (.tmp 27), none⟩] [])
  (.cond (.tmp 28) (.seq (.region false [⟨(some 4), .mov (.cst (.bool false)), none⟩] [])
  .ret) .skip))))
  (.region false [⟨(some 16), .mov (.tmp 5), none⟩,
    ⟨(some 17), .bin .add (.tmp 16) (.cst (.int .i64 1)), none⟩,
    ⟨(some 5), .own 17, none⟩] []))) s := rfl
theorem x31_l0_run {X : List (Option XFn)} {gl : Nat → List AV} (s : St) : LC X gl x31_l0 s = LC X gl (.seq (.seq (.region false [⟨(some 13), .mov (.tmp 5), none⟩,
    ⟨(some 14), .mov (.tmp 0), none⟩,
    ⟨(some 15), .lens false (.tmp 14), none⟩,
    ⟨(some 16), .bin .lss (.tmp 13) (.tmp 15), none⟩] [])
  (.cond (.tmp 16) .skip (.exit 0)))
  (.seq (.block 1 (.seq (.region true [⟨(some 19), .mov (.tmp 0), none⟩,
    ⟨(some 20), .mov (.tmp 5), none⟩,
    ⟨(some 21), .iaddr 3 (.tmp 19) (.tmp 20), none⟩,
    ⟨(some 22), .faddr (.tmp 21) 1, none⟩,
    ⟨(some 23), .load (.tmp 22) 1 false, none⟩,
    ⟨(some 24), .mov (.tmp 1), none⟩,
    ⟨(some 25), .mov (.tmp 5), none⟩,
    ⟨(some 26), .iaddr 3 (.tmp 24) (.tmp 25), none⟩,
    ⟨(some 27), .faddr (.tmp 26) 1, none⟩,
    ⟨(some 28), .load (.tmp 27) 1 false, none⟩,
    ⟨(some 29), .callq 32 [.tmp 23, .tmp 28], none⟩,
    ⟨(some 6), .own 29, none⟩] [])
  (.seq (.region true [⟨(some 30), .mov (.tmp 0), none⟩,
    ⟨(some 31), .mov (.tmp 5), none⟩,
    ⟨(some 32), .iaddr 3 (.tmp 30) (.tmp 31), none⟩,
    ⟨(some 33), .faddr (.tmp 32) 2, none⟩,
    ⟨(some 34), .load (.tmp 33) 1 false, none⟩,
    ⟨(some 35), .mov (.tmp 1), none⟩,
    ⟨(some 36), .mov (.tmp 5), none⟩,
    ⟨(some 37), .iaddr 3 (.tmp 35) (.tmp 36), none⟩,
    ⟨(some 38), .faddr (.tmp 37) 2, none⟩,
    ⟨(some 39), .load (.tmp 38) 1 false, none⟩,
    ⟨(some 40), .callq 31 [.tmp 34, .tmp 39], none⟩,
    ⟨(some 7), .own 40, none⟩] [])
  (.seq (.region true [⟨(some 41), .mov (.tmp 0), none⟩,
    ⟨(some 42), .mov (.tmp 5), none⟩,
    ⟨(some 43), .iaddr 3 (.tmp 41) (.tmp 42), none⟩,
    ⟨(some 44), .faddr (.tmp 43) 0, none⟩,
    ⟨(some 45), .load (.tmp 44) 1 false, none⟩,
    ⟨(some 46), .mov (.tmp 1), none⟩,
    ⟨(some 47), .mov (.tmp 5), none⟩,
    ⟨(some 48), .iaddr 3 (.tmp 46) (.tmp 47), none⟩,
    ⟨(some 49), .faddr (.tmp 48) 0, none⟩,
    ⟨(some 50), .load (.tmp 49) 1 false, none⟩,
    ⟨(some 51), .bin .neq (.tmp 45) (.tmp 50), none⟩,
    ⟨(some 52), .mov (.tmp 51), none⟩,
    ⟨(some 53), .mov (.tmp 6), (some (52, false))⟩,
    ⟨(some 54), .not (.tmp 53), (some (52, false))⟩,
    ⟨(some 55), .pick (.tmp 52) (.cst (.bool true)) (.tmp 54), none⟩,
    ⟨(some 56), .mov (.tmp 55), none⟩,
    ⟨(some 57), .mov (.tmp 7), (some (56, false))⟩,
    ⟨(some 58), .not (.tmp 57), (some (56, false))⟩,
    ⟨(some 59), .pick (.tmp 56) (.cst (.bool true)) (.tmp 58), none⟩] [])
  (.cond (.tmp 59) (.seq (.region false [⟨(some 4), .mov (.cst (.bool false)), none⟩] [])
  .ret) .skip)))))
  (.region false [⟨(some 17), .mov (.tmp 5), none⟩,
    ⟨(some 18), .bin .add (.tmp 17) (.cst (.int .i64 1)), none⟩,
    ⟨(some 5), .own 18, none⟩] []))) s := rfl
theorem x32_l0_run {X : List (Option XFn)} {gl : Nat → List AV} (s : St) : LC X gl x32_l0 s = LC X gl (.seq (.seq (.region false [⟨(some 12), .mov (.tmp 5), none⟩,
    ⟨(some 13), .mov (.tmp 0), none⟩,
    ⟨(some 14), .lens false (.tmp 13), none⟩,
    ⟨(some 15), .bin .lss (.tmp 12) (.tmp 14), none⟩] [])
  (.cond (.tmp 15) .skip (.exit 0)))
  (.seq (.block 1 (.seq (.region true [⟨(some 18), .mov (.tmp 0), none⟩,
    ⟨(some 19), .mov (.tmp 5), none⟩,
    ⟨(some 20), .iaddr 10 (.tmp 18) (.tmp 19), none⟩,
    ⟨(some 21), .load (.tmp 20) 10 true, none⟩,
    ⟨(some 22), .mov (.tmp 1), none⟩,
    ⟨(some 23), .mov (.tmp 5), none⟩,
    ⟨(some 24), .iaddr 10 (.tmp 22) (.tmp 23), none⟩,
    ⟨(some 25), .load (.tmp 24) 10 true, none⟩,
    ⟨(some 26), .callq 12 [.tmp 21, .tmp 25], none⟩,
    ⟨(some 6), .own 26, none⟩] [])
  (.seq (.region false [⟨(some 27), .mov (.tmp 6), none⟩,
    ⟨(some 28), .not (.tmp 27), none⟩] [])
  (.cond (.tmp 28) (.seq (.region false [⟨(some 4), .mov (.cst (.bool false)), none⟩] [])
  .ret) .skip))))
  (.region false [⟨(some 16), .mov (.tmp 5), none⟩,
    ⟨(some 17), .bin .add (.tmp 16) (.cst (.int .i64 1)), none⟩,
    ⟨(some 5), .own 17, none⟩] []))) s := rfl
theorem x33_l0_run {X : List (Option XFn)} {gl : Nat → List AV} (s : St) : LC X gl x33_l0 s = LC X gl (.seq (.region false [⟨(some 14), .bin .lss (.tmp 13) (.tmp 12), none⟩] [])
  (.seq (.cond (.tmp 14) .skip (.exit 0))
  (.seq (.block 1 (.seq (.region false [⟨(some 15), .mov (.tmp 13), none⟩,
    ⟨(some 5), .own 15, none⟩] [])
  (.seq (.region true [⟨(some 16), .mov (.tmp 0), none⟩,
    ⟨(some 17), .mov (.tmp 5), none⟩,
    ⟨(some 18), .iaddr 1 (.tmp 16) (.tmp 17), none⟩,
    ⟨(some 19), .load (.tmp 18) 1 false, none⟩,
    ⟨(some 20), .mov (.tmp 1), none⟩,
    ⟨(some 21), .mov (.tmp 5), none⟩,
    ⟨(some 22), .iaddr 1 (.tmp 20) (.tmp 21), none⟩,
    ⟨(some 23), .load (.tmp 22) 1 false, none⟩,
    ⟨(some 24), .bin .neq (.tmp 19) (.tmp 23), none⟩] [])
  (.cond (.tmp 24) (.seq (.region false [⟨(some 4), .mov (.cst (.bool false)), none⟩] [])
  .ret) .skip))))
  (.region false [⟨(some 25), .bin .add (.tmp 13) (.cst (.int .i64 1)), none⟩,
    ⟨(some 13), .mov (.tmp 25), none⟩] [])))) s := rfl
theorem x34_l0_run {X : List (Option XFn)} {gl : Nat → List AV} (s : St) : LC X gl x34_l0 s = LC X gl (.seq (.region false [⟨(some 18), .bin .lss (.tmp 17) (.tmp 16), none⟩] [])
  (.seq (.cond (.tmp 18) .skip (.exit 0))
  (.seq (.block 1 (.seq (.region false [⟨(some 19), .mov (.tmp 17), none⟩,
    ⟨(some 20), .iaddr 7 (.tmp 15) (.tmp 17), none⟩,
    ⟨(some 21), .load (.tmp 20) 7 true, none⟩,
    ⟨(some 8), .alloc [.int .i64 0, .str [], .int .i64 0, .int .i64 0, .int .i64 0, .str [], .nilsl], none⟩,
    ⟨(some 7), .own 19, none⟩,
    ⟨none, .store (.tmp 8) (.tmp 21) 7, none⟩] [])
  (.seq (.region false [⟨(some 22), .mov (.tmp 1), none⟩,
    ⟨(some 23), .mov (.tmp 7), none⟩,
    ⟨(some 24), .iaddr 7 (.tmp 22) (.tmp 23), none⟩,
    ⟨(some 25), .load (.tmp 24) 7 true, none⟩,
    ⟨(some 9), .alloc [.int .i64 0, .str [], .int .i64 0, .int .i64 0, .int .i64 0, .str [], .nilsl], none⟩,
    ⟨none, .store (.tmp 9) (.tmp 25) 7, none⟩] [])
  (.seq (.region false [⟨(some 26), .mov (.tmp 2), none⟩,
    ⟨(some 27), .load (.tmp 8) 7 true, none⟩,
    ⟨(some 28), .load (.tmp 9) 7 true, none⟩,
    ⟨(some 29), .calld (.tmp 26) [.tmp 27, .tmp 28], none⟩,
    ⟨(some 30), .not (.tmp 29), none⟩] [])
  (.cond (.tmp 30) (.seq (.region false [⟨(some 6), .mov (.cst (.bool false)), none⟩] [])
  .ret) .skip)))))
  (.region false [⟨(some 31), .bin .add (.tmp 17) (.cst (.int .i64 1)), none⟩,
    ⟨(some 17), .mov (.tmp 31), none⟩] [])))) s := rfl
theorem x36_l0_run {X : List (Option XFn)} {gl : Nat → List AV} (s : St) : LC X gl x36_l0 s = LC X gl (.seq (.region false [⟨(some 18), .bin .lss (.tmp 17) (.tmp 16), none⟩] [])
  (.seq (.cond (.tmp 18) .skip (.exit 0))
  (.seq (.block 1 (.seq (.region false [⟨(some 19), .mov (.tmp 17), none⟩,
    ⟨(some 20), .iaddr 3 (.tmp 15) (.tmp 17), none⟩,
    ⟨(some 21), .load (.tmp 20) 3 true, none⟩,
    ⟨(some 8), .alloc [.int .i64 0, .nilsl, .nilsl], none⟩,
    ⟨(some 7), .own 19, none⟩,
    ⟨none, .store (.tmp 8) (.tmp 21) 3, none⟩] [])
  (.seq (.region false [⟨(some 22), .mov (.tmp 1), none⟩,
    ⟨(some 23), .mov (.tmp 7), none⟩,
    ⟨(some 24), .iaddr 3 (.tmp 22) (.tmp 23), none⟩,
    ⟨(some 25), .load (.tmp 24) 3 true, none⟩,
    ⟨(some 9), .alloc [.int .i64 0, .nilsl, .nilsl], none⟩,
    ⟨none, .store (.tmp 9) (.tmp 25) 3, none⟩] [])
  (.seq (.region false [⟨(some 26), .mov (.tmp 2), none⟩,
    ⟨(some 27), .load (.tmp 8) 3 true, none⟩,
    ⟨(some 28), .load (.tmp 9) 3 true, none⟩,
    ⟨(some 29), .calld (.tmp 26) [.tmp 27, .tmp 28], none⟩,
    ⟨(some 30), .not (.tmp 29), none⟩] [])
  (.cond (.tmp 30) (.seq (.region false [⟨(some 6), .mov (.cst (.bool false)), none⟩] [])
  .ret) .skip)))))
  (.region false [⟨(some 31), .bin .add (.tmp 17) (.cst (.int .i64 1)), none⟩,
    ⟨(some 17), .mov (.tmp 31), none⟩] [])))) s := rfl
theorem x38_l0_run {X : List (Option XFn)} {gl : Nat → List AV} (s : St) : LC X gl x38_l0 s = LC X gl (.seq (.region false [⟨(some 18), .bin .lss (.tmp 17) (.tmp 16), none⟩] [])
  (.seq (.cond (.tmp 18) .skip (.exit 0))
  (.seq (.block 1 (.seq (.region false [⟨(some 19), .mov (.tmp 17), none⟩,
    ⟨(some 20), .iaddr 10 (.tmp 15) (.tmp 17), none⟩,
    ⟨(some 21), .load (.tmp 20) 10 true, none⟩,
    ⟨(some 8), .alloc [.int .i64 0, .str [], .int .i64 0, .nilsl, .nilsl, .int .i64 0, .int .i64 0, .bool false, .nilsl, .nilsl], none⟩,
    ⟨(some 7), .own 19, none⟩,
    ⟨none, .store (.tmp 8) (.tmp 21) 10, none⟩] [])
  (.seq (.region false [⟨(some 22), .mov (.tmp 1), none⟩,
    ⟨(some 23), .mov (.tmp 7), none⟩,
    ⟨(some 24), .iaddr 10 (.tmp 22) (.tmp 23), none⟩,
    ⟨(some 25), .load (.tmp 24) 10 true, none⟩,
    ⟨(some 9), .alloc [.int .i64 0, .str [], .int .i64 0, .nilsl, .nilsl, .int .i64 0, .int .i64 0, .bool false, .nilsl, .nilsl], none⟩,
    ⟨none, .store (.tmp 9) (.tmp 25) 10, none⟩] [])
  (.seq (.region false [⟨(some 26), .mov (.tmp 2), none⟩,
    ⟨(some 27), .load (.tmp 8) 10 true, none⟩,
    ⟨(some 28), .load (.tmp 9) 10 true, none⟩,
    ⟨(some 29), .calld (.tmp 26) [.tmp 27, .tmp 28], none⟩,
    ⟨(some 30), .not (.tmp 29), none⟩] [])
  (.cond (.tmp 30) (.seq (.region false [⟨(some 6), .mov (.cst (.bool false)), none⟩] [])
  .ret) .skip)))))
  (.region false [⟨(some 31), .bin .add (.tmp 17) (.cst (.int .i64 1)), none⟩,
    ⟨(some 17), .mov (.tmp 31), none⟩] [])))) s := rfl
theorem x40_l0_run {X : List (Option XFn)} {gl : Nat → List AV} (s : St) : LC X gl x40_l0 s = LC X gl (.seq (.region false [⟨(some 11), .bin .lss (.tmp 10) (.tmp 9), none⟩] [])
  (.seq (.cond (.tmp 11) .skip (.exit 0))
  (.seq (.block 1 (.seq (.region false [⟨(some 12), .iaddr 7 (.tmp 8) (.tmp 10), none⟩,
    ⟨(some 13), .load (.tmp 12) 7 true, none⟩,
    ⟨(some 7), .alloc [.int .i64 0, .str [], .int .i64 0, .int .i64 0, .int .i64 0, .str [], .nilsl], none⟩,
    ⟨none, .store (.tmp 7) (.tmp 13) 7, none⟩] [])
  (.region false [⟨(some 14), .own 5, none⟩,
    ⟨(some 15), .mov (.tmp 1), none⟩,
    ⟨(some 16), .load (.tmp 7) 7 true, none⟩,
    ⟨(some 17), .calld (.tmp 15) [.tmp 16], none⟩,
    ⟨(some 18), .bslice 7 [.int .i64 0, .str [], .int .i64 0, .int .i64 0, .int .i64 0, .str [], .nilsl] [(0, 7, .tmp 17)], none⟩,
    ⟨(some 19), .app false 7 88 14 (.tmp 18), none⟩,
    ⟨(some 5), .own 19, none⟩] [])))
  (.region false [⟨(some 20), .bin .add (.tmp 10) (.cst (.int .i64 1)), none⟩,
    ⟨(some 10), .mov (.tmp 20), none⟩] [])))) s := rfl
theorem x42_l0_run {X : List (Option XFn)} {gl : Nat → List AV} (s : St) : LC X gl x42_l0 s = LC X gl (.seq (.region false [⟨(some 11), .bin .lss (.tmp 10) (.tmp 9), none⟩] [])
  (.seq (.cond (.tmp 11) .skip (.exit 0))
  (.seq (.block 1 (.seq (.region false [⟨(some 12), .iaddr 3 (.tmp 8) (.tmp 10), none⟩,
    ⟨(some 13), .load (.tmp 12) 3 true, none⟩,
    ⟨(some 7), .alloc [.int .i64 0, .nilsl, .nilsl], none⟩,
    ⟨none, .store (.tmp 7) (.tmp 13) 3, none⟩] [])
  (.region false [⟨(some 14), .own 5, none⟩,
    ⟨(some 15), .mov (.tmp 1), none⟩,
    ⟨(some 16), .load (.tmp 7) 3 true, none⟩,
    ⟨(some 17), .calld (.tmp 15) [.tmp 16], none⟩,
    ⟨(some 18), .bslice 3 [.int .i64 0, .nilsl, .nilsl] [(0, 3, .tmp 17)], none⟩,
    ⟨(some 19), .app false 3 56 14 (.tmp 18), none⟩,
    ⟨(some 5), .own 19, none⟩] [])))
  (.region false [⟨(some 20), .bin .add (.tmp 10) (.cst (.int .i64 1)), none⟩,
    ⟨(some 10), .mov (.tmp 20), none⟩] [])))) s := rfl
theorem x44_l0_run {X : List (Option XFn)} {gl : Nat → List AV} (s : St) : LC X gl x44_l0 s = LC X gl (.seq (.region false [⟨(some 11), .bin .lss (.tmp 10) (.tmp 9), none⟩] [])
  (.seq (.cond (.tmp 11) .skip (.exit 0))
  (.seq (.block 1 (.seq (.region false [⟨(some 12), .iaddr 10 (.tmp 8) (.tmp 10), none⟩,
    ⟨(some 13), .load (.tmp 12) 10 true, none⟩,
    ⟨(some 7), .alloc [.int .i64 0, .str [], .int .i64 0, .nilsl, .nilsl, .int .i64 0, .int .i64 0, .bool false, .nilsl, .nilsl], none⟩,
    ⟨none, .store (.tmp 7) (.tmp 13) 10, none⟩] [])
  (.region false [⟨(some 14), .own 5, none⟩,
    ⟨(some 15), .mov (.tmp 1), none⟩,
    ⟨(some 16), .load (.tmp 7) 10 true, none⟩,
    ⟨(some 17), .calld (.tmp 15) [.tmp 16], none⟩,
    ⟨(some 18), .bslice 10 [.int .i64 0, .str [], .int .i64 0, .nilsl, .nilsl, .int .i64 0, .int .i64 0, .bool false, .nilsl, .nilsl] [(0, 10, .tmp 17)], none⟩,
    ⟨(some 19), .app false 10 152 14 (.tmp 18), none⟩,
    ⟨(some 5), .own 19, none⟩] [])))
  (.region false [⟨(some 20), .bin .add (.tmp 10) (.cst (.int .i64 1)), none⟩,
    ⟨(some 10), .mov (.tmp 20), none⟩] [])))) s := rfl
theorem x45_l0_run {X : List (Option XFn)} {gl : Nat → List AV} (s : St) : LC X gl x45_l0 s = LC X gl (.seq (.region false [⟨(some 14), .bin .lss (.tmp 13) (.tmp 12), none⟩] [])
  (.seq (.cond (.tmp 14) .skip (.exit 0))
  (.seq (.block 1 (.seq (.region false [⟨(some 15), .iaddr 7 (.tmp 11) (.tmp 13), none⟩,
    ⟨(some 16), .load (.tmp 15) 7 true, none⟩,
    ⟨(some 5), .alloc [.int .i64 0, .str [], .int .i64 0, .int .i64 0, .int .i64 0, .str [], .nilsl], none⟩,
    ⟨none, .store (.tmp 5) (.tmp 16) 7, none⟩] [])
  (.region false [⟨(some 17), .own 2, none⟩,
    ⟨(some 18), .load (.tmp 5) 7 true, none⟩,
    ⟨(some 19), .callq 20 [.tmp 18], none⟩,
    ⟨(some 20), .app true 1 16 17 (.tmp 19), none⟩,
    ⟨(some 2), .own 20, none⟩] [])))
  (.region false [⟨(some 21), .bin .add (.tmp 13) (.cst (.int .i64 1)), none⟩,
    ⟨(some 13), .mov (.tmp 21), none⟩] [])))) s := rfl
theorem x45_l1_run {X : List (Option XFn)} {gl : Nat → List AV} (s : St) : LC X gl x45_l1 s = LC X gl (.seq (.region false [⟨(some 26), .bin .lss (.tmp 25) (.tmp 24), none⟩] [])
  (.seq (.cond (.tmp 26) .skip (.exit 2))
  (.seq (.block 3 (.seq (.region false [⟨(some 27), .mov (.tmp 25), none⟩,
    ⟨(some 28), .iaddr 10 (.tmp 23) (.tmp 25), none⟩,
    ⟨(some 29), .load (.tmp 28) 10 true, none⟩,
    ⟨(some 7), .alloc [.int .i64 0, .str [], .int .i64 0, .nilsl, .nilsl, .int .i64 0, .int .i64 0, .bool false, .nilsl, .nilsl], none⟩,
    ⟨(some 6), .own 27, none⟩,
    ⟨none, .store (.tmp 7) (.tmp 29) 10, none⟩] [])
  (.seq (.region false [⟨(some 31), .load (.tmp 7) 10 true, none⟩,
    ⟨(some 32), .callq 45 [.tmp 31], none⟩,
    ⟨(some 30), .mov (.tmp 32), none⟩,
    ⟨(some 33), .ext 30 0, none⟩,
    ⟨(some 34), .ext 30 1, none⟩,
    ⟨(some 8), .own 33, none⟩,
    ⟨(some 9), .own 34, none⟩] [])
  (.seq (.region false [⟨(some 35), .mov (.tmp 3), none⟩,
    ⟨(some 36), .mov (.tmp 9), none⟩,
    ⟨(some 37), .mx (.tmp 35) (.tmp 36), none⟩,
    ⟨(some 3), .own 37, none⟩] [])
  (.seq (.region false [⟨(some 38), .faddr (.tmp 1) 0, none⟩,
    ⟨(some 39), .load (.tmp 38) 1 false, none⟩,
    ⟨(some 40), .bin .neq (.tmp 39) (.cst (.int .i64 19)), none⟩,
    ⟨(some 41), .mov (.tmp 40), none⟩,
    ⟨(some 42), .faddr (.tmp 1) 0, (some (41, true))⟩,
    ⟨(some 43), .load (.tmp 42) 1 false, (some (41, true))⟩,
    ⟨(some 44), .bin .neq (.tmp 43) (.cst (.int .i64 20)), (some (41, true))⟩,
    ⟨(some 45), .mov (.tmp 44), (some (41, true))⟩,
    ⟨(some 46), .faddr (.tmp 1) 0, (some (45, true))⟩,
    ⟨(some 47), .load (.tmp 46) 1 false, (some (45, true))⟩,
    ⟨(some 48), .bin .neq (.tmp 47) (.cst (.int .i64 21)), (some (45, true))⟩,
    ⟨(some 49), .pick (.tmp 45) (.tmp 48) (.cst (.bool false)), (some (41, true))⟩,
    ⟨(some 50), .mov (.tmp 49), (some (41, true))⟩,
    ⟨(some 51), .mov (.tmp 6), (some (50, false))⟩,
    ⟨(some 52), .bin .eql (.tmp 51) (.cst (.int .i64 1)), (some (50, false))⟩,
    ⟨(some 53), .pick (.tmp 50) (.cst (.bool true)) (.tmp 52), (some (41, true))⟩,
    ⟨(some 54), .pick (.tmp 41) (.tmp 53) (.cst (.bool false)), none⟩] [])
  (.cond (.tmp 54) (.region false [⟨(some 55), .own 2, none⟩,
    ⟨(some 56), .mov (.tmp 8), none⟩,
    ⟨(some 57), .app true 1 16 55 (.tmp 56), none⟩,
    ⟨(some 2), .own 57, none⟩] []) .skip))))))
  (.region false [⟨(some 58), .bin .add (.tmp 25) (.cst (.int .i64 1)), none⟩,
    ⟨(some 25), .mov (.tmp 58), none⟩] [])))) s := rfl
theorem x57_l0_run {X : List (Option XFn)} {gl : Nat → List AV} (s : St) : LC X gl x57_l0 s = LC X gl (.seq (.region false [⟨(some 13), .bin .lss (.tmp 12) (.tmp 11), none⟩] [])
  (.seq (.cond (.tmp 13) .skip (.exit 0))
  (.seq (.block 1 (.seq (.region false [⟨(some 14), .iaddr 3 (.tmp 10) (.tmp 12), none⟩,
    ⟨(some 15), .load (.tmp 14) 3 true, none⟩,
    ⟨(some 5), .alloc [.int .i64 0, .nilsl, .nilsl], none⟩,
    ⟨none, .store (.tmp 5) (.tmp 15) 3, none⟩] [])
  (.region false [⟨(some 16), .own 3, none⟩,
    ⟨(some 17), .load (.tmp 5) 3 true, none⟩,
    ⟨(some 18), .callq 57 [.tmp 17], none⟩,
    ⟨(some 19), .app false 10 152 16 (.tmp 18), none⟩,
    ⟨(some 3), .own 19, none⟩] [])))
  (.region false [⟨(some 20), .bin .add (.tmp 12) (.cst (.int .i64 1)), none⟩,
    ⟨(some 12), .mov (.tmp 20), none⟩] [])))) s := rfl
theorem x62_l0_run {X : List (Option XFn)} {gl : Nat → List AV} (s : St) : LC X gl x62_l0 s = LC X gl (.seq (.region false [⟨(some 11), .bin .lss (.tmp 10) (.tmp 9), none⟩] [])
  (.seq (.cond (.tmp 11) .skip (.exit 0))
  (.seq (.block 1 (.seq (.region false [⟨(some 12), .iaddr 7 (.tmp 8) (.tmp 10), none⟩,
    ⟨(some 13), .load (.tmp 12) 7 true, none⟩,
    ⟨(some 7), .alloc [.int .i64 0, .str [], .int .i64 0, .int .i64 0, .int .i64 0, .str [], .nilsl], none⟩,
    ⟨none, .store (.tmp 7) (.tmp 13) 7, none⟩] [])
  (.region false [⟨(some 14), .mov (.tmp 0), none⟩,
    ⟨(some 15), .load (.tmp 7) 7 true, none⟩,
    ⟨(some 16), .mov (.tmp 1), none⟩,
    ⟨(some 17), .calld (.tmp 14) [.tmp 15, .tmp 16], none⟩] [])))
  (.region false [⟨(some 18), .bin .add (.tmp 10) (.cst (.int .i64 1)), none⟩,
    ⟨(some 10), .mov (.tmp 18), none⟩] [])))) s := rfl
theorem x64_l0_run {X : List (Option XFn)} {gl : Nat → List AV} (s : St) : LC X gl x64_l0 s = LC X gl (.seq (.region false [⟨(some 11), .bin .lss (.tmp 10) (.tmp 9), none⟩] [])
  (.seq (.cond (.tmp 11) .skip (.exit 0))
  (.seq (.block 1 (.seq (.region false [⟨(some 12), .iaddr 3 (.tmp 8) (.tmp 10), none⟩,
    ⟨(some 13), .load (.tmp 12) 3 true, none⟩,
    ⟨(some 7), .alloc [.int .i64 0, .nilsl, .nilsl], none⟩,
    ⟨none, .store (.tmp 7) (.tmp 13) 3, none⟩] [])
  (.region false [⟨(some 14), .mov (.tmp 0), none⟩,
    ⟨(some 15), .load (.tmp 7) 3 true, none⟩,
    ⟨(some 16), .mov (.tmp 1), none⟩,
    ⟨(some 17), .calld (.tmp 14) [.tmp 15, .tmp 16], none⟩] [])))
  (.region false [⟨(some 18), .bin .add (.tmp 10) (.cst (.int .i64 1)), none⟩,
    ⟨(some 10), .mov (.tmp 18), none⟩] [])))) s := rfl
theorem x66_l0_run {X : List (Option XFn)} {gl : Nat → List AV} (s : St) : LC X gl x66_l0 s = LC X gl (.seq (.region false [⟨(some 11), .bin .lss (.tmp 10) (.tmp 9), none⟩] [])
  (.seq (.cond (.tmp 11) .skip (.exit 0))
  (.seq (.block 1 (.seq (.region false [⟨(some 12), .iaddr 10 (.tmp 8) (.tmp 10), none⟩,
    ⟨(some 13), .load (.tmp 12) 10 true, none⟩,
    ⟨(some 7), .alloc [.int .i64 0, .str [], .int .i64 0, .nilsl, .nilsl, .int .i64 0, .int .i64 0, .bool false, .nilsl, .nilsl], none⟩,
    ⟨none, .store (.tmp 7) (.tmp 13) 10, none⟩] [])
  (.region false [⟨(some 14), .mov (.tmp 0), none⟩,
    ⟨(some 15), .load (.tmp 7) 10 true, none⟩,
    ⟨(some 16), .mov (.tmp 1), none⟩,
    ⟨(some 17), .calld (.tmp 14) [.tmp 15, .tmp 16], none⟩] [])))
  (.region false [⟨(some 18), .bin .add (.tmp 10) (.cst (.int .i64 1)), none⟩,
    ⟨(some 10), .mov (.tmp 18), none⟩] [])))) s := rfl
theorem x68_l0_run {X : List (Option XFn)} {gl : Nat → List AV} (s : St) : LC X gl x68_l0 s = LC X gl (.seq (.region false [⟨(some 9), .bin .lss (.tmp 8) (.tmp 7), none⟩] [])
  (.seq (.cond (.tmp 9) .skip (.exit 0))
  (.seq (.block 1 (.seq (.region false [⟨(some 10), .mov (.tmp 8), none⟩,
    ⟨(some 5), .own 10, none⟩] [])
  (.seq (.region false [⟨(some 11), .mov (.tmp 1), none⟩,
    ⟨(some 12), .mov (.tmp 0), none⟩,
    ⟨(some 13), .mov (.tmp 5), none⟩,
    ⟨(some 14), .iaddr 1 (.tmp 12) (.tmp 13), none⟩,
    ⟨(some 15), .load (.tmp 14) 1 false, none⟩,
    ⟨(some 16), .calld (.tmp 11) [.tmp 15], none⟩] [])
  (.cond (.tmp 16) (.seq (.region false [⟨(some 17), .mov (.tmp 5), none⟩,
    ⟨(some 4), .own 17, none⟩] [])
  .ret) .skip))))
  (.region false [⟨(some 18), .bin .add (.tmp 8) (.cst (.int .i64 1)), none⟩,
    ⟨(some 8), .mov (.tmp 18), none⟩] [])))) s := rfl
theorem x69_l0_run {X : List (Option XFn)} {gl : Nat → List AV} (s : St) : LC X gl x69_l0 s = LC X gl (.seq (.region false [⟨(some 9), .bin .lss (.tmp 8) (.tmp 7), none⟩] [])
  (.seq (.cond (.tmp 9) .skip (.exit 0))
  (.seq (.block 1 (.seq (.region false [⟨(some 10), .mov (.tmp 8), none⟩,
    ⟨(some 5), .own 10, none⟩] [])
  (.seq (.region false [⟨(some 11), .mov (.tmp 1), none⟩,
    ⟨(some 12), .mov (.tmp 0), none⟩,
    ⟨(some 13), .mov (.tmp 5), none⟩,
    ⟨(some 14), .iaddr 1 (.tmp 12) (.tmp 13), none⟩,
    ⟨(some 15), .load (.tmp 14) 1 false, none⟩,
    ⟨(some 16), .bin .eql (.tmp 11) (.tmp 15), none⟩] [])
  (.cond (.tmp 16) (.seq (.region false [⟨(some 17), .mov (.tmp 5), none⟩,
    ⟨(some 4), .own 17, none⟩] [])
  .ret) .skip))))
  (.region false [⟨(some 18), .bin .add (.tmp 8) (.cst (.int .i64 1)), none⟩,
    ⟨(some 8), .mov (.tmp 18), none⟩] [])))) s := rfl
theorem x74_l0_run {X : List (Option XFn)} {gl : Nat → List AV} (s : St) : LC X gl x74_l0 s = LC X gl (.seq (.seq (.region false [⟨(some 6), .mov (.tmp 3), none⟩,
    ⟨(some 7), .mov (.tmp 0), none⟩,
    ⟨(some 8), .lens false (.tmp 7), none⟩,
    ⟨(some 9), .bin .lss (.tmp 6) (.tmp 8), none⟩] [])
  (.cond (.tmp 9) .skip (.exit 0)))
  (.seq (.block 1 (.seq (.region true [⟨(some 12), .mov (.tmp 0), none⟩,
    ⟨(some 13), .mov (.tmp 3), none⟩,
    ⟨(some 14), .iaddr 1 (.tmp 12) (.tmp 13), none⟩,
    ⟨(some 15), .load (.tmp 14) 1 false, none⟩,
    ⟨(some 16), .mov (.tmp 0), none⟩,
    ⟨(some 17), .mov (.tmp 3), none⟩,
    ⟨(some 18), .bin .add (.tmp 17) (.cst (.int .i64 1)), none⟩,
    ⟨(some 19), .iaddr 1 (.tmp 16) (.tmp 18), none⟩,
    ⟨(some 20), .load (.tmp 19) 1 false, none⟩,
    ⟨(some 4), .own 15, none⟩,
    ⟨(some 5), .own 20, none⟩] [])
  (.seq (.region false [⟨(some 21), .mov (.tmp 5), none⟩,
    ⟨(some 22), .bin .geq (.tmp 21) (.cst (.int .i64 0)), none⟩,
    ⟨(some 23), .mov (.tmp 22), none⟩,
    ⟨(some 24), .mov (.tmp 4), (some (23, true))⟩,
    ⟨(some 25), .mov (.tmp 5), (some (23, true))⟩,
    ⟨(some 26), .bin .neq (.tmp 24) (.tmp 25), (some (23, true))⟩,
    ⟨(some 27), .pick (.tmp 23) (.tmp 26) (.cst (.bool false)), none⟩,
    ⟨(some 28), .mov (.tmp 27), none⟩,
    ⟨(some 29), .mov (.tmp 5), (some (28, false))⟩,
    ⟨(some 30), .bin .eql (.tmp 29) (.cst (.int .i64 (-1))), (some (28, false))⟩,
    ⟨(some 31), .mov (.tmp 30), (some (28, false))⟩,
    ⟨(some 32), .mov (.tmp 4), (some (31, true))⟩,
    ⟨(some 33), .bin .eql (.tmp 32) (.cst (.int .i64 0)), (some (31, true))⟩,
    ⟨(some 34), .pick (.tmp 31) (.tmp 33) (.cst (.bool false)), (some (28, false))⟩,
    ⟨(some 35), .pick (.tmp 28) (.cst (.bool true)) (.tmp 34), none⟩] [])
  (.cond (.tmp 35) (.seq (.region false [⟨(some 2), .mov (.cst (.bool false)), none⟩] [])
  .ret) .skip))))
  (.region false [⟨(some 10), .mov (.tmp 3), none⟩,
    ⟨(some 11), .bin .add (.tmp 10) (.cst (.int .i64 2)), none⟩,
    ⟨(some 3), .own 11, none⟩] []))) s := rfl
theorem x79_l0_run {X : List (Option XFn)} {gl : Nat → List AV} (s : St) : LC X gl x79_l0 s = LC X gl (.seq (.seq (.region false [⟨(some 9), .mov (.tmp 5), none⟩,
    ⟨(some 10), .bin .geq (.tmp 9) (.cst (.int .i64 0)), none⟩] [])
  (.cond (.tmp 10) .skip (.exit 0)))
  (.seq (.block 1 (.seq (.region false [⟨(some 13), .mov (.tmp 0), none⟩,
    ⟨(some 14), .mov (.tmp 5), none⟩,
    ⟨(some 15), .iaddr 1 (.tmp 13) (.tmp 14), none⟩,
    ⟨(some 16), .load (.tmp 15) 1 false, none⟩,
    ⟨(some 17), .mov (.tmp 1), none⟩,
    ⟨(some 18), .bin .eql (.tmp 16) (.tmp 17), none⟩] [])
  (.cond (.tmp 18) (.seq (.region false [⟨(some 19), .mov (.tmp 5), none⟩,
    ⟨(some 4), .own 19, none⟩] [])
  .ret) .skip)))
  (.region false [⟨(some 11), .mov (.tmp 5), none⟩,
    ⟨(some 12), .bin .sub (.tmp 11) (.cst (.int .i64 1)), none⟩,
    ⟨(some 5), .own 12, none⟩] []))) s := rfl
theorem x100_l0_run {X : List (Option XFn)} {gl : Nat → List AV} (s : St) : LC X gl x100_l0 s = LC X gl (.seq (.seq (.region false [⟨(some 5), .mov (.tmp 1), none⟩,
    ⟨(some 6), .bin .neq (.tmp 5) (.cst (.int .u64 0)), none⟩] [])
  (.cond (.tmp 6) .skip (.exit 0)))
  (.block 1 (.region true [⟨(some 7), .mov (.tmp 1), none⟩,
    ⟨(some 8), .mov (.tmp 0), none⟩,
    ⟨(some 9), .mov (.tmp 1), none⟩,
    ⟨(some 10), .bin .rem (.tmp 8) (.tmp 9), none⟩,
    ⟨(some 0), .own 7, none⟩,
    ⟨(some 1), .own 10, none⟩] []))) s := rfl
end Go.Proofs.Ytnmaahfipddkmaa.Sx.T
