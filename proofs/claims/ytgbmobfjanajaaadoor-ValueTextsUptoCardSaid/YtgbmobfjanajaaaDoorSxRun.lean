/- One round of each loop. -/
import Derived.Test.YtgbmobfjanajaaaDoorEvA
import Derived.Test.YtgbmobfjanajaaaDoorSxText
set_option linter.unusedVariables false
set_option linter.unusedSimpArgs false
/- The bodies of the loops, opened. Printed by a program of ours. -/
namespace Go.Proofs.YtgbmobfjanajaaaDoor.Sx.T
open Go Go.Proofs.YtgbmobfjanajaaaDoor.Sx
set_option maxRecDepth 10000
theorem x16_l0_run {X : List (Option XFn)} {gl : Nat → List AV} (s : St) : LC X gl x16_l0 s = LC X gl (.seq (.region false [⟨(some 13), .bin .lss (.tmp 12) (.tmp 11), none⟩] [])
  (.seq (.cond (.tmp 13) .skip (.exit 0))
  (.seq (.block 1 (.seq (.region false [⟨(some 14), .mov (.tmp 12), none⟩,
    ⟨(some 5), .own 14, none⟩] [])
  (.seq (.region true [⟨(some 15), .mov (.tmp 0), none⟩,
    ⟨(some 16), .mov (.tmp 5), none⟩,
    ⟨(some 17), .iaddr 4 (.tmp 15) (.tmp 16), none⟩,
    ⟨(some 18), .load (.tmp 17) 4 true, none⟩,
    ⟨(some 19), .mov (.tmp 1), none⟩,
    ⟨(some 20), .mov (.tmp 5), none⟩,
    ⟨(some 21), .iaddr 4 (.tmp 19) (.tmp 20), none⟩,
    ⟨(some 22), .load (.tmp 21) 4 true, none⟩,
    ⟨(some 23), .callq 14 [.tmp 18, .tmp 22], none⟩,
    ⟨(some 6), .own 23, none⟩] [])
  (.seq (.region false [⟨(some 24), .mov (.tmp 6), none⟩,
    ⟨(some 25), .bin .neq (.tmp 24) (.cst (.int .i64 0)), none⟩] [])
  (.cond (.tmp 25) (.seq (.region false [⟨(some 26), .mov (.tmp 6), none⟩,
    ⟨(some 4), .own 26, none⟩] [])
  .ret) .skip)))))
  (.region false [⟨(some 27), .bin .add (.tmp 12) (.cst (.int .i64 1)), none⟩,
    ⟨(some 12), .mov (.tmp 27), none⟩] [])))) s := rfl
theorem x33_l0_run {X : List (Option XFn)} {gl : Nat → List AV} (s : St) : LC X gl x33_l0 s = LC X gl (.seq (.region false [⟨(some 11), .bin .lss (.tmp 10) (.tmp 9), none⟩] [])
  (.seq (.cond (.tmp 11) .skip (.exit 0))
  (.seq (.block 1 (.seq (.region false [⟨(some 12), .iaddr 1 (.tmp 8) (.tmp 10), none⟩,
    ⟨(some 13), .load (.tmp 12) 1 false, none⟩,
    ⟨(some 5), .own 13, none⟩] [])
  (.block 2 (.seq (.region false [⟨(some 24), .mov (.tmp 5), none⟩,
    ⟨(some 25), .bin .eql (.tmp 24) (.cst (.int .u8 34)), none⟩,
    ⟨(some 26), .mov (.tmp 25), none⟩,
    ⟨(some 27), .mov (.tmp 5), (some (26, false))⟩,
    ⟨(some 28), .bin .eql (.tmp 27) (.cst (.int .u8 92)), (some (26, false))⟩,
    ⟨(some 29), .pick (.tmp 26) (.cst (.bool true)) (.tmp 28), none⟩,
    ⟨(some 23), .own 29, none⟩] [])
  (.cond (.tmp 23) (.region false [⟨(some 30), .own 3, none⟩,
    ⟨(some 31), .mov (.tmp 5), none⟩,
    ⟨(some 32), .bslice 1 [.int .u8 0, .int .u8 0] [(0, 1, .cst (.int .u8 92)), (1, 1, .tmp 31)], none⟩,
    ⟨(some 33), .app false 1 1 30 (.tmp 32), none⟩,
    ⟨(some 3), .own 33, none⟩] []) (.seq (.region false [⟨(some 35), .mov (.tmp 5), none⟩,
    ⟨(some 36), .bin .geq (.tmp 35) (.cst (.int .u8 32)), none⟩,
    ⟨(some 37), .mov (.tmp 36), none⟩,
    ⟨(some 38), .mov (.tmp 5), (some (37, true))⟩,
    ⟨(some 39), .bin .leq (.tmp 38) (.cst (.int .u8 126)), (some (37, true))⟩,
    ⟨(some 40), .pick (.tmp 37) (.tmp 39) (.cst (.bool false)), none⟩,
    ⟨(some 34), .own 40, none⟩] [])
  (.cond (.tmp 34) (.region false [⟨(some 41), .own 3, none⟩,
    ⟨(some 42), .mov (.tmp 5), none⟩,
    ⟨(some 43), .bslice 1 [.int .u8 0] [(0, 1, .tmp 42)], none⟩,
    ⟨(some 44), .app false 1 1 41 (.tmp 43), none⟩,
    ⟨(some 3), .own 44, none⟩] []) (.region true [⟨(some 14), .own 3, none⟩,
    ⟨(some 15), .mov (.tmp 5), none⟩,
    ⟨(some 16), .bin .shr (.tmp 15) (.cst (.int .u64 4)), none⟩,
    ⟨(some 17), .idxs (.cst (.str [48, 49, 50, 51, 52, 53, 54, 55, 56, 57, 97, 98, 99, 100, 101, 102])) (.tmp 16), none⟩,
    ⟨(some 18), .mov (.tmp 5), none⟩,
    ⟨(some 19), .bin .and (.tmp 18) (.cst (.int .u8 15)), none⟩,
    ⟨(some 20), .idxs (.cst (.str [48, 49, 50, 51, 52, 53, 54, 55, 56, 57, 97, 98, 99, 100, 101, 102])) (.tmp 19), none⟩,
    ⟨(some 21), .bslice 1 [.int .u8 0, .int .u8 0, .int .u8 0, .int .u8 0] [(0, 1, .cst (.int .u8 92)), (1, 1, .cst (.int .u8 120)), (2, 1, .tmp 17), (3, 1, .tmp 20)], none⟩,
    ⟨(some 22), .app false 1 1 14 (.tmp 21), none⟩,
    ⟨(some 3), .own 22, none⟩] []))))))))
  (.region false [⟨(some 45), .bin .add (.tmp 10) (.cst (.int .i64 1)), none⟩,
    ⟨(some 10), .mov (.tmp 45), none⟩] [])))) s := rfl
theorem x35_l0_run {X : List (Option XFn)} {gl : Nat → List AV} (s : St) : LC X gl x35_l0 s = LC X gl (.seq (.seq (.region false [⟨(some 11), .mov (.tmp 0), none⟩,
    ⟨(some 12), .lens true (.tmp 11), none⟩,
    ⟨(some 13), .bin .gtr (.tmp 12) (.cst (.int .i64 0)), none⟩] [])
  (.cond (.tmp 13) .skip (.exit 0)))
  (.block 1 (.seq (.region false [⟨(some 14), .mov (.tmp 0), none⟩,
    ⟨(some 15), .idxs (.tmp 14) (.cst (.int .i64 0)), none⟩,
    ⟨(some 4), .own 15, none⟩,
    ⟨(some 5), .mov (.cst (.int .i64 1)), none⟩] [])
  (.seq (.seq (.region false [⟨(some 16), .mov (.tmp 4), none⟩,
    ⟨(some 17), .bin .eql (.tmp 16) (.cst (.int .u8 92)), none⟩,
    ⟨(some 18), .mov (.tmp 17), none⟩,
    ⟨(some 19), .mov (.tmp 0), (some (18, true))⟩,
    ⟨(some 20), .lens true (.tmp 19), (some (18, true))⟩,
    ⟨(some 21), .bin .gtr (.tmp 20) (.cst (.int .i64 1)), (some (18, true))⟩,
    ⟨(some 22), .pick (.tmp 18) (.tmp 21) (.cst (.bool false)), none⟩] [])
  (.cond (.tmp 22) (.seq (.region false [⟨(some 23), .mov (.tmp 0), none⟩,
    ⟨(some 24), .idxs (.tmp 23) (.cst (.int .i64 1)), none⟩,
    ⟨(some 4), .own 24, none⟩,
    ⟨(some 5), .mov (.cst (.int .i64 2)), none⟩] [])
  (.seq (.region false [⟨(some 25), .mov (.tmp 4), none⟩,
    ⟨(some 26), .bin .eql (.tmp 25) (.cst (.int .u8 120)), none⟩,
    ⟨(some 27), .mov (.tmp 26), none⟩,
    ⟨(some 28), .mov (.tmp 0), (some (27, true))⟩,
    ⟨(some 29), .lens true (.tmp 28), (some (27, true))⟩,
    ⟨(some 30), .bin .gtr (.tmp 29) (.cst (.int .i64 3)), (some (27, true))⟩,
    ⟨(some 31), .pick (.tmp 27) (.tmp 30) (.cst (.bool false)), none⟩] [])
  (.cond (.tmp 31) (.seq (.region false [⟨(some 33), .mov (.tmp 0), none⟩,
    ⟨(some 34), .sstr (.tmp 33) (some (.cst (.int .i64 2))) (some (.cst (.int .i64 4))), none⟩,
    ⟨(some 35), .callq 51 [.tmp 34, .cst (.int .i64 16), .cst (.int .i64 8)], none⟩,
    ⟨(some 32), .mov (.tmp 35), none⟩,
    ⟨(some 36), .ext 32 0, none⟩,
    ⟨(some 37), .ext 32 1, none⟩,
    ⟨(some 6), .own 36, none⟩,
    ⟨(some 7), .own 37, none⟩] [])
  (.region false [⟨(some 38), .mov (.tmp 6), none⟩,
    ⟨(some 39), .conv .u8 (.tmp 38), none⟩,
    ⟨(some 4), .own 39, none⟩,
    ⟨(some 5), .mov (.cst (.int .i64 4)), none⟩] [])) .skip))) .skip))
  (.seq (.region false [⟨(some 40), .own 3, none⟩,
    ⟨(some 41), .mov (.tmp 4), none⟩,
    ⟨(some 42), .bslice 1 [.int .u8 0] [(0, 1, .tmp 41)], none⟩,
    ⟨(some 43), .app false 1 1 40 (.tmp 42), none⟩,
    ⟨(some 3), .own 43, none⟩] [])
  (.region false [⟨(some 44), .mov (.tmp 0), none⟩,
    ⟨(some 45), .mov (.tmp 5), none⟩,
    ⟨(some 46), .sstr (.tmp 44) (some (.tmp 45)) none, none⟩,
    ⟨(some 0), .own 46, none⟩] [])))))) s := rfl
theorem x39_l0_run {X : List (Option XFn)} {gl : Nat → List AV} (s : St) : LC X gl x39_l0 s = LC X gl (.seq (.seq (.region false [⟨(some 5), .mov (.tmp 1), none⟩,
    ⟨(some 6), .bin .neq (.tmp 5) (.cst (.int .u64 0)), none⟩] [])
  (.cond (.tmp 6) .skip (.exit 0)))
  (.block 1 (.region true [⟨(some 7), .mov (.tmp 1), none⟩,
    ⟨(some 8), .mov (.tmp 0), none⟩,
    ⟨(some 9), .mov (.tmp 1), none⟩,
    ⟨(some 10), .bin .rem (.tmp 8) (.tmp 9), none⟩,
    ⟨(some 0), .own 7, none⟩,
    ⟨(some 1), .own 10, none⟩] []))) s := rfl
theorem x70_l0_run {X : List (Option XFn)} {gl : Nat → List AV} (s : St) : LC X gl x70_l0 s = LC X gl (.seq (.region false [⟨(some 102), .bin .lss (.tmp 101) (.tmp 100), none⟩] [])
  (.seq (.cond (.tmp 102) .skip (.exit 3))
  (.seq (.block 4 (.seq (.region false [⟨(some 103), .iaddr 1 (.tmp 99) (.tmp 101), none⟩,
    ⟨(some 104), .load (.tmp 103) 1 false, none⟩,
    ⟨(some 15), .own 104, none⟩] [])
  (.seq (.region false [⟨(some 16), .mov (.cst (.int .u8 0)), none⟩] [])
  (.seq (.block 5 (.seq (.region false [⟨(some 107), .mov (.tmp 15), none⟩,
    ⟨(some 108), .bin .eql (.tmp 107) (.cst (.int .u8 95)), none⟩,
    ⟨(some 109), .mov (.tmp 108), none⟩,
    ⟨(some 110), .mov (.tmp 8), (some (109, true))⟩,
    ⟨(some 111), .pick (.tmp 109) (.tmp 110) (.cst (.bool false)), none⟩,
    ⟨(some 106), .own 111, none⟩] [])
  (.cond (.tmp 106) (.seq (.region false [⟨(some 12), .mov (.cst (.bool true)), none⟩] [])
  (.exit 4)) (.seq (.region false [⟨(some 113), .mov (.tmp 15), none⟩,
    ⟨(some 114), .bin .leq (.cst (.int .u8 48)) (.tmp 113), none⟩,
    ⟨(some 115), .mov (.tmp 114), none⟩,
    ⟨(some 116), .mov (.tmp 15), (some (115, true))⟩,
    ⟨(some 117), .bin .leq (.tmp 116) (.cst (.int .u8 57)), (some (115, true))⟩,
    ⟨(some 118), .pick (.tmp 115) (.tmp 117) (.cst (.bool false)), none⟩,
    ⟨(some 112), .own 118, none⟩] [])
  (.cond (.tmp 112) (.region false [⟨(some 119), .mov (.tmp 15), none⟩,
    ⟨(some 120), .bin .sub (.tmp 119) (.cst (.int .u8 48)), none⟩,
    ⟨(some 16), .own 120, none⟩] []) (.seq (.region false [⟨(some 122), .mov (.tmp 15), none⟩,
    ⟨(some 123), .callq 87 [.tmp 122], none⟩,
    ⟨(some 124), .bin .leq (.cst (.int .u8 97)) (.tmp 123), none⟩,
    ⟨(some 125), .mov (.tmp 124), none⟩,
    ⟨(some 126), .mov (.tmp 15), (some (125, true))⟩,
    ⟨(some 127), .callq 87 [.tmp 126], (some (125, true))⟩,
    ⟨(some 128), .bin .leq (.tmp 127) (.cst (.int .u8 122)), (some (125, true))⟩,
    ⟨(some 129), .pick (.tmp 125) (.tmp 128) (.cst (.bool false)), none⟩,
    ⟨(some 121), .own 129, none⟩] [])
  (.cond (.tmp 121) (.region false [⟨(some 130), .mov (.tmp 15), none⟩,
    ⟨(some 131), .callq 87 [.tmp 130], none⟩,
    ⟨(some 132), .bin .sub (.tmp 131) (.cst (.int .u8 97)), none⟩,
    ⟨(some 133), .bin .add (.tmp 132) (.cst (.int .u8 10)), none⟩,
    ⟨(some 16), .own 133, none⟩] []) (.seq (.region false [⟨(some 105), .mkif 100 (.cst (.int .i64 2)), none⟩,
    ⟨(some 6), .mov (.cst (.int .u64 0)), none⟩,
    ⟨(some 7), .own 105, none⟩] [])
  .ret))))))))
  (.seq (.seq (.region false [⟨(some 134), .mov (.tmp 16), none⟩,
    ⟨(some 135), .mov (.tmp 1), none⟩,
    ⟨(some 136), .conv .u8 (.tmp 135), none⟩,
    ⟨(some 137), .bin .geq (.tmp 134) (.tmp 136), none⟩] [])
  (.cond (.tmp 137) (.seq (.region false [⟨(some 138), .mkif 100 (.cst (.int .i64 2)), none⟩,
    ⟨(some 6), .mov (.cst (.int .u64 0)), none⟩,
    ⟨(some 7), .own 138, none⟩] [])
  .ret) .skip))
  (.seq (.seq (.region false [⟨(some 139), .mov (.tmp 13), none⟩,
    ⟨(some 140), .mov (.tmp 10), none⟩,
    ⟨(some 141), .bin .geq (.tmp 139) (.tmp 140), none⟩] [])
  (.cond (.tmp 141) (.seq (.region false [⟨(some 142), .mov (.tmp 11), none⟩,
    ⟨(some 143), .mkif 100 (.cst (.int .i64 1)), none⟩,
    ⟨(some 6), .own 142, none⟩,
    ⟨(some 7), .own 143, none⟩] [])
  .ret) .skip))
  (.seq (.region false [⟨(some 144), .mov (.tmp 13), none⟩,
    ⟨(some 145), .mov (.tmp 1), none⟩,
    ⟨(some 146), .conv .u64 (.tmp 145), none⟩,
    ⟨(some 147), .bin .mul (.tmp 144) (.tmp 146), none⟩,
    ⟨(some 13), .own 147, none⟩] [])
  (.seq (.region false [⟨(some 148), .mov (.tmp 13), none⟩,
    ⟨(some 149), .mov (.tmp 16), none⟩,
    ⟨(some 150), .conv .u64 (.tmp 149), none⟩,
    ⟨(some 151), .bin .add (.tmp 148) (.tmp 150), none⟩,
    ⟨(some 17), .own 151, none⟩] [])
  (.seq (.seq (.region false [⟨(some 152), .mov (.tmp 17), none⟩,
    ⟨(some 153), .mov (.tmp 13), none⟩,
    ⟨(some 154), .bin .lss (.tmp 152) (.tmp 153), none⟩,
    ⟨(some 155), .mov (.tmp 154), none⟩,
    ⟨(some 156), .mov (.tmp 17), (some (155, false))⟩,
    ⟨(some 157), .mov (.tmp 11), (some (155, false))⟩,
    ⟨(some 158), .bin .gtr (.tmp 156) (.tmp 157), (some (155, false))⟩,
    ⟨(some 159), .pick (.tmp 155) (.cst (.bool true)) (.tmp 158), none⟩] [])
  (.cond (.tmp 159) (.seq (.region false [⟨(some 160), .mov (.tmp 11), none⟩,
    ⟨(some 161), .mkif 100 (.cst (.int .i64 1)), none⟩,
    ⟨(some 6), .own 160, none⟩,
    ⟨(some 7), .own 161, none⟩] [])
  .ret) .skip))
  (.region false [⟨(some 162), .mov (.tmp 17), none⟩,
    ⟨(some 13), .own 162, none⟩] []))))))))))
  (.region false [⟨(some 163), .bin .add (.tmp 101) (.cst (.int .i64 1)), none⟩,
    ⟨(some 101), .mov (.tmp 163), none⟩] [])))) s := rfl
theorem x71_l0_run {X : List (Option XFn)} {gl : Nat → List AV} (s : St) : LC X gl x71_l0 s = LC X gl (.seq (.seq (.region false [⟨(some 57), .mov (.tmp 8), none⟩,
    ⟨(some 58), .mov (.tmp 9), none⟩,
    ⟨(some 59), .bin .lss (.tmp 57) (.tmp 58), none⟩] [])
  (.cond (.tmp 59) .skip (.exit 1)))
  (.block 2 (.seq (.seq (.region false [⟨(some 60), .mov (.tmp 0), none⟩,
    ⟨(some 61), .mov (.tmp 8), none⟩,
    ⟨(some 62), .idxs (.tmp 60) (.tmp 61), none⟩,
    ⟨(some 63), .mov (.tmp 6), none⟩,
    ⟨(some 64), .bin .neq (.tmp 62) (.tmp 63), none⟩] [])
  (.cond (.tmp 64) (.seq (.region false [⟨(some 65), .mov (.tmp 0), none⟩,
    ⟨(some 66), .mov (.tmp 8), none⟩,
    ⟨(some 67), .bin .add (.tmp 66) (.cst (.int .i64 1)), none⟩,
    ⟨(some 68), .mov (.tmp 9), none⟩,
    ⟨(some 69), .sstr (.tmp 65) (some (.tmp 67)) (some (.tmp 68)), none⟩,
    ⟨(some 70), .mov (.tmp 6), none⟩,
    ⟨(some 71), .callq 89 [.tmp 69, .tmp 70], none⟩,
    ⟨(some 11), .own 71, none⟩] [])
  (.seq (.seq (.region false [⟨(some 72), .mov (.tmp 11), none⟩,
    ⟨(some 73), .bin .lss (.tmp 72) (.cst (.int .i64 0)), none⟩] [])
  (.cond (.tmp 73) (.seq (.region false [⟨(some 4), .mov (.cst (.int .i64 (-1))), none⟩] [])
  .ret) .skip))
  (.region false [⟨(some 74), .mov (.tmp 8), none⟩,
    ⟨(some 75), .mov (.tmp 11), none⟩,
    ⟨(some 76), .bin .add (.tmp 75) (.cst (.int .i64 1)), none⟩,
    ⟨(some 77), .bin .add (.tmp 74) (.tmp 76), none⟩,
    ⟨(some 8), .own 77, none⟩] []))) .skip))
  (.seq (.seq (.region false [⟨(some 78), .mov (.tmp 0), none⟩,
    ⟨(some 79), .mov (.tmp 8), none⟩,
    ⟨(some 80), .bin .add (.tmp 79) (.cst (.int .i64 1)), none⟩,
    ⟨(some 81), .idxs (.tmp 78) (.tmp 80), none⟩,
    ⟨(some 82), .mov (.tmp 7), none⟩,
    ⟨(some 83), .bin .eql (.tmp 81) (.tmp 82), none⟩,
    ⟨(some 84), .mov (.tmp 83), none⟩,
    ⟨(some 85), .mov (.tmp 0), (some (84, true))⟩,
    ⟨(some 86), .mov (.tmp 8), (some (84, true))⟩,
    ⟨(some 87), .mov (.tmp 8), (some (84, true))⟩,
    ⟨(some 88), .mov (.tmp 5), (some (84, true))⟩,
    ⟨(some 89), .bin .add (.tmp 87) (.tmp 88), (some (84, true))⟩,
    ⟨(some 90), .sstr (.tmp 85) (some (.tmp 86)) (some (.tmp 89)), (some (84, true))⟩,
    ⟨(some 91), .mov (.tmp 1), (some (84, true))⟩,
    ⟨(some 92), .bin .eql (.tmp 90) (.tmp 91), (some (84, true))⟩,
    ⟨(some 93), .pick (.tmp 84) (.tmp 92) (.cst (.bool false)), none⟩] [])
  (.cond (.tmp 93) (.seq (.region false [⟨(some 94), .mov (.tmp 8), none⟩,
    ⟨(some 4), .own 94, none⟩] [])
  .ret) .skip))
  (.seq (.region false [⟨(some 95), .mov (.tmp 8), none⟩,
    ⟨(some 96), .bin .add (.tmp 95) (.cst (.int .i64 1)), none⟩,
    ⟨(some 8), .own 96, none⟩] [])
  (.seq (.region false [⟨(some 97), .mov (.tmp 10), none⟩,
    ⟨(some 98), .bin .add (.tmp 97) (.cst (.int .i64 1)), none⟩,
    ⟨(some 10), .own 98, none⟩] [])
  (.seq (.region false [⟨(some 99), .mov (.tmp 5), none⟩,
    ⟨(some 100), .load (.glob 0) 1 false, none⟩,
    ⟨(some 101), .bin .leq (.tmp 99) (.tmp 100), none⟩,
    ⟨(some 102), .mov (.tmp 101), none⟩,
    ⟨(some 103), .mov (.tmp 10), (some (102, true))⟩,
    ⟨(some 104), .mov (.tmp 8), (some (102, true))⟩,
    ⟨(some 105), .callq 91 [.tmp 104], (some (102, true))⟩,
    ⟨(some 106), .bin .gtr (.tmp 103) (.tmp 105), (some (102, true))⟩,
    ⟨(some 107), .pick (.tmp 102) (.tmp 106) (.cst (.bool false)), none⟩] [])
  (.cond (.tmp 107) (.seq (.region false [⟨(some 108), .mov (.tmp 0), none⟩,
    ⟨(some 109), .mov (.tmp 8), none⟩,
    ⟨(some 110), .sstr (.tmp 108) (some (.tmp 109)) none, none⟩,
    ⟨(some 111), .mov (.tmp 1), none⟩,
    ⟨(some 112), .prim 99 90 [.tmp 110, .tmp 111], none⟩,
    ⟨(some 12), .own 112, none⟩] [])
  (.seq (.seq (.region false [⟨(some 113), .mov (.tmp 12), none⟩,
    ⟨(some 114), .bin .geq (.tmp 113) (.cst (.int .i64 0)), none⟩] [])
  (.cond (.tmp 114) (.seq (.region false [⟨(some 115), .mov (.tmp 12), none⟩,
    ⟨(some 116), .mov (.tmp 8), none⟩,
    ⟨(some 117), .bin .add (.tmp 115) (.tmp 116), none⟩,
    ⟨(some 4), .own 117, none⟩] [])
  .ret) .skip))
  (.seq (.region false [⟨(some 4), .mov (.cst (.int .i64 (-1))), none⟩] [])
  .ret))) (.seq (.region false [⟨(some 118), .mov (.tmp 5), none⟩,
    ⟨(some 119), .load (.glob 0) 1 false, none⟩,
    ⟨(some 120), .bin .gtr (.tmp 118) (.tmp 119), none⟩,
    ⟨(some 121), .mov (.tmp 120), none⟩,
    ⟨(some 122), .mov (.tmp 10), (some (121, true))⟩,
    ⟨(some 123), .mov (.tmp 8), (some (121, true))⟩,
    ⟨(some 124), .bin .shr (.tmp 123) (.cst (.int .u64 4)), (some (121, true))⟩,
    ⟨(some 125), .bin .add (.cst (.int .i64 4)) (.tmp 124), (some (121, true))⟩,
    ⟨(some 126), .bin .geq (.tmp 122) (.tmp 125), (some (121, true))⟩,
    ⟨(some 127), .pick (.tmp 121) (.tmp 126) (.cst (.bool false)), none⟩,
    ⟨(some 128), .mov (.tmp 127), none⟩,
    ⟨(some 129), .mov (.tmp 8), (some (128, true))⟩,
    ⟨(some 130), .mov (.tmp 9), (some (128, true))⟩,
    ⟨(some 131), .bin .lss (.tmp 129) (.tmp 130), (some (128, true))⟩,
    ⟨(some 132), .pick (.tmp 128) (.tmp 131) (.cst (.bool false)), none⟩] [])
  (.cond (.tmp 132) (.seq (.region false [⟨(some 133), .mov (.tmp 0), none⟩,
    ⟨(some 134), .mov (.tmp 8), none⟩,
    ⟨(some 135), .sstr (.tmp 133) (some (.tmp 134)) none, none⟩,
    ⟨(some 136), .mov (.tmp 1), none⟩,
    ⟨(some 137), .callq 92 [.tmp 135, .tmp 136], none⟩,
    ⟨(some 13), .own 137, none⟩] [])
  (.seq (.seq (.region false [⟨(some 138), .mov (.tmp 13), none⟩,
    ⟨(some 139), .bin .lss (.tmp 138) (.cst (.int .i64 0)), none⟩] [])
  (.cond (.tmp 139) (.seq (.region false [⟨(some 4), .mov (.cst (.int .i64 (-1))), none⟩] [])
  .ret) .skip))
  (.seq (.region false [⟨(some 140), .mov (.tmp 8), none⟩,
    ⟨(some 141), .mov (.tmp 13), none⟩,
    ⟨(some 142), .bin .add (.tmp 140) (.tmp 141), none⟩,
    ⟨(some 4), .own 142, none⟩] [])
  .ret))) .skip)))))))))) s := rfl
theorem x78_l0_run {X : List (Option XFn)} {gl : Nat → List AV} (s : St) : LC X gl x78_l0 s = LC X gl (.seq (.seq (.region false [⟨(some 9), .load (.tmp 3) 4 true, none⟩,
    ⟨(some 10), .load (.tmp 5) 4 true, none⟩,
    ⟨(some 11), .eqagg true [1, 1, 1, 1] (.tmp 9) (.tmp 10), none⟩] [])
  (.cond (.tmp 11) .skip (.exit 0)))
  (.block 1 (.seq (.region false [⟨(some 13), .load (.tmp 2) 4 true, none⟩,
    ⟨(some 14), .load (.tmp 3) 4 true, none⟩,
    ⟨(some 15), .callq 79 [.tmp 13, .tmp 14], none⟩,
    ⟨(some 12), .mov (.tmp 15), none⟩,
    ⟨(some 16), .ext 12 0, none⟩,
    ⟨(some 17), .ext 12 1, none⟩,
    ⟨(some 6), .alloc [.int .u64 0, .int .u64 0, .int .u64 0, .int .u64 0], none⟩,
    ⟨(some 7), .alloc [.int .u64 0, .int .u64 0, .int .u64 0, .int .u64 0], none⟩,
    ⟨none, .store (.tmp 6) (.tmp 16) 4, none⟩,
    ⟨none, .store (.tmp 7) (.tmp 17) 4, none⟩] [])
  (.seq (.region false [⟨(some 18), .load (.tmp 3) 4 true, none⟩,
    ⟨none, .store (.tmp 2) (.tmp 18) 4, none⟩] [])
  (.region false [⟨(some 19), .load (.tmp 7) 4 true, none⟩,
    ⟨none, .store (.tmp 3) (.tmp 19) 4, none⟩] []))))) s := rfl
theorem x79_l0_run {X : List (Option XFn)} {gl : Nat → List AV} (s : St) : LC X gl x79_l0 s = LC X gl (.seq (.seq (.region false [⟨(some 10), .mov (.tmp 8), none⟩,
    ⟨(some 11), .bin .geq (.tmp 10) (.cst (.int .i64 0)), none⟩] [])
  (.cond (.tmp 11) .skip (.exit 0)))
  (.seq (.block 1 (.seq (.region false [⟨(some 14), .load (.tmp 7) 4 true, none⟩,
    ⟨(some 15), .load (.tmp 7) 4 true, none⟩,
    ⟨(some 16), .callq 98 [.tmp 14, .tmp 15], none⟩,
    ⟨none, .store (.tmp 7) (.tmp 16) 4, none⟩] [])
  (.seq (.region true [⟨(some 17), .faddr (.tmp 7) 0, none⟩,
    ⟨(some 18), .iarr 4 1 (.tmp 17) (.cst (.int .i64 0)), none⟩,
    ⟨(some 19), .load (.tmp 18) 1 false, none⟩,
    ⟨(some 20), .mov (.tmp 8), none⟩,
    ⟨(some 21), .bin .quo (.tmp 20) (.cst (.int .i64 32)), none⟩,
    ⟨(some 22), .faddr (.tmp 2) 0, none⟩,
    ⟨(some 23), .iarr 4 1 (.tmp 22) (.tmp 21), none⟩,
    ⟨(some 24), .load (.tmp 23) 1 false, none⟩,
    ⟨(some 25), .mov (.tmp 8), none⟩,
    ⟨(some 26), .bin .rem (.tmp 25) (.cst (.int .i64 32)), none⟩,
    ⟨(some 27), .conv .u64 (.tmp 26), none⟩,
    ⟨(some 28), .bin .shr (.tmp 24) (.tmp 27), none⟩,
    ⟨(some 29), .bin .rem (.tmp 28) (.cst (.int .u64 2)), none⟩,
    ⟨(some 30), .bin .add (.tmp 19) (.tmp 29), none⟩,
    ⟨(some 31), .faddr (.tmp 7) 0, none⟩,
    ⟨(some 32), .iarr 4 1 (.tmp 31) (.cst (.int .i64 0)), none⟩,
    ⟨none, .store (.tmp 32) (.tmp 30) 1, none⟩] [])
  (.seq (.region false [⟨(some 33), .load (.tmp 7) 4 true, none⟩,
    ⟨(some 34), .load (.tmp 3) 4 true, none⟩,
    ⟨(some 35), .callq 80 [.tmp 33, .tmp 34], none⟩,
    ⟨(some 9), .own 35, none⟩] [])
  (.seq (.region false [⟨(some 36), .mov (.tmp 9), none⟩,
    ⟨(some 37), .bin .geq (.tmp 36) (.cst (.int .i64 0)), none⟩] [])
  (.cond (.tmp 37) (.seq (.region false [⟨(some 38), .load (.tmp 7) 4 true, none⟩,
    ⟨(some 39), .load (.tmp 3) 4 true, none⟩,
    ⟨(some 40), .callq 99 [.tmp 38, .tmp 39], none⟩,
    ⟨none, .store (.tmp 7) (.tmp 40) 4, none⟩] [])
  (.region false [⟨(some 41), .mov (.tmp 8), none⟩,
    ⟨(some 42), .bin .quo (.tmp 41) (.cst (.int .i64 32)), none⟩,
    ⟨(some 43), .mov (.tmp 8), none⟩,
    ⟨(some 44), .bin .quo (.tmp 43) (.cst (.int .i64 32)), none⟩,
    ⟨(some 45), .faddr (.tmp 6) 0, none⟩,
    ⟨(some 46), .iarr 4 1 (.tmp 45) (.tmp 44), none⟩,
    ⟨(some 47), .load (.tmp 46) 1 false, none⟩,
    ⟨(some 48), .mov (.tmp 8), none⟩,
    ⟨(some 49), .bin .rem (.tmp 48) (.cst (.int .i64 32)), none⟩,
    ⟨(some 50), .conv .u64 (.tmp 49), none⟩,
    ⟨(some 51), .bin .shl (.cst (.int .u64 1)) (.tmp 50), none⟩,
    ⟨(some 52), .bin .add (.tmp 47) (.tmp 51), none⟩,
    ⟨(some 53), .faddr (.tmp 6) 0, none⟩,
    ⟨(some 54), .iarr 4 1 (.tmp 53) (.tmp 42), none⟩,
    ⟨none, .store (.tmp 54) (.tmp 52) 1, none⟩] [])) .skip))))))
  (.region false [⟨(some 12), .mov (.tmp 8), none⟩,
    ⟨(some 13), .bin .sub (.tmp 12) (.cst (.int .i64 1)), none⟩,
    ⟨(some 8), .own 13, none⟩] []))) s := rfl
theorem x80_l0_run {X : List (Option XFn)} {gl : Nat → List AV} (s : St) : LC X gl x80_l0 s = LC X gl (.seq (.seq (.region false [⟨(some 6), .mov (.tmp 5), none⟩,
    ⟨(some 7), .bin .geq (.tmp 6) (.cst (.int .i64 0)), none⟩] [])
  (.cond (.tmp 7) .skip (.exit 0)))
  (.seq (.block 1 (.seq (.seq (.region true [⟨(some 10), .mov (.tmp 5), none⟩,
    ⟨(some 11), .faddr (.tmp 2) 0, none⟩,
    ⟨(some 12), .iarr 4 1 (.tmp 11) (.tmp 10), none⟩,
    ⟨(some 13), .load (.tmp 12) 1 false, none⟩,
    ⟨(some 14), .mov (.tmp 5), none⟩,
    ⟨(some 15), .faddr (.tmp 3) 0, none⟩,
    ⟨(some 16), .iarr 4 1 (.tmp 15) (.tmp 14), none⟩,
    ⟨(some 17), .load (.tmp 16) 1 false, none⟩,
    ⟨(some 18), .bin .lss (.tmp 13) (.tmp 17), none⟩] [])
  (.cond (.tmp 18) (.seq (.region false [⟨(some 4), .mov (.cst (.int .i64 (-1))), none⟩] [])
  .ret) .skip))
  (.seq (.region true [⟨(some 19), .mov (.tmp 5), none⟩,
    ⟨(some 20), .faddr (.tmp 2) 0, none⟩,
    ⟨(some 21), .iarr 4 1 (.tmp 20) (.tmp 19), none⟩,
    ⟨(some 22), .load (.tmp 21) 1 false, none⟩,
    ⟨(some 23), .mov (.tmp 5), none⟩,
    ⟨(some 24), .faddr (.tmp 3) 0, none⟩,
    ⟨(some 25), .iarr 4 1 (.tmp 24) (.tmp 23), none⟩,
    ⟨(some 26), .load (.tmp 25) 1 false, none⟩,
    ⟨(some 27), .bin .gtr (.tmp 22) (.tmp 26), none⟩] [])
  (.cond (.tmp 27) (.seq (.region false [⟨(some 4), .mov (.cst (.int .i64 1)), none⟩] [])
  .ret) .skip))))
  (.region false [⟨(some 8), .mov (.tmp 5), none⟩,
    ⟨(some 9), .bin .sub (.tmp 8) (.cst (.int .i64 1)), none⟩,
    ⟨(some 5), .own 9, none⟩] []))) s := rfl
theorem x96_l0_run {X : List (Option XFn)} {gl : Nat → List AV} (s : St) : LC X gl x96_l0 s = LC X gl (.seq (.seq (.region false [⟨(some 67), .mov (.tmp 15), none⟩,
    ⟨(some 68), .bin .geq (.tmp 67) (.cst (.int .u64 4294967296)), none⟩,
    ⟨(some 69), .mov (.tmp 68), none⟩,
    ⟨(some 70), .mov (.tmp 15), (some (69, false))⟩,
    ⟨(some 71), .mov (.tmp 10), (some (69, false))⟩,
    ⟨(some 72), .bin .mul (.tmp 70) (.tmp 71), (some (69, false))⟩,
    ⟨(some 73), .mov (.tmp 16), (some (69, false))⟩,
    ⟨(some 74), .bin .mul (.cst (.int .u64 4294967296)) (.tmp 73), (some (69, false))⟩,
    ⟨(some 75), .mov (.tmp 13), (some (69, false))⟩,
    ⟨(some 76), .bin .add (.tmp 74) (.tmp 75), (some (69, false))⟩,
    ⟨(some 77), .bin .gtr (.tmp 72) (.tmp 76), (some (69, false))⟩,
    ⟨(some 78), .pick (.tmp 69) (.cst (.bool true)) (.tmp 77), none⟩] [])
  (.cond (.tmp 78) .skip (.exit 0)))
  (.block 1 (.seq (.region false [⟨(some 79), .mov (.tmp 15), none⟩,
    ⟨(some 80), .bin .sub (.tmp 79) (.cst (.int .u64 1)), none⟩,
    ⟨(some 15), .own 80, none⟩] [])
  (.seq (.region false [⟨(some 81), .mov (.tmp 16), none⟩,
    ⟨(some 82), .mov (.tmp 9), none⟩,
    ⟨(some 83), .bin .add (.tmp 81) (.tmp 82), none⟩,
    ⟨(some 16), .own 83, none⟩] [])
  (.seq (.region false [⟨(some 84), .mov (.tmp 16), none⟩,
    ⟨(some 85), .bin .geq (.tmp 84) (.cst (.int .u64 4294967296)), none⟩] [])
  (.cond (.tmp 85) (.exit 0) .skip)))))) s := rfl
theorem x96_l1_run {X : List (Option XFn)} {gl : Nat → List AV} (s : St) : LC X gl x96_l1 s = LC X gl (.seq (.seq (.region false [⟨(some 102), .mov (.tmp 18), none⟩,
    ⟨(some 103), .bin .geq (.tmp 102) (.cst (.int .u64 4294967296)), none⟩,
    ⟨(some 104), .mov (.tmp 103), none⟩,
    ⟨(some 105), .mov (.tmp 18), (some (104, false))⟩,
    ⟨(some 106), .mov (.tmp 10), (some (104, false))⟩,
    ⟨(some 107), .bin .mul (.tmp 105) (.tmp 106), (some (104, false))⟩,
    ⟨(some 108), .mov (.tmp 16), (some (104, false))⟩,
    ⟨(some 109), .bin .mul (.cst (.int .u64 4294967296)) (.tmp 108), (some (104, false))⟩,
    ⟨(some 110), .mov (.tmp 14), (some (104, false))⟩,
    ⟨(some 111), .bin .add (.tmp 109) (.tmp 110), (some (104, false))⟩,
    ⟨(some 112), .bin .gtr (.tmp 107) (.tmp 111), (some (104, false))⟩,
    ⟨(some 113), .pick (.tmp 104) (.cst (.bool true)) (.tmp 112), none⟩] [])
  (.cond (.tmp 113) .skip (.exit 2)))
  (.block 3 (.seq (.region false [⟨(some 114), .mov (.tmp 18), none⟩,
    ⟨(some 115), .bin .sub (.tmp 114) (.cst (.int .u64 1)), none⟩,
    ⟨(some 18), .own 115, none⟩] [])
  (.seq (.region false [⟨(some 116), .mov (.tmp 16), none⟩,
    ⟨(some 117), .mov (.tmp 9), none⟩,
    ⟨(some 118), .bin .add (.tmp 116) (.tmp 117), none⟩,
    ⟨(some 16), .own 118, none⟩] [])
  (.seq (.region false [⟨(some 119), .mov (.tmp 16), none⟩,
    ⟨(some 120), .bin .geq (.tmp 119) (.cst (.int .u64 4294967296)), none⟩] [])
  (.cond (.tmp 120) (.exit 2) .skip)))))) s := rfl
theorem x98_l0_run {X : List (Option XFn)} {gl : Nat → List AV} (s : St) : LC X gl x98_l0 s = LC X gl (.seq (.seq (.region false [⟨(some 9), .mov (.tmp 7), none⟩,
    ⟨(some 10), .bin .lss (.tmp 9) (.cst (.int .i64 4)), none⟩] [])
  (.cond (.tmp 10) .skip (.exit 0)))
  (.seq (.block 1 (.seq (.region true [⟨(some 13), .mov (.tmp 7), none⟩,
    ⟨(some 14), .faddr (.tmp 2) 0, none⟩,
    ⟨(some 15), .iarr 4 1 (.tmp 14) (.tmp 13), none⟩,
    ⟨(some 16), .load (.tmp 15) 1 false, none⟩,
    ⟨(some 17), .mov (.tmp 7), none⟩,
    ⟨(some 18), .faddr (.tmp 3) 0, none⟩,
    ⟨(some 19), .iarr 4 1 (.tmp 18) (.tmp 17), none⟩,
    ⟨(some 20), .load (.tmp 19) 1 false, none⟩,
    ⟨(some 21), .bin .add (.tmp 16) (.tmp 20), none⟩,
    ⟨(some 22), .mov (.tmp 6), none⟩,
    ⟨(some 23), .bin .add (.tmp 21) (.tmp 22), none⟩,
    ⟨(some 8), .own 23, none⟩] [])
  (.seq (.region false [⟨(some 24), .mov (.tmp 7), none⟩,
    ⟨(some 25), .mov (.tmp 8), none⟩,
    ⟨(some 26), .bin .rem (.tmp 25) (.cst (.int .u64 4294967296)), none⟩,
    ⟨(some 27), .faddr (.tmp 5) 0, none⟩,
    ⟨(some 28), .iarr 4 1 (.tmp 27) (.tmp 24), none⟩,
    ⟨none, .store (.tmp 28) (.tmp 26) 1, none⟩] [])
  (.region false [⟨(some 29), .mov (.tmp 8), none⟩,
    ⟨(some 30), .bin .quo (.tmp 29) (.cst (.int .u64 4294967296)), none⟩,
    ⟨(some 6), .own 30, none⟩] []))))
  (.region false [⟨(some 11), .mov (.tmp 7), none⟩,
    ⟨(some 12), .bin .add (.tmp 11) (.cst (.int .i64 1)), none⟩,
    ⟨(some 7), .own 12, none⟩] []))) s := rfl
theorem x99_l0_run {X : List (Option XFn)} {gl : Nat → List AV} (s : St) : LC X gl x99_l0 s = LC X gl (.seq (.seq (.region false [⟨(some 9), .mov (.tmp 7), none⟩,
    ⟨(some 10), .bin .lss (.tmp 9) (.cst (.int .i64 4)), none⟩] [])
  (.cond (.tmp 10) .skip (.exit 0)))
  (.seq (.block 1 (.seq (.region true [⟨(some 13), .mov (.tmp 7), none⟩,
    ⟨(some 14), .faddr (.tmp 2) 0, none⟩,
    ⟨(some 15), .iarr 4 1 (.tmp 14) (.tmp 13), none⟩,
    ⟨(some 16), .load (.tmp 15) 1 false, none⟩,
    ⟨(some 17), .bin .add (.tmp 16) (.cst (.int .u64 4294967296)), none⟩,
    ⟨(some 18), .mov (.tmp 7), none⟩,
    ⟨(some 19), .faddr (.tmp 3) 0, none⟩,
    ⟨(some 20), .iarr 4 1 (.tmp 19) (.tmp 18), none⟩,
    ⟨(some 21), .load (.tmp 20) 1 false, none⟩,
    ⟨(some 22), .bin .sub (.tmp 17) (.tmp 21), none⟩,
    ⟨(some 23), .mov (.tmp 6), none⟩,
    ⟨(some 24), .bin .sub (.tmp 22) (.tmp 23), none⟩,
    ⟨(some 8), .own 24, none⟩] [])
  (.seq (.region false [⟨(some 25), .mov (.tmp 7), none⟩,
    ⟨(some 26), .mov (.tmp 8), none⟩,
    ⟨(some 27), .bin .rem (.tmp 26) (.cst (.int .u64 4294967296)), none⟩,
    ⟨(some 28), .faddr (.tmp 5) 0, none⟩,
    ⟨(some 29), .iarr 4 1 (.tmp 28) (.tmp 25), none⟩,
    ⟨none, .store (.tmp 29) (.tmp 27) 1, none⟩] [])
  (.region false [⟨(some 30), .mov (.tmp 8), none⟩,
    ⟨(some 31), .bin .quo (.tmp 30) (.cst (.int .u64 4294967296)), none⟩,
    ⟨(some 32), .bin .sub (.cst (.int .u64 1)) (.tmp 31), none⟩,
    ⟨(some 6), .own 32, none⟩] []))))
  (.region false [⟨(some 11), .mov (.tmp 7), none⟩,
    ⟨(some 12), .bin .add (.tmp 11) (.cst (.int .i64 1)), none⟩,
    ⟨(some 7), .own 12, none⟩] []))) s := rfl
end Go.Proofs.YtgbmobfjanajaaaDoor.Sx.T
