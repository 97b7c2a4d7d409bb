/- The functions of this seat in the small language, printed by a program of ours. -/
import Derived.Test.YtafeikbbjhmlaaaGreatDoorSxA
set_option linter.unusedVariables false
set_option linter.unusedSimpArgs false
namespace Go.Proofs.YtafeikbbjhmlaaaGreatDoor.Sx.T
open Go Go.Proofs.YtafeikbbjhmlaaaGreatDoor.Sx
set_option maxRecDepth 10000
/-- custos/custoslaw21.SayBack -/
def zo (d : Nat) (o : XOp) : XO := ⟨some d, o, none⟩
def zg (d g : Nat) (b : Bool) (o : XOp) : XO := ⟨some d, o, some (g, b)⟩
def x6 : XFn := XFn.mk 120 [.tmp 6] (.seq (.region false [⟨(some 3), .box (.tmp 0) 2, none⟩,
    ⟨(some 6), .mov (.cst (.bool false)), none⟩] [])
  (.seq (.region false [⟨(some 26), .callq 8 [], none⟩,
    ⟨(some 7), .own 26, none⟩] [])
  (.seq (.seq (.region false [⟨(some 28), .load (.tmp 3) 2 true, none⟩,
    ⟨(some 29), .callq 9 [.tmp 28], none⟩,
    ⟨(some 27), .mov (.tmp 29), none⟩,
    ⟨(some 30), .ext 27 0, none⟩,
    ⟨(some 31), .ext 27 1, none⟩,
    ⟨(some 8), .own 30, none⟩,
    ⟨(some 9), .own 31, none⟩] [])
  (.seq (.region false [⟨(some 32), .mov (.tmp 9), none⟩,
    ⟨(some 33), .bin .eql (.tmp 32) (.cst (.int .i64 0)), none⟩] [])
  (.cond (.tmp 33) (.seq (.region false [⟨(some 35), .mov (.tmp 8), none⟩,
    ⟨(some 36), .callq 15 [.tmp 35], none⟩,
    ⟨(some 34), .mov (.tmp 36), none⟩,
    ⟨(some 37), .ext 34 0, none⟩,
    ⟨(some 38), .ext 34 1, none⟩,
    ⟨(some 10), .alloc [.nilsl, .nilsl], none⟩,
    ⟨none, .store (.tmp 10) (.tmp 37) 2, none⟩,
    ⟨(some 11), .own 38, none⟩] [])
  (.seq (.region false [⟨(some 39), .mov (.tmp 11), none⟩,
    ⟨(some 40), .bin .neq (.tmp 39) (.cst (.int .i64 0)), none⟩,
    ⟨(some 41), .mov (.tmp 40), none⟩,
    ⟨(some 42), .load (.tmp 3) 2 true, (some (41, false))⟩,
    ⟨(some 43), .load (.tmp 10) 2 true, (some (41, false))⟩,
    ⟨(some 44), .callq 19 [.tmp 42, .tmp 43], (some (41, false))⟩,
    ⟨(some 45), .not (.tmp 44), (some (41, false))⟩,
    ⟨(some 46), .pick (.tmp 41) (.cst (.bool true)) (.tmp 45), none⟩] [])
  (.cond (.tmp 46) (.seq (.region false [⟨(some 6), .mov (.cst (.bool false)), none⟩] [])
  .ret) .skip))) .skip)))
  (.seq (.seq (.region false [⟨(some 48), .mov (.tmp 1), none⟩,
    ⟨(some 49), .callq 13 [.tmp 48], none⟩,
    ⟨(some 47), .mov (.tmp 49), none⟩,
    ⟨(some 50), .ext 47 0, none⟩,
    ⟨(some 51), .ext 47 1, none⟩,
    ⟨(some 12), .own 50, none⟩,
    ⟨(some 13), .own 51, none⟩] [])
  (.seq (.region false [⟨(some 52), .mov (.tmp 13), none⟩,
    ⟨(some 53), .bin .eql (.tmp 52) (.cst (.int .i64 0)), none⟩] [])
  (.cond (.tmp 53) (.seq (.region false [⟨(some 55), .mov (.tmp 12), none⟩,
    ⟨(some 56), .callq 17 [.tmp 55], none⟩,
    ⟨(some 54), .mov (.tmp 56), none⟩,
    ⟨(some 57), .ext 54 0, none⟩,
    ⟨(some 58), .ext 54 1, none⟩,
    ⟨(some 59), .ext 54 2, none⟩,
    ⟨(some 14), .own 57, none⟩,
    ⟨(some 15), .own 58, none⟩,
    ⟨(some 16), .own 59, none⟩] [])
  (.seq (.region false [⟨(some 60), .mov (.tmp 15), none⟩,
    ⟨(some 61), .bin .neq (.tmp 60) (.cst (.int .i64 0)), none⟩,
    ⟨(some 62), .mov (.tmp 61), none⟩,
    ⟨(some 63), .mov (.tmp 16), (some (62, false))⟩,
    ⟨(some 64), .bin .neq (.tmp 63) (.cst (.int .i64 0)), (some (62, false))⟩,
    ⟨(some 65), .pick (.tmp 62) (.cst (.bool true)) (.tmp 64), none⟩,
    ⟨(some 66), .mov (.tmp 65), none⟩,
    ⟨(some 67), .mov (.tmp 1), (some (66, false))⟩,
    ⟨(some 68), .mov (.tmp 14), (some (66, false))⟩,
    ⟨(some 69), .callq 20 [.tmp 67, .tmp 68], (some (66, false))⟩,
    ⟨(some 70), .not (.tmp 69), (some (66, false))⟩,
    ⟨(some 71), .pick (.tmp 66) (.cst (.bool true)) (.tmp 70), none⟩] [])
  (.cond (.tmp 71) (.seq (.region false [⟨(some 6), .mov (.cst (.bool false)), none⟩] [])
  .ret) .skip))) .skip)))
  (.seq (.region false [⟨(some 73), .mov (.tmp 2), none⟩,
    ⟨(some 74), .callq 15 [.tmp 73], none⟩,
    ⟨(some 72), .mov (.tmp 74), none⟩,
    ⟨(some 75), .ext 72 0, none⟩,
    ⟨(some 76), .ext 72 1, none⟩,
    ⟨(some 17), .alloc [.nilsl, .nilsl], none⟩,
    ⟨none, .store (.tmp 17) (.tmp 75) 2, none⟩,
    ⟨(some 18), .own 76, none⟩] [])
  (.seq (.region false [⟨(some 78), .load (.tmp 17) 2 true, none⟩,
    ⟨(some 79), .callq 9 [.tmp 78], none⟩,
    ⟨(some 77), .mov (.tmp 79), none⟩,
    ⟨(some 80), .ext 77 0, none⟩,
    ⟨(some 81), .ext 77 1, none⟩,
    ⟨(some 19), .own 80, none⟩,
    ⟨(some 20), .own 81, none⟩] [])
  (.seq (.region false [⟨(some 83), .mov (.tmp 2), none⟩,
    ⟨(some 84), .callq 17 [.tmp 83], none⟩,
    ⟨(some 82), .mov (.tmp 84), none⟩,
    ⟨(some 85), .ext 82 0, none⟩,
    ⟨(some 86), .ext 82 1, none⟩,
    ⟨(some 87), .ext 82 2, none⟩,
    ⟨(some 21), .own 85, none⟩,
    ⟨(some 22), .own 86, none⟩,
    ⟨(some 23), .own 87, none⟩] [])
  (.seq (.region false [⟨(some 89), .mov (.tmp 21), none⟩,
    ⟨(some 90), .callq 13 [.tmp 89], none⟩,
    ⟨(some 88), .mov (.tmp 90), none⟩,
    ⟨(some 91), .ext 88 0, none⟩,
    ⟨(some 92), .ext 88 1, none⟩,
    ⟨(some 24), .own 91, none⟩,
    ⟨(some 25), .own 92, none⟩] [])
  (.seq (.region false [⟨(some 93), .mov (.tmp 7), none⟩,
    ⟨(some 94), .mov (.tmp 93), none⟩,
    ⟨(some 95), .mov (.tmp 18), (some (94, true))⟩,
    ⟨(some 96), .bin .neq (.tmp 95) (.cst (.int .i64 0)), (some (94, true))⟩,
    ⟨(some 97), .mov (.tmp 96), (some (94, true))⟩,
    ⟨(some 98), .mov (.tmp 20), (some (97, false))⟩,
    ⟨(some 99), .bin .eql (.tmp 98) (.cst (.int .i64 0)), (some (97, false))⟩,
    ⟨(some 100), .mov (.tmp 99), (some (97, false))⟩,
    ⟨(some 101), .mov (.tmp 19), (some (100, true))⟩,
    ⟨(some 102), .mov (.tmp 2), (some (100, true))⟩,
    ⟨(some 103), .bin .eql (.tmp 101) (.tmp 102), (some (100, true))⟩,
    ⟨(some 104), .pick (.tmp 100) (.tmp 103) (.cst (.bool false)), (some (97, false))⟩,
    ⟨(some 105), .pick (.tmp 97) (.cst (.bool true)) (.tmp 104), (some (94, true))⟩,
    ⟨(some 106), .pick (.tmp 94) (.tmp 105) (.cst (.bool false)), none⟩,
    ⟨(some 107), .mov (.tmp 106), none⟩,
    ⟨(some 108), .mov (.tmp 22), (some (107, true))⟩,
    ⟨(some 109), .bin .neq (.tmp 108) (.cst (.int .i64 0)), (some (107, true))⟩,
    ⟨(some 110), .mov (.tmp 109), (some (107, true))⟩,
    ⟨(some 111), .mov (.tmp 25), (some (110, false))⟩,
    ⟨(some 112), .bin .eql (.tmp 111) (.cst (.int .i64 0)), (some (110, false))⟩,
    ⟨(some 113), .mov (.tmp 112), (some (110, false))⟩,
    ⟨(some 114), .mov (.tmp 24), (some (113, true))⟩,
    ⟨(some 115), .mov (.tmp 2), (some (113, true))⟩,
    ⟨(some 116), .bin .eql (.tmp 114) (.tmp 115), (some (113, true))⟩,
    ⟨(some 117), .pick (.tmp 113) (.tmp 116) (.cst (.bool false)), (some (110, false))⟩,
    ⟨(some 118), .pick (.tmp 110) (.cst (.bool true)) (.tmp 117), (some (107, true))⟩,
    ⟨(some 119), .pick (.tmp 107) (.tmp 118) (.cst (.bool false)), none⟩,
    ⟨(some 6), .own 119, none⟩] [])
  .ret)))))))))
/-- custos/custoslaw21.live -/
def x8 : XFn := XFn.mk 112 [.tmp 0] (.seq (.region false [⟨(some 0), .mov (.cst (.bool false)), none⟩] [])
  (.seq (.region false [⟨(some 15), .bslice 1 [.str [], .str []] [(0, 1, .cst (.str [120])), (1, 1, .cst (.str [121]))], none⟩,
    ⟨(some 16), .build [.int .i64 0, .int .i64 0, .int .i64 0, .str []] [(0, 1, .cst (.int .i64 1)), (1, 1, .cst (.int .i64 1))], none⟩,
    ⟨(some 17), .build [.int .i64 0, .int .i64 0, .int .i64 0, .str []] [(0, 1, .cst (.int .i64 3)), (3, 1, .cst (.str [97, 32, 98]))], none⟩,
    ⟨(some 18), .bslice 4 [.int .i64 0, .int .i64 0, .int .i64 0, .str [], .int .i64 0, .int .i64 0, .int .i64 0, .str []] [(0, 4, .tmp 16), (4, 4, .tmp 17)], none⟩,
    ⟨(some 19), .bslice 1 [.nilsl] [(0, 1, .tmp 18)], none⟩,
    ⟨(some 20), .build [.nilsl, .nilsl] [(0, 1, .tmp 15), (1, 1, .tmp 19)], none⟩,
    ⟨(some 1), .alloc [.nilsl, .nilsl], none⟩,
    ⟨none, .store (.tmp 1) (.tmp 20) 2, none⟩] [])
  (.seq (.region false [⟨(some 22), .load (.tmp 1) 2 true, none⟩,
    ⟨(some 23), .callq 9 [.tmp 22], none⟩,
    ⟨(some 21), .mov (.tmp 23), none⟩,
    ⟨(some 24), .ext 21 0, none⟩,
    ⟨(some 25), .ext 21 1, none⟩,
    ⟨(some 2), .own 24, none⟩,
    ⟨(some 3), .own 25, none⟩] [])
  (.seq (.region false [⟨(some 27), .mov (.tmp 2), none⟩,
    ⟨(some 28), .callq 15 [.tmp 27], none⟩,
    ⟨(some 26), .mov (.tmp 28), none⟩,
    ⟨(some 29), .ext 26 0, none⟩,
    ⟨(some 30), .ext 26 1, none⟩,
    ⟨(some 4), .alloc [.nilsl, .nilsl], none⟩,
    ⟨none, .store (.tmp 4) (.tmp 29) 2, none⟩,
    ⟨(some 5), .own 30, none⟩] [])
  (.seq (.region false [⟨(some 32), .bslice 4 [] [], none⟩,
    ⟨(some 33), .bslice 1 [.nilsl] [(0, 1, .tmp 32)], none⟩,
    ⟨(some 34), .build [.nilsl, .nilsl] [(1, 1, .tmp 33)], none⟩,
    ⟨(some 35), .build [.int .i64 0, .int .i64 0, .nilsl, .nilsl] [(0, 1, .cst (.int .i64 3)), (1, 1, .cst (.int .i64 70)), (2, 2, .tmp 34)], none⟩,
    ⟨(some 36), .callq 11 [.tmp 35], none⟩,
    ⟨(some 31), .mov (.tmp 36), none⟩,
    ⟨(some 37), .ext 31 0, none⟩,
    ⟨(some 38), .ext 31 1, none⟩,
    ⟨(some 6), .own 37, none⟩,
    ⟨(some 7), .own 38, none⟩] [])
  (.seq (.region false [⟨(some 40), .bslice 1 [.int .i64 0, .int .i64 0] [(0, 1, .cst (.int .i64 0)), (1, 1, .cst (.int .i64 1))], none⟩,
    ⟨(some 41), .load (.tmp 1) 2 true, none⟩,
    ⟨(some 42), .build [.nilsl, .int .i64 0, .nilsl, .nilsl] [(0, 1, .tmp 40), (1, 1, .cst (.int .i64 2)), (2, 2, .tmp 41)], none⟩,
    ⟨(some 43), .bslice 4 [.nilsl, .int .i64 0, .nilsl, .nilsl] [(0, 4, .tmp 42)], none⟩,
    ⟨(some 44), .callq 13 [.tmp 43], none⟩,
    ⟨(some 39), .mov (.tmp 44), none⟩,
    ⟨(some 45), .ext 39 0, none⟩,
    ⟨(some 46), .ext 39 1, none⟩,
    ⟨(some 8), .own 45, none⟩,
    ⟨(some 9), .own 46, none⟩] [])
  (.seq (.region false [⟨(some 48), .mov (.tmp 8), none⟩,
    ⟨(some 49), .callq 17 [.tmp 48], none⟩,
    ⟨(some 47), .mov (.tmp 49), none⟩,
    ⟨(some 50), .ext 47 0, none⟩,
    ⟨(some 51), .ext 47 1, none⟩,
    ⟨(some 52), .ext 47 2, none⟩,
    ⟨(some 10), .own 50, none⟩,
    ⟨(some 11), .own 51, none⟩,
    ⟨(some 12), .own 52, none⟩] [])
  (.seq (.region false [⟨(some 54), .callq 15 [.cst (.str [40, 120, 41, 32, 40, 50, 41, 32, 40, 49, 41])], none⟩,
    ⟨(some 53), .mov (.tmp 54), none⟩,
    ⟨(some 55), .ext 53 0, none⟩,
    ⟨(some 56), .ext 53 1, none⟩,
    ⟨(some 13), .alloc [.nilsl, .nilsl], none⟩,
    ⟨none, .store (.tmp 13) (.tmp 55) 2, none⟩,
    ⟨(some 14), .own 56, none⟩] [])
  (.seq (.region false [⟨(some 57), .mov (.tmp 3), none⟩,
    ⟨(some 58), .bin .eql (.tmp 57) (.cst (.int .i64 0)), none⟩,
    ⟨(some 59), .mov (.tmp 58), none⟩,
    ⟨(some 60), .mov (.tmp 2), (some (59, true))⟩,
    ⟨(some 61), .bin .eql (.tmp 60) (.cst (.str [40, 120, 32, 121, 41, 32, 40, 49, 32, 34, 97, 32, 98, 34, 41])), (some (59, true))⟩,
    ⟨(some 62), .pick (.tmp 59) (.tmp 61) (.cst (.bool false)), none⟩,
    ⟨(some 63), .mov (.tmp 62), none⟩,
    ⟨(some 64), .mov (.tmp 5), (some (63, true))⟩,
    ⟨(some 65), .bin .eql (.tmp 64) (.cst (.int .i64 0)), (some (63, true))⟩,
    ⟨(some 66), .pick (.tmp 63) (.tmp 65) (.cst (.bool false)), none⟩,
    ⟨(some 67), .mov (.tmp 66), none⟩,
    ⟨(some 68), .load (.tmp 1) 2 true, (some (67, true))⟩,
    ⟨(some 69), .load (.tmp 4) 2 true, (some (67, true))⟩,
    ⟨(some 70), .callq 19 [.tmp 68, .tmp 69], (some (67, true))⟩,
    ⟨(some 71), .pick (.tmp 67) (.tmp 70) (.cst (.bool false)), none⟩,
    ⟨(some 72), .mov (.tmp 71), none⟩,
    ⟨(some 73), .mov (.tmp 7), (some (72, true))⟩,
    ⟨(some 74), .bin .eql (.tmp 73) (.cst (.int .i64 0)), (some (72, true))⟩,
    ⟨(some 75), .pick (.tmp 72) (.tmp 74) (.cst (.bool false)), none⟩,
    ⟨(some 76), .mov (.tmp 75), none⟩,
    ⟨(some 77), .mov (.tmp 6), (some (76, true))⟩,
    ⟨(some 78), .bin .eql (.tmp 77) (.cst (.str [51, 32, 64, 55, 48, 32, 40, 41, 32, 40, 41])), (some (76, true))⟩,
    ⟨(some 79), .pick (.tmp 76) (.tmp 78) (.cst (.bool false)), none⟩,
    ⟨(some 80), .mov (.tmp 79), none⟩,
    ⟨(some 81), .mov (.tmp 9), (some (80, true))⟩,
    ⟨(some 82), .bin .eql (.tmp 81) (.cst (.int .i64 0)), (some (80, true))⟩,
    ⟨(some 83), .pick (.tmp 80) (.tmp 82) (.cst (.bool false)), none⟩,
    ⟨(some 84), .mov (.tmp 83), none⟩,
    ⟨(some 85), .mov (.tmp 8), (some (84, true))⟩,
    ⟨(some 86), .bin .eql (.tmp 85) (.cst (.str [91, 48, 32, 49, 93, 32, 50, 32, 40, 120, 32, 121, 41, 32, 40, 49, 32, 34, 97, 32, 98, 34, 41, 10])), (some (84, true))⟩,
    ⟨(some 87), .pick (.tmp 84) (.tmp 86) (.cst (.bool false)), none⟩,
    ⟨(some 88), .mov (.tmp 87), none⟩,
    ⟨(some 89), .mov (.tmp 11), (some (88, true))⟩,
    ⟨(some 90), .bin .eql (.tmp 89) (.cst (.int .i64 0)), (some (88, true))⟩,
    ⟨(some 91), .pick (.tmp 88) (.tmp 90) (.cst (.bool false)), none⟩,
    ⟨(some 92), .mov (.tmp 91), none⟩,
    ⟨(some 93), .mov (.tmp 12), (some (92, true))⟩,
    ⟨(some 94), .bin .eql (.tmp 93) (.cst (.int .i64 0)), (some (92, true))⟩,
    ⟨(some 95), .pick (.tmp 92) (.tmp 94) (.cst (.bool false)), none⟩,
    ⟨(some 96), .mov (.tmp 95), none⟩,
    ⟨(some 97), .mov (.tmp 10), (some (96, true))⟩,
    ⟨(some 98), .lens false (.tmp 97), (some (96, true))⟩,
    ⟨(some 99), .bin .eql (.tmp 98) (.cst (.int .i64 1)), (some (96, true))⟩,
    ⟨(some 100), .pick (.tmp 96) (.tmp 99) (.cst (.bool false)), none⟩,
    ⟨(some 101), .mov (.tmp 100), none⟩,
    ⟨(some 102), .mov (.tmp 10), (some (101, true))⟩,
    ⟨(some 103), .iaddr 4 (.tmp 102) (.cst (.int .i64 0)), (some (101, true))⟩,
    ⟨(some 104), .faddr (.tmp 103) 1, (some (101, true))⟩,
    ⟨(some 105), .load (.tmp 104) 1 false, (some (101, true))⟩,
    ⟨(some 106), .bin .eql (.tmp 105) (.cst (.int .i64 2)), (some (101, true))⟩,
    ⟨(some 107), .pick (.tmp 101) (.tmp 106) (.cst (.bool false)), none⟩,
    ⟨(some 108), .mov (.tmp 107), none⟩,
    ⟨(some 109), .mov (.tmp 14), (some (108, true))⟩,
    ⟨(some 110), .bin .eql (.tmp 109) (.cst (.int .i64 70)), (some (108, true))⟩,
    ⟨(some 111), .pick (.tmp 108) (.tmp 110) (.cst (.bool false)), none⟩,
    ⟨(some 0), .own 111, none⟩] [])
  .ret)))))))))
def x9_r0 : XCode := .seq (.region false [⟨(some 34), .bin .lss (.tmp 33) (.tmp 32), none⟩] [])
  (.seq (.cond (.tmp 34) .skip (.exit 2))
  (.seq (.block 3 (.seq (.region false [⟨(some 35), .iaddr 4 (.tmp 31) (.tmp 33), none⟩,
    ⟨(some 36), .load (.tmp 35) 4 true, none⟩,
    ⟨(some 10), .alloc [.int .i64 0, .int .i64 0, .int .i64 0, .str []], none⟩,
    ⟨none, .store (.tmp 10) (.tmp 36) 4, none⟩] [])
  (.seq (.region false [⟨(some 38), .load (.tmp 10) 4 true, none⟩,
    ⟨(some 39), .callq 26 [.tmp 38], none⟩,
    ⟨(some 37), .mov (.tmp 39), none⟩,
    ⟨(some 40), .ext 37 0, none⟩,
    ⟨(some 41), .ext 37 1, none⟩,
    ⟨(some 11), .own 40, none⟩,
    ⟨(some 12), .own 41, none⟩] [])
  (.region false [⟨(some 42), .own 8, none⟩,
    ⟨(some 43), .mov (.tmp 11), none⟩,
    ⟨(some 44), .bslice 1 [.str []] [(0, 1, .tmp 43)], none⟩,
    ⟨(some 45), .app false 1 16 42 (.tmp 44), none⟩,
    ⟨(some 8), .own 45, none⟩] []))))
  (.region false [⟨(some 46), .bin .add (.tmp 33) (.cst (.int .i64 1)), none⟩,
    ⟨(some 33), .mov (.tmp 46), none⟩] [])))
def x9_l0 : XCode := x9_r0
def x9_r1 : XCode := .seq (.region false [⟨(some 28), .bin .lss (.tmp 27) (.tmp 26), none⟩] [])
  (.seq (.cond (.tmp 28) .skip (.exit 0))
  (.seq (.block 1 (.seq (.region false [⟨(some 29), .iaddr 1 (.tmp 25) (.tmp 27), none⟩,
    ⟨(some 30), .load (.tmp 29) 1 false, none⟩,
    ⟨(some 7), .own 30, none⟩] [])
  (.seq (.region false [⟨(some 8), .mov (.cst .nilsl), none⟩] [])
  (.seq (.seq (.region false [⟨(some 31), .mov (.tmp 7), none⟩,
    ⟨(some 32), .lens false (.tmp 31), none⟩,
    ⟨(some 33), .mov (.cst (.int .i64 0)), none⟩] [])
  (.block 2 (.loop x9_l0)))
  (.region false [⟨(some 47), .mov (.tmp 8), none⟩,
    ⟨(some 48), .callw 25 [.tmp 5, .cst (.str [32, 40]), .cst (.str [41]), .tmp 47], none⟩] [])))))
  (.region false [⟨(some 49), .bin .add (.tmp 27) (.cst (.int .i64 1)), none⟩,
    ⟨(some 27), .mov (.tmp 49), none⟩] [])))
def x9_l1 : XCode := x9_r1
/-- custos/say.Table -/
def x9 : XFn := XFn.mk 51 [.tmp 2, .tmp 3] (.seq (.region false [⟨(some 1), .box (.tmp 0) 2, none⟩,
    ⟨(some 2), .mov (.cst (.str [])), none⟩,
    ⟨(some 3), .mov (.cst (.int .i64 0)), none⟩] [])
  (.seq (.seq (.region false [⟨(some 13), .load (.tmp 1) 2 true, none⟩,
    ⟨(some 14), .callq 21 [.tmp 13], none⟩,
    ⟨(some 4), .own 14, none⟩] [])
  (.seq (.region false [⟨(some 15), .mov (.tmp 4), none⟩,
    ⟨(some 16), .bin .neq (.tmp 15) (.cst (.int .i64 0)), none⟩] [])
  (.cond (.tmp 16) (.seq (.region false [⟨(some 17), .mov (.tmp 4), none⟩,
    ⟨(some 2), .mov (.cst (.str [])), none⟩,
    ⟨(some 3), .own 17, none⟩] [])
  .ret) .skip)))
  (.seq (.seq (.region false [⟨(some 18), .faddr (.tmp 1) 0, none⟩,
    ⟨(some 19), .load (.tmp 18) 1 false, none⟩,
    ⟨(some 20), .callw 22 [.tmp 19, .cst (.fn 23 [] [])], none⟩] [])
  (.cond (.tmp 20) (.seq (.region false [⟨(some 2), .mov (.cst (.str [])), none⟩,
    ⟨(some 3), .mov (.cst (.int .i64 30)), none⟩] [])
  .ret) .skip))
  (.seq (.region false [⟨(some 5), .allocb 56 5, none⟩] [])
  (.seq (.region false [⟨(some 21), .faddr (.tmp 1) 0, none⟩,
    ⟨(some 22), .load (.tmp 21) 1 false, none⟩,
    ⟨(some 23), .callw 25 [.tmp 5, .cst (.str [40]), .cst (.str [41]), .tmp 22], none⟩] [])
  (.seq (.seq (.region false [⟨(some 24), .faddr (.tmp 1) 1, none⟩,
    ⟨(some 25), .load (.tmp 24) 1 false, none⟩,
    ⟨(some 26), .lens false (.tmp 25), none⟩,
    ⟨(some 27), .mov (.cst (.int .i64 0)), none⟩] [])
  (.block 0 (.loop x9_l1)))
  (.seq (.region false [⟨(some 50), .callw 27 [.tmp 5], none⟩,
    ⟨(some 2), .own 50, none⟩,
    ⟨(some 3), .mov (.cst (.int .i64 0)), none⟩] [])
  .ret)))))))
/-- custos/say.Verdict -/
def x11 : XFn := XFn.mk 44 [.tmp 2, .tmp 3] (.seq (.region false [⟨(some 1), .box (.tmp 0) 4, none⟩,
    ⟨(some 2), .mov (.cst (.str [])), none⟩,
    ⟨(some 3), .mov (.cst (.int .i64 0)), none⟩] [])
  (.seq (.seq (.region false [⟨(some 6), .faddr (.tmp 1) 0, none⟩,
    ⟨(some 7), .load (.tmp 6) 1 false, none⟩,
    ⟨(some 8), .bin .lss (.tmp 7) (.cst (.int .i64 0)), none⟩,
    ⟨(some 9), .mov (.tmp 8), none⟩,
    ⟨(some 10), .faddr (.tmp 1) 0, (some (9, false))⟩,
    ⟨(some 11), .load (.tmp 10) 1 false, (some (9, false))⟩,
    ⟨(some 12), .bin .geq (.tmp 11) (.cst (.int .i64 4096)), (some (9, false))⟩,
    ⟨(some 13), .pick (.tmp 9) (.cst (.bool true)) (.tmp 12), none⟩,
    ⟨(some 14), .mov (.tmp 13), none⟩,
    ⟨(some 15), .faddr (.tmp 1) 1, (some (14, false))⟩,
    ⟨(some 16), .load (.tmp 15) 1 false, (some (14, false))⟩,
    ⟨(some 17), .bin .lss (.tmp 16) (.cst (.int .i64 0)), (some (14, false))⟩,
    ⟨(some 18), .pick (.tmp 14) (.cst (.bool true)) (.tmp 17), none⟩,
    ⟨(some 19), .mov (.tmp 18), none⟩,
    ⟨(some 20), .faddr (.tmp 1) 1, (some (19, false))⟩,
    ⟨(some 21), .load (.tmp 20) 1 false, (some (19, false))⟩,
    ⟨(some 22), .bin .gtr (.tmp 21) (.cst (.int .i64 1099511627776)), (some (19, false))⟩,
    ⟨(some 23), .pick (.tmp 19) (.cst (.bool true)) (.tmp 22), none⟩] [])
  (.cond (.tmp 23) (.seq (.region false [⟨(some 2), .mov (.cst (.str [])), none⟩,
    ⟨(some 3), .mov (.cst (.int .i64 1)), none⟩] [])
  .ret) .skip))
  (.seq (.region false [⟨(some 25), .faddr (.tmp 1) 2, none⟩,
    ⟨(some 26), .load (.tmp 25) 2 true, none⟩,
    ⟨(some 27), .callq 9 [.tmp 26], none⟩,
    ⟨(some 24), .mov (.tmp 27), none⟩,
    ⟨(some 28), .ext 24 0, none⟩,
    ⟨(some 29), .ext 24 1, none⟩,
    ⟨(some 4), .own 28, none⟩,
    ⟨(some 5), .own 29, none⟩] [])
  (.seq (.seq (.region false [⟨(some 30), .mov (.tmp 5), none⟩,
    ⟨(some 31), .bin .neq (.tmp 30) (.cst (.int .i64 0)), none⟩] [])
  (.cond (.tmp 31) (.seq (.region false [⟨(some 32), .mov (.tmp 5), none⟩,
    ⟨(some 2), .mov (.cst (.str [])), none⟩,
    ⟨(some 3), .own 32, none⟩] [])
  .ret) .skip))
  (.seq (.region true [⟨(some 33), .faddr (.tmp 1) 0, none⟩,
    ⟨(some 34), .load (.tmp 33) 1 false, none⟩,
    ⟨(some 35), .prim 9 31 [.tmp 34], none⟩,
    ⟨(some 36), .bin .add (.tmp 35) (.cst (.str [32, 64])), none⟩,
    ⟨(some 37), .faddr (.tmp 1) 1, none⟩,
    ⟨(some 38), .load (.tmp 37) 1 false, none⟩,
    ⟨(some 39), .prim 5 32 [.tmp 38, .cst (.int .i64 10)], none⟩,
    ⟨(some 40), .bin .add (.tmp 36) (.tmp 39), none⟩,
    ⟨(some 41), .bin .add (.tmp 40) (.cst (.str [32])), none⟩,
    ⟨(some 42), .mov (.tmp 4), none⟩,
    ⟨(some 43), .bin .add (.tmp 41) (.tmp 42), none⟩,
    ⟨(some 2), .own 43, none⟩,
    ⟨(some 3), .mov (.cst (.int .i64 0)), none⟩] [])
  .ret)))))
def x13_r0 : XCode := .seq (.region false [⟨(some 15), .bin .lss (.tmp 14) (.tmp 13), none⟩] [])
  (.seq (.cond (.tmp 15) .skip (.exit 0))
  (.seq (.block 1 (.seq (.region false [⟨(some 16), .iaddr 4 (.tmp 12) (.tmp 14), none⟩,
    ⟨(some 17), .load (.tmp 16) 4 true, none⟩,
    ⟨(some 6), .alloc [.nilsl, .int .i64 0, .nilsl, .nilsl], none⟩,
    ⟨none, .store (.tmp 6) (.tmp 17) 4, none⟩] [])
  (.seq (.region false [⟨(some 19), .load (.tmp 6) 4 true, none⟩,
    ⟨(some 20), .callq 34 [.tmp 19], none⟩,
    ⟨(some 18), .mov (.tmp 20), none⟩,
    ⟨(some 21), .ext 18 0, none⟩,
    ⟨(some 22), .ext 18 1, none⟩,
    ⟨(some 7), .own 21, none⟩,
    ⟨(some 8), .own 22, none⟩] [])
  (.seq (.seq (.region false [⟨(some 23), .mov (.tmp 8), none⟩,
    ⟨(some 24), .bin .neq (.tmp 23) (.cst (.int .i64 0)), none⟩] [])
  (.cond (.tmp 24) (.seq (.region false [⟨(some 25), .mov (.tmp 8), none⟩,
    ⟨(some 2), .mov (.cst (.str [])), none⟩,
    ⟨(some 3), .own 25, none⟩] [])
  .ret) .skip))
  (.region false [⟨(some 26), .mov (.tmp 7), none⟩,
    ⟨(some 27), .callw 35 [.tmp 4, .tmp 26], none⟩] [])))))
  (.region false [⟨(some 28), .bin .add (.tmp 14) (.cst (.int .i64 1)), none⟩,
    ⟨(some 14), .mov (.tmp 28), none⟩] [])))
def x13_l0 : XCode := x13_r0
/-- custos/say.Sheets -/
def x13 : XFn := XFn.mk 30 [.tmp 2, .tmp 3] (.seq (.region false [⟨(some 2), .mov (.cst (.str [])), none⟩,
    ⟨(some 3), .mov (.cst (.int .i64 0)), none⟩] [])
  (.seq (.seq (.region false [⟨(some 9), .mov (.tmp 0), none⟩,
    ⟨(some 10), .lens false (.tmp 9), none⟩,
    ⟨(some 11), .bin .gtr (.tmp 10) (.cst (.int .i64 4096)), none⟩] [])
  (.cond (.tmp 11) (.seq (.region false [⟨(some 2), .mov (.cst (.str [])), none⟩,
    ⟨(some 3), .mov (.cst (.int .i64 3)), none⟩] [])
  .ret) .skip))
  (.seq (.region false [⟨(some 4), .allocb 56 5, none⟩] [])
  (.seq (.seq (.region false [⟨(some 12), .mov (.tmp 0), none⟩,
    ⟨(some 13), .lens false (.tmp 12), none⟩,
    ⟨(some 14), .mov (.cst (.int .i64 0)), none⟩] [])
  (.block 0 (.loop x13_l0)))
  (.seq (.region false [⟨(some 29), .callw 27 [.tmp 4], none⟩,
    ⟨(some 2), .own 29, none⟩,
    ⟨(some 3), .mov (.cst (.int .i64 0)), none⟩] [])
  .ret)))))
/-- custos/say.ParseTable -/
def x15 : XFn := XFn.mk 31 [.cell 2 2 true, .tmp 3] (.seq (.region false [⟨(some 2), .alloc [.nilsl, .nilsl], none⟩,
    ⟨(some 3), .mov (.cst (.int .i64 0)), none⟩] [])
  (.seq (.region false [⟨(some 9), .mov (.tmp 0), none⟩,
    ⟨(some 10), .callq 37 [.tmp 9], none⟩,
    ⟨(some 8), .mov (.tmp 10), none⟩,
    ⟨(some 11), .ext 8 0, none⟩,
    ⟨(some 12), .ext 8 1, none⟩,
    ⟨(some 4), .alloc [.nilsl, .nilsl], none⟩,
    ⟨none, .store (.tmp 4) (.tmp 11) 2, none⟩,
    ⟨(some 5), .own 12, none⟩] [])
  (.seq (.seq (.region false [⟨(some 14), .load (.tmp 4) 2 true, none⟩,
    ⟨(some 15), .callq 9 [.tmp 14], none⟩,
    ⟨(some 13), .mov (.tmp 15), none⟩,
    ⟨(some 16), .ext 13 0, none⟩,
    ⟨(some 17), .ext 13 1, none⟩,
    ⟨(some 6), .own 16, none⟩,
    ⟨(some 7), .own 17, none⟩] [])
  (.seq (.region false [⟨(some 18), .mov (.tmp 5), none⟩,
    ⟨(some 19), .not (.tmp 18), none⟩,
    ⟨(some 20), .mov (.tmp 19), none⟩,
    ⟨(some 21), .mov (.tmp 7), (some (20, false))⟩,
    ⟨(some 22), .bin .neq (.tmp 21) (.cst (.int .i64 0)), (some (20, false))⟩,
    ⟨(some 23), .pick (.tmp 20) (.cst (.bool true)) (.tmp 22), none⟩,
    ⟨(some 24), .mov (.tmp 23), none⟩,
    ⟨(some 25), .mov (.tmp 6), (some (24, false))⟩,
    ⟨(some 26), .mov (.tmp 0), (some (24, false))⟩,
    ⟨(some 27), .bin .neq (.tmp 25) (.tmp 26), (some (24, false))⟩,
    ⟨(some 28), .pick (.tmp 24) (.cst (.bool true)) (.tmp 27), none⟩] [])
  (.cond (.tmp 28) (.seq (.region false [⟨(some 29), .build [.nilsl, .nilsl] [], none⟩,
    ⟨none, .store (.tmp 2) (.tmp 29) 2, none⟩,
    ⟨(some 3), .mov (.cst (.int .i64 70)), none⟩] [])
  .ret) .skip)))
  (.seq (.region false [⟨(some 30), .load (.tmp 4) 2 true, none⟩,
    ⟨none, .store (.tmp 2) (.tmp 30) 2, none⟩,
    ⟨(some 3), .mov (.cst (.int .i64 0)), none⟩] [])
  .ret))))
def x17_r0 : XCode := .seq (.seq (.region false [⟨(some 15), .mov (.tmp 0), none⟩,
    ⟨(some 16), .bin .neq (.tmp 15) (.cst (.str [])), none⟩] [])
  (.cond (.tmp 16) .skip (.exit 0)))
  (.seq (.block 1 (.seq (.region false [⟨(some 20), .mov (.tmp 0), none⟩,
    ⟨(some 21), .callq 41 [.tmp 20, .cst (.str [10])], none⟩,
    ⟨(some 19), .mov (.tmp 21), none⟩,
    ⟨(some 22), .ext 19 0, none⟩,
    ⟨(some 23), .ext 19 1, none⟩,
    ⟨(some 24), .ext 19 2, none⟩,
    ⟨(some 7), .own 22, none⟩,
    ⟨(some 8), .own 23, none⟩,
    ⟨(some 9), .own 24, none⟩] [])
  (.seq (.region false [⟨(some 26), .mov (.tmp 7), none⟩,
    ⟨(some 27), .callq 42 [.tmp 26], none⟩,
    ⟨(some 25), .mov (.tmp 27), none⟩,
    ⟨(some 28), .ext 25 0, none⟩,
    ⟨(some 29), .ext 25 1, none⟩,
    ⟨(some 10), .alloc [.nilsl, .int .i64 0, .nilsl, .nilsl], none⟩,
    ⟨none, .store (.tmp 10) (.tmp 28) 4, none⟩,
    ⟨(some 11), .own 29, none⟩] [])
  (.seq (.seq (.region false [⟨(some 30), .mov (.tmp 11), none⟩,
    ⟨(some 31), .not (.tmp 30), none⟩,
    ⟨(some 32), .mov (.tmp 31), none⟩,
    ⟨(some 33), .mov (.tmp 9), (some (32, false))⟩,
    ⟨(some 34), .not (.tmp 33), (some (32, false))⟩,
    ⟨(some 35), .pick (.tmp 32) (.cst (.bool true)) (.tmp 34), none⟩] [])
  (.cond (.tmp 35) (.seq (.region false [⟨(some 36), .mov (.tmp 6), none⟩,
    ⟨(some 2), .mov (.cst .nilsl), none⟩,
    ⟨(some 3), .mov (.cst (.int .i64 70)), none⟩,
    ⟨(some 4), .own 36, none⟩] [])
  .ret) .skip))
  (.seq (.region false [⟨(some 37), .own 5, none⟩,
    ⟨(some 38), .load (.tmp 10) 4 true, none⟩,
    ⟨(some 39), .bslice 4 [.nilsl, .int .i64 0, .nilsl, .nilsl] [(0, 4, .tmp 38)], none⟩,
    ⟨(some 40), .app false 4 80 37 (.tmp 39), none⟩,
    ⟨(some 5), .own 40, none⟩] [])
  (.region false [⟨(some 41), .mov (.tmp 8), none⟩,
    ⟨(some 0), .own 41, none⟩] []))))))
  (.region false [⟨(some 17), .mov (.tmp 6), none⟩,
    ⟨(some 18), .bin .add (.tmp 17) (.cst (.int .i64 1)), none⟩,
    ⟨(some 6), .own 18, none⟩] []))
def x17_l0 : XCode := x17_r0
/-- custos/say.ParseSheets -/
def x17 : XFn := XFn.mk 43 [.tmp 2, .tmp 3, .tmp 4] (.seq (.region false [⟨(some 2), .mov (.cst .nilsl), none⟩,
    ⟨(some 3), .mov (.cst (.int .i64 0)), none⟩,
    ⟨(some 4), .mov (.cst (.int .i64 0)), none⟩] [])
  (.seq (.seq (.region false [⟨(some 12), .mov (.tmp 0), none⟩,
    ⟨(some 13), .prim 10 40 [.tmp 12, .cst (.str [10])], none⟩,
    ⟨(some 14), .bin .gtr (.tmp 13) (.cst (.int .i64 4096)), none⟩] [])
  (.cond (.tmp 14) (.seq (.region false [⟨(some 2), .mov (.cst .nilsl), none⟩,
    ⟨(some 3), .mov (.cst (.int .i64 3)), none⟩,
    ⟨(some 4), .mov (.cst (.int .i64 0)), none⟩] [])
  .ret) .skip))
  (.seq (.region false [⟨(some 5), .mov (.cst .nilsl), none⟩] [])
  (.seq (.seq (.region false [⟨(some 6), .mov (.cst (.int .i64 1)), none⟩] [])
  (.block 0 (.loop x17_l0)))
  (.seq (.region false [⟨(some 42), .mov (.tmp 5), none⟩,
    ⟨(some 2), .own 42, none⟩,
    ⟨(some 3), .mov (.cst (.int .i64 0)), none⟩,
    ⟨(some 4), .mov (.cst (.int .i64 0)), none⟩] [])
  .ret)))))
def x19_r0 : XCode := .seq (.seq (.region false [⟨(some 24), .mov (.tmp 6), none⟩,
    ⟨(some 25), .faddr (.tmp 2) 1, none⟩,
    ⟨(some 26), .load (.tmp 25) 1 false, none⟩,
    ⟨(some 27), .lens false (.tmp 26), none⟩,
    ⟨(some 28), .bin .lss (.tmp 24) (.tmp 27), none⟩] [])
  (.cond (.tmp 28) .skip (.exit 0)))
  (.seq (.block 1 (.seq (.region true [⟨(some 31), .faddr (.tmp 2) 1, none⟩,
    ⟨(some 32), .load (.tmp 31) 1 false, none⟩,
    ⟨(some 33), .mov (.tmp 6), none⟩,
    ⟨(some 34), .iaddr 1 (.tmp 32) (.tmp 33), none⟩,
    ⟨(some 35), .load (.tmp 34) 1 false, none⟩,
    ⟨(some 36), .faddr (.tmp 3) 1, none⟩,
    ⟨(some 37), .load (.tmp 36) 1 false, none⟩,
    ⟨(some 38), .mov (.tmp 6), none⟩,
    ⟨(some 39), .iaddr 1 (.tmp 37) (.tmp 38), none⟩,
    ⟨(some 40), .load (.tmp 39) 1 false, none⟩,
    ⟨(some 41), .callq 45 [.tmp 35, .tmp 40], none⟩,
    ⟨(some 7), .own 41, none⟩] [])
  (.seq (.region false [⟨(some 42), .mov (.tmp 7), none⟩,
    ⟨(some 43), .not (.tmp 42), none⟩] [])
  (.cond (.tmp 43) (.seq (.region false [⟨(some 4), .mov (.cst (.bool false)), none⟩] [])
  .ret) .skip))))
  (.region false [⟨(some 29), .mov (.tmp 6), none⟩,
    ⟨(some 30), .bin .add (.tmp 29) (.cst (.int .i64 1)), none⟩,
    ⟨(some 6), .own 30, none⟩] []))
def x19_l0 : XCode := x19_r0
/-- custos/custosref03.Same -/
def x19 : XFn := XFn.mk 44 [.tmp 4] (.seq (.region false [⟨(some 2), .box (.tmp 0) 2, none⟩,
    ⟨(some 3), .box (.tmp 1) 2, none⟩,
    ⟨(some 4), .mov (.cst (.bool false)), none⟩] [])
  (.seq (.region false [⟨(some 8), .faddr (.tmp 2) 0, none⟩,
    ⟨(some 9), .load (.tmp 8) 1 false, none⟩,
    ⟨(some 10), .faddr (.tmp 3) 0, none⟩,
    ⟨(some 11), .load (.tmp 10) 1 false, none⟩,
    ⟨(some 12), .callq 44 [.tmp 9, .tmp 11], none⟩,
    ⟨(some 5), .own 12, none⟩] [])
  (.seq (.seq (.region false [⟨(some 13), .mov (.tmp 5), none⟩,
    ⟨(some 14), .not (.tmp 13), none⟩,
    ⟨(some 15), .mov (.tmp 14), none⟩,
    ⟨(some 16), .faddr (.tmp 2) 1, (some (15, false))⟩,
    ⟨(some 17), .load (.tmp 16) 1 false, (some (15, false))⟩,
    ⟨(some 18), .lens false (.tmp 17), (some (15, false))⟩,
    ⟨(some 19), .faddr (.tmp 3) 1, (some (15, false))⟩,
    ⟨(some 20), .load (.tmp 19) 1 false, (some (15, false))⟩,
    ⟨(some 21), .lens false (.tmp 20), (some (15, false))⟩,
    ⟨(some 22), .bin .neq (.tmp 18) (.tmp 21), (some (15, false))⟩,
    ⟨(some 23), .pick (.tmp 15) (.cst (.bool true)) (.tmp 22), none⟩] [])
  (.cond (.tmp 23) (.seq (.region false [⟨(some 4), .mov (.cst (.bool false)), none⟩] [])
  .ret) .skip))
  (.seq (.seq (.region false [⟨(some 6), .mov (.cst (.int .i64 0)), none⟩] [])
  (.block 0 (.loop x19_l0)))
  (.seq (.region false [⟨(some 4), .mov (.cst (.bool true)), none⟩] [])
  .ret)))))
def x20_r0 : XCode := .seq (.region false [⟨(some 64), .bin .lss (.tmp 63) (.tmp 62), none⟩] [])
  (.seq (.cond (.tmp 64) .skip (.exit 2))
  (.seq (.block 3 (.seq (.region false [⟨(some 65), .mov (.tmp 63), none⟩,
    ⟨(some 6), .own 65, none⟩] [])
  (.seq (.region true [⟨(some 66), .mov (.tmp 0), none⟩,
    ⟨(some 67), .mov (.tmp 5), none⟩,
    ⟨(some 68), .iaddr 4 (.tmp 66) (.tmp 67), none⟩,
    ⟨(some 69), .faddr (.tmp 68) 0, none⟩,
    ⟨(some 70), .load (.tmp 69) 1 false, none⟩,
    ⟨(some 71), .mov (.tmp 6), none⟩,
    ⟨(some 72), .iaddr 1 (.tmp 70) (.tmp 71), none⟩,
    ⟨(some 73), .load (.tmp 72) 1 false, none⟩,
    ⟨(some 74), .mov (.tmp 1), none⟩,
    ⟨(some 75), .mov (.tmp 5), none⟩,
    ⟨(some 76), .iaddr 4 (.tmp 74) (.tmp 75), none⟩,
    ⟨(some 77), .faddr (.tmp 76) 0, none⟩,
    ⟨(some 78), .load (.tmp 77) 1 false, none⟩,
    ⟨(some 79), .mov (.tmp 6), none⟩,
    ⟨(some 80), .iaddr 1 (.tmp 78) (.tmp 79), none⟩,
    ⟨(some 81), .load (.tmp 80) 1 false, none⟩,
    ⟨(some 82), .bin .neq (.tmp 73) (.tmp 81), none⟩] [])
  (.cond (.tmp 82) (.seq (.region false [⟨(some 4), .mov (.cst (.bool false)), none⟩] [])
  .ret) .skip))))
  (.region false [⟨(some 83), .bin .add (.tmp 63) (.cst (.int .i64 1)), none⟩,
    ⟨(some 63), .mov (.tmp 83), none⟩] [])))
def x20_l0 : XCode := x20_r0
def x20_r1 : XCode := .seq (.region false [⟨(some 15), .bin .lss (.tmp 14) (.tmp 13), none⟩] [])
  (.seq (.cond (.tmp 15) .skip (.exit 0))
  (.seq (.block 1 (.seq (.region false [⟨(some 16), .mov (.tmp 14), none⟩,
    ⟨(some 5), .own 16, none⟩] [])
  (.seq (.seq (.region true [⟨(some 17), .mov (.tmp 0), none⟩,
    ⟨(some 18), .mov (.tmp 5), none⟩,
    ⟨(some 19), .iaddr 4 (.tmp 17) (.tmp 18), none⟩,
    ⟨(some 20), .faddr (.tmp 19) 1, none⟩,
    ⟨(some 21), .load (.tmp 20) 1 false, none⟩,
    ⟨(some 22), .mov (.tmp 1), none⟩,
    ⟨(some 23), .mov (.tmp 5), none⟩,
    ⟨(some 24), .iaddr 4 (.tmp 22) (.tmp 23), none⟩,
    ⟨(some 25), .faddr (.tmp 24) 1, none⟩,
    ⟨(some 26), .load (.tmp 25) 1 false, none⟩,
    ⟨(some 27), .bin .neq (.tmp 21) (.tmp 26), none⟩,
    ⟨(some 28), .mov (.tmp 27), none⟩,
    ⟨(some 29), .mov (.tmp 0), (some (28, false))⟩,
    ⟨(some 30), .mov (.tmp 5), (some (28, false))⟩,
    ⟨(some 31), .iaddr 4 (.tmp 29) (.tmp 30), (some (28, false))⟩,
    ⟨(some 32), .faddr (.tmp 31) 0, (some (28, false))⟩,
    ⟨(some 33), .load (.tmp 32) 1 false, (some (28, false))⟩,
    ⟨(some 34), .lens false (.tmp 33), (some (28, false))⟩,
    ⟨(some 35), .mov (.tmp 1), (some (28, false))⟩,
    ⟨(some 36), .mov (.tmp 5), (some (28, false))⟩,
    ⟨(some 37), .iaddr 4 (.tmp 35) (.tmp 36), (some (28, false))⟩,
    ⟨(some 38), .faddr (.tmp 37) 0, (some (28, false))⟩,
    ⟨(some 39), .load (.tmp 38) 1 false, (some (28, false))⟩,
    ⟨(some 40), .lens false (.tmp 39), (some (28, false))⟩,
    ⟨(some 41), .bin .neq (.tmp 34) (.tmp 40), (some (28, false))⟩,
    ⟨(some 42), .pick (.tmp 28) (.cst (.bool true)) (.tmp 41), none⟩,
    ⟨(some 43), .mov (.tmp 42), none⟩,
    ⟨(some 44), .mov (.tmp 0), (some (43, false))⟩,
    ⟨(some 45), .mov (.tmp 5), (some (43, false))⟩,
    ⟨(some 46), .iaddr 4 (.tmp 44) (.tmp 45), (some (43, false))⟩,
    ⟨(some 47), .faddr (.tmp 46) 2, (some (43, false))⟩,
    ⟨(some 48), .load (.tmp 47) 2 true, (some (43, false))⟩,
    ⟨(some 49), .mov (.tmp 1), (some (43, false))⟩,
    ⟨(some 50), .mov (.tmp 5), (some (43, false))⟩,
    ⟨(some 51), .iaddr 4 (.tmp 49) (.tmp 50), (some (43, false))⟩,
    ⟨(some 52), .faddr (.tmp 51) 2, (some (43, false))⟩,
    ⟨(some 53), .load (.tmp 52) 2 true, (some (43, false))⟩,
    ⟨(some 54), .callq 19 [.tmp 48, .tmp 53], (some (43, false))⟩,
    ⟨(some 55), .not (.tmp 54), (some (43, false))⟩,
    ⟨(some 56), .pick (.tmp 43) (.cst (.bool true)) (.tmp 55), none⟩] [])
  (.cond (.tmp 56) (.seq (.region false [⟨(some 4), .mov (.cst (.bool false)), none⟩] [])
  .ret) .skip))
  (.seq (.region false [⟨(some 57), .mov (.tmp 0), none⟩,
    ⟨(some 58), .mov (.tmp 5), none⟩,
    ⟨(some 59), .iaddr 4 (.tmp 57) (.tmp 58), none⟩,
    ⟨(some 60), .faddr (.tmp 59) 0, none⟩,
    ⟨(some 61), .load (.tmp 60) 1 false, none⟩,
    ⟨(some 62), .lens false (.tmp 61), none⟩,
    ⟨(some 63), .mov (.cst (.int .i64 0)), none⟩] [])
  (.block 2 (.loop x20_l0))))))
  (.region false [⟨(some 84), .bin .add (.tmp 14) (.cst (.int .i64 1)), none⟩,
    ⟨(some 14), .mov (.tmp 84), none⟩] [])))
def x20_l1 : XCode := x20_r1
/-- custos/custosref19.Same -/
def x20 : XFn := XFn.mk 85 [.tmp 4] (.seq (.region false [⟨(some 4), .mov (.cst (.bool false)), none⟩] [])
  (.seq (.seq (.region false [⟨(some 7), .mov (.tmp 0), none⟩,
    ⟨(some 8), .lens false (.tmp 7), none⟩,
    ⟨(some 9), .mov (.tmp 1), none⟩,
    ⟨(some 10), .lens false (.tmp 9), none⟩,
    ⟨(some 11), .bin .neq (.tmp 8) (.tmp 10), none⟩] [])
  (.cond (.tmp 11) (.seq (.region false [⟨(some 4), .mov (.cst (.bool false)), none⟩] [])
  .ret) .skip))
  (.seq (.seq (.region false [⟨(some 12), .mov (.tmp 0), none⟩,
    ⟨(some 13), .lens false (.tmp 12), none⟩,
    ⟨(some 14), .mov (.cst (.int .i64 0)), none⟩] [])
  (.block 0 (.loop x20_l1)))
  (.seq (.region false [⟨(some 4), .mov (.cst (.bool true)), none⟩] [])
  .ret))))
def x21_r0 : XCode := .seq (.region false [⟨(some 20), .bin .lss (.tmp 19) (.tmp 18), none⟩] [])
  (.seq (.cond (.tmp 20) .skip (.exit 0))
  (.seq (.block 1 (.seq (.region false [⟨(some 21), .mov (.tmp 19), none⟩,
    ⟨(some 22), .iaddr 1 (.tmp 17) (.tmp 19), none⟩,
    ⟨(some 23), .load (.tmp 22) 1 false, none⟩,
    ⟨(some 3), .own 21, none⟩,
    ⟨(some 4), .own 23, none⟩] [])
  (.seq (.seq (.region false [⟨(some 24), .faddr (.tmp 1) 0, none⟩,
    ⟨(some 25), .load (.tmp 24) 1 false, none⟩,
    ⟨(some 26), .lens false (.tmp 25), none⟩,
    ⟨(some 27), .mov (.tmp 4), none⟩,
    ⟨(some 28), .callq 47 [.tmp 26, .tmp 27], none⟩,
    ⟨(some 5), .own 28, none⟩] [])
  (.seq (.region false [⟨(some 29), .mov (.tmp 5), none⟩,
    ⟨(some 30), .bin .neq (.tmp 29) (.cst (.int .i64 0)), none⟩] [])
  (.cond (.tmp 30) (.seq (.region false [⟨(some 31), .mov (.tmp 5), none⟩,
    ⟨(some 2), .own 31, none⟩] [])
  .ret) .skip)))
  (.seq (.region false [⟨(some 32), .mov (.tmp 3), none⟩,
    ⟨(some 33), .bin .gtr (.tmp 32) (.cst (.int .i64 0)), none⟩,
    ⟨(some 34), .mov (.tmp 33), none⟩,
    ⟨(some 35), .faddr (.tmp 1) 1, (some (34, true))⟩,
    ⟨(some 36), .load (.tmp 35) 1 false, (some (34, true))⟩,
    ⟨(some 37), .mov (.tmp 3), (some (34, true))⟩,
    ⟨(some 38), .bin .sub (.tmp 37) (.cst (.int .i64 1)), (some (34, true))⟩,
    ⟨(some 39), .iaddr 1 (.tmp 36) (.tmp 38), (some (34, true))⟩,
    ⟨(some 40), .load (.tmp 39) 1 false, (some (34, true))⟩,
    ⟨(some 41), .mov (.tmp 4), (some (34, true))⟩,
    ⟨(some 42), .callq 48 [.tmp 40, .tmp 41], (some (34, true))⟩,
    ⟨(some 43), .bin .geq (.tmp 42) (.cst (.int .i64 0)), (some (34, true))⟩,
    ⟨(some 44), .pick (.tmp 34) (.tmp 43) (.cst (.bool false)), none⟩] [])
  (.cond (.tmp 44) (.seq (.region false [⟨(some 2), .mov (.cst (.int .i64 1)), none⟩] [])
  .ret) .skip)))))
  (.region false [⟨(some 45), .bin .add (.tmp 19) (.cst (.int .i64 1)), none⟩,
    ⟨(some 19), .mov (.tmp 45), none⟩] [])))
def x21_l0 : XCode := x21_r0
/-- custos/table.Check -/
def x21 : XFn := XFn.mk 46 [.tmp 2] (.seq (.region false [⟨(some 1), .box (.tmp 0) 2, none⟩,
    ⟨(some 2), .mov (.cst (.int .i64 0)), none⟩] [])
  (.seq (.seq (.region false [⟨(some 6), .faddr (.tmp 1) 0, none⟩,
    ⟨(some 7), .load (.tmp 6) 1 false, none⟩,
    ⟨(some 8), .lens false (.tmp 7), none⟩,
    ⟨(some 9), .bin .gtr (.tmp 8) (.cst (.int .i64 8)), none⟩,
    ⟨(some 10), .mov (.tmp 9), none⟩,
    ⟨(some 11), .faddr (.tmp 1) 0, (some (10, false))⟩,
    ⟨(some 12), .load (.tmp 11) 1 false, (some (10, false))⟩,
    ⟨(some 13), .callq 46 [.tmp 12], (some (10, false))⟩,
    ⟨(some 14), .not (.tmp 13), (some (10, false))⟩,
    ⟨(some 15), .pick (.tmp 10) (.cst (.bool true)) (.tmp 14), none⟩] [])
  (.cond (.tmp 15) (.seq (.region false [⟨(some 2), .mov (.cst (.int .i64 30)), none⟩] [])
  .ret) .skip))
  (.seq (.seq (.region false [⟨(some 16), .faddr (.tmp 1) 1, none⟩,
    ⟨(some 17), .load (.tmp 16) 1 false, none⟩,
    ⟨(some 18), .lens false (.tmp 17), none⟩,
    ⟨(some 19), .mov (.cst (.int .i64 0)), none⟩] [])
  (.block 0 (.loop x21_l0)))
  (.seq (.region false [⟨(some 2), .mov (.cst (.int .i64 0)), none⟩] [])
  .ret))))
/-- slices.ContainsFunc[[]string,string] -/
def x22 : XFn := XFn.mk 9 [.tmp 4] (.seq (.region false [⟨(some 4), .mov (.cst (.bool false)), none⟩] [])
  (.seq (.region false [⟨(some 5), .mov (.tmp 0), none⟩,
    ⟨(some 6), .mov (.tmp 1), none⟩,
    ⟨(some 7), .callw 49 [.tmp 5, .tmp 6], none⟩,
    ⟨(some 8), .bin .geq (.tmp 7) (.cst (.int .i64 0)), none⟩,
    ⟨(some 4), .own 8, none⟩] [])
  .ret))
/-- custos/say.Table$1 -/
def x23 : XFn := XFn.mk 6 [.tmp 2] (.seq (.region false [⟨(some 2), .mov (.cst (.bool false)), none⟩] [])
  (.seq (.region false [⟨(some 3), .mov (.tmp 0), none⟩,
    ⟨(some 4), .callq 24 [.tmp 3], none⟩,
    ⟨(some 5), .not (.tmp 4), none⟩,
    ⟨(some 2), .own 5, none⟩] [])
  .ret))
def x24_r0 : XCode := .seq (.region false [⟨(some 19), .nexts (.tmp 18), none⟩,
    ⟨(some 20), .ext 19 0, none⟩] [])
  (.seq (.cond (.tmp 20) .skip (.exit 0))
  (.block 1 (.seq (.region false [⟨(some 21), .ext 19 1, none⟩,
    ⟨(some 22), .ext 19 2, none⟩,
    ⟨(some 3), .own 21, none⟩,
    ⟨(some 4), .own 22, none⟩] [])
  (.seq (.region false [⟨(some 23), .mov (.tmp 4), none⟩,
    ⟨(some 24), .bin .geq (.tmp 23) (.cst (.int .i32 97)), none⟩,
    ⟨(some 25), .mov (.tmp 24), none⟩,
    ⟨(some 26), .mov (.tmp 4), (some (25, true))⟩,
    ⟨(some 27), .bin .leq (.tmp 26) (.cst (.int .i32 122)), (some (25, true))⟩,
    ⟨(some 28), .pick (.tmp 25) (.tmp 27) (.cst (.bool false)), none⟩,
    ⟨(some 5), .own 28, none⟩] [])
  (.seq (.region false [⟨(some 29), .mov (.tmp 5), none⟩,
    ⟨(some 30), .not (.tmp 29), none⟩,
    ⟨(some 31), .mov (.tmp 30), none⟩,
    ⟨(some 32), .mov (.tmp 3), (some (31, true))⟩,
    ⟨(some 33), .bin .eql (.tmp 32) (.cst (.int .i64 0)), (some (31, true))⟩,
    ⟨(some 34), .mov (.tmp 33), (some (31, true))⟩,
    ⟨(some 35), .mov (.tmp 4), (some (34, false))⟩,
    ⟨(some 36), .bin .neq (.tmp 35) (.cst (.int .i32 95)), (some (34, false))⟩,
    ⟨(some 37), .mov (.tmp 36), (some (34, false))⟩,
    ⟨(some 38), .mov (.tmp 4), (some (37, true))⟩,
    ⟨(some 39), .bin .lss (.tmp 38) (.cst (.int .i32 48)), (some (37, true))⟩,
    ⟨(some 40), .mov (.tmp 39), (some (37, true))⟩,
    ⟨(some 41), .mov (.tmp 4), (some (40, false))⟩,
    ⟨(some 42), .bin .gtr (.tmp 41) (.cst (.int .i32 57)), (some (40, false))⟩,
    ⟨(some 43), .pick (.tmp 40) (.cst (.bool true)) (.tmp 42), (some (37, true))⟩,
    ⟨(some 44), .pick (.tmp 37) (.tmp 43) (.cst (.bool false)), (some (34, false))⟩,
    ⟨(some 45), .pick (.tmp 34) (.cst (.bool true)) (.tmp 44), (some (31, true))⟩,
    ⟨(some 46), .pick (.tmp 31) (.tmp 45) (.cst (.bool false)), none⟩] [])
  (.cond (.tmp 46) (.seq (.region false [⟨(some 2), .mov (.cst (.bool false)), none⟩] [])
  .ret) .skip))))))
def x24_l0 : XCode := x24_r0
/-- custos/ast.Name -/
def x24 : XFn := XFn.mk 47 [.tmp 2] (.seq (.region false [⟨(some 2), .mov (.cst (.bool false)), none⟩] [])
  (.seq (.seq (.region false [⟨(some 6), .mov (.tmp 0), none⟩,
    ⟨(some 7), .bin .eql (.tmp 6) (.cst (.str [])), none⟩,
    ⟨(some 8), .mov (.tmp 7), none⟩,
    ⟨(some 9), .mov (.tmp 0), (some (8, false))⟩,
    ⟨(some 10), .lens true (.tmp 9), (some (8, false))⟩,
    ⟨(some 11), .bin .gtr (.tmp 10) (.cst (.int .i64 16)), (some (8, false))⟩,
    ⟨(some 12), .pick (.tmp 8) (.cst (.bool true)) (.tmp 11), none⟩,
    ⟨(some 13), .mov (.tmp 12), none⟩,
    ⟨(some 14), .mov (.tmp 0), (some (13, false))⟩,
    ⟨(some 15), .callq 50 [.tmp 14], (some (13, false))⟩,
    ⟨(some 16), .pick (.tmp 13) (.cst (.bool true)) (.tmp 15), none⟩] [])
  (.cond (.tmp 16) (.seq (.region false [⟨(some 2), .mov (.cst (.bool false)), none⟩] [])
  .ret) .skip))
  (.seq (.seq (.region false [⟨(some 17), .mov (.tmp 0), none⟩,
    ⟨(some 18), .rngs (.tmp 17), none⟩] [])
  (.block 0 (.loop x24_l0)))
  (.seq (.region false [⟨(some 2), .mov (.cst (.bool true)), none⟩] [])
  .ret))))
/-- custos/say.put -/
def x25 : XFn := XFn.mk 16 [] (.region false [⟨(some 8), .mov (.tmp 0), none⟩,
    ⟨(some 9), .mov (.tmp 1), none⟩,
    ⟨(some 10), .mov (.tmp 3), none⟩,
    ⟨(some 11), .prim 8 51 [.tmp 10, .cst (.str [32])], none⟩,
    ⟨(some 12), .bin .add (.tmp 9) (.tmp 11), none⟩,
    ⟨(some 13), .mov (.tmp 2), none⟩,
    ⟨(some 14), .bin .add (.tmp 12) (.tmp 13), none⟩,
    ⟨(some 15), .callw 35 [.tmp 8, .tmp 14], none⟩] [])
/-- custos/value.Print -/
def x26 : XFn := XFn.mk 30 [.tmp 2, .tmp 3] (.seq (.region false [⟨(some 1), .box (.tmp 0) 4, none⟩,
    ⟨(some 2), .mov (.cst (.str [])), none⟩,
    ⟨(some 3), .mov (.cst (.int .i64 0)), none⟩] [])
  (.seq (.seq (.region false [⟨(some 5), .load (.tmp 1) 4 true, none⟩,
    ⟨(some 6), .callq 52 [.tmp 5], none⟩,
    ⟨(some 4), .own 6, none⟩] [])
  (.seq (.region false [⟨(some 7), .mov (.tmp 4), none⟩,
    ⟨(some 8), .bin .neq (.tmp 7) (.cst (.int .i64 0)), none⟩] [])
  (.cond (.tmp 8) (.seq (.region false [⟨(some 9), .mov (.tmp 4), none⟩,
    ⟨(some 2), .mov (.cst (.str [])), none⟩,
    ⟨(some 3), .own 9, none⟩] [])
  .ret) .skip)))
  (.seq (.seq (.region false [⟨(some 10), .faddr (.tmp 1) 0, none⟩,
    ⟨(some 11), .load (.tmp 10) 1 false, none⟩] [])
  (.block 0 (.seq (.region false [⟨(some 13), .bin .eql (.tmp 11) (.cst (.int .i64 1)), none⟩,
    ⟨(some 12), .own 13, none⟩] [])
  (.cond (.tmp 12) (.seq (.region false [⟨(some 14), .faddr (.tmp 1) 1, none⟩,
    ⟨(some 15), .load (.tmp 14) 1 false, none⟩,
    ⟨(some 16), .prim 5 32 [.tmp 15, .cst (.int .i64 10)], none⟩,
    ⟨(some 2), .own 16, none⟩,
    ⟨(some 3), .mov (.cst (.int .i64 0)), none⟩] [])
  .ret) (.seq (.region false [⟨(some 18), .bin .eql (.tmp 11) (.cst (.int .i64 2)), none⟩,
    ⟨(some 17), .own 18, none⟩] [])
  (.cond (.tmp 17) (.seq (.region true [⟨(some 19), .faddr (.tmp 1) 1, none⟩,
    ⟨(some 20), .load (.tmp 19) 1 false, none⟩,
    ⟨(some 21), .prim 5 32 [.tmp 20, .cst (.int .i64 10)], none⟩,
    ⟨(some 22), .bin .add (.tmp 21) (.cst (.str [47])), none⟩,
    ⟨(some 23), .faddr (.tmp 1) 2, none⟩,
    ⟨(some 24), .load (.tmp 23) 1 false, none⟩,
    ⟨(some 25), .prim 5 32 [.tmp 24, .cst (.int .i64 10)], none⟩,
    ⟨(some 26), .bin .add (.tmp 22) (.tmp 25), none⟩,
    ⟨(some 2), .own 26, none⟩,
    ⟨(some 3), .mov (.cst (.int .i64 0)), none⟩] [])
  .ret) .skip))))))
  (.seq (.region false [⟨(some 27), .faddr (.tmp 1) 3, none⟩,
    ⟨(some 28), .load (.tmp 27) 1 false, none⟩,
    ⟨(some 29), .callq 53 [.tmp 28], none⟩,
    ⟨(some 2), .own 29, none⟩,
    ⟨(some 3), .mov (.cst (.int .i64 0)), none⟩] [])
  .ret))))
/-- (*strings.Builder).String -/
def x27 : XFn := XFn.mk 0 [] (.exit 2056005)
def x34_r0 : XCode := .seq (.region false [⟨(some 28), .bin .lss (.tmp 27) (.tmp 26), none⟩] [])
  (.seq (.cond (.tmp 28) .skip (.exit 0))
  (.seq (.block 1 (.seq (.region false [⟨(some 29), .iaddr 1 (.tmp 25) (.tmp 27), none⟩,
    ⟨(some 30), .load (.tmp 29) 1 false, none⟩,
    ⟨(some 6), .own 30, none⟩] [])
  (.seq (.seq (.region false [⟨(some 31), .mov (.tmp 6), none⟩,
    ⟨(some 32), .bin .lss (.tmp 31) (.cst (.int .i64 0)), none⟩,
    ⟨(some 33), .mov (.tmp 32), none⟩,
    ⟨(some 34), .mov (.tmp 6), (some (33, false))⟩,
    ⟨(some 35), .bin .geq (.tmp 34) (.cst (.int .i64 256)), (some (33, false))⟩,
    ⟨(some 36), .pick (.tmp 33) (.cst (.bool true)) (.tmp 35), none⟩] [])
  (.cond (.tmp 36) (.seq (.region false [⟨(some 2), .mov (.cst (.str [])), none⟩,
    ⟨(some 3), .mov (.cst (.int .i64 1)), none⟩] [])
  .ret) .skip))
  (.region false [⟨(some 37), .own 4, none⟩,
    ⟨(some 38), .mov (.tmp 6), none⟩,
    ⟨(some 39), .prim 9 31 [.tmp 38], none⟩,
    ⟨(some 40), .bslice 1 [.str []] [(0, 1, .tmp 39)], none⟩,
    ⟨(some 41), .app false 1 16 37 (.tmp 40), none⟩,
    ⟨(some 4), .own 41, none⟩] []))))
  (.region false [⟨(some 42), .bin .add (.tmp 27) (.cst (.int .i64 1)), none⟩,
    ⟨(some 27), .mov (.tmp 42), none⟩] [])))
def x34_l0 : XCode := x34_r0
/-- custos/say.one -/
def x34 : XFn := XFn.mk 63 [.tmp 2, .tmp 3] (.seq (.region false [⟨(some 1), .boxe (.tmp 0) 4, none⟩,
    ⟨(some 2), .mov (.cst (.str [])), none⟩,
    ⟨(some 3), .mov (.cst (.int .i64 0)), none⟩] [])
  (.seq (.seq (.region false [⟨(some 10), .faddr (.tmp 1) 0, none⟩,
    ⟨(some 11), .load (.tmp 10) 1 false, none⟩,
    ⟨(some 12), .lens false (.tmp 11), none⟩,
    ⟨(some 13), .bin .gtr (.tmp 12) (.cst (.int .i64 24)), none⟩,
    ⟨(some 14), .mov (.tmp 13), none⟩,
    ⟨(some 15), .faddr (.tmp 1) 1, (some (14, false))⟩,
    ⟨(some 16), .load (.tmp 15) 1 false, (some (14, false))⟩,
    ⟨(some 17), .bin .lss (.tmp 16) (.cst (.int .i64 0)), (some (14, false))⟩,
    ⟨(some 18), .pick (.tmp 14) (.cst (.bool true)) (.tmp 17), none⟩,
    ⟨(some 19), .mov (.tmp 18), none⟩,
    ⟨(some 20), .faddr (.tmp 1) 1, (some (19, false))⟩,
    ⟨(some 21), .load (.tmp 20) 1 false, (some (19, false))⟩,
    ⟨(some 22), .bin .geq (.tmp 21) (.cst (.int .i64 4096)), (some (19, false))⟩,
    ⟨(some 23), .pick (.tmp 19) (.cst (.bool true)) (.tmp 22), none⟩] [])
  (.cond (.tmp 23) (.seq (.region false [⟨(some 2), .mov (.cst (.str [])), none⟩,
    ⟨(some 3), .mov (.cst (.int .i64 1)), none⟩] [])
  .ret) .skip))
  (.seq (.region false [⟨(some 4), .mov (.cst .nilsl), none⟩] [])
  (.seq (.seq (.region false [⟨(some 24), .faddr (.tmp 1) 0, none⟩,
    ⟨(some 25), .load (.tmp 24) 1 false, none⟩,
    ⟨(some 26), .lens false (.tmp 25), none⟩,
    ⟨(some 27), .mov (.cst (.int .i64 0)), none⟩] [])
  (.block 0 (.loop x34_l0)))
  (.seq (.region false [⟨(some 44), .faddr (.tmp 1) 2, none⟩,
    ⟨(some 45), .load (.tmp 44) 2 true, none⟩,
    ⟨(some 46), .callq 9 [.tmp 45], none⟩,
    ⟨(some 43), .mov (.tmp 46), none⟩,
    ⟨(some 47), .ext 43 0, none⟩,
    ⟨(some 48), .ext 43 1, none⟩,
    ⟨(some 7), .own 47, none⟩,
    ⟨(some 8), .own 48, none⟩] [])
  (.seq (.seq (.region false [⟨(some 49), .mov (.tmp 8), none⟩,
    ⟨(some 50), .bin .neq (.tmp 49) (.cst (.int .i64 0)), none⟩] [])
  (.cond (.tmp 50) (.seq (.region false [⟨(some 51), .mov (.tmp 8), none⟩,
    ⟨(some 2), .mov (.cst (.str [])), none⟩,
    ⟨(some 3), .own 51, none⟩] [])
  .ret) .skip))
  (.seq (.region false [⟨(some 9), .allocb 56 5, none⟩] [])
  (.seq (.region false [⟨(some 52), .mov (.tmp 4), none⟩,
    ⟨(some 53), .callw 25 [.tmp 9, .cst (.str [91]), .cst (.str [93, 32]), .tmp 52], none⟩] [])
  (.seq (.region true [⟨(some 54), .callw 27 [.tmp 9], none⟩,
    ⟨(some 55), .faddr (.tmp 1) 1, none⟩,
    ⟨(some 56), .loade (.tmp 55) 1 false, none⟩,
    ⟨(some 57), .prim 9 31 [.tmp 56], none⟩,
    ⟨(some 58), .bin .add (.tmp 54) (.tmp 57), none⟩,
    ⟨(some 59), .bin .add (.tmp 58) (.cst (.str [32])), none⟩,
    ⟨(some 60), .mov (.tmp 7), none⟩,
    ⟨(some 61), .bin .add (.tmp 59) (.tmp 60), none⟩,
    ⟨(some 62), .bin .add (.tmp 61) (.cst (.str [10])), none⟩,
    ⟨(some 2), .own 62, none⟩,
    ⟨(some 3), .mov (.cst (.int .i64 0)), none⟩] [])
  .ret)))))))))
/-- (*strings.Builder).WriteString -/
def x35 : XFn := XFn.mk 0 [] (.exit 1056005)
def x37_r0 : XCode := .seq (.region false [⟨(some 40), .bin .lss (.tmp 39) (.tmp 38), none⟩] [])
  (.seq (.cond (.tmp 40) .skip (.exit 2))
  (.seq (.block 3 (.seq (.region false [⟨(some 41), .iaddr 1 (.tmp 37) (.tmp 39), none⟩,
    ⟨(some 42), .load (.tmp 41) 1 false, none⟩,
    ⟨(some 11), .own 42, none⟩] [])
  (.seq (.region false [⟨(some 44), .mov (.tmp 11), none⟩,
    ⟨(some 45), .callq 66 [.tmp 44], none⟩,
    ⟨(some 43), .mov (.tmp 45), none⟩,
    ⟨(some 46), .ext 43 0, none⟩,
    ⟨(some 47), .ext 43 1, none⟩,
    ⟨(some 12), .alloc [.int .i64 0, .int .i64 0, .int .i64 0, .str []], none⟩,
    ⟨none, .store (.tmp 12) (.tmp 46) 4, none⟩,
    ⟨(some 13), .own 47, none⟩] [])
  (.seq (.seq (.region false [⟨(some 48), .mov (.tmp 13), none⟩,
    ⟨(some 49), .bin .neq (.tmp 48) (.cst (.int .i64 0)), none⟩] [])
  (.cond (.tmp 49) (.seq (.region false [⟨(some 50), .build [.nilsl, .nilsl] [], none⟩,
    ⟨none, .store (.tmp 2) (.tmp 50) 2, none⟩,
    ⟨(some 3), .mov (.cst (.bool false)), none⟩] [])
  .ret) .skip))
  (.region false [⟨(some 51), .own 9, none⟩,
    ⟨(some 52), .load (.tmp 12) 4 true, none⟩,
    ⟨(some 53), .bslice 4 [.int .i64 0, .int .i64 0, .int .i64 0, .str []] [(0, 4, .tmp 52)], none⟩,
    ⟨(some 54), .app false 4 40 51 (.tmp 53), none⟩,
    ⟨(some 9), .own 54, none⟩] [])))))
  (.region false [⟨(some 55), .bin .add (.tmp 39) (.cst (.int .i64 1)), none⟩,
    ⟨(some 39), .mov (.tmp 55), none⟩] [])))
def x37_l0 : XCode := x37_r0
def x37_r1 : XCode := .seq (.seq (.region false [⟨(some 22), .mov (.tmp 6), none⟩,
    ⟨(some 23), .mov (.tmp 22), none⟩,
    ⟨(some 24), .mov (.tmp 5), (some (23, true))⟩,
    ⟨(some 25), .bin .neq (.tmp 24) (.cst (.str [])), (some (23, true))⟩,
    ⟨(some 26), .pick (.tmp 23) (.tmp 25) (.cst (.bool false)), none⟩] [])
  (.cond (.tmp 26) .skip (.exit 0)))
  (.block 1 (.seq (.region false [⟨(some 8), .mov (.cst .nilsl), none⟩] [])
  (.seq (.seq (.region false [⟨(some 28), .mov (.tmp 5), none⟩,
    ⟨(some 29), .callq 65 [.tmp 28, .cst (.str [32])], none⟩,
    ⟨(some 30), .callq 64 [.tmp 29], none⟩,
    ⟨(some 27), .mov (.tmp 30), none⟩,
    ⟨(some 31), .ext 27 0, none⟩,
    ⟨(some 32), .ext 27 1, none⟩,
    ⟨(some 33), .ext 27 2, none⟩,
    ⟨(some 8), .own 31, none⟩,
    ⟨(some 5), .own 32, none⟩,
    ⟨(some 6), .own 33, none⟩] [])
  (.seq (.region false [⟨(some 34), .mov (.tmp 6), none⟩,
    ⟨(some 35), .not (.tmp 34), none⟩] [])
  (.cond (.tmp 35) (.exit 0) .skip)))
  (.seq (.region false [⟨(some 36), .bslice 4 [] [], none⟩,
    ⟨(some 9), .own 36, none⟩] [])
  (.seq (.seq (.region false [⟨(some 37), .mov (.tmp 8), none⟩,
    ⟨(some 38), .lens false (.tmp 37), none⟩,
    ⟨(some 39), .mov (.cst (.int .i64 0)), none⟩] [])
  (.block 2 (.loop x37_l0)))
  (.region false [⟨(some 56), .faddr (.tmp 7) 1, none⟩,
    ⟨(some 57), .lown (.tmp 56), none⟩,
    ⟨(some 58), .mov (.tmp 9), none⟩,
    ⟨(some 59), .bslice 1 [.nilsl] [(0, 1, .tmp 58)], none⟩,
    ⟨(some 60), .app false 1 24 57 (.tmp 59), none⟩,
    ⟨(some 61), .faddr (.tmp 7) 1, none⟩,
    ⟨none, .store (.tmp 61) (.tmp 60) 1, none⟩] []))))))
def x37_l1 : XCode := x37_r1
/-- custos/say.read -/
def x37 : XFn := XFn.mk 64 [.cell 2 2 true, .tmp 3] (.seq (.region false [⟨(some 2), .alloc [.nilsl, .nilsl], none⟩,
    ⟨(some 3), .mov (.cst (.bool false)), none⟩] [])
  (.seq (.region false [⟨(some 15), .mov (.tmp 0), none⟩,
    ⟨(some 16), .callq 64 [.tmp 15], none⟩,
    ⟨(some 14), .mov (.tmp 16), none⟩,
    ⟨(some 17), .ext 14 0, none⟩,
    ⟨(some 18), .ext 14 1, none⟩,
    ⟨(some 19), .ext 14 2, none⟩,
    ⟨(some 4), .own 17, none⟩,
    ⟨(some 5), .own 18, none⟩,
    ⟨(some 6), .own 19, none⟩] [])
  (.seq (.region false [⟨(some 20), .mov (.tmp 4), none⟩,
    ⟨(some 21), .build [.nilsl, .nilsl] [(0, 1, .tmp 20)], none⟩,
    ⟨(some 7), .alloc [.nilsl, .nilsl], none⟩,
    ⟨none, .store (.tmp 7) (.tmp 21) 2, none⟩] [])
  (.seq (.block 0 (.loop x37_l1))
  (.seq (.region false [⟨(some 62), .load (.tmp 7) 2 true, none⟩,
    ⟨(some 63), .mov (.tmp 6), none⟩,
    ⟨none, .store (.tmp 2) (.tmp 62) 2, none⟩,
    ⟨(some 3), .own 63, none⟩] [])
  .ret)))))
/-- strings.Cut -/
def x41 : XFn := XFn.mk 13 [.tmp 4, .tmp 5, .tmp 6] (.seq (.region false [⟨(some 4), .mov (.cst (.str [])), none⟩,
    ⟨(some 5), .mov (.cst (.str [])), none⟩,
    ⟨(some 6), .mov (.cst (.bool false)), none⟩] [])
  (.seq (.region false [⟨(some 7), .mov (.tmp 0), none⟩,
    ⟨(some 8), .mov (.tmp 1), none⟩,
    ⟨(some 9), .callq 72 [.tmp 7, .tmp 8], none⟩,
    ⟨(some 10), .ext 9 0, none⟩,
    ⟨(some 11), .ext 9 1, none⟩,
    ⟨(some 12), .ext 9 2, none⟩,
    ⟨(some 4), .own 10, none⟩,
    ⟨(some 5), .own 11, none⟩,
    ⟨(some 6), .own 12, none⟩] [])
  .ret))
def x42_r0 : XCode := .seq (.region false [⟨(some 45), .bin .lss (.tmp 44) (.tmp 43), none⟩] [])
  (.seq (.cond (.tmp 45) .skip (.exit 0))
  (.seq (.block 1 (.seq (.region false [⟨(some 46), .iaddr 1 (.tmp 42) (.tmp 44), none⟩,
    ⟨(some 47), .load (.tmp 46) 1 false, none⟩,
    ⟨(some 12), .own 47, none⟩] [])
  (.seq (.region false [⟨(some 49), .mov (.tmp 12), none⟩,
    ⟨(some 50), .prim 1652 74 [.tmp 49], none⟩,
    ⟨(some 48), .mov (.tmp 50), none⟩,
    ⟨(some 51), .ext 48 0, none⟩,
    ⟨(some 52), .ext 48 1, none⟩,
    ⟨(some 13), .own 51, none⟩,
    ⟨(some 14), .own 52, none⟩] [])
  (.seq (.seq (.region false [⟨(some 53), .mov (.tmp 14), none⟩,
    ⟨(some 54), .eqnil 0 true (.tmp 53), none⟩] [])
  (.cond (.tmp 54) (.seq (.region false [⟨(some 55), .build [.nilsl, .int .i64 0, .nilsl, .nilsl] [], none⟩,
    ⟨none, .store (.tmp 2) (.tmp 55) 4, none⟩,
    ⟨(some 3), .mov (.cst (.bool false)), none⟩] [])
  .ret) .skip))
  (.region false [⟨(some 56), .faddr (.tmp 10) 0, none⟩,
    ⟨(some 57), .lown (.tmp 56), none⟩,
    ⟨(some 58), .mov (.tmp 13), none⟩,
    ⟨(some 59), .bslice 1 [.int .i64 0] [(0, 1, .tmp 58)], none⟩,
    ⟨(some 60), .app false 1 8 57 (.tmp 59), none⟩,
    ⟨(some 61), .faddr (.tmp 10) 0, none⟩,
    ⟨none, .store (.tmp 61) (.tmp 60) 1, none⟩] [])))))
  (.region false [⟨(some 62), .bin .add (.tmp 44) (.cst (.int .i64 1)), none⟩,
    ⟨(some 44), .mov (.tmp 62), none⟩] [])))
def x42_l0 : XCode := x42_r0
/-- custos/say.sheet -/
def x42 : XFn := XFn.mk 100 [.cell 2 4 true, .tmp 3] (.seq (.region false [⟨(some 2), .alloc [.nilsl, .int .i64 0, .nilsl, .nilsl], none⟩,
    ⟨(some 3), .mov (.cst (.bool false)), none⟩] [])
  (.seq (.region false [⟨(some 22), .mov (.tmp 0), none⟩,
    ⟨(some 23), .callq 65 [.tmp 22, .cst (.str [91])], none⟩,
    ⟨(some 24), .callq 41 [.tmp 23, .cst (.str [93, 32])], none⟩,
    ⟨(some 21), .mov (.tmp 24), none⟩,
    ⟨(some 25), .ext 21 0, none⟩,
    ⟨(some 26), .ext 21 1, none⟩,
    ⟨(some 27), .ext 21 2, none⟩,
    ⟨(some 4), .own 25, none⟩,
    ⟨(some 5), .own 26, none⟩,
    ⟨(some 6), .own 27, none⟩] [])
  (.seq (.region false [⟨(some 29), .mov (.tmp 5), none⟩,
    ⟨(some 30), .callq 41 [.tmp 29, .cst (.str [32])], none⟩,
    ⟨(some 28), .mov (.tmp 30), none⟩,
    ⟨(some 31), .ext 28 0, none⟩,
    ⟨(some 32), .ext 28 1, none⟩,
    ⟨(some 33), .ext 28 2, none⟩,
    ⟨(some 7), .own 31, none⟩,
    ⟨(some 8), .own 32, none⟩,
    ⟨(some 9), .own 33, none⟩] [])
  (.seq (.seq (.region false [⟨(some 34), .mov (.tmp 6), none⟩,
    ⟨(some 35), .not (.tmp 34), none⟩,
    ⟨(some 36), .mov (.tmp 35), none⟩,
    ⟨(some 37), .mov (.tmp 9), (some (36, false))⟩,
    ⟨(some 38), .not (.tmp 37), (some (36, false))⟩,
    ⟨(some 39), .pick (.tmp 36) (.cst (.bool true)) (.tmp 38), none⟩] [])
  (.cond (.tmp 39) (.seq (.region false [⟨(some 40), .build [.nilsl, .int .i64 0, .nilsl, .nilsl] [], none⟩,
    ⟨none, .store (.tmp 2) (.tmp 40) 4, none⟩,
    ⟨(some 3), .mov (.cst (.bool false)), none⟩] [])
  .ret) .skip))
  (.seq (.region false [⟨(some 10), .alloc [.nilsl, .int .i64 0, .nilsl, .nilsl], none⟩] [])
  (.seq (.seq (.region false [⟨(some 41), .mov (.tmp 4), none⟩,
    ⟨(some 42), .prim 11 73 [.tmp 41], none⟩,
    ⟨(some 43), .lens false (.tmp 42), none⟩,
    ⟨(some 44), .mov (.cst (.int .i64 0)), none⟩] [])
  (.block 0 (.loop x42_l0)))
  (.seq (.region false [⟨(some 64), .mov (.tmp 7), none⟩,
    ⟨(some 65), .prim 1652 74 [.tmp 64], none⟩,
    ⟨(some 63), .mov (.tmp 65), none⟩,
    ⟨(some 66), .ext 63 0, none⟩,
    ⟨(some 67), .ext 63 1, none⟩,
    ⟨(some 15), .own 66, none⟩,
    ⟨(some 16), .own 67, none⟩] [])
  (.seq (.region false [⟨(some 68), .mov (.tmp 15), none⟩,
    ⟨(some 69), .faddr (.tmp 10) 1, none⟩,
    ⟨none, .store (.tmp 69) (.tmp 68) 1, none⟩] [])
  (.seq (.region false [⟨(some 71), .mov (.tmp 8), none⟩,
    ⟨(some 72), .callq 15 [.tmp 71], none⟩,
    ⟨(some 70), .mov (.tmp 72), none⟩,
    ⟨(some 73), .ext 70 0, none⟩,
    ⟨(some 74), .ext 70 1, none⟩,
    ⟨(some 17), .alloc [.nilsl, .nilsl], none⟩,
    ⟨none, .store (.tmp 17) (.tmp 73) 2, none⟩,
    ⟨(some 18), .own 74, none⟩] [])
  (.seq (.region false [⟨(some 75), .load (.tmp 17) 2 true, none⟩,
    ⟨(some 76), .faddr (.tmp 10) 2, none⟩,
    ⟨none, .store (.tmp 76) (.tmp 75) 2, none⟩] [])
  (.seq (.seq (.region false [⟨(some 78), .load (.tmp 10) 4 true, none⟩,
    ⟨(some 79), .callq 34 [.tmp 78], none⟩,
    ⟨(some 77), .mov (.tmp 79), none⟩,
    ⟨(some 80), .ext 77 0, none⟩,
    ⟨(some 81), .ext 77 1, none⟩,
    ⟨(some 19), .own 80, none⟩,
    ⟨(some 20), .own 81, none⟩] [])
  (.seq (.region false [⟨(some 82), .mov (.tmp 16), none⟩,
    ⟨(some 83), .eqnil 0 true (.tmp 82), none⟩,
    ⟨(some 84), .mov (.tmp 83), none⟩,
    ⟨(some 85), .mov (.tmp 18), (some (84, false))⟩,
    ⟨(some 86), .bin .neq (.tmp 85) (.cst (.int .i64 0)), (some (84, false))⟩,
    ⟨(some 87), .pick (.tmp 84) (.cst (.bool true)) (.tmp 86), none⟩,
    ⟨(some 88), .mov (.tmp 87), none⟩,
    ⟨(some 89), .mov (.tmp 20), (some (88, false))⟩,
    ⟨(some 90), .bin .neq (.tmp 89) (.cst (.int .i64 0)), (some (88, false))⟩,
    ⟨(some 91), .pick (.tmp 88) (.cst (.bool true)) (.tmp 90), none⟩,
    ⟨(some 92), .mov (.tmp 91), none⟩,
    ⟨(some 93), .mov (.tmp 19), (some (92, false))⟩,
    ⟨(some 94), .mov (.tmp 0), (some (92, false))⟩,
    ⟨(some 95), .bin .add (.tmp 94) (.cst (.str [10])), (some (92, false))⟩,
    ⟨(some 96), .bin .neq (.tmp 93) (.tmp 95), (some (92, false))⟩,
    ⟨(some 97), .pick (.tmp 92) (.cst (.bool true)) (.tmp 96), none⟩] [])
  (.cond (.tmp 97) (.seq (.region false [⟨(some 98), .build [.nilsl, .int .i64 0, .nilsl, .nilsl] [], none⟩,
    ⟨none, .store (.tmp 2) (.tmp 98) 4, none⟩,
    ⟨(some 3), .mov (.cst (.bool false)), none⟩] [])
  .ret) .skip)))
  (.seq (.region false [⟨(some 99), .load (.tmp 10) 4 true, none⟩,
    ⟨none, .store (.tmp 2) (.tmp 99) 4, none⟩,
    ⟨(some 3), .mov (.cst (.bool true)), none⟩] [])
  .ret))))))))))))
def x44_r0 : XCode := .seq (.seq (.region false [⟨(some 11), .mov (.tmp 5), none⟩,
    ⟨(some 12), .mov (.tmp 0), none⟩,
    ⟨(some 13), .lens false (.tmp 12), none⟩,
    ⟨(some 14), .bin .lss (.tmp 11) (.tmp 13), none⟩] [])
  (.cond (.tmp 14) .skip (.exit 0)))
  (.seq (.block 1 (.seq (.region true [⟨(some 17), .mov (.tmp 0), none⟩,
    ⟨(some 18), .mov (.tmp 5), none⟩,
    ⟨(some 19), .iaddr 1 (.tmp 17) (.tmp 18), none⟩,
    ⟨(some 20), .load (.tmp 19) 1 false, none⟩,
    ⟨(some 21), .mov (.tmp 1), none⟩,
    ⟨(some 22), .mov (.tmp 5), none⟩,
    ⟨(some 23), .iaddr 1 (.tmp 21) (.tmp 22), none⟩,
    ⟨(some 24), .load (.tmp 23) 1 false, none⟩,
    ⟨(some 25), .bin .neq (.tmp 20) (.tmp 24), none⟩] [])
  (.cond (.tmp 25) (.seq (.region false [⟨(some 4), .mov (.cst (.bool false)), none⟩] [])
  .ret) .skip)))
  (.region false [⟨(some 15), .mov (.tmp 5), none⟩,
    ⟨(some 16), .bin .add (.tmp 15) (.cst (.int .i64 1)), none⟩,
    ⟨(some 5), .own 16, none⟩] []))
def x44_l0 : XCode := x44_r0
/-- custos/custosref03.sameVars -/
def x44 : XFn := XFn.mk 26 [.tmp 4] (.seq (.region false [⟨(some 4), .mov (.cst (.bool false)), none⟩] [])
  (.seq (.seq (.region false [⟨(some 6), .mov (.tmp 0), none⟩,
    ⟨(some 7), .lens false (.tmp 6), none⟩,
    ⟨(some 8), .mov (.tmp 1), none⟩,
    ⟨(some 9), .lens false (.tmp 8), none⟩,
    ⟨(some 10), .bin .neq (.tmp 7) (.tmp 9), none⟩] [])
  (.cond (.tmp 10) (.seq (.region false [⟨(some 4), .mov (.cst (.bool false)), none⟩] [])
  .ret) .skip))
  (.seq (.seq (.region false [⟨(some 5), .mov (.cst (.int .i64 0)), none⟩] [])
  (.block 0 (.loop x44_l0)))
  (.seq (.region false [⟨(some 4), .mov (.cst (.bool true)), none⟩] [])
  .ret))))
def x45_r0 : XCode := .seq (.seq (.region false [⟨(some 12), .mov (.tmp 5), none⟩,
    ⟨(some 13), .mov (.tmp 0), none⟩,
    ⟨(some 14), .lens false (.tmp 13), none⟩,
    ⟨(some 15), .bin .lss (.tmp 12) (.tmp 14), none⟩] [])
  (.cond (.tmp 15) .skip (.exit 0)))
  (.seq (.block 1 (.seq (.region true [⟨(some 18), .mov (.tmp 0), none⟩,
    ⟨(some 19), .mov (.tmp 5), none⟩,
    ⟨(some 20), .iaddr 4 (.tmp 18) (.tmp 19), none⟩,
    ⟨(some 21), .load (.tmp 20) 4 true, none⟩,
    ⟨(some 22), .mov (.tmp 1), none⟩,
    ⟨(some 23), .mov (.tmp 5), none⟩,
    ⟨(some 24), .iaddr 4 (.tmp 22) (.tmp 23), none⟩,
    ⟨(some 25), .load (.tmp 24) 4 true, none⟩,
    ⟨(some 26), .callq 76 [.tmp 21, .tmp 25], none⟩,
    ⟨(some 6), .own 26, none⟩] [])
  (.seq (.region false [⟨(some 27), .mov (.tmp 6), none⟩,
    ⟨(some 28), .not (.tmp 27), none⟩] [])
  (.cond (.tmp 28) (.seq (.region false [⟨(some 4), .mov (.cst (.bool false)), none⟩] [])
  .ret) .skip))))
  (.region false [⟨(some 16), .mov (.tmp 5), none⟩,
    ⟨(some 17), .bin .add (.tmp 16) (.cst (.int .i64 1)), none⟩,
    ⟨(some 5), .own 17, none⟩] []))
def x45_l0 : XCode := x45_r0
/-- custos/custosref03.sameRow -/
def x45 : XFn := XFn.mk 29 [.tmp 4] (.seq (.region false [⟨(some 4), .mov (.cst (.bool false)), none⟩] [])
  (.seq (.seq (.region false [⟨(some 7), .mov (.tmp 0), none⟩,
    ⟨(some 8), .lens false (.tmp 7), none⟩,
    ⟨(some 9), .mov (.tmp 1), none⟩,
    ⟨(some 10), .lens false (.tmp 9), none⟩,
    ⟨(some 11), .bin .neq (.tmp 8) (.tmp 10), none⟩] [])
  (.cond (.tmp 11) (.seq (.region false [⟨(some 4), .mov (.cst (.bool false)), none⟩] [])
  .ret) .skip))
  (.seq (.seq (.region false [⟨(some 5), .mov (.cst (.int .i64 0)), none⟩] [])
  (.block 0 (.loop x45_l0)))
  (.seq (.region false [⟨(some 4), .mov (.cst (.bool true)), none⟩] [])
  .ret))))
def x46_r0 : XCode := .seq (.seq (.region false [⟨(some 4), .mov (.tmp 3), none⟩,
    ⟨(some 5), .mov (.tmp 0), none⟩,
    ⟨(some 6), .lens false (.tmp 5), none⟩,
    ⟨(some 7), .bin .lss (.tmp 4) (.tmp 6), none⟩] [])
  (.cond (.tmp 7) .skip (.exit 0)))
  (.seq (.block 1 (.seq (.region true [⟨(some 10), .mov (.tmp 0), none⟩,
    ⟨(some 11), .mov (.tmp 3), none⟩,
    ⟨(some 12), .bin .sub (.tmp 11) (.cst (.int .i64 1)), none⟩,
    ⟨(some 13), .iaddr 1 (.tmp 10) (.tmp 12), none⟩,
    ⟨(some 14), .load (.tmp 13) 1 false, none⟩,
    ⟨(some 15), .mov (.tmp 0), none⟩,
    ⟨(some 16), .mov (.tmp 3), none⟩,
    ⟨(some 17), .iaddr 1 (.tmp 15) (.tmp 16), none⟩,
    ⟨(some 18), .load (.tmp 17) 1 false, none⟩,
    ⟨(some 19), .bin .geq (.tmp 14) (.tmp 18), none⟩] [])
  (.cond (.tmp 19) (.seq (.region false [⟨(some 2), .mov (.cst (.bool false)), none⟩] [])
  .ret) .skip)))
  (.region false [⟨(some 8), .mov (.tmp 3), none⟩,
    ⟨(some 9), .bin .add (.tmp 8) (.cst (.int .i64 1)), none⟩,
    ⟨(some 3), .own 9, none⟩] []))
def x46_l0 : XCode := x46_r0
/-- custos/table.rises -/
def x46 : XFn := XFn.mk 20 [.tmp 2] (.seq (.region false [⟨(some 2), .mov (.cst (.bool false)), none⟩] [])
  (.seq (.seq (.region false [⟨(some 3), .mov (.cst (.int .i64 1)), none⟩] [])
  (.block 0 (.loop x46_l0)))
  (.seq (.region false [⟨(some 2), .mov (.cst (.bool true)), none⟩] [])
  .ret)))
def x47_r0 : XCode := .seq (.region false [⟨(some 15), .bin .lss (.tmp 14) (.tmp 13), none⟩] [])
  (.seq (.cond (.tmp 15) .skip (.exit 0))
  (.seq (.block 1 (.seq (.region false [⟨(some 16), .iaddr 4 (.tmp 12) (.tmp 14), none⟩,
    ⟨(some 17), .load (.tmp 16) 4 true, none⟩,
    ⟨(some 6), .alloc [.int .i64 0, .int .i64 0, .int .i64 0, .str []], none⟩,
    ⟨none, .store (.tmp 6) (.tmp 17) 4, none⟩] [])
  (.seq (.region false [⟨(some 18), .load (.tmp 6) 4 true, none⟩,
    ⟨(some 19), .callq 52 [.tmp 18], none⟩,
    ⟨(some 7), .own 19, none⟩] [])
  (.seq (.region false [⟨(some 20), .mov (.tmp 7), none⟩,
    ⟨(some 21), .bin .neq (.tmp 20) (.cst (.int .i64 0)), none⟩] [])
  (.cond (.tmp 21) (.seq (.region false [⟨(some 22), .mov (.tmp 7), none⟩,
    ⟨(some 4), .own 22, none⟩] [])
  .ret) .skip)))))
  (.region false [⟨(some 23), .bin .add (.tmp 14) (.cst (.int .i64 1)), none⟩,
    ⟨(some 14), .mov (.tmp 23), none⟩] [])))
def x47_l0 : XCode := x47_r0
/-- custos/table.checkRow -/
def x47 : XFn := XFn.mk 24 [.tmp 4] (.seq (.region false [⟨(some 4), .mov (.cst (.int .i64 0)), none⟩] [])
  (.seq (.seq (.region false [⟨(some 8), .mov (.tmp 1), none⟩,
    ⟨(some 9), .lens false (.tmp 8), none⟩,
    ⟨(some 10), .mov (.tmp 0), none⟩,
    ⟨(some 11), .bin .neq (.tmp 9) (.tmp 10), none⟩] [])
  (.cond (.tmp 11) (.seq (.region false [⟨(some 4), .mov (.cst (.int .i64 1)), none⟩] [])
  .ret) .skip))
  (.seq (.seq (.region false [⟨(some 12), .mov (.tmp 1), none⟩,
    ⟨(some 13), .lens false (.tmp 12), none⟩,
    ⟨(some 14), .mov (.cst (.int .i64 0)), none⟩] [])
  (.block 0 (.loop x47_l0)))
  (.seq (.region false [⟨(some 4), .mov (.cst (.int .i64 0)), none⟩] [])
  .ret))))
def x48_r0 : XCode := .seq (.region false [⟨(some 13), .bin .lss (.tmp 12) (.tmp 11), none⟩] [])
  (.seq (.cond (.tmp 13) .skip (.exit 0))
  (.seq (.block 1 (.seq (.region false [⟨(some 14), .mov (.tmp 12), none⟩,
    ⟨(some 5), .own 14, none⟩] [])
  (.seq (.region true [⟨(some 15), .mov (.tmp 0), none⟩,
    ⟨(some 16), .mov (.tmp 5), none⟩,
    ⟨(some 17), .iaddr 4 (.tmp 15) (.tmp 16), none⟩,
    ⟨(some 18), .load (.tmp 17) 4 true, none⟩,
    ⟨(some 19), .mov (.tmp 1), none⟩,
    ⟨(some 20), .mov (.tmp 5), none⟩,
    ⟨(some 21), .iaddr 4 (.tmp 19) (.tmp 20), none⟩,
    ⟨(some 22), .load (.tmp 21) 4 true, none⟩,
    ⟨(some 23), .callq 77 [.tmp 18, .tmp 22], none⟩,
    ⟨(some 6), .own 23, none⟩] [])
  (.seq (.region false [⟨(some 24), .mov (.tmp 6), none⟩,
    ⟨(some 25), .bin .neq (.tmp 24) (.cst (.int .i64 0)), none⟩] [])
  (.cond (.tmp 25) (.seq (.region false [⟨(some 26), .mov (.tmp 6), none⟩,
    ⟨(some 4), .own 26, none⟩] [])
  .ret) .skip)))))
  (.region false [⟨(some 27), .bin .add (.tmp 12) (.cst (.int .i64 1)), none⟩,
    ⟨(some 12), .mov (.tmp 27), none⟩] [])))
def x48_l0 : XCode := x48_r0
/-- custos/value.CompareRow -/
def x48 : XFn := XFn.mk 33 [.tmp 4] (.seq (.region false [⟨(some 4), .mov (.cst (.int .i64 0)), none⟩] [])
  (.seq (.seq (.region false [⟨(some 7), .mov (.tmp 0), none⟩,
    ⟨(some 8), .lens false (.tmp 7), none⟩,
    ⟨(some 9), .mov (.tmp 1), none⟩,
    ⟨(some 10), .lens false (.tmp 9), none⟩,
    ⟨(some 11), .mn (.tmp 8) (.tmp 10), none⟩,
    ⟨(some 12), .mov (.cst (.int .i64 0)), none⟩] [])
  (.block 0 (.loop x48_l0)))
  (.seq (.region false [⟨(some 28), .mov (.tmp 0), none⟩,
    ⟨(some 29), .lens false (.tmp 28), none⟩,
    ⟨(some 30), .mov (.tmp 1), none⟩,
    ⟨(some 31), .lens false (.tmp 30), none⟩,
    ⟨(some 32), .callq 78 [.tmp 29, .tmp 31], none⟩,
    ⟨(some 4), .own 32, none⟩] [])
  .ret)))
def x49_r0 : XCode := .seq (.region false [⟨(some 9), .bin .lss (.tmp 8) (.tmp 7), none⟩] [])
  (.seq (.cond (.tmp 9) .skip (.exit 0))
  (.seq (.block 1 (.seq (.region false [⟨(some 10), .mov (.tmp 8), none⟩,
    ⟨(some 5), .own 10, none⟩] [])
  (.seq (.region false [⟨(some 11), .mov (.tmp 1), none⟩,
    ⟨(some 12), .mov (.tmp 0), none⟩,
    ⟨(some 13), .mov (.tmp 5), none⟩,
    ⟨(some 14), .iaddr 1 (.tmp 12) (.tmp 13), none⟩,
    ⟨(some 15), .load (.tmp 14) 1 false, none⟩,
    ⟨(some 16), .calld (.tmp 11) [.tmp 15], none⟩] [])
  (.cond (.tmp 16) (.seq (.region false [⟨(some 17), .mov (.tmp 5), none⟩,
    ⟨(some 4), .own 17, none⟩] [])
  .ret) .skip))))
  (.region false [⟨(some 18), .bin .add (.tmp 8) (.cst (.int .i64 1)), none⟩,
    ⟨(some 8), .mov (.tmp 18), none⟩] [])))
def x49_l0 : XCode := x49_r0
/-- slices.IndexFunc[[]string,string] -/
def x49 : XFn := XFn.mk 19 [.tmp 4] (.seq (.region false [⟨(some 4), .mov (.cst (.int .i64 0)), none⟩] [])
  (.seq (.seq (.region false [⟨(some 6), .mov (.tmp 0), none⟩,
    ⟨(some 7), .lens false (.tmp 6), none⟩,
    ⟨(some 8), .mov (.cst (.int .i64 0)), none⟩] [])
  (.block 0 (.loop x49_l0)))
  (.seq (.region false [⟨(some 4), .mov (.cst (.int .i64 (-1))), none⟩] [])
  .ret)))
/-- custos/ast.keyword -/
def x50 : XFn := XFn.mk 28 [.tmp 2] (.seq (.region false [⟨(some 2), .mov (.cst (.bool false)), none⟩] [])
  (.seq (.seq (.region false [⟨(some 3), .mov (.tmp 0), none⟩] [])
  (.block 0 (.seq (.seq (.region false [⟨(some 5), .bin .eql (.tmp 3) (.cst (.str [116, 114, 117, 101])), none⟩,
    ⟨(some 4), .own 5, none⟩] [])
  (.cond (.tmp 4) .skip (.seq (.region false [⟨(some 6), .bin .eql (.tmp 3) (.cst (.str [102, 97, 108, 115, 101])), none⟩,
    ⟨(some 4), .own 6, none⟩] [])
  (.cond (.tmp 4) .skip (.seq (.region false [⟨(some 7), .bin .eql (.tmp 3) (.cst (.str [110, 111, 116])), none⟩,
    ⟨(some 4), .own 7, none⟩] [])
  (.cond (.tmp 4) .skip (.seq (.region false [⟨(some 8), .bin .eql (.tmp 3) (.cst (.str [97, 110, 100])), none⟩,
    ⟨(some 4), .own 8, none⟩] [])
  (.cond (.tmp 4) .skip (.seq (.region false [⟨(some 9), .bin .eql (.tmp 3) (.cst (.str [111, 114])), none⟩,
    ⟨(some 4), .own 9, none⟩] [])
  (.cond (.tmp 4) .skip (.seq (.region false [⟨(some 10), .bin .eql (.tmp 3) (.cst (.str [101, 120, 105, 115, 116, 115])), none⟩,
    ⟨(some 4), .own 10, none⟩] [])
  (.cond (.tmp 4) .skip (.seq (.region false [⟨(some 11), .bin .eql (.tmp 3) (.cst (.str [112, 114, 101, 118])), none⟩,
    ⟨(some 4), .own 11, none⟩] [])
  (.cond (.tmp 4) .skip (.seq (.region false [⟨(some 12), .bin .eql (.tmp 3) (.cst (.str [110, 101, 120, 116])), none⟩,
    ⟨(some 4), .own 12, none⟩] [])
  (.cond (.tmp 4) .skip (.seq (.region false [⟨(some 13), .bin .eql (.tmp 3) (.cst (.str [111, 110, 99, 101])), none⟩,
    ⟨(some 4), .own 13, none⟩] [])
  (.cond (.tmp 4) .skip (.seq (.region false [⟨(some 14), .bin .eql (.tmp 3) (.cst (.str [115, 111, 111, 110])), none⟩,
    ⟨(some 4), .own 14, none⟩] [])
  (.cond (.tmp 4) .skip (.seq (.region false [⟨(some 15), .bin .eql (.tmp 3) (.cst (.str [115, 105, 110, 99, 101])), none⟩,
    ⟨(some 4), .own 15, none⟩] [])
  (.cond (.tmp 4) .skip (.seq (.region false [⟨(some 16), .bin .eql (.tmp 3) (.cst (.str [117, 110, 116, 105, 108])), none⟩,
    ⟨(some 4), .own 16, none⟩] [])
  (.cond (.tmp 4) .skip (.seq (.region false [⟨(some 17), .bin .eql (.tmp 3) (.cst (.str [98, 101, 102, 111, 114, 101])), none⟩,
    ⟨(some 4), .own 17, none⟩] [])
  (.cond (.tmp 4) .skip (.seq (.region false [⟨(some 18), .bin .eql (.tmp 3) (.cst (.str [97, 102, 116, 101, 114])), none⟩,
    ⟨(some 4), .own 18, none⟩] [])
  (.cond (.tmp 4) .skip (.seq (.region false [⟨(some 19), .bin .eql (.tmp 3) (.cst (.str [97, 103, 103])), none⟩,
    ⟨(some 4), .own 19, none⟩] [])
  (.cond (.tmp 4) .skip (.seq (.region false [⟨(some 20), .bin .eql (.tmp 3) (.cst (.str [108, 101, 116])), none⟩,
    ⟨(some 4), .own 20, none⟩] [])
  (.cond (.tmp 4) .skip (.seq (.region false [⟨(some 21), .bin .eql (.tmp 3) (.cst (.str [108, 101, 116, 112, 97, 115, 116])), none⟩,
    ⟨(some 4), .own 21, none⟩] [])
  (.cond (.tmp 4) .skip (.seq (.region false [⟨(some 22), .bin .eql (.tmp 3) (.cst (.str [106, 111, 105, 110])), none⟩,
    ⟨(some 4), .own 22, none⟩] [])
  (.cond (.tmp 4) .skip (.seq (.region false [⟨(some 23), .bin .eql (.tmp 3) (.cst (.str [97, 110, 121])), none⟩,
    ⟨(some 4), .own 23, none⟩] [])
  (.cond (.tmp 4) .skip (.seq (.region false [⟨(some 24), .bin .eql (.tmp 3) (.cst (.str [116, 101, 115, 116])), none⟩,
    ⟨(some 4), .own 24, none⟩] [])
  (.cond (.tmp 4) .skip (.seq (.region false [⟨(some 25), .bin .eql (.tmp 3) (.cst (.str [97, 108, 116])), none⟩,
    ⟨(some 4), .own 25, none⟩] [])
  (.cond (.tmp 4) .skip (.seq (.region false [⟨(some 26), .bin .eql (.tmp 3) (.cst (.str [115, 101, 113])), none⟩,
    ⟨(some 4), .own 26, none⟩] [])
  (.cond (.tmp 4) .skip (.region false [⟨(some 27), .bin .eql (.tmp 3) (.cst (.str [115, 116, 97, 114])), none⟩,
    ⟨(some 4), .own 27, none⟩] [])))))))))))))))))))))))))))))))))))))))))))))
  (.cond (.tmp 4) (.seq (.region false [⟨(some 2), .mov (.cst (.bool true)), none⟩] [])
  .ret) .skip))))
  (.seq (.region false [⟨(some 2), .mov (.cst (.bool false)), none⟩] [])
  .ret)))
/-- custos/value.Check -/
def x52 : XFn := XFn.mk 58 [.tmp 2] (.seq (.region false [⟨(some 1), .box (.tmp 0) 4, none⟩,
    ⟨(some 2), .mov (.cst (.int .i64 0)), none⟩] [])
  (.seq (.region false [⟨(some 3), .mov (.cst (.bool false)), none⟩] [])
  (.seq (.seq (.region false [⟨(some 6), .faddr (.tmp 1) 0, none⟩,
    ⟨(some 7), .load (.tmp 6) 1 false, none⟩] [])
  (.block 0 (.seq (.region false [⟨(some 9), .bin .eql (.tmp 7) (.cst (.int .i64 1)), none⟩,
    ⟨(some 8), .own 9, none⟩] [])
  (.cond (.tmp 8) (.region false [⟨(some 10), .faddr (.tmp 1) 2, none⟩,
    ⟨(some 11), .load (.tmp 10) 1 false, none⟩,
    ⟨(some 12), .bin .neq (.tmp 11) (.cst (.int .i64 0)), none⟩,
    ⟨(some 13), .mov (.tmp 12), none⟩,
    ⟨(some 14), .faddr (.tmp 1) 3, (some (13, false))⟩,
    ⟨(some 15), .load (.tmp 14) 1 false, (some (13, false))⟩,
    ⟨(some 16), .bin .neq (.tmp 15) (.cst (.str [])), (some (13, false))⟩,
    ⟨(some 17), .pick (.tmp 13) (.cst (.bool true)) (.tmp 16), none⟩,
    ⟨(some 3), .own 17, none⟩] []) (.seq (.region false [⟨(some 19), .bin .eql (.tmp 7) (.cst (.int .i64 2)), none⟩,
    ⟨(some 18), .own 19, none⟩] [])
  (.cond (.tmp 18) (.seq (.region false [⟨(some 21), .faddr (.tmp 1) 1, none⟩,
    ⟨(some 22), .load (.tmp 21) 1 false, none⟩,
    ⟨(some 23), .faddr (.tmp 1) 2, none⟩,
    ⟨(some 24), .load (.tmp 23) 1 false, none⟩,
    ⟨(some 25), .callq 80 [.tmp 22, .tmp 24], none⟩,
    ⟨(some 20), .mov (.tmp 25), none⟩,
    ⟨(some 26), .ext 20 0, none⟩,
    ⟨(some 27), .ext 20 1, none⟩,
    ⟨(some 4), .alloc [.int .i64 0, .int .i64 0], none⟩,
    ⟨none, .store (.tmp 4) (.tmp 26) 2, none⟩,
    ⟨(some 5), .own 27, none⟩] [])
  (.region true [⟨(some 28), .faddr (.tmp 1) 3, none⟩,
    ⟨(some 29), .load (.tmp 28) 1 false, none⟩,
    ⟨(some 30), .bin .neq (.tmp 29) (.cst (.str [])), none⟩,
    ⟨(some 31), .mov (.tmp 30), none⟩,
    ⟨(some 32), .mov (.tmp 5), (some (31, false))⟩,
    ⟨(some 33), .bin .neq (.tmp 32) (.cst (.int .i64 0)), (some (31, false))⟩,
    ⟨(some 34), .pick (.tmp 31) (.cst (.bool true)) (.tmp 33), none⟩,
    ⟨(some 35), .mov (.tmp 34), none⟩,
    ⟨(some 36), .load (.tmp 4) 2 true, (some (35, false))⟩,
    ⟨(some 37), .load (.tmp 1) 4 true, (some (35, false))⟩,
    ⟨(some 38), .callq 81 [.tmp 37], (some (35, false))⟩,
    ⟨(some 39), .eqagg true [1, 1] (.tmp 36) (.tmp 38), (some (35, false))⟩,
    ⟨(some 40), .pick (.tmp 35) (.cst (.bool true)) (.tmp 39), none⟩,
    ⟨(some 3), .own 40, none⟩] [])) (.seq (.region false [⟨(some 42), .bin .eql (.tmp 7) (.cst (.int .i64 3)), none⟩,
    ⟨(some 41), .own 42, none⟩] [])
  (.cond (.tmp 41) (.region false [⟨(some 43), .faddr (.tmp 1) 1, none⟩,
    ⟨(some 44), .load (.tmp 43) 1 false, none⟩,
    ⟨(some 45), .bin .neq (.tmp 44) (.cst (.int .i64 0)), none⟩,
    ⟨(some 46), .mov (.tmp 45), none⟩,
    ⟨(some 47), .faddr (.tmp 1) 2, (some (46, false))⟩,
    ⟨(some 48), .load (.tmp 47) 1 false, (some (46, false))⟩,
    ⟨(some 49), .bin .neq (.tmp 48) (.cst (.int .i64 0)), (some (46, false))⟩,
    ⟨(some 50), .pick (.tmp 46) (.cst (.bool true)) (.tmp 49), none⟩,
    ⟨(some 3), .own 50, none⟩] []) (.region false [⟨(some 3), .mov (.cst (.bool true)), none⟩] [])))))))))
  (.seq (.block 1 (.seq (.region false [⟨(some 52), .mov (.tmp 3), none⟩,
    ⟨(some 51), .own 52, none⟩] [])
  (.cond (.tmp 51) (.seq (.region false [⟨(some 2), .mov (.cst (.int .i64 20)), none⟩] [])
  .ret) (.seq (.region false [⟨(some 54), .faddr (.tmp 1) 3, none⟩,
    ⟨(some 55), .load (.tmp 54) 1 false, none⟩,
    ⟨(some 56), .lens true (.tmp 55), none⟩,
    ⟨(some 57), .bin .gtr (.tmp 56) (.cst (.int .i64 64)), none⟩,
    ⟨(some 53), .own 57, none⟩] [])
  (.cond (.tmp 53) (.seq (.region false [⟨(some 2), .mov (.cst (.int .i64 2)), none⟩] [])
  .ret) .skip)))))
  (.seq (.region false [⟨(some 2), .mov (.cst (.int .i64 0)), none⟩] [])
  .ret)))))
def x53_r0 : XCode := .seq (.region false [⟨(some 11), .bin .lss (.tmp 10) (.tmp 9), none⟩] [])
  (.seq (.cond (.tmp 11) .skip (.exit 0))
  (.seq (.block 1 (.seq (.region false [⟨(some 12), .iaddr 1 (.tmp 8) (.tmp 10), none⟩,
    ⟨(some 13), .load (.tmp 12) 1 false, none⟩,
    ⟨(some 5), .own 13, none⟩] [])
  (.block 2 (.seq (.region false [⟨(some 24), .mov (.tmp 5), none⟩,
    ⟨(some 25), .bin .eql (.tmp 24) (.cst (.int .u8 34)), none⟩,
    ⟨(some 26), .mov (.tmp 25), none⟩,
    ⟨(some 27), .mov (.tmp 5), (some (26, false))⟩,
    ⟨(some 28), .bin .eql (.tmp 27) (.cst (.int .u8 92)), (some (26, false))⟩,
    ⟨(some 29), .pick (.tmp 26) (.cst (.bool true)) (.tmp 28), none⟩,
    ⟨(some 23), .own 29, none⟩] [])
  (.cond (.tmp 23) (.region false [⟨(some 30), .own 3, none⟩,
    ⟨(some 31), .mov (.tmp 5), none⟩,
    ⟨(some 32), .bslice 1 [.int .u8 0, .int .u8 0] [(0, 1, .cst (.int .u8 92)), (1, 1, .tmp 31)], none⟩,
    ⟨(some 33), .app false 1 1 30 (.tmp 32), none⟩,
    ⟨(some 3), .own 33, none⟩] []) (.seq (.region false [⟨(some 35), .mov (.tmp 5), none⟩,
    ⟨(some 36), .bin .geq (.tmp 35) (.cst (.int .u8 32)), none⟩,
    ⟨(some 37), .mov (.tmp 36), none⟩,
    ⟨(some 38), .mov (.tmp 5), (some (37, true))⟩,
    ⟨(some 39), .bin .leq (.tmp 38) (.cst (.int .u8 126)), (some (37, true))⟩,
    ⟨(some 40), .pick (.tmp 37) (.tmp 39) (.cst (.bool false)), none⟩,
    ⟨(some 34), .own 40, none⟩] [])
  (.cond (.tmp 34) (.region false [⟨(some 41), .own 3, none⟩,
    ⟨(some 42), .mov (.tmp 5), none⟩,
    ⟨(some 43), .bslice 1 [.int .u8 0] [(0, 1, .tmp 42)], none⟩,
    ⟨(some 44), .app false 1 1 41 (.tmp 43), none⟩,
    ⟨(some 3), .own 44, none⟩] []) (.region true [⟨(some 14), .own 3, none⟩,
    ⟨(some 15), .mov (.tmp 5), none⟩,
    ⟨(some 16), .bin .shr (.tmp 15) (.cst (.int .u64 4)), none⟩,
    ⟨(some 17), .idxs (.cst (.str [48, 49, 50, 51, 52, 53, 54, 55, 56, 57, 97, 98, 99, 100, 101, 102])) (.tmp 16), none⟩,
    ⟨(some 18), .mov (.tmp 5), none⟩,
    ⟨(some 19), .bin .and (.tmp 18) (.cst (.int .u8 15)), none⟩,
    ⟨(some 20), .idxs (.cst (.str [48, 49, 50, 51, 52, 53, 54, 55, 56, 57, 97, 98, 99, 100, 101, 102])) (.tmp 19), none⟩,
    ⟨(some 21), .bslice 1 [.int .u8 0, .int .u8 0, .int .u8 0, .int .u8 0] [(0, 1, .cst (.int .u8 92)), (1, 1, .cst (.int .u8 120)), (2, 1, .tmp 17), (3, 1, .tmp 20)], none⟩,
    ⟨(some 22), .app false 1 1 14 (.tmp 21), none⟩,
    ⟨(some 3), .own 22, none⟩] []))))))))
  (.region false [⟨(some 45), .bin .add (.tmp 10) (.cst (.int .i64 1)), none⟩,
    ⟨(some 10), .mov (.tmp 45), none⟩] [])))
def x53_l0 : XCode := x53_r0
/-- custos/value.quoted -/
def x53 : XFn := XFn.mk 50 [.tmp 2] (.seq (.region false [⟨(some 2), .mov (.cst (.str [])), none⟩] [])
  (.seq (.region false [⟨(some 6), .bslice 1 [.int .u8 0] [(0, 1, .cst (.int .u8 34))], none⟩,
    ⟨(some 3), .own 6, none⟩] [])
  (.seq (.seq (.region false [⟨(some 7), .mov (.tmp 0), none⟩,
    ⟨(some 8), .strb (.tmp 7), none⟩,
    ⟨(some 9), .lens false (.tmp 8), none⟩,
    ⟨(some 10), .mov (.cst (.int .i64 0)), none⟩] [])
  (.block 0 (.loop x53_l0)))
  (.seq (.region false [⟨(some 46), .own 3, none⟩,
    ⟨(some 47), .bslice 1 [.int .u8 0] [(0, 1, .cst (.int .u8 34))], none⟩,
    ⟨(some 48), .app false 1 1 46 (.tmp 47), none⟩,
    ⟨(some 49), .bstr (.tmp 48), none⟩,
    ⟨(some 2), .own 49, none⟩] [])
  .ret))))
def x64_r0 : XCode := .seq (.region false [⟨(some 16), .nexts (.tmp 15), none⟩,
    ⟨(some 17), .ext 16 0, none⟩] [])
  (.seq (.cond (.tmp 17) .skip (.exit 0))
  (.block 1 (.seq (.region false [⟨(some 18), .ext 16 1, none⟩,
    ⟨(some 19), .ext 16 2, none⟩,
    ⟨(some 9), .own 18, none⟩,
    ⟨(some 10), .own 19, none⟩] [])
  (.block 2 (.seq (.region false [⟨(some 21), .mov (.tmp 8), none⟩,
    ⟨(some 20), .own 21, none⟩] [])
  (.cond (.tmp 20) (.region false [⟨(some 8), .mov (.cst (.bool false)), none⟩] []) (.seq (.region false [⟨(some 23), .mov (.tmp 7), none⟩,
    ⟨(some 24), .mov (.tmp 23), none⟩,
    ⟨(some 25), .mov (.tmp 10), (some (24, true))⟩,
    ⟨(some 26), .bin .eql (.tmp 25) (.cst (.int .i32 92)), (some (24, true))⟩,
    ⟨(some 27), .pick (.tmp 24) (.tmp 26) (.cst (.bool false)), none⟩,
    ⟨(some 22), .own 27, none⟩] [])
  (.cond (.tmp 22) (.region false [⟨(some 8), .mov (.cst (.bool true)), none⟩] []) (.seq (.region false [⟨(some 29), .mov (.tmp 10), none⟩,
    ⟨(some 30), .bin .eql (.tmp 29) (.cst (.int .i32 34)), none⟩,
    ⟨(some 28), .own 30, none⟩] [])
  (.cond (.tmp 28) (.region false [⟨(some 31), .mov (.tmp 7), none⟩,
    ⟨(some 32), .not (.tmp 31), none⟩,
    ⟨(some 7), .own 32, none⟩] []) (.seq (.region false [⟨(some 34), .mov (.tmp 7), none⟩,
    ⟨(some 35), .not (.tmp 34), none⟩,
    ⟨(some 36), .mov (.tmp 35), none⟩,
    ⟨(some 37), .mov (.tmp 9), (some (36, true))⟩,
    ⟨(some 38), .bin .gtr (.tmp 37) (.cst (.int .i64 0)), (some (36, true))⟩,
    ⟨(some 39), .pick (.tmp 36) (.tmp 38) (.cst (.bool false)), none⟩,
    ⟨(some 40), .mov (.tmp 39), none⟩,
    ⟨(some 41), .mov (.tmp 10), (some (40, true))⟩,
    ⟨(some 42), .bin .eql (.tmp 41) (.cst (.int .i32 32)), (some (40, true))⟩,
    ⟨(some 43), .mov (.tmp 42), (some (40, true))⟩,
    ⟨(some 44), .mov (.tmp 10), (some (43, false))⟩,
    ⟨(some 45), .bin .eql (.tmp 44) (.cst (.int .i32 41)), (some (43, false))⟩,
    ⟨(some 46), .pick (.tmp 43) (.cst (.bool true)) (.tmp 45), (some (40, true))⟩,
    ⟨(some 47), .pick (.tmp 40) (.tmp 46) (.cst (.bool false)), none⟩,
    ⟨(some 33), .own 47, none⟩] [])
  (.cond (.tmp 33) (.seq (.region false [⟨(some 48), .own 5, none⟩,
    ⟨(some 49), .mov (.tmp 0), none⟩,
    ⟨(some 50), .mov (.tmp 6), none⟩,
    ⟨(some 51), .mov (.tmp 9), none⟩,
    ⟨(some 52), .sstr (.tmp 49) (some (.tmp 50)) (some (.tmp 51)), none⟩,
    ⟨(some 53), .bslice 1 [.str []] [(0, 1, .tmp 52)], none⟩,
    ⟨(some 54), .app false 1 16 48 (.tmp 53), none⟩,
    ⟨(some 5), .own 54, none⟩] [])
  (.seq (.region false [⟨(some 55), .mov (.tmp 9), none⟩,
    ⟨(some 56), .bin .add (.tmp 55) (.cst (.int .i64 1)), none⟩,
    ⟨(some 6), .own 56, none⟩] [])
  (.seq (.region false [⟨(some 57), .mov (.tmp 10), none⟩,
    ⟨(some 58), .bin .eql (.tmp 57) (.cst (.int .i32 41)), none⟩] [])
  (.cond (.tmp 58) (.seq (.seq (.region false [⟨(some 59), .mov (.tmp 5), none⟩,
    ⟨(some 60), .lens false (.tmp 59), none⟩,
    ⟨(some 61), .bin .eql (.tmp 60) (.cst (.int .i64 1)), none⟩,
    ⟨(some 62), .mov (.tmp 61), none⟩,
    ⟨(some 63), .mov (.tmp 5), (some (62, true))⟩,
    ⟨(some 64), .iaddr 1 (.tmp 63) (.cst (.int .i64 0)), (some (62, true))⟩,
    ⟨(some 65), .load (.tmp 64) 1 false, (some (62, true))⟩,
    ⟨(some 66), .bin .eql (.tmp 65) (.cst (.str [])), (some (62, true))⟩,
    ⟨(some 67), .pick (.tmp 62) (.tmp 66) (.cst (.bool false)), none⟩] [])
  (.cond (.tmp 67) (.region false [⟨(some 5), .mov (.cst .nilsl), none⟩] []) .skip))
  (.seq (.region true [⟨(some 68), .mov (.tmp 5), none⟩,
    ⟨(some 69), .mov (.tmp 0), none⟩,
    ⟨(some 70), .mov (.tmp 9), none⟩,
    ⟨(some 71), .bin .add (.tmp 70) (.cst (.int .i64 1)), none⟩,
    ⟨(some 72), .sstr (.tmp 69) (some (.tmp 71)) none, none⟩,
    ⟨(some 2), .own 68, none⟩,
    ⟨(some 3), .own 72, none⟩,
    ⟨(some 4), .mov (.cst (.bool true)), none⟩] [])
  .ret)) .skip)))) .skip))))))))))))
def x64_l0 : XCode := x64_r0
/-- custos/say.group -/
def x64 : XFn := XFn.mk 73 [.tmp 2, .tmp 3, .tmp 4] (.seq (.region false [⟨(some 2), .mov (.cst .nilsl), none⟩,
    ⟨(some 3), .mov (.cst (.str [])), none⟩,
    ⟨(some 4), .mov (.cst (.bool false)), none⟩] [])
  (.seq (.seq (.region false [⟨(some 11), .mov (.tmp 0), none⟩,
    ⟨(some 12), .callq 91 [.tmp 11, .cst (.str [40])], none⟩,
    ⟨(some 13), .not (.tmp 12), none⟩] [])
  (.cond (.tmp 13) (.seq (.region false [⟨(some 2), .mov (.cst .nilsl), none⟩,
    ⟨(some 3), .mov (.cst (.str [])), none⟩,
    ⟨(some 4), .mov (.cst (.bool false)), none⟩] [])
  .ret) .skip))
  (.seq (.region false [⟨(some 5), .mov (.cst .nilsl), none⟩] [])
  (.seq (.region false [⟨(some 6), .mov (.cst (.int .i64 1)), none⟩,
    ⟨(some 7), .mov (.cst (.bool false)), none⟩,
    ⟨(some 8), .mov (.cst (.bool false)), none⟩] [])
  (.seq (.seq (.region false [⟨(some 14), .mov (.tmp 0), none⟩,
    ⟨(some 15), .rngs (.tmp 14), none⟩] [])
  (.block 0 (.loop x64_l0)))
  (.seq (.region false [⟨(some 2), .mov (.cst .nilsl), none⟩,
    ⟨(some 3), .mov (.cst (.str [])), none⟩,
    ⟨(some 4), .mov (.cst (.bool false)), none⟩] [])
  .ret))))))
/-- strings.TrimPrefix -/
def x65 : XFn := XFn.mk 8 [.tmp 4] (.seq (.region false [⟨(some 4), .mov (.cst (.str [])), none⟩] [])
  (.seq (.region false [⟨(some 5), .mov (.tmp 0), none⟩,
    ⟨(some 6), .mov (.tmp 1), none⟩,
    ⟨(some 7), .callq 92 [.tmp 5, .tmp 6], none⟩,
    ⟨(some 4), .own 7, none⟩] [])
  .ret))
/-- custos/value.Parse -/
def x66 : XFn := XFn.mk 63 [.cell 2 4 true, .tmp 3] (.seq (.region false [⟨(some 2), .alloc [.int .i64 0, .int .i64 0, .int .i64 0, .str []], none⟩,
    ⟨(some 3), .mov (.cst (.int .i64 0)), none⟩] [])
  (.seq (.seq (.region false [⟨(some 11), .mov (.tmp 0), none⟩,
    ⟨(some 12), .callq 91 [.tmp 11, .cst (.str [34])], none⟩] [])
  (.cond (.tmp 12) (.seq (.region false [⟨(some 13), .mov (.tmp 0), none⟩,
    ⟨(some 14), .callq 93 [.tmp 13], none⟩,
    ⟨(some 4), .own 14, none⟩] [])
  (.seq (.block 0 (.seq (.region false [⟨(some 16), .mov (.tmp 4), none⟩,
    ⟨(some 17), .callq 53 [.tmp 16], none⟩,
    ⟨(some 18), .mov (.tmp 0), none⟩,
    ⟨(some 19), .bin .neq (.tmp 17) (.tmp 18), none⟩,
    ⟨(some 15), .own 19, none⟩] [])
  (.cond (.tmp 15) (.seq (.region false [⟨(some 20), .build [.int .i64 0, .int .i64 0, .int .i64 0, .str []] [], none⟩,
    ⟨none, .store (.tmp 2) (.tmp 20) 4, none⟩,
    ⟨(some 3), .mov (.cst (.int .i64 70)), none⟩] [])
  .ret) (.seq (.region false [⟨(some 22), .mov (.tmp 4), none⟩,
    ⟨(some 23), .lens true (.tmp 22), none⟩,
    ⟨(some 24), .bin .gtr (.tmp 23) (.cst (.int .i64 64)), none⟩,
    ⟨(some 21), .own 24, none⟩] [])
  (.cond (.tmp 21) (.seq (.region false [⟨(some 25), .build [.int .i64 0, .int .i64 0, .int .i64 0, .str []] [], none⟩,
    ⟨none, .store (.tmp 2) (.tmp 25) 4, none⟩,
    ⟨(some 3), .mov (.cst (.int .i64 2)), none⟩] [])
  .ret) .skip)))))
  (.seq (.region false [⟨(some 26), .mov (.tmp 4), none⟩,
    ⟨(some 27), .build [.int .i64 0, .int .i64 0, .int .i64 0, .str []] [(0, 1, .cst (.int .i64 3)), (3, 1, .tmp 26)], none⟩,
    ⟨none, .store (.tmp 2) (.tmp 27) 4, none⟩,
    ⟨(some 3), .mov (.cst (.int .i64 0)), none⟩] [])
  .ret))) .skip))
  (.seq (.region false [⟨(some 28), .build [.int .i64 0, .int .i64 0, .int .i64 0, .str []] [(0, 1, .cst (.int .i64 1))], none⟩,
    ⟨(some 5), .alloc [.int .i64 0, .int .i64 0, .int .i64 0, .str []], none⟩,
    ⟨none, .store (.tmp 5) (.tmp 28) 4, none⟩] [])
  (.seq (.region false [⟨(some 30), .mov (.tmp 0), none⟩,
    ⟨(some 31), .callq 41 [.tmp 30, .cst (.str [47])], none⟩,
    ⟨(some 29), .mov (.tmp 31), none⟩,
    ⟨(some 32), .ext 29 0, none⟩,
    ⟨(some 33), .ext 29 1, none⟩,
    ⟨(some 34), .ext 29 2, none⟩,
    ⟨(some 6), .own 32, none⟩,
    ⟨(some 7), .own 33, none⟩,
    ⟨(some 8), .own 34, none⟩] [])
  (.seq (.region false [⟨(some 36), .mov (.tmp 6), none⟩,
    ⟨(some 37), .prim 1152 94 [.tmp 36, .cst (.int .i64 10), .cst (.int .i64 64)], none⟩,
    ⟨(some 35), .mov (.tmp 37), none⟩,
    ⟨(some 38), .ext 35 0, none⟩,
    ⟨(some 39), .ext 35 1, none⟩,
    ⟨(some 40), .faddr (.tmp 5) 1, none⟩,
    ⟨none, .store (.tmp 40) (.tmp 38) 1, none⟩] [])
  (.seq (.seq (.region false [⟨(some 41), .mov (.tmp 8), none⟩] [])
  (.cond (.tmp 41) (.seq (.region false [⟨(some 42), .faddr (.tmp 5) 0, none⟩,
    ⟨none, .store (.tmp 42) (.cst (.int .i64 2)) 1, none⟩] [])
  (.region false [⟨(some 44), .mov (.tmp 7), none⟩,
    ⟨(some 45), .prim 1152 94 [.tmp 44, .cst (.int .i64 10), .cst (.int .i64 64)], none⟩,
    ⟨(some 43), .mov (.tmp 45), none⟩,
    ⟨(some 46), .ext 43 0, none⟩,
    ⟨(some 47), .ext 43 1, none⟩,
    ⟨(some 48), .faddr (.tmp 5) 2, none⟩,
    ⟨none, .store (.tmp 48) (.tmp 46) 1, none⟩] [])) .skip))
  (.seq (.seq (.region false [⟨(some 50), .load (.tmp 5) 4 true, none⟩,
    ⟨(some 51), .callq 26 [.tmp 50], none⟩,
    ⟨(some 49), .mov (.tmp 51), none⟩,
    ⟨(some 52), .ext 49 0, none⟩,
    ⟨(some 53), .ext 49 1, none⟩,
    ⟨(some 9), .own 52, none⟩,
    ⟨(some 10), .own 53, none⟩] [])
  (.seq (.region false [⟨(some 54), .mov (.tmp 10), none⟩,
    ⟨(some 55), .bin .neq (.tmp 54) (.cst (.int .i64 0)), none⟩,
    ⟨(some 56), .mov (.tmp 55), none⟩,
    ⟨(some 57), .mov (.tmp 9), (some (56, false))⟩,
    ⟨(some 58), .mov (.tmp 0), (some (56, false))⟩,
    ⟨(some 59), .bin .neq (.tmp 57) (.tmp 58), (some (56, false))⟩,
    ⟨(some 60), .pick (.tmp 56) (.cst (.bool true)) (.tmp 59), none⟩] [])
  (.cond (.tmp 60) (.seq (.region false [⟨(some 61), .build [.int .i64 0, .int .i64 0, .int .i64 0, .str []] [], none⟩,
    ⟨none, .store (.tmp 2) (.tmp 61) 4, none⟩,
    ⟨(some 3), .mov (.cst (.int .i64 70)), none⟩] [])
  .ret) .skip)))
  (.seq (.region false [⟨(some 62), .load (.tmp 5) 4 true, none⟩,
    ⟨none, .store (.tmp 2) (.tmp 62) 4, none⟩,
    ⟨(some 3), .mov (.cst (.int .i64 0)), none⟩] [])
  .ret))))))))
/-- internal/stringslite.Cut -/
def x72 : XFn := XFn.mk 23 [.tmp 4, .tmp 5, .tmp 6] (.seq (.region false [⟨(some 4), .mov (.cst (.str [])), none⟩,
    ⟨(some 5), .mov (.cst (.str [])), none⟩,
    ⟨(some 6), .mov (.cst (.bool false)), none⟩] [])
  (.seq (.seq (.region false [⟨(some 8), .mov (.tmp 0), none⟩,
    ⟨(some 9), .mov (.tmp 1), none⟩,
    ⟨(some 10), .prim 12 96 [.tmp 8, .tmp 9], none⟩,
    ⟨(some 7), .own 10, none⟩] [])
  (.seq (.region false [⟨(some 11), .mov (.tmp 7), none⟩,
    ⟨(some 12), .bin .geq (.tmp 11) (.cst (.int .i64 0)), none⟩] [])
  (.cond (.tmp 12) (.seq (.region true [⟨(some 13), .mov (.tmp 0), none⟩,
    ⟨(some 14), .mov (.tmp 7), none⟩,
    ⟨(some 15), .sstr (.tmp 13) none (some (.tmp 14)), none⟩,
    ⟨(some 16), .mov (.tmp 0), none⟩,
    ⟨(some 17), .mov (.tmp 7), none⟩,
    ⟨(some 18), .mov (.tmp 1), none⟩,
    ⟨(some 19), .lens true (.tmp 18), none⟩,
    ⟨(some 20), .bin .add (.tmp 17) (.tmp 19), none⟩,
    ⟨(some 21), .sstr (.tmp 16) (some (.tmp 20)) none, none⟩,
    ⟨(some 4), .own 15, none⟩,
    ⟨(some 5), .own 21, none⟩,
    ⟨(some 6), .mov (.cst (.bool true)), none⟩] [])
  .ret) .skip)))
  (.seq (.region false [⟨(some 22), .mov (.tmp 0), none⟩,
    ⟨(some 4), .own 22, none⟩,
    ⟨(some 5), .mov (.cst (.str [])), none⟩,
    ⟨(some 6), .mov (.cst (.bool false)), none⟩] [])
  .ret)))
/-- custos/custosref02.Same -/
def x76 : XFn := XFn.mk 31 [.tmp 4] (.seq (.region false [⟨(some 2), .box (.tmp 0) 4, none⟩,
    ⟨(some 3), .box (.tmp 1) 4, none⟩,
    ⟨(some 4), .mov (.cst (.bool false)), none⟩] [])
  (.seq (.region false [⟨(some 5), .faddr (.tmp 2) 0, none⟩,
    ⟨(some 6), .load (.tmp 5) 1 false, none⟩,
    ⟨(some 7), .faddr (.tmp 3) 0, none⟩,
    ⟨(some 8), .load (.tmp 7) 1 false, none⟩,
    ⟨(some 9), .bin .eql (.tmp 6) (.tmp 8), none⟩,
    ⟨(some 10), .mov (.tmp 9), none⟩,
    ⟨(some 11), .faddr (.tmp 2) 1, (some (10, true))⟩,
    ⟨(some 12), .load (.tmp 11) 1 false, (some (10, true))⟩,
    ⟨(some 13), .faddr (.tmp 3) 1, (some (10, true))⟩,
    ⟨(some 14), .load (.tmp 13) 1 false, (some (10, true))⟩,
    ⟨(some 15), .bin .eql (.tmp 12) (.tmp 14), (some (10, true))⟩,
    ⟨(some 16), .pick (.tmp 10) (.tmp 15) (.cst (.bool false)), none⟩,
    ⟨(some 17), .mov (.tmp 16), none⟩,
    ⟨(some 18), .faddr (.tmp 2) 2, (some (17, true))⟩,
    ⟨(some 19), .load (.tmp 18) 1 false, (some (17, true))⟩,
    ⟨(some 20), .faddr (.tmp 3) 2, (some (17, true))⟩,
    ⟨(some 21), .load (.tmp 20) 1 false, (some (17, true))⟩,
    ⟨(some 22), .bin .eql (.tmp 19) (.tmp 21), (some (17, true))⟩,
    ⟨(some 23), .pick (.tmp 17) (.tmp 22) (.cst (.bool false)), none⟩,
    ⟨(some 24), .mov (.tmp 23), none⟩,
    ⟨(some 25), .faddr (.tmp 2) 3, (some (24, true))⟩,
    ⟨(some 26), .load (.tmp 25) 1 false, (some (24, true))⟩,
    ⟨(some 27), .faddr (.tmp 3) 3, (some (24, true))⟩,
    ⟨(some 28), .load (.tmp 27) 1 false, (some (24, true))⟩,
    ⟨(some 29), .bin .eql (.tmp 26) (.tmp 28), (some (24, true))⟩,
    ⟨(some 30), .pick (.tmp 24) (.tmp 29) (.cst (.bool false)), none⟩,
    ⟨(some 4), .own 30, none⟩] [])
  .ret))
/-- custos/value.Compare -/
def x77 : XFn := XFn.mk 48 [.tmp 4] (.seq (.region false [⟨(some 2), .box (.tmp 0) 4, none⟩,
    ⟨(some 3), .box (.tmp 1) 4, none⟩,
    ⟨(some 4), .mov (.cst (.int .i64 0)), none⟩] [])
  (.seq (.block 0 (.seq (.region false [⟨(some 6), .load (.tmp 2) 4 true, none⟩,
    ⟨(some 7), .callq 52 [.tmp 6], none⟩,
    ⟨(some 8), .bin .neq (.tmp 7) (.cst (.int .i64 0)), none⟩,
    ⟨(some 9), .mov (.tmp 8), none⟩,
    ⟨(some 10), .load (.tmp 3) 4 true, (some (9, false))⟩,
    ⟨(some 11), .callq 52 [.tmp 10], (some (9, false))⟩,
    ⟨(some 12), .bin .neq (.tmp 11) (.cst (.int .i64 0)), (some (9, false))⟩,
    ⟨(some 13), .pick (.tmp 9) (.cst (.bool true)) (.tmp 12), none⟩,
    ⟨(some 5), .own 13, none⟩] [])
  (.cond (.tmp 5) (.seq (.region false [⟨(some 4), .mov (.cst (.int .i64 0)), none⟩] [])
  .ret) (.seq (.region false [⟨(some 15), .faddr (.tmp 2) 0, none⟩,
    ⟨(some 16), .load (.tmp 15) 1 false, none⟩,
    ⟨(some 17), .faddr (.tmp 3) 0, none⟩,
    ⟨(some 18), .load (.tmp 17) 1 false, none⟩,
    ⟨(some 19), .bin .neq (.tmp 16) (.tmp 18), none⟩,
    ⟨(some 14), .own 19, none⟩] [])
  (.cond (.tmp 14) (.seq (.region false [⟨(some 20), .faddr (.tmp 2) 0, none⟩,
    ⟨(some 21), .load (.tmp 20) 1 false, none⟩,
    ⟨(some 22), .faddr (.tmp 3) 0, none⟩,
    ⟨(some 23), .load (.tmp 22) 1 false, none⟩,
    ⟨(some 24), .callq 78 [.tmp 21, .tmp 23], none⟩,
    ⟨(some 4), .own 24, none⟩] [])
  .ret) (.seq (.region false [⟨(some 26), .faddr (.tmp 2) 0, none⟩,
    ⟨(some 27), .load (.tmp 26) 1 false, none⟩,
    ⟨(some 28), .bin .eql (.tmp 27) (.cst (.int .i64 1)), none⟩,
    ⟨(some 25), .own 28, none⟩] [])
  (.cond (.tmp 25) (.seq (.region false [⟨(some 29), .faddr (.tmp 2) 1, none⟩,
    ⟨(some 30), .load (.tmp 29) 1 false, none⟩,
    ⟨(some 31), .faddr (.tmp 3) 1, none⟩,
    ⟨(some 32), .load (.tmp 31) 1 false, none⟩,
    ⟨(some 33), .callq 101 [.tmp 30, .tmp 32], none⟩,
    ⟨(some 4), .own 33, none⟩] [])
  .ret) (.seq (.region false [⟨(some 35), .faddr (.tmp 2) 0, none⟩,
    ⟨(some 36), .load (.tmp 35) 1 false, none⟩,
    ⟨(some 37), .bin .eql (.tmp 36) (.cst (.int .i64 2)), none⟩,
    ⟨(some 34), .own 37, none⟩] [])
  (.cond (.tmp 34) (.seq (.region true [⟨(some 38), .load (.tmp 2) 4 true, none⟩,
    ⟨(some 39), .callq 81 [.tmp 38], none⟩,
    ⟨(some 40), .load (.tmp 3) 4 true, none⟩,
    ⟨(some 41), .callq 81 [.tmp 40], none⟩,
    ⟨(some 42), .callq 102 [.tmp 39, .tmp 41], none⟩,
    ⟨(some 4), .own 42, none⟩] [])
  .ret) .skip)))))))))
  (.seq (.region false [⟨(some 43), .faddr (.tmp 2) 3, none⟩,
    ⟨(some 44), .load (.tmp 43) 1 false, none⟩,
    ⟨(some 45), .faddr (.tmp 3) 3, none⟩,
    ⟨(some 46), .load (.tmp 45) 1 false, none⟩,
    ⟨(some 47), .callq 103 [.tmp 44, .tmp 46], none⟩,
    ⟨(some 4), .own 47, none⟩] [])
  .ret)))
/-- cmp.Compare[int] -/
def x78 : XFn := XFn.mk 20 [.tmp 4] (.seq (.region false [⟨(some 4), .mov (.cst (.int .i64 0)), none⟩] [])
  (.seq (.region false [⟨(some 7), .mov (.tmp 0), none⟩,
    ⟨(some 8), .callq 104 [.tmp 7], none⟩,
    ⟨(some 5), .own 8, none⟩] [])
  (.seq (.region false [⟨(some 9), .mov (.tmp 1), none⟩,
    ⟨(some 10), .callq 104 [.tmp 9], none⟩,
    ⟨(some 6), .own 10, none⟩] [])
  (.seq (.seq (.region false [⟨(some 11), .mov (.tmp 5), none⟩] [])
  (.cond (.tmp 11) (.seq (.seq (.region false [⟨(some 12), .mov (.tmp 6), none⟩] [])
  (.cond (.tmp 12) (.seq (.region false [⟨(some 4), .mov (.cst (.int .i64 0)), none⟩] [])
  .ret) .skip))
  (.seq (.region false [⟨(some 4), .mov (.cst (.int .i64 (-1))), none⟩] [])
  .ret)) .skip))
  (.seq (.seq (.region false [⟨(some 13), .mov (.tmp 6), none⟩] [])
  (.cond (.tmp 13) (.seq (.region false [⟨(some 4), .mov (.cst (.int .i64 1)), none⟩] [])
  .ret) .skip))
  (.seq (.seq (.region false [⟨(some 14), .mov (.tmp 0), none⟩,
    ⟨(some 15), .mov (.tmp 1), none⟩,
    ⟨(some 16), .bin .lss (.tmp 14) (.tmp 15), none⟩] [])
  (.cond (.tmp 16) (.seq (.region false [⟨(some 4), .mov (.cst (.int .i64 (-1))), none⟩] [])
  .ret) .skip))
  (.seq (.seq (.region false [⟨(some 17), .mov (.tmp 0), none⟩,
    ⟨(some 18), .mov (.tmp 1), none⟩,
    ⟨(some 19), .bin .gtr (.tmp 17) (.tmp 18), none⟩] [])
  (.cond (.tmp 19) (.seq (.region false [⟨(some 4), .mov (.cst (.int .i64 1)), none⟩] [])
  .ret) .skip))
  (.seq (.region false [⟨(some 4), .mov (.cst (.int .i64 0)), none⟩] [])
  .ret))))))))
/-- custos/rat.Of -/
def x80 : XFn := XFn.mk 64 [.cell 4 2 true, .tmp 5] (.seq (.region false [⟨(some 4), .alloc [.int .i64 0, .int .i64 0], none⟩,
    ⟨(some 5), .mov (.cst (.int .i64 0)), none⟩] [])
  (.seq (.seq (.region false [⟨(some 10), .mov (.tmp 1), none⟩,
    ⟨(some 11), .bin .eql (.tmp 10) (.cst (.int .i64 0)), none⟩] [])
  (.cond (.tmp 11) (.seq (.region false [⟨(some 12), .build [.int .i64 0, .int .i64 0] [], none⟩,
    ⟨none, .store (.tmp 4) (.tmp 12) 2, none⟩,
    ⟨(some 5), .mov (.cst (.int .i64 11)), none⟩] [])
  .ret) .skip))
  (.seq (.region false [⟨(some 13), .mov (.tmp 0), none⟩,
    ⟨(some 14), .callq 107 [.tmp 13], none⟩,
    ⟨(some 15), .mov (.tmp 1), none⟩,
    ⟨(some 16), .callq 107 [.tmp 15], none⟩,
    ⟨(some 17), .callq 106 [.tmp 14, .tmp 16], none⟩,
    ⟨(some 6), .own 17, none⟩] [])
  (.seq (.region true [⟨(some 18), .mov (.tmp 0), none⟩,
    ⟨(some 19), .callq 107 [.tmp 18], none⟩,
    ⟨(some 20), .mov (.tmp 6), none⟩,
    ⟨(some 21), .bin .quo (.tmp 19) (.tmp 20), none⟩,
    ⟨(some 22), .mov (.tmp 1), none⟩,
    ⟨(some 23), .callq 107 [.tmp 22], none⟩,
    ⟨(some 24), .mov (.tmp 6), none⟩,
    ⟨(some 25), .bin .quo (.tmp 23) (.tmp 24), none⟩,
    ⟨(some 7), .own 21, none⟩,
    ⟨(some 8), .own 25, none⟩] [])
  (.seq (.region false [⟨(some 26), .mov (.tmp 0), none⟩,
    ⟨(some 27), .bin .neq (.tmp 26) (.cst (.int .i64 0)), none⟩,
    ⟨(some 28), .mov (.tmp 27), none⟩,
    ⟨(some 29), .mov (.tmp 0), (some (28, true))⟩,
    ⟨(some 30), .bin .lss (.tmp 29) (.cst (.int .i64 0)), (some (28, true))⟩,
    ⟨(some 31), .mov (.tmp 1), (some (28, true))⟩,
    ⟨(some 32), .bin .lss (.tmp 31) (.cst (.int .i64 0)), (some (28, true))⟩,
    ⟨(some 33), .beq true (.tmp 30) (.tmp 32), (some (28, true))⟩,
    ⟨(some 34), .pick (.tmp 28) (.tmp 33) (.cst (.bool false)), none⟩,
    ⟨(some 9), .own 34, none⟩] [])
  (.seq (.seq (.region false [⟨(some 35), .mov (.tmp 8), none⟩,
    ⟨(some 36), .bin .gtr (.tmp 35) (.cst (.int .u64 9223372036854775807)), none⟩,
    ⟨(some 37), .mov (.tmp 36), none⟩,
    ⟨(some 38), .mov (.tmp 7), (some (37, false))⟩,
    ⟨(some 39), .bin .gtr (.tmp 38) (.cst (.int .u64 9223372036854775808)), (some (37, false))⟩,
    ⟨(some 40), .pick (.tmp 37) (.cst (.bool true)) (.tmp 39), none⟩,
    ⟨(some 41), .mov (.tmp 40), none⟩,
    ⟨(some 42), .mov (.tmp 7), (some (41, false))⟩,
    ⟨(some 43), .bin .eql (.tmp 42) (.cst (.int .u64 9223372036854775808)), (some (41, false))⟩,
    ⟨(some 44), .mov (.tmp 43), (some (41, false))⟩,
    ⟨(some 45), .mov (.tmp 9), (some (44, true))⟩,
    ⟨(some 46), .not (.tmp 45), (some (44, true))⟩,
    ⟨(some 47), .pick (.tmp 44) (.tmp 46) (.cst (.bool false)), (some (41, false))⟩,
    ⟨(some 48), .pick (.tmp 41) (.cst (.bool true)) (.tmp 47), none⟩] [])
  (.cond (.tmp 48) (.seq (.region false [⟨(some 49), .build [.int .i64 0, .int .i64 0] [], none⟩,
    ⟨none, .store (.tmp 4) (.tmp 49) 2, none⟩,
    ⟨(some 5), .mov (.cst (.int .i64 10)), none⟩] [])
  .ret) .skip))
  (.seq (.seq (.region false [⟨(some 50), .mov (.tmp 9), none⟩] [])
  (.cond (.tmp 50) (.seq (.region false [⟨(some 51), .mov (.tmp 7), none⟩,
    ⟨(some 52), .bin .sub (.tmp 51) (.cst (.int .u64 1)), none⟩,
    ⟨(some 53), .conv .i64 (.tmp 52), none⟩,
    ⟨(some 54), .neg (.tmp 53), none⟩,
    ⟨(some 55), .bin .sub (.tmp 54) (.cst (.int .i64 1)), none⟩,
    ⟨(some 56), .mov (.tmp 8), none⟩,
    ⟨(some 57), .conv .i64 (.tmp 56), none⟩,
    ⟨(some 58), .build [.int .i64 0, .int .i64 0] [(0, 1, .tmp 55), (1, 1, .tmp 57)], none⟩,
    ⟨none, .store (.tmp 4) (.tmp 58) 2, none⟩,
    ⟨(some 5), .mov (.cst (.int .i64 0)), none⟩] [])
  .ret) .skip))
  (.seq (.region false [⟨(some 59), .mov (.tmp 7), none⟩,
    ⟨(some 60), .conv .i64 (.tmp 59), none⟩,
    ⟨(some 61), .mov (.tmp 8), none⟩,
    ⟨(some 62), .conv .i64 (.tmp 61), none⟩,
    ⟨(some 63), .build [.int .i64 0, .int .i64 0] [(0, 1, .tmp 60), (1, 1, .tmp 62)], none⟩,
    ⟨none, .store (.tmp 4) (.tmp 63) 2, none⟩,
    ⟨(some 5), .mov (.cst (.int .i64 0)), none⟩] [])
  .ret))))))))
/-- custos/value.fraction -/
def x81 : XFn := XFn.mk 8 [.cell 2 2 true] (.seq (.region false [⟨(some 1), .box (.tmp 0) 4, none⟩,
    ⟨(some 2), .alloc [.int .i64 0, .int .i64 0], none⟩] [])
  (.seq (.region false [⟨(some 3), .faddr (.tmp 1) 1, none⟩,
    ⟨(some 4), .load (.tmp 3) 1 false, none⟩,
    ⟨(some 5), .faddr (.tmp 1) 2, none⟩,
    ⟨(some 6), .load (.tmp 5) 1 false, none⟩,
    ⟨(some 7), .build [.int .i64 0, .int .i64 0] [(0, 1, .tmp 4), (1, 1, .tmp 6)], none⟩,
    ⟨none, .store (.tmp 2) (.tmp 7) 2, none⟩] [])
  .ret))
/-- strings.HasPrefix -/
def x91 : XFn := XFn.mk 8 [.tmp 4] (.seq (.region false [⟨(some 4), .mov (.cst (.bool false)), none⟩] [])
  (.seq (.region false [⟨(some 5), .mov (.tmp 0), none⟩,
    ⟨(some 6), .mov (.tmp 1), none⟩,
    ⟨(some 7), .callq 116 [.tmp 5, .tmp 6], none⟩,
    ⟨(some 4), .own 7, none⟩] [])
  .ret))
/-- internal/stringslite.TrimPrefix -/
def x92 : XFn := XFn.mk 13 [.tmp 4] (.seq (.region false [⟨(some 4), .mov (.cst (.str [])), none⟩] [])
  (.seq (.seq (.region false [⟨(some 5), .mov (.tmp 0), none⟩,
    ⟨(some 6), .mov (.tmp 1), none⟩,
    ⟨(some 7), .callq 116 [.tmp 5, .tmp 6], none⟩] [])
  (.cond (.tmp 7) (.seq (.region false [⟨(some 8), .mov (.tmp 0), none⟩,
    ⟨(some 9), .mov (.tmp 1), none⟩,
    ⟨(some 10), .lens true (.tmp 9), none⟩,
    ⟨(some 11), .sstr (.tmp 8) (some (.tmp 10)) none, none⟩,
    ⟨(some 4), .own 11, none⟩] [])
  .ret) .skip))
  (.seq (.region false [⟨(some 12), .mov (.tmp 0), none⟩,
    ⟨(some 4), .own 12, none⟩] [])
  .ret)))
def x93_r0 : XCode := .seq (.seq (.region false [⟨(some 11), .mov (.tmp 0), none⟩,
    ⟨(some 12), .lens true (.tmp 11), none⟩,
    ⟨(some 13), .bin .gtr (.tmp 12) (.cst (.int .i64 0)), none⟩] [])
  (.cond (.tmp 13) .skip (.exit 0)))
  (.block 1 (.seq (.region false [⟨(some 14), .mov (.tmp 0), none⟩,
    ⟨(some 15), .idxs (.tmp 14) (.cst (.int .i64 0)), none⟩,
    ⟨(some 4), .own 15, none⟩,
    ⟨(some 5), .mov (.cst (.int .i64 1)), none⟩] [])
  (.seq (.seq (.region false [⟨(some 16), .mov (.tmp 4), none⟩,
    ⟨(some 17), .bin .eql (.tmp 16) (.cst (.int .u8 92)), none⟩,
    ⟨(some 18), .mov (.tmp 17), none⟩,
    ⟨(some 19), .mov (.tmp 0), (some (18, true))⟩,
    ⟨(some 20), .lens true (.tmp 19), (some (18, true))⟩,
    ⟨(some 21), .bin .gtr (.tmp 20) (.cst (.int .i64 1)), (some (18, true))⟩,
    ⟨(some 22), .pick (.tmp 18) (.tmp 21) (.cst (.bool false)), none⟩] [])
  (.cond (.tmp 22) (.seq (.region false [⟨(some 23), .mov (.tmp 0), none⟩,
    ⟨(some 24), .idxs (.tmp 23) (.cst (.int .i64 1)), none⟩,
    ⟨(some 4), .own 24, none⟩,
    ⟨(some 5), .mov (.cst (.int .i64 2)), none⟩] [])
  (.seq (.region false [⟨(some 25), .mov (.tmp 4), none⟩,
    ⟨(some 26), .bin .eql (.tmp 25) (.cst (.int .u8 120)), none⟩,
    ⟨(some 27), .mov (.tmp 26), none⟩,
    ⟨(some 28), .mov (.tmp 0), (some (27, true))⟩,
    ⟨(some 29), .lens true (.tmp 28), (some (27, true))⟩,
    ⟨(some 30), .bin .gtr (.tmp 29) (.cst (.int .i64 3)), (some (27, true))⟩,
    ⟨(some 31), .pick (.tmp 27) (.tmp 30) (.cst (.bool false)), none⟩] [])
  (.cond (.tmp 31) (.seq (.region false [⟨(some 33), .mov (.tmp 0), none⟩,
    ⟨(some 34), .sstr (.tmp 33) (some (.cst (.int .i64 2))) (some (.cst (.int .i64 4))), none⟩,
    ⟨(some 35), .callq 118 [.tmp 34, .cst (.int .i64 16), .cst (.int .i64 8)], none⟩,
    ⟨(some 32), .mov (.tmp 35), none⟩,
    ⟨(some 36), .ext 32 0, none⟩,
    ⟨(some 37), .ext 32 1, none⟩,
    ⟨(some 6), .own 36, none⟩,
    ⟨(some 7), .own 37, none⟩] [])
  (.region false [⟨(some 38), .mov (.tmp 6), none⟩,
    ⟨(some 39), .conv .u8 (.tmp 38), none⟩,
    ⟨(some 4), .own 39, none⟩,
    ⟨(some 5), .mov (.cst (.int .i64 4)), none⟩] [])) .skip))) .skip))
  (.seq (.region false [⟨(some 40), .own 3, none⟩,
    ⟨(some 41), .mov (.tmp 4), none⟩,
    ⟨(some 42), .bslice 1 [.int .u8 0] [(0, 1, .tmp 41)], none⟩,
    ⟨(some 43), .app false 1 1 40 (.tmp 42), none⟩,
    ⟨(some 3), .own 43, none⟩] [])
  (.region false [⟨(some 44), .mov (.tmp 0), none⟩,
    ⟨(some 45), .mov (.tmp 5), none⟩,
    ⟨(some 46), .sstr (.tmp 44) (some (.tmp 45)) none, none⟩,
    ⟨(some 0), .own 46, none⟩] [])))))
def x93_l0 : XCode := x93_r0
/-- custos/value.unquoted -/
def x93 : XFn := XFn.mk 49 [.tmp 2] (.seq (.region false [⟨(some 2), .mov (.cst (.str [])), none⟩] [])
  (.seq (.region false [⟨(some 8), .mov (.tmp 0), none⟩,
    ⟨(some 9), .sstr (.tmp 8) (some (.cst (.int .i64 1))) none, none⟩,
    ⟨(some 10), .callq 117 [.tmp 9, .cst (.str [34])], none⟩,
    ⟨(some 0), .own 10, none⟩] [])
  (.seq (.region false [⟨(some 3), .mov (.cst .nilsl), none⟩] [])
  (.seq (.block 0 (.loop x93_l0))
  (.seq (.region false [⟨(some 47), .mov (.tmp 3), none⟩,
    ⟨(some 48), .bstr (.tmp 47), none⟩,
    ⟨(some 2), .own 48, none⟩] [])
  .ret)))))
/-- strconv.toError -/
def x100 : XFn := XFn.mk 43 [.tmp 10] (.seq (.region false [⟨(some 10), .mov (.cst .nilif), none⟩] [])
  (.seq (.seq (.region false [⟨(some 11), .mov (.tmp 4), none⟩] [])
  (.block 0 (.seq (.region false [⟨(some 13), .mkif 151 (.cst (.int .i64 2)), none⟩,
    ⟨(some 14), .eqif false [6, 29, 151, 206, 207, 209, 210] (.tmp 11) (.tmp 13), none⟩,
    ⟨(some 12), .own 14, none⟩] [])
  (.cond (.tmp 12) (.seq (.region false [⟨(some 15), .mov (.tmp 0), none⟩,
    ⟨(some 16), .mov (.tmp 1), none⟩,
    ⟨(some 17), .callq 125 [.tmp 15, .tmp 16], none⟩,
    ⟨(some 18), .mkif 152 (.tmp 17), none⟩,
    ⟨(some 10), .own 18, none⟩] [])
  .ret) (.seq (.region false [⟨(some 20), .mkif 151 (.cst (.int .i64 1)), none⟩,
    ⟨(some 21), .eqif false [6, 29, 151, 206, 207, 209, 210] (.tmp 11) (.tmp 20), none⟩,
    ⟨(some 19), .own 21, none⟩] [])
  (.cond (.tmp 19) (.seq (.region false [⟨(some 22), .mov (.tmp 0), none⟩,
    ⟨(some 23), .mov (.tmp 1), none⟩,
    ⟨(some 24), .callq 126 [.tmp 22, .tmp 23], none⟩,
    ⟨(some 25), .mkif 152 (.tmp 24), none⟩,
    ⟨(some 10), .own 25, none⟩] [])
  .ret) (.seq (.region false [⟨(some 27), .mkif 151 (.cst (.int .i64 3)), none⟩,
    ⟨(some 28), .eqif false [6, 29, 151, 206, 207, 209, 210] (.tmp 11) (.tmp 27), none⟩,
    ⟨(some 26), .own 28, none⟩] [])
  (.cond (.tmp 26) (.seq (.region false [⟨(some 29), .mov (.tmp 0), none⟩,
    ⟨(some 30), .mov (.tmp 1), none⟩,
    ⟨(some 31), .mov (.tmp 2), none⟩,
    ⟨(some 32), .callq 127 [.tmp 29, .tmp 30, .tmp 31], none⟩,
    ⟨(some 33), .mkif 152 (.tmp 32), none⟩,
    ⟨(some 10), .own 33, none⟩] [])
  .ret) (.seq (.region false [⟨(some 35), .mkif 151 (.cst (.int .i64 4)), none⟩,
    ⟨(some 36), .eqif false [6, 29, 151, 206, 207, 209, 210] (.tmp 11) (.tmp 35), none⟩,
    ⟨(some 34), .own 36, none⟩] [])
  (.cond (.tmp 34) (.seq (.region false [⟨(some 37), .mov (.tmp 0), none⟩,
    ⟨(some 38), .mov (.tmp 1), none⟩,
    ⟨(some 39), .mov (.tmp 3), none⟩,
    ⟨(some 40), .callq 128 [.tmp 37, .tmp 38, .tmp 39], none⟩,
    ⟨(some 41), .mkif 152 (.tmp 40), none⟩,
    ⟨(some 10), .own 41, none⟩] [])
  .ret) .skip))))))))))
  (.seq (.region false [⟨(some 42), .mov (.tmp 4), none⟩,
    ⟨(some 10), .own 42, none⟩] [])
  .ret)))
/-- cmp.Compare[int64] -/
def x101 : XFn := XFn.mk 20 [.tmp 4] (.seq (.region false [⟨(some 4), .mov (.cst (.int .i64 0)), none⟩] [])
  (.seq (.region false [⟨(some 7), .mov (.tmp 0), none⟩,
    ⟨(some 8), .callq 129 [.tmp 7], none⟩,
    ⟨(some 5), .own 8, none⟩] [])
  (.seq (.region false [⟨(some 9), .mov (.tmp 1), none⟩,
    ⟨(some 10), .callq 129 [.tmp 9], none⟩,
    ⟨(some 6), .own 10, none⟩] [])
  (.seq (.seq (.region false [⟨(some 11), .mov (.tmp 5), none⟩] [])
  (.cond (.tmp 11) (.seq (.seq (.region false [⟨(some 12), .mov (.tmp 6), none⟩] [])
  (.cond (.tmp 12) (.seq (.region false [⟨(some 4), .mov (.cst (.int .i64 0)), none⟩] [])
  .ret) .skip))
  (.seq (.region false [⟨(some 4), .mov (.cst (.int .i64 (-1))), none⟩] [])
  .ret)) .skip))
  (.seq (.seq (.region false [⟨(some 13), .mov (.tmp 6), none⟩] [])
  (.cond (.tmp 13) (.seq (.region false [⟨(some 4), .mov (.cst (.int .i64 1)), none⟩] [])
  .ret) .skip))
  (.seq (.seq (.region false [⟨(some 14), .mov (.tmp 0), none⟩,
    ⟨(some 15), .mov (.tmp 1), none⟩,
    ⟨(some 16), .bin .lss (.tmp 14) (.tmp 15), none⟩] [])
  (.cond (.tmp 16) (.seq (.region false [⟨(some 4), .mov (.cst (.int .i64 (-1))), none⟩] [])
  .ret) .skip))
  (.seq (.seq (.region false [⟨(some 17), .mov (.tmp 0), none⟩,
    ⟨(some 18), .mov (.tmp 1), none⟩,
    ⟨(some 19), .bin .gtr (.tmp 17) (.tmp 18), none⟩] [])
  (.cond (.tmp 19) (.seq (.region false [⟨(some 4), .mov (.cst (.int .i64 1)), none⟩] [])
  .ret) .skip))
  (.seq (.region false [⟨(some 4), .mov (.cst (.int .i64 0)), none⟩] [])
  .ret))))))))
/-- custos/rat.Compare -/
def x102 : XFn := XFn.mk 36 [.tmp 4] (.seq (.region false [⟨(some 2), .box (.tmp 0) 2, none⟩,
    ⟨(some 3), .box (.tmp 1) 2, none⟩,
    ⟨(some 4), .mov (.cst (.int .i64 0)), none⟩] [])
  (.seq (.seq (.region false [⟨(some 6), .load (.tmp 2) 2 true, none⟩,
    ⟨(some 7), .callq 130 [.tmp 6], none⟩,
    ⟨(some 8), .not (.tmp 7), none⟩,
    ⟨(some 9), .mov (.tmp 8), none⟩,
    ⟨(some 10), .load (.tmp 3) 2 true, (some (9, false))⟩,
    ⟨(some 11), .callq 130 [.tmp 10], (some (9, false))⟩,
    ⟨(some 12), .not (.tmp 11), (some (9, false))⟩,
    ⟨(some 13), .pick (.tmp 9) (.cst (.bool true)) (.tmp 12), none⟩,
    ⟨(some 14), .mov (.tmp 13), none⟩,
    ⟨(some 15), .load (.tmp 2) 2 true, (some (14, false))⟩,
    ⟨(some 16), .load (.tmp 3) 2 true, (some (14, false))⟩,
    ⟨(some 17), .eqagg false [1, 1] (.tmp 15) (.tmp 16), (some (14, false))⟩,
    ⟨(some 18), .pick (.tmp 14) (.cst (.bool true)) (.tmp 17), none⟩] [])
  (.cond (.tmp 18) (.seq (.region false [⟨(some 4), .mov (.cst (.int .i64 0)), none⟩] [])
  .ret) .skip))
  (.seq (.region false [⟨(some 19), .faddr (.tmp 3) 0, none⟩,
    ⟨(some 20), .load (.tmp 19) 1 false, none⟩,
    ⟨(some 21), .faddr (.tmp 2) 1, none⟩,
    ⟨(some 22), .load (.tmp 21) 1 false, none⟩,
    ⟨(some 23), .callq 131 [.tmp 20, .tmp 22], none⟩,
    ⟨(some 5), .alloc [.int .u64 0, .int .u64 0, .bool false], none⟩,
    ⟨none, .store (.tmp 5) (.tmp 23) 3, none⟩] [])
  (.seq (.region false [⟨(some 24), .faddr (.tmp 5) 2, none⟩,
    ⟨(some 25), .load (.tmp 24) 1 false, none⟩,
    ⟨(some 26), .not (.tmp 25), none⟩,
    ⟨(some 27), .faddr (.tmp 5) 2, none⟩,
    ⟨none, .store (.tmp 27) (.tmp 26) 1, none⟩] [])
  (.seq (.seq (.region true [⟨(some 28), .faddr (.tmp 2) 0, none⟩,
    ⟨(some 29), .load (.tmp 28) 1 false, none⟩,
    ⟨(some 30), .faddr (.tmp 3) 1, none⟩,
    ⟨(some 31), .load (.tmp 30) 1 false, none⟩,
    ⟨(some 32), .callq 131 [.tmp 29, .tmp 31], none⟩,
    ⟨(some 33), .load (.tmp 5) 3 true, none⟩,
    ⟨(some 34), .callq 132 [.tmp 32, .tmp 33], none⟩,
    ⟨(some 35), .field (.tmp 34) 2 1 false, none⟩] [])
  (.cond (.tmp 35) (.seq (.region false [⟨(some 4), .mov (.cst (.int .i64 (-1))), none⟩] [])
  .ret) .skip))
  (.seq (.region false [⟨(some 4), .mov (.cst (.int .i64 1)), none⟩] [])
  .ret))))))
/-- strings.Compare -/
def x103 : XFn := XFn.mk 8 [.tmp 4] (.seq (.region false [⟨(some 4), .mov (.cst (.int .i64 0)), none⟩] [])
  (.seq (.region false [⟨(some 5), .mov (.tmp 0), none⟩,
    ⟨(some 6), .mov (.tmp 1), none⟩,
    ⟨(some 7), .callq 133 [.tmp 5, .tmp 6], none⟩,
    ⟨(some 4), .own 7, none⟩] [])
  .ret))
/-- cmp.isNaN[int] -/
def x104 : XFn := XFn.mk 6 [.tmp 2] (.seq (.region false [⟨(some 2), .mov (.cst (.bool false)), none⟩] [])
  (.seq (.region false [⟨(some 3), .mov (.tmp 0), none⟩,
    ⟨(some 4), .mov (.tmp 0), none⟩,
    ⟨(some 5), .bin .neq (.tmp 3) (.tmp 4), none⟩,
    ⟨(some 2), .own 5, none⟩] [])
  .ret))
def x106_r0 : XCode := .seq (.seq (.region false [⟨(some 5), .mov (.tmp 1), none⟩,
    ⟨(some 6), .bin .neq (.tmp 5) (.cst (.int .u64 0)), none⟩] [])
  (.cond (.tmp 6) .skip (.exit 0)))
  (.block 1 (.region true [⟨(some 7), .mov (.tmp 1), none⟩,
    ⟨(some 8), .mov (.tmp 0), none⟩,
    ⟨(some 9), .mov (.tmp 1), none⟩,
    ⟨(some 10), .bin .rem (.tmp 8) (.tmp 9), none⟩,
    ⟨(some 0), .own 7, none⟩,
    ⟨(some 1), .own 10, none⟩] []))
def x106_l0 : XCode := x106_r0
/-- custos/rat.gcd -/
def x106 : XFn := XFn.mk 12 [.tmp 4] (.seq (.region false [⟨(some 4), .mov (.cst (.int .u64 0)), none⟩] [])
  (.seq (.block 0 (.loop x106_l0))
  (.seq (.region false [⟨(some 11), .mov (.tmp 0), none⟩,
    ⟨(some 4), .own 11, none⟩] [])
  .ret)))
/-- custos/rat.size -/
def x107 : XFn := XFn.mk 10 [.tmp 2] (.seq (.region false [⟨(some 2), .mov (.cst (.int .u64 0)), none⟩] [])
  (.seq (.seq (.region false [⟨(some 3), .mov (.tmp 0), none⟩,
    ⟨(some 4), .bin .lss (.tmp 3) (.cst (.int .i64 0)), none⟩] [])
  (.cond (.tmp 4) (.seq (.region false [⟨(some 5), .mov (.tmp 0), none⟩,
    ⟨(some 6), .conv .u64 (.tmp 5), none⟩,
    ⟨(some 7), .neg (.tmp 6), none⟩,
    ⟨(some 2), .own 7, none⟩] [])
  .ret) .skip))
  (.seq (.region false [⟨(some 8), .mov (.tmp 0), none⟩,
    ⟨(some 9), .conv .u64 (.tmp 8), none⟩,
    ⟨(some 2), .own 9, none⟩] [])
  .ret)))
/-- internal/stringslite.HasPrefix -/
def x116 : XFn := XFn.mk 18 [.tmp 4] (.seq (.region false [⟨(some 4), .mov (.cst (.bool false)), none⟩] [])
  (.seq (.region false [⟨(some 5), .mov (.tmp 0), none⟩,
    ⟨(some 6), .lens true (.tmp 5), none⟩,
    ⟨(some 7), .mov (.tmp 1), none⟩,
    ⟨(some 8), .lens true (.tmp 7), none⟩,
    ⟨(some 9), .bin .geq (.tmp 6) (.tmp 8), none⟩,
    ⟨(some 10), .mov (.tmp 9), none⟩,
    ⟨(some 11), .mov (.tmp 0), (some (10, true))⟩,
    ⟨(some 12), .mov (.tmp 1), (some (10, true))⟩,
    ⟨(some 13), .lens true (.tmp 12), (some (10, true))⟩,
    ⟨(some 14), .sstr (.tmp 11) none (some (.tmp 13)), (some (10, true))⟩,
    ⟨(some 15), .mov (.tmp 1), (some (10, true))⟩,
    ⟨(some 16), .bin .eql (.tmp 14) (.tmp 15), (some (10, true))⟩,
    ⟨(some 17), .pick (.tmp 10) (.tmp 16) (.cst (.bool false)), none⟩,
    ⟨(some 4), .own 17, none⟩] [])
  .ret))
/-- strings.TrimSuffix -/
def x117 : XFn := XFn.mk 8 [.tmp 4] (.seq (.region false [⟨(some 4), .mov (.cst (.str [])), none⟩] [])
  (.seq (.region false [⟨(some 5), .mov (.tmp 0), none⟩,
    ⟨(some 6), .mov (.tmp 1), none⟩,
    ⟨(some 7), .callq 142 [.tmp 5, .tmp 6], none⟩,
    ⟨(some 4), .own 7, none⟩] [])
  .ret))
/-- strconv.ParseUint -/
def x118 : XFn := XFn.mk 26 [.tmp 6, .tmp 7] (.seq (.region false [⟨(some 6), .mov (.cst (.int .u64 0)), none⟩,
    ⟨(some 7), .mov (.cst .nilif), none⟩] [])
  (.seq (.region false [⟨(some 11), .mov (.tmp 0), none⟩,
    ⟨(some 12), .mov (.tmp 1), none⟩,
    ⟨(some 13), .mov (.tmp 2), none⟩,
    ⟨(some 14), .callq 143 [.tmp 11, .tmp 12, .tmp 13], none⟩,
    ⟨(some 10), .mov (.tmp 14), none⟩,
    ⟨(some 15), .ext 10 0, none⟩,
    ⟨(some 16), .ext 10 1, none⟩,
    ⟨(some 8), .own 15, none⟩,
    ⟨(some 9), .own 16, none⟩] [])
  (.seq (.seq (.region false [⟨(some 17), .mov (.tmp 9), none⟩,
    ⟨(some 18), .eqnil 0 true (.tmp 17), none⟩] [])
  (.cond (.tmp 18) (.seq (.region false [⟨(some 19), .mov (.tmp 8), none⟩,
    ⟨(some 20), .mov (.tmp 0), none⟩,
    ⟨(some 21), .mov (.tmp 1), none⟩,
    ⟨(some 22), .mov (.tmp 2), none⟩,
    ⟨(some 23), .mov (.tmp 9), none⟩,
    ⟨(some 24), .callw 100 [.cst (.str [80, 97, 114, 115, 101, 85, 105, 110, 116]), .tmp 20, .tmp 21, .tmp 22, .tmp 23], none⟩,
    ⟨(some 6), .own 19, none⟩,
    ⟨(some 7), .own 24, none⟩] [])
  .ret) .skip))
  (.seq (.region false [⟨(some 25), .mov (.tmp 8), none⟩,
    ⟨(some 6), .own 25, none⟩,
    ⟨(some 7), .mov (.cst .nilif), none⟩] [])
  .ret))))
/-- strconv.syntaxError -/
def x125 : XFn := XFn.mk 11 [.tmp 4] (.seq (.region false [⟨(some 4), .mov (.cst .nilptr), none⟩] [])
  (.seq (.region true [⟨(some 5), .mov (.tmp 0), none⟩,
    ⟨(some 6), .mov (.tmp 1), none⟩,
    ⟨(some 7), .prim 4 148 [.tmp 6], none⟩,
    ⟨(some 8), .load (.glob 4) 1 false, none⟩,
    ⟨(some 9), .build [.str [], .str [], .nilif] [(0, 1, .tmp 5), (1, 1, .tmp 7), (2, 1, .tmp 8)], none⟩,
    ⟨(some 10), .box (.tmp 9) 3, none⟩,
    ⟨(some 4), .own 10, none⟩] [])
  .ret))
/-- strconv.rangeError -/
def x126 : XFn := XFn.mk 11 [.tmp 4] (.seq (.region false [⟨(some 4), .mov (.cst .nilptr), none⟩] [])
  (.seq (.region true [⟨(some 5), .mov (.tmp 0), none⟩,
    ⟨(some 6), .mov (.tmp 1), none⟩,
    ⟨(some 7), .prim 4 148 [.tmp 6], none⟩,
    ⟨(some 8), .load (.glob 5) 1 false, none⟩,
    ⟨(some 9), .build [.str [], .str [], .nilif] [(0, 1, .tmp 5), (1, 1, .tmp 7), (2, 1, .tmp 8)], none⟩,
    ⟨(some 10), .box (.tmp 9) 3, none⟩,
    ⟨(some 4), .own 10, none⟩] [])
  .ret))
/-- strconv.baseError -/
def x127 : XFn := XFn.mk 16 [.tmp 6] (.seq (.region false [⟨(some 6), .mov (.cst .nilptr), none⟩] [])
  (.seq (.region false [⟨(some 7), .mov (.tmp 0), none⟩,
    ⟨(some 8), .mov (.tmp 1), none⟩,
    ⟨(some 9), .prim 4 148 [.tmp 8], none⟩,
    ⟨(some 10), .mov (.tmp 2), none⟩,
    ⟨(some 11), .prim 9 31 [.tmp 10], none⟩,
    ⟨(some 12), .bin .add (.cst (.str [105, 110, 118, 97, 108, 105, 100, 32, 98, 97, 115, 101, 32])) (.tmp 11), none⟩,
    ⟨(some 13), .callq 149 [.tmp 12], none⟩,
    ⟨(some 14), .build [.str [], .str [], .nilif] [(0, 1, .tmp 7), (1, 1, .tmp 9), (2, 1, .tmp 13)], none⟩,
    ⟨(some 15), .box (.tmp 14) 3, none⟩,
    ⟨(some 6), .own 15, none⟩] [])
  .ret))
/-- strconv.bitSizeError -/
def x128 : XFn := XFn.mk 16 [.tmp 6] (.seq (.region false [⟨(some 6), .mov (.cst .nilptr), none⟩] [])
  (.seq (.region false [⟨(some 7), .mov (.tmp 0), none⟩,
    ⟨(some 8), .mov (.tmp 1), none⟩,
    ⟨(some 9), .prim 4 148 [.tmp 8], none⟩,
    ⟨(some 10), .mov (.tmp 2), none⟩,
    ⟨(some 11), .prim 9 31 [.tmp 10], none⟩,
    ⟨(some 12), .bin .add (.cst (.str [105, 110, 118, 97, 108, 105, 100, 32, 98, 105, 116, 32, 115, 105, 122, 101, 32])) (.tmp 11), none⟩,
    ⟨(some 13), .callq 149 [.tmp 12], none⟩,
    ⟨(some 14), .build [.str [], .str [], .nilif] [(0, 1, .tmp 7), (1, 1, .tmp 9), (2, 1, .tmp 13)], none⟩,
    ⟨(some 15), .box (.tmp 14) 3, none⟩,
    ⟨(some 6), .own 15, none⟩] [])
  .ret))
/-- cmp.isNaN[int64] -/
def x129 : XFn := XFn.mk 6 [.tmp 2] (.seq (.region false [⟨(some 2), .mov (.cst (.bool false)), none⟩] [])
  (.seq (.region false [⟨(some 3), .mov (.tmp 0), none⟩,
    ⟨(some 4), .mov (.tmp 0), none⟩,
    ⟨(some 5), .bin .neq (.tmp 3) (.tmp 4), none⟩,
    ⟨(some 2), .own 5, none⟩] [])
  .ret))
/-- custos/rat.may -/
def x130 : XFn := XFn.mk 16 [.tmp 2] (.seq (.region false [⟨(some 1), .box (.tmp 0) 2, none⟩,
    ⟨(some 2), .mov (.cst (.bool false)), none⟩] [])
  (.seq (.region true [⟨(some 3), .faddr (.tmp 1) 1, none⟩,
    ⟨(some 4), .load (.tmp 3) 1 false, none⟩,
    ⟨(some 5), .bin .gtr (.tmp 4) (.cst (.int .i64 0)), none⟩,
    ⟨(some 6), .mov (.tmp 5), none⟩,
    ⟨(some 7), .faddr (.tmp 1) 0, (some (6, true))⟩,
    ⟨(some 8), .load (.tmp 7) 1 false, (some (6, true))⟩,
    ⟨(some 9), .callq 107 [.tmp 8], (some (6, true))⟩,
    ⟨(some 10), .faddr (.tmp 1) 1, (some (6, true))⟩,
    ⟨(some 11), .load (.tmp 10) 1 false, (some (6, true))⟩,
    ⟨(some 12), .conv .u64 (.tmp 11), (some (6, true))⟩,
    ⟨(some 13), .callq 106 [.tmp 9, .tmp 12], (some (6, true))⟩,
    ⟨(some 14), .bin .eql (.tmp 13) (.cst (.int .u64 1)), (some (6, true))⟩,
    ⟨(some 15), .pick (.tmp 6) (.tmp 14) (.cst (.bool false)), none⟩,
    ⟨(some 2), .own 15, none⟩] [])
  .ret))
/-- custos/rat.times -/
def x131 : XFn := XFn.mk 23 [.cell 4 3 true] (.seq (.region false [⟨(some 4), .alloc [.int .u64 0, .int .u64 0, .bool false], none⟩] [])
  (.seq (.region false [⟨(some 8), .mov (.tmp 0), none⟩,
    ⟨(some 9), .callq 107 [.tmp 8], none⟩,
    ⟨(some 10), .mov (.tmp 1), none⟩,
    ⟨(some 11), .callq 107 [.tmp 10], none⟩,
    ⟨(some 12), .callq 150 [.tmp 9, .tmp 11], none⟩,
    ⟨(some 7), .mov (.tmp 12), none⟩,
    ⟨(some 13), .ext 7 0, none⟩,
    ⟨(some 14), .ext 7 1, none⟩,
    ⟨(some 5), .own 13, none⟩,
    ⟨(some 6), .own 14, none⟩] [])
  (.seq (.region false [⟨(some 15), .mov (.tmp 5), none⟩,
    ⟨(some 16), .mov (.tmp 6), none⟩,
    ⟨(some 17), .mov (.tmp 0), none⟩,
    ⟨(some 18), .bin .lss (.tmp 17) (.cst (.int .i64 0)), none⟩,
    ⟨(some 19), .mov (.tmp 1), none⟩,
    ⟨(some 20), .bin .lss (.tmp 19) (.cst (.int .i64 0)), none⟩,
    ⟨(some 21), .beq true (.tmp 18) (.tmp 20), none⟩,
    ⟨(some 22), .build [.int .u64 0, .int .u64 0, .bool false] [(0, 1, .tmp 15), (1, 1, .tmp 16), (2, 1, .tmp 21)], none⟩,
    ⟨none, .store (.tmp 4) (.tmp 22) 3, none⟩] [])
  .ret)))
/-- custos/rat.plus -/
def x132 : XFn := XFn.mk 83 [.cell 4 3 true] (.seq (.region false [⟨(some 2), .box (.tmp 0) 3, none⟩,
    ⟨(some 3), .box (.tmp 1) 3, none⟩,
    ⟨(some 4), .alloc [.int .u64 0, .int .u64 0, .bool false], none⟩] [])
  (.seq (.seq (.region false [⟨(some 13), .faddr (.tmp 2) 2, none⟩,
    ⟨(some 14), .load (.tmp 13) 1 false, none⟩,
    ⟨(some 15), .faddr (.tmp 3) 2, none⟩,
    ⟨(some 16), .load (.tmp 15) 1 false, none⟩,
    ⟨(some 17), .beq false (.tmp 14) (.tmp 16), none⟩] [])
  (.cond (.tmp 17) (.seq (.region false [⟨(some 19), .faddr (.tmp 2) 1, none⟩,
    ⟨(some 20), .load (.tmp 19) 1 false, none⟩,
    ⟨(some 21), .faddr (.tmp 3) 1, none⟩,
    ⟨(some 22), .load (.tmp 21) 1 false, none⟩,
    ⟨(some 23), .prim 0 151 [.tmp 20, .tmp 22, .cst (.int .u64 0)], none⟩,
    ⟨(some 18), .mov (.tmp 23), none⟩,
    ⟨(some 24), .ext 18 0, none⟩,
    ⟨(some 25), .ext 18 1, none⟩,
    ⟨(some 5), .own 24, none⟩,
    ⟨(some 6), .own 25, none⟩] [])
  (.seq (.region false [⟨(some 27), .faddr (.tmp 2) 0, none⟩,
    ⟨(some 28), .load (.tmp 27) 1 false, none⟩,
    ⟨(some 29), .faddr (.tmp 3) 0, none⟩,
    ⟨(some 30), .load (.tmp 29) 1 false, none⟩,
    ⟨(some 31), .mov (.tmp 6), none⟩,
    ⟨(some 32), .prim 0 151 [.tmp 28, .tmp 30, .tmp 31], none⟩,
    ⟨(some 26), .mov (.tmp 32), none⟩,
    ⟨(some 33), .ext 26 0, none⟩,
    ⟨(some 34), .ext 26 1, none⟩,
    ⟨(some 7), .own 33, none⟩,
    ⟨(some 8), .own 34, none⟩] [])
  (.seq (.region false [⟨(some 35), .mov (.tmp 7), none⟩,
    ⟨(some 36), .mov (.tmp 5), none⟩,
    ⟨(some 37), .faddr (.tmp 2) 2, none⟩,
    ⟨(some 38), .load (.tmp 37) 1 false, none⟩,
    ⟨(some 39), .build [.int .u64 0, .int .u64 0, .bool false] [(0, 1, .tmp 35), (1, 1, .tmp 36), (2, 1, .tmp 38)], none⟩,
    ⟨none, .store (.tmp 4) (.tmp 39) 3, none⟩] [])
  .ret))) .skip))
  (.seq (.seq (.region false [⟨(some 40), .faddr (.tmp 2) 0, none⟩,
    ⟨(some 41), .load (.tmp 40) 1 false, none⟩,
    ⟨(some 42), .faddr (.tmp 3) 0, none⟩,
    ⟨(some 43), .load (.tmp 42) 1 false, none⟩,
    ⟨(some 44), .bin .lss (.tmp 41) (.tmp 43), none⟩,
    ⟨(some 45), .mov (.tmp 44), none⟩,
    ⟨(some 46), .faddr (.tmp 2) 0, (some (45, false))⟩,
    ⟨(some 47), .load (.tmp 46) 1 false, (some (45, false))⟩,
    ⟨(some 48), .faddr (.tmp 3) 0, (some (45, false))⟩,
    ⟨(some 49), .load (.tmp 48) 1 false, (some (45, false))⟩,
    ⟨(some 50), .bin .eql (.tmp 47) (.tmp 49), (some (45, false))⟩,
    ⟨(some 51), .mov (.tmp 50), (some (45, false))⟩,
    ⟨(some 52), .faddr (.tmp 2) 1, (some (51, true))⟩,
    ⟨(some 53), .load (.tmp 52) 1 false, (some (51, true))⟩,
    ⟨(some 54), .faddr (.tmp 3) 1, (some (51, true))⟩,
    ⟨(some 55), .load (.tmp 54) 1 false, (some (51, true))⟩,
    ⟨(some 56), .bin .lss (.tmp 53) (.tmp 55), (some (51, true))⟩,
    ⟨(some 57), .pick (.tmp 51) (.tmp 56) (.cst (.bool false)), (some (45, false))⟩,
    ⟨(some 58), .pick (.tmp 45) (.cst (.bool true)) (.tmp 57), none⟩] [])
  (.cond (.tmp 58) (.region false [⟨(some 59), .load (.tmp 3) 3 true, none⟩,
    ⟨(some 60), .load (.tmp 2) 3 true, none⟩,
    ⟨none, .store (.tmp 2) (.tmp 59) 3, none⟩,
    ⟨none, .store (.tmp 3) (.tmp 60) 3, none⟩] []) .skip))
  (.seq (.region false [⟨(some 62), .faddr (.tmp 2) 1, none⟩,
    ⟨(some 63), .load (.tmp 62) 1 false, none⟩,
    ⟨(some 64), .faddr (.tmp 3) 1, none⟩,
    ⟨(some 65), .load (.tmp 64) 1 false, none⟩,
    ⟨(some 66), .prim 1 152 [.tmp 63, .tmp 65, .cst (.int .u64 0)], none⟩,
    ⟨(some 61), .mov (.tmp 66), none⟩,
    ⟨(some 67), .ext 61 0, none⟩,
    ⟨(some 68), .ext 61 1, none⟩,
    ⟨(some 9), .own 67, none⟩,
    ⟨(some 10), .own 68, none⟩] [])
  (.seq (.region false [⟨(some 70), .faddr (.tmp 2) 0, none⟩,
    ⟨(some 71), .load (.tmp 70) 1 false, none⟩,
    ⟨(some 72), .faddr (.tmp 3) 0, none⟩,
    ⟨(some 73), .load (.tmp 72) 1 false, none⟩,
    ⟨(some 74), .mov (.tmp 10), none⟩,
    ⟨(some 75), .prim 1 152 [.tmp 71, .tmp 73, .tmp 74], none⟩,
    ⟨(some 69), .mov (.tmp 75), none⟩,
    ⟨(some 76), .ext 69 0, none⟩,
    ⟨(some 77), .ext 69 1, none⟩,
    ⟨(some 11), .own 76, none⟩,
    ⟨(some 12), .own 77, none⟩] [])
  (.seq (.region false [⟨(some 78), .mov (.tmp 11), none⟩,
    ⟨(some 79), .mov (.tmp 9), none⟩,
    ⟨(some 80), .faddr (.tmp 2) 2, none⟩,
    ⟨(some 81), .load (.tmp 80) 1 false, none⟩,
    ⟨(some 82), .build [.int .u64 0, .int .u64 0, .bool false] [(0, 1, .tmp 78), (1, 1, .tmp 79), (2, 1, .tmp 81)], none⟩,
    ⟨none, .store (.tmp 4) (.tmp 82) 3, none⟩] [])
  .ret))))))
/-- internal/bytealg.CompareString -/
def x133 : XFn := XFn.mk 8 [.tmp 4] (.seq (.region false [⟨(some 4), .mov (.cst (.int .i64 0)), none⟩] [])
  (.seq (.region false [⟨(some 5), .mov (.tmp 0), none⟩,
    ⟨(some 6), .mov (.tmp 1), none⟩,
    ⟨(some 7), .prim 3 153 [.tmp 5, .tmp 6], none⟩,
    ⟨(some 4), .own 7, none⟩] [])
  .ret))
/-- internal/stringslite.TrimSuffix -/
def x142 : XFn := XFn.mk 16 [.tmp 4] (.seq (.region false [⟨(some 4), .mov (.cst (.str [])), none⟩] [])
  (.seq (.seq (.region false [⟨(some 5), .mov (.tmp 0), none⟩,
    ⟨(some 6), .mov (.tmp 1), none⟩,
    ⟨(some 7), .callq 156 [.tmp 5, .tmp 6], none⟩] [])
  (.cond (.tmp 7) (.seq (.region false [⟨(some 8), .mov (.tmp 0), none⟩,
    ⟨(some 9), .mov (.tmp 0), none⟩,
    ⟨(some 10), .lens true (.tmp 9), none⟩,
    ⟨(some 11), .mov (.tmp 1), none⟩,
    ⟨(some 12), .lens true (.tmp 11), none⟩,
    ⟨(some 13), .bin .sub (.tmp 10) (.tmp 12), none⟩,
    ⟨(some 14), .sstr (.tmp 8) none (some (.tmp 13)), none⟩,
    ⟨(some 4), .own 14, none⟩] [])
  .ret) .skip))
  (.seq (.region false [⟨(some 15), .mov (.tmp 0), none⟩,
    ⟨(some 4), .own 15, none⟩] [])
  .ret)))
def x143_r0 : XCode := .seq (.region false [⟨(some 102), .bin .lss (.tmp 101) (.tmp 100), none⟩] [])
  (.seq (.cond (.tmp 102) .skip (.exit 3))
  (.seq (.block 4 (.seq (.region false [⟨(some 103), .iaddr 1 (.tmp 99) (.tmp 101), none⟩,
    ⟨(some 104), .load (.tmp 103) 1 false, none⟩,
    ⟨(some 15), .own 104, none⟩] [])
  (.seq (.region false [⟨(some 16), .mov (.cst (.int .u8 0)), none⟩] [])
  (.seq (.block 5 (.seq (.region false [⟨(some 107), .mov (.tmp 15), none⟩,
    ⟨(some 108), .bin .eql (.tmp 107) (.cst (.int .u8 95)), none⟩,
    ⟨(some 109), .mov (.tmp 108), none⟩,
    ⟨(some 110), .mov (.tmp 8), (some (109, true))⟩,
    ⟨(some 111), .pick (.tmp 109) (.tmp 110) (.cst (.bool false)), none⟩,
    ⟨(some 106), .own 111, none⟩] [])
  (.cond (.tmp 106) (.seq (.region false [⟨(some 12), .mov (.cst (.bool true)), none⟩] [])
  (.exit 4)) (.seq (.region false [⟨(some 113), .mov (.tmp 15), none⟩,
    ⟨(some 114), .bin .leq (.cst (.int .u8 48)) (.tmp 113), none⟩,
    ⟨(some 115), .mov (.tmp 114), none⟩,
    ⟨(some 116), .mov (.tmp 15), (some (115, true))⟩,
    ⟨(some 117), .bin .leq (.tmp 116) (.cst (.int .u8 57)), (some (115, true))⟩,
    ⟨(some 118), .pick (.tmp 115) (.tmp 117) (.cst (.bool false)), none⟩,
    ⟨(some 112), .own 118, none⟩] [])
  (.cond (.tmp 112) (.region false [⟨(some 119), .mov (.tmp 15), none⟩,
    ⟨(some 120), .bin .sub (.tmp 119) (.cst (.int .u8 48)), none⟩,
    ⟨(some 16), .own 120, none⟩] []) (.seq (.region false [⟨(some 122), .mov (.tmp 15), none⟩,
    ⟨(some 123), .callq 157 [.tmp 122], none⟩,
    ⟨(some 124), .bin .leq (.cst (.int .u8 97)) (.tmp 123), none⟩,
    ⟨(some 125), .mov (.tmp 124), none⟩,
    ⟨(some 126), .mov (.tmp 15), (some (125, true))⟩,
    ⟨(some 127), .callq 157 [.tmp 126], (some (125, true))⟩,
    ⟨(some 128), .bin .leq (.tmp 127) (.cst (.int .u8 122)), (some (125, true))⟩,
    ⟨(some 129), .pick (.tmp 125) (.tmp 128) (.cst (.bool false)), none⟩,
    ⟨(some 121), .own 129, none⟩] [])
  (.cond (.tmp 121) (.region false [⟨(some 130), .mov (.tmp 15), none⟩,
    ⟨(some 131), .callq 157 [.tmp 130], none⟩,
    ⟨(some 132), .bin .sub (.tmp 131) (.cst (.int .u8 97)), none⟩,
    ⟨(some 133), .bin .add (.tmp 132) (.cst (.int .u8 10)), none⟩,
    ⟨(some 16), .own 133, none⟩] []) (.seq (.region false [⟨(some 105), .mkif 151 (.cst (.int .i64 2)), none⟩,
    ⟨(some 6), .mov (.cst (.int .u64 0)), none⟩,
    ⟨(some 7), .own 105, none⟩] [])
  .ret))))))))
  (.seq (.seq (.region false [⟨(some 134), .mov (.tmp 16), none⟩,
    ⟨(some 135), .mov (.tmp 1), none⟩,
    ⟨(some 136), .conv .u8 (.tmp 135), none⟩,
    ⟨(some 137), .bin .geq (.tmp 134) (.tmp 136), none⟩] [])
  (.cond (.tmp 137) (.seq (.region false [⟨(some 138), .mkif 151 (.cst (.int .i64 2)), none⟩,
    ⟨(some 6), .mov (.cst (.int .u64 0)), none⟩,
    ⟨(some 7), .own 138, none⟩] [])
  .ret) .skip))
  (.seq (.seq (.region false [⟨(some 139), .mov (.tmp 13), none⟩,
    ⟨(some 140), .mov (.tmp 10), none⟩,
    ⟨(some 141), .bin .geq (.tmp 139) (.tmp 140), none⟩] [])
  (.cond (.tmp 141) (.seq (.region false [⟨(some 142), .mov (.tmp 11), none⟩,
    ⟨(some 143), .mkif 151 (.cst (.int .i64 1)), none⟩,
    ⟨(some 6), .own 142, none⟩,
    ⟨(some 7), .own 143, none⟩] [])
  .ret) .skip))
  (.seq (.region false [⟨(some 144), .mov (.tmp 13), none⟩,
    ⟨(some 145), .mov (.tmp 1), none⟩,
    ⟨(some 146), .conv .u64 (.tmp 145), none⟩,
    ⟨(some 147), .bin .mul (.tmp 144) (.tmp 146), none⟩,
    ⟨(some 13), .own 147, none⟩] [])
  (.seq (.region false [⟨(some 148), .mov (.tmp 13), none⟩,
    ⟨(some 149), .mov (.tmp 16), none⟩,
    ⟨(some 150), .conv .u64 (.tmp 149), none⟩,
    ⟨(some 151), .bin .add (.tmp 148) (.tmp 150), none⟩,
    ⟨(some 17), .own 151, none⟩] [])
  (.seq (.seq (.region false [⟨(some 152), .mov (.tmp 17), none⟩,
    ⟨(some 153), .mov (.tmp 13), none⟩,
    ⟨(some 154), .bin .lss (.tmp 152) (.tmp 153), none⟩,
    ⟨(some 155), .mov (.tmp 154), none⟩,
    ⟨(some 156), .mov (.tmp 17), (some (155, false))⟩,
    ⟨(some 157), .mov (.tmp 11), (some (155, false))⟩,
    ⟨(some 158), .bin .gtr (.tmp 156) (.tmp 157), (some (155, false))⟩,
    ⟨(some 159), .pick (.tmp 155) (.cst (.bool true)) (.tmp 158), none⟩] [])
  (.cond (.tmp 159) (.seq (.region false [⟨(some 160), .mov (.tmp 11), none⟩,
    ⟨(some 161), .mkif 151 (.cst (.int .i64 1)), none⟩,
    ⟨(some 6), .own 160, none⟩,
    ⟨(some 7), .own 161, none⟩] [])
  .ret) .skip))
  (.region false [⟨(some 162), .mov (.tmp 17), none⟩,
    ⟨(some 13), .own 162, none⟩] []))))))))))
  (.region false [⟨(some 163), .bin .add (.tmp 101) (.cst (.int .i64 1)), none⟩,
    ⟨(some 101), .mov (.tmp 163), none⟩] [])))
def x143_l0 : XCode := x143_r0
/-- internal/strconv.ParseUint -/
def x143 : XFn := XFn.mk 172 [.tmp 6, .tmp 7] (.seq (.region false [⟨(some 6), .mov (.cst (.int .u64 0)), none⟩,
    ⟨(some 7), .mov (.cst .nilif), none⟩] [])
  (.seq (.seq (.region false [⟨(some 18), .mov (.tmp 0), none⟩,
    ⟨(some 19), .bin .eql (.tmp 18) (.cst (.str [])), none⟩] [])
  (.cond (.tmp 19) (.seq (.region false [⟨(some 20), .mkif 151 (.cst (.int .i64 2)), none⟩,
    ⟨(some 6), .mov (.cst (.int .u64 0)), none⟩,
    ⟨(some 7), .own 20, none⟩] [])
  .ret) .skip))
  (.seq (.region false [⟨(some 21), .mov (.tmp 1), none⟩,
    ⟨(some 22), .bin .eql (.tmp 21) (.cst (.int .i64 0)), none⟩,
    ⟨(some 8), .own 22, none⟩] [])
  (.seq (.region false [⟨(some 23), .mov (.tmp 0), none⟩,
    ⟨(some 9), .own 23, none⟩] [])
  (.seq (.block 0 (.seq (.region false [⟨(some 26), .mov (.tmp 1), none⟩,
    ⟨(some 27), .bin .leq (.cst (.int .i64 2)) (.tmp 26), none⟩,
    ⟨(some 28), .mov (.tmp 27), none⟩,
    ⟨(some 29), .mov (.tmp 1), (some (28, true))⟩,
    ⟨(some 30), .bin .leq (.tmp 29) (.cst (.int .i64 36)), (some (28, true))⟩,
    ⟨(some 31), .pick (.tmp 28) (.tmp 30) (.cst (.bool false)), none⟩,
    ⟨(some 25), .own 31, none⟩] [])
  (.cond (.tmp 25) .skip (.seq (.region false [⟨(some 33), .mov (.tmp 1), none⟩,
    ⟨(some 34), .bin .eql (.tmp 33) (.cst (.int .i64 0)), none⟩,
    ⟨(some 32), .own 34, none⟩] [])
  (.cond (.tmp 32) (.seq (.region false [⟨(some 1), .mov (.cst (.int .i64 10)), none⟩] [])
  (.seq (.region false [⟨(some 35), .mov (.tmp 0), none⟩,
    ⟨(some 36), .idxs (.tmp 35) (.cst (.int .i64 0)), none⟩,
    ⟨(some 37), .bin .eql (.tmp 36) (.cst (.int .u8 48)), none⟩] [])
  (.cond (.tmp 37) (.block 1 (.seq (.region false [⟨(some 41), .mov (.tmp 0), none⟩,
    ⟨(some 42), .lens true (.tmp 41), none⟩,
    ⟨(some 43), .bin .geq (.tmp 42) (.cst (.int .i64 3)), none⟩,
    ⟨(some 44), .mov (.tmp 43), none⟩,
    ⟨(some 45), .mov (.tmp 0), (some (44, true))⟩,
    ⟨(some 46), .idxs (.tmp 45) (.cst (.int .i64 1)), (some (44, true))⟩,
    ⟨(some 47), .callq 157 [.tmp 46], (some (44, true))⟩,
    ⟨(some 48), .bin .eql (.tmp 47) (.cst (.int .u8 98)), (some (44, true))⟩,
    ⟨(some 49), .pick (.tmp 44) (.tmp 48) (.cst (.bool false)), none⟩,
    ⟨(some 40), .own 49, none⟩] [])
  (.cond (.tmp 40) (.seq (.region false [⟨(some 1), .mov (.cst (.int .i64 2)), none⟩] [])
  (.region false [⟨(some 50), .mov (.tmp 0), none⟩,
    ⟨(some 51), .sstr (.tmp 50) (some (.cst (.int .i64 2))) none, none⟩,
    ⟨(some 0), .own 51, none⟩] [])) (.seq (.region false [⟨(some 53), .mov (.tmp 0), none⟩,
    ⟨(some 54), .lens true (.tmp 53), none⟩,
    ⟨(some 55), .bin .geq (.tmp 54) (.cst (.int .i64 3)), none⟩,
    ⟨(some 56), .mov (.tmp 55), none⟩,
    ⟨(some 57), .mov (.tmp 0), (some (56, true))⟩,
    ⟨(some 58), .idxs (.tmp 57) (.cst (.int .i64 1)), (some (56, true))⟩,
    ⟨(some 59), .callq 157 [.tmp 58], (some (56, true))⟩,
    ⟨(some 60), .bin .eql (.tmp 59) (.cst (.int .u8 111)), (some (56, true))⟩,
    ⟨(some 61), .pick (.tmp 56) (.tmp 60) (.cst (.bool false)), none⟩,
    ⟨(some 52), .own 61, none⟩] [])
  (.cond (.tmp 52) (.seq (.region false [⟨(some 1), .mov (.cst (.int .i64 8)), none⟩] [])
  (.region false [⟨(some 62), .mov (.tmp 0), none⟩,
    ⟨(some 63), .sstr (.tmp 62) (some (.cst (.int .i64 2))) none, none⟩,
    ⟨(some 0), .own 63, none⟩] [])) (.seq (.region false [⟨(some 65), .mov (.tmp 0), none⟩,
    ⟨(some 66), .lens true (.tmp 65), none⟩,
    ⟨(some 67), .bin .geq (.tmp 66) (.cst (.int .i64 3)), none⟩,
    ⟨(some 68), .mov (.tmp 67), none⟩,
    ⟨(some 69), .mov (.tmp 0), (some (68, true))⟩,
    ⟨(some 70), .idxs (.tmp 69) (.cst (.int .i64 1)), (some (68, true))⟩,
    ⟨(some 71), .callq 157 [.tmp 70], (some (68, true))⟩,
    ⟨(some 72), .bin .eql (.tmp 71) (.cst (.int .u8 120)), (some (68, true))⟩,
    ⟨(some 73), .pick (.tmp 68) (.tmp 72) (.cst (.bool false)), none⟩,
    ⟨(some 64), .own 73, none⟩] [])
  (.cond (.tmp 64) (.seq (.region false [⟨(some 1), .mov (.cst (.int .i64 16)), none⟩] [])
  (.region false [⟨(some 74), .mov (.tmp 0), none⟩,
    ⟨(some 75), .sstr (.tmp 74) (some (.cst (.int .i64 2))) none, none⟩,
    ⟨(some 0), .own 75, none⟩] [])) (.seq (.region false [⟨(some 1), .mov (.cst (.int .i64 8)), none⟩] [])
  (.region false [⟨(some 38), .mov (.tmp 0), none⟩,
    ⟨(some 39), .sstr (.tmp 38) (some (.cst (.int .i64 1))) none, none⟩,
    ⟨(some 0), .own 39, none⟩] []))))))))) .skip))) (.seq (.region false [⟨(some 24), .mkif 151 (.cst (.int .i64 3)), none⟩,
    ⟨(some 6), .mov (.cst (.int .u64 0)), none⟩,
    ⟨(some 7), .own 24, none⟩] [])
  .ret))))))
  (.seq (.seq (.region false [⟨(some 76), .mov (.tmp 2), none⟩,
    ⟨(some 77), .bin .eql (.tmp 76) (.cst (.int .i64 0)), none⟩] [])
  (.cond (.tmp 77) (.region false [⟨(some 2), .mov (.cst (.int .i64 64)), none⟩] []) (.seq (.region false [⟨(some 78), .mov (.tmp 2), none⟩,
    ⟨(some 79), .bin .lss (.tmp 78) (.cst (.int .i64 0)), none⟩,
    ⟨(some 80), .mov (.tmp 79), none⟩,
    ⟨(some 81), .mov (.tmp 2), (some (80, false))⟩,
    ⟨(some 82), .bin .gtr (.tmp 81) (.cst (.int .i64 64)), (some (80, false))⟩,
    ⟨(some 83), .pick (.tmp 80) (.cst (.bool true)) (.tmp 82), none⟩] [])
  (.cond (.tmp 83) (.seq (.region false [⟨(some 84), .mkif 151 (.cst (.int .i64 4)), none⟩,
    ⟨(some 6), .mov (.cst (.int .u64 0)), none⟩,
    ⟨(some 7), .own 84, none⟩] [])
  .ret) .skip))))
  (.seq (.region false [⟨(some 10), .mov (.cst (.int .u64 0)), none⟩] [])
  (.seq (.seq (.region false [⟨(some 85), .mov (.tmp 1), none⟩] [])
  (.block 2 (.seq (.region false [⟨(some 91), .bin .eql (.tmp 85) (.cst (.int .i64 10)), none⟩,
    ⟨(some 90), .own 91, none⟩] [])
  (.cond (.tmp 90) (.region false [⟨(some 10), .mov (.cst (.int .u64 1844674407370955162)), none⟩] []) (.seq (.region false [⟨(some 93), .bin .eql (.tmp 85) (.cst (.int .i64 16)), none⟩,
    ⟨(some 92), .own 93, none⟩] [])
  (.cond (.tmp 92) (.region false [⟨(some 10), .mov (.cst (.int .u64 1152921504606846976)), none⟩] []) (.region false [⟨(some 86), .mov (.tmp 1), none⟩,
    ⟨(some 87), .conv .u64 (.tmp 86), none⟩,
    ⟨(some 88), .bin .quo (.cst (.int .u64 18446744073709551615)) (.tmp 87), none⟩,
    ⟨(some 89), .bin .add (.tmp 88) (.cst (.int .u64 1)), none⟩,
    ⟨(some 10), .own 89, none⟩] [])))))))
  (.seq (.region false [⟨(some 94), .mov (.tmp 2), none⟩,
    ⟨(some 95), .conv .u64 (.tmp 94), none⟩,
    ⟨(some 96), .bin .shl (.cst (.int .u64 1)) (.tmp 95), none⟩,
    ⟨(some 97), .bin .sub (.tmp 96) (.cst (.int .u64 1)), none⟩,
    ⟨(some 11), .own 97, none⟩] [])
  (.seq (.region false [⟨(some 12), .mov (.cst (.bool false)), none⟩] [])
  (.seq (.region false [⟨(some 13), .mov (.cst (.int .u64 0)), none⟩] [])
  (.seq (.seq (.region false [⟨(some 98), .mov (.tmp 0), none⟩,
    ⟨(some 99), .strb (.tmp 98), none⟩,
    ⟨(some 100), .lens false (.tmp 99), none⟩,
    ⟨(some 101), .mov (.cst (.int .i64 0)), none⟩] [])
  (.block 3 (.loop x143_l0)))
  (.seq (.seq (.region false [⟨(some 164), .mov (.tmp 12), none⟩,
    ⟨(some 165), .mov (.tmp 164), none⟩,
    ⟨(some 166), .mov (.tmp 9), (some (165, true))⟩,
    ⟨(some 167), .callq 158 [.tmp 166], (some (165, true))⟩,
    ⟨(some 168), .not (.tmp 167), (some (165, true))⟩,
    ⟨(some 169), .pick (.tmp 165) (.tmp 168) (.cst (.bool false)), none⟩] [])
  (.cond (.tmp 169) (.seq (.region false [⟨(some 170), .mkif 151 (.cst (.int .i64 2)), none⟩,
    ⟨(some 6), .mov (.cst (.int .u64 0)), none⟩,
    ⟨(some 7), .own 170, none⟩] [])
  .ret) .skip))
  (.seq (.region false [⟨(some 171), .mov (.tmp 13), none⟩,
    ⟨(some 6), .own 171, none⟩,
    ⟨(some 7), .mov (.cst .nilif), none⟩] [])
  .ret))))))))))))))
/-- errors.New -/
def x149 : XFn := XFn.mk 7 [.tmp 2] (.seq (.region false [⟨(some 2), .mov (.cst .nilif), none⟩] [])
  (.seq (.region false [⟨(some 3), .mov (.tmp 0), none⟩,
    ⟨(some 4), .build [.str []] [(0, 1, .tmp 3)], none⟩,
    ⟨(some 5), .box (.tmp 4) 1, none⟩,
    ⟨(some 6), .mkif 197 (.tmp 5), none⟩,
    ⟨(some 2), .own 6, none⟩] [])
  .ret))
/-- math/bits.Mul64 -/
def x150 : XFn := XFn.mk 51 [.tmp 4, .tmp 5] (.seq (.region false [⟨(some 4), .mov (.cst (.int .u64 0)), none⟩,
    ⟨(some 5), .mov (.cst (.int .u64 0)), none⟩] [])
  (.seq (.region false [⟨(some 14), .mov (.tmp 0), none⟩,
    ⟨(some 15), .bin .and (.tmp 14) (.cst (.int .u64 4294967295)), none⟩,
    ⟨(some 6), .own 15, none⟩] [])
  (.seq (.region false [⟨(some 16), .mov (.tmp 0), none⟩,
    ⟨(some 17), .bin .shr (.tmp 16) (.cst (.int .u64 32)), none⟩,
    ⟨(some 7), .own 17, none⟩] [])
  (.seq (.region false [⟨(some 18), .mov (.tmp 1), none⟩,
    ⟨(some 19), .bin .and (.tmp 18) (.cst (.int .u64 4294967295)), none⟩,
    ⟨(some 8), .own 19, none⟩] [])
  (.seq (.region false [⟨(some 20), .mov (.tmp 1), none⟩,
    ⟨(some 21), .bin .shr (.tmp 20) (.cst (.int .u64 32)), none⟩,
    ⟨(some 9), .own 21, none⟩] [])
  (.seq (.region false [⟨(some 22), .mov (.tmp 6), none⟩,
    ⟨(some 23), .mov (.tmp 8), none⟩,
    ⟨(some 24), .bin .mul (.tmp 22) (.tmp 23), none⟩,
    ⟨(some 10), .own 24, none⟩] [])
  (.seq (.region false [⟨(some 25), .mov (.tmp 7), none⟩,
    ⟨(some 26), .mov (.tmp 8), none⟩,
    ⟨(some 27), .bin .mul (.tmp 25) (.tmp 26), none⟩,
    ⟨(some 28), .mov (.tmp 10), none⟩,
    ⟨(some 29), .bin .shr (.tmp 28) (.cst (.int .u64 32)), none⟩,
    ⟨(some 30), .bin .add (.tmp 27) (.tmp 29), none⟩,
    ⟨(some 11), .own 30, none⟩] [])
  (.seq (.region false [⟨(some 31), .mov (.tmp 11), none⟩,
    ⟨(some 32), .bin .and (.tmp 31) (.cst (.int .u64 4294967295)), none⟩,
    ⟨(some 12), .own 32, none⟩] [])
  (.seq (.region false [⟨(some 33), .mov (.tmp 11), none⟩,
    ⟨(some 34), .bin .shr (.tmp 33) (.cst (.int .u64 32)), none⟩,
    ⟨(some 13), .own 34, none⟩] [])
  (.seq (.region false [⟨(some 35), .mov (.tmp 12), none⟩,
    ⟨(some 36), .mov (.tmp 6), none⟩,
    ⟨(some 37), .mov (.tmp 9), none⟩,
    ⟨(some 38), .bin .mul (.tmp 36) (.tmp 37), none⟩,
    ⟨(some 39), .bin .add (.tmp 35) (.tmp 38), none⟩,
    ⟨(some 12), .own 39, none⟩] [])
  (.seq (.region false [⟨(some 40), .mov (.tmp 7), none⟩,
    ⟨(some 41), .mov (.tmp 9), none⟩,
    ⟨(some 42), .bin .mul (.tmp 40) (.tmp 41), none⟩,
    ⟨(some 43), .mov (.tmp 13), none⟩,
    ⟨(some 44), .bin .add (.tmp 42) (.tmp 43), none⟩,
    ⟨(some 45), .mov (.tmp 12), none⟩,
    ⟨(some 46), .bin .shr (.tmp 45) (.cst (.int .u64 32)), none⟩,
    ⟨(some 47), .bin .add (.tmp 44) (.tmp 46), none⟩,
    ⟨(some 4), .own 47, none⟩] [])
  (.seq (.region false [⟨(some 48), .mov (.tmp 0), none⟩,
    ⟨(some 49), .mov (.tmp 1), none⟩,
    ⟨(some 50), .bin .mul (.tmp 48) (.tmp 49), none⟩,
    ⟨(some 5), .own 50, none⟩] [])
  .ret))))))))))))
/-- internal/stringslite.HasSuffix -/
def x156 : XFn := XFn.mk 21 [.tmp 4] (.seq (.region false [⟨(some 4), .mov (.cst (.bool false)), none⟩] [])
  (.seq (.region false [⟨(some 5), .mov (.tmp 0), none⟩,
    ⟨(some 6), .lens true (.tmp 5), none⟩,
    ⟨(some 7), .mov (.tmp 1), none⟩,
    ⟨(some 8), .lens true (.tmp 7), none⟩,
    ⟨(some 9), .bin .geq (.tmp 6) (.tmp 8), none⟩,
    ⟨(some 10), .mov (.tmp 9), none⟩,
    ⟨(some 11), .mov (.tmp 0), (some (10, true))⟩,
    ⟨(some 12), .mov (.tmp 0), (some (10, true))⟩,
    ⟨(some 13), .lens true (.tmp 12), (some (10, true))⟩,
    ⟨(some 14), .mov (.tmp 1), (some (10, true))⟩,
    ⟨(some 15), .lens true (.tmp 14), (some (10, true))⟩,
    ⟨(some 16), .bin .sub (.tmp 13) (.tmp 15), (some (10, true))⟩,
    ⟨(some 17), .sstr (.tmp 11) (some (.tmp 16)) none, (some (10, true))⟩,
    ⟨(some 18), .mov (.tmp 1), (some (10, true))⟩,
    ⟨(some 19), .bin .eql (.tmp 17) (.tmp 18), (some (10, true))⟩,
    ⟨(some 20), .pick (.tmp 10) (.tmp 19) (.cst (.bool false)), none⟩,
    ⟨(some 4), .own 20, none⟩] [])
  .ret))
/-- internal/strconv.lower -/
def x157 : XFn := XFn.mk 5 [.tmp 2] (.seq (.region false [⟨(some 2), .mov (.cst (.int .u8 0)), none⟩] [])
  (.seq (.region false [⟨(some 3), .mov (.tmp 0), none⟩,
    ⟨(some 4), .bin .or (.tmp 3) (.cst (.int .u8 32)), none⟩,
    ⟨(some 2), .own 4, none⟩] [])
  .ret))
def x158_r0 : XCode := .seq (.seq (.region false [⟨(some 51), .mov (.tmp 4), none⟩,
    ⟨(some 52), .mov (.tmp 0), none⟩,
    ⟨(some 53), .lens true (.tmp 52), none⟩,
    ⟨(some 54), .bin .lss (.tmp 51) (.tmp 53), none⟩] [])
  (.cond (.tmp 54) .skip (.exit 0)))
  (.seq (.block 1 (.seq (.seq (.region false [⟨(some 57), .mov (.tmp 0), none⟩,
    ⟨(some 58), .mov (.tmp 4), none⟩,
    ⟨(some 59), .idxs (.tmp 57) (.tmp 58), none⟩,
    ⟨(some 60), .bin .leq (.cst (.int .u8 48)) (.tmp 59), none⟩,
    ⟨(some 61), .mov (.tmp 60), none⟩,
    ⟨(some 62), .mov (.tmp 0), (some (61, true))⟩,
    ⟨(some 63), .mov (.tmp 4), (some (61, true))⟩,
    ⟨(some 64), .idxs (.tmp 62) (.tmp 63), (some (61, true))⟩,
    ⟨(some 65), .bin .leq (.tmp 64) (.cst (.int .u8 57)), (some (61, true))⟩,
    ⟨(some 66), .pick (.tmp 61) (.tmp 65) (.cst (.bool false)), none⟩,
    ⟨(some 67), .mov (.tmp 66), none⟩,
    ⟨(some 68), .mov (.tmp 5), (some (67, false))⟩,
    ⟨(some 69), .mov (.tmp 68), (some (67, false))⟩,
    ⟨(some 70), .mov (.tmp 0), (some (69, true))⟩,
    ⟨(some 71), .mov (.tmp 4), (some (69, true))⟩,
    ⟨(some 72), .idxs (.tmp 70) (.tmp 71), (some (69, true))⟩,
    ⟨(some 73), .callq 157 [.tmp 72], (some (69, true))⟩,
    ⟨(some 74), .bin .leq (.cst (.int .u8 97)) (.tmp 73), (some (69, true))⟩,
    ⟨(some 75), .pick (.tmp 69) (.tmp 74) (.cst (.bool false)), (some (67, false))⟩,
    ⟨(some 76), .mov (.tmp 75), (some (67, false))⟩,
    ⟨(some 77), .mov (.tmp 0), (some (76, true))⟩,
    ⟨(some 78), .mov (.tmp 4), (some (76, true))⟩,
    ⟨(some 79), .idxs (.tmp 77) (.tmp 78), (some (76, true))⟩,
    ⟨(some 80), .callq 157 [.tmp 79], (some (76, true))⟩,
    ⟨(some 81), .bin .leq (.tmp 80) (.cst (.int .u8 102)), (some (76, true))⟩,
    ⟨(some 82), .pick (.tmp 76) (.tmp 81) (.cst (.bool false)), (some (67, false))⟩,
    ⟨(some 83), .pick (.tmp 67) (.cst (.bool true)) (.tmp 82), none⟩] [])
  (.cond (.tmp 83) (.seq (.region false [⟨(some 3), .mov (.cst (.int .i32 48)), none⟩] [])
  (.exit 1)) .skip))
  (.seq (.seq (.region false [⟨(some 84), .mov (.tmp 0), none⟩,
    ⟨(some 85), .mov (.tmp 4), none⟩,
    ⟨(some 86), .idxs (.tmp 84) (.tmp 85), none⟩,
    ⟨(some 87), .bin .eql (.tmp 86) (.cst (.int .u8 95)), none⟩] [])
  (.cond (.tmp 87) (.seq (.seq (.region false [⟨(some 88), .mov (.tmp 3), none⟩,
    ⟨(some 89), .bin .neq (.tmp 88) (.cst (.int .i32 48)), none⟩] [])
  (.cond (.tmp 89) (.seq (.region false [⟨(some 2), .mov (.cst (.bool false)), none⟩] [])
  .ret) .skip))
  (.seq (.region false [⟨(some 3), .mov (.cst (.int .i32 95)), none⟩] [])
  (.exit 1))) .skip))
  (.seq (.seq (.region false [⟨(some 90), .mov (.tmp 3), none⟩,
    ⟨(some 91), .bin .eql (.tmp 90) (.cst (.int .i32 95)), none⟩] [])
  (.cond (.tmp 91) (.seq (.region false [⟨(some 2), .mov (.cst (.bool false)), none⟩] [])
  .ret) .skip))
  (.region false [⟨(some 3), .mov (.cst (.int .i32 33)), none⟩] [])))))
  (.region false [⟨(some 55), .mov (.tmp 4), none⟩,
    ⟨(some 56), .bin .add (.tmp 55) (.cst (.int .i64 1)), none⟩,
    ⟨(some 4), .own 56, none⟩] []))
def x158_l0 : XCode := x158_r0
/-- internal/strconv.underscoreOK -/
def x158 : XFn := XFn.mk 94 [.tmp 2] (.seq (.region false [⟨(some 2), .mov (.cst (.bool false)), none⟩] [])
  (.seq (.region false [⟨(some 3), .mov (.cst (.int .i32 94)), none⟩] [])
  (.seq (.region false [⟨(some 4), .mov (.cst (.int .i64 0)), none⟩] [])
  (.seq (.seq (.region false [⟨(some 6), .mov (.tmp 0), none⟩,
    ⟨(some 7), .lens true (.tmp 6), none⟩,
    ⟨(some 8), .bin .geq (.tmp 7) (.cst (.int .i64 1)), none⟩,
    ⟨(some 9), .mov (.tmp 8), none⟩,
    ⟨(some 10), .mov (.tmp 0), (some (9, true))⟩,
    ⟨(some 11), .idxs (.tmp 10) (.cst (.int .i64 0)), (some (9, true))⟩,
    ⟨(some 12), .bin .eql (.tmp 11) (.cst (.int .u8 45)), (some (9, true))⟩,
    ⟨(some 13), .mov (.tmp 12), (some (9, true))⟩,
    ⟨(some 14), .mov (.tmp 0), (some (13, false))⟩,
    ⟨(some 15), .idxs (.tmp 14) (.cst (.int .i64 0)), (some (13, false))⟩,
    ⟨(some 16), .bin .eql (.tmp 15) (.cst (.int .u8 43)), (some (13, false))⟩,
    ⟨(some 17), .pick (.tmp 13) (.cst (.bool true)) (.tmp 16), (some (9, true))⟩,
    ⟨(some 18), .pick (.tmp 9) (.tmp 17) (.cst (.bool false)), none⟩] [])
  (.cond (.tmp 18) (.region false [⟨(some 19), .mov (.tmp 0), none⟩,
    ⟨(some 20), .sstr (.tmp 19) (some (.cst (.int .i64 1))) none, none⟩,
    ⟨(some 0), .own 20, none⟩] []) .skip))
  (.seq (.region false [⟨(some 5), .mov (.cst (.bool false)), none⟩] [])
  (.seq (.seq (.region false [⟨(some 21), .mov (.tmp 0), none⟩,
    ⟨(some 22), .lens true (.tmp 21), none⟩,
    ⟨(some 23), .bin .geq (.tmp 22) (.cst (.int .i64 2)), none⟩,
    ⟨(some 24), .mov (.tmp 23), none⟩,
    ⟨(some 25), .mov (.tmp 0), (some (24, true))⟩,
    ⟨(some 26), .idxs (.tmp 25) (.cst (.int .i64 0)), (some (24, true))⟩,
    ⟨(some 27), .bin .eql (.tmp 26) (.cst (.int .u8 48)), (some (24, true))⟩,
    ⟨(some 28), .pick (.tmp 24) (.tmp 27) (.cst (.bool false)), none⟩,
    ⟨(some 29), .mov (.tmp 28), none⟩,
    ⟨(some 30), .mov (.tmp 0), (some (29, true))⟩,
    ⟨(some 31), .idxs (.tmp 30) (.cst (.int .i64 1)), (some (29, true))⟩,
    ⟨(some 32), .callq 157 [.tmp 31], (some (29, true))⟩,
    ⟨(some 33), .bin .eql (.tmp 32) (.cst (.int .u8 98)), (some (29, true))⟩,
    ⟨(some 34), .mov (.tmp 33), (some (29, true))⟩,
    ⟨(some 35), .mov (.tmp 0), (some (34, false))⟩,
    ⟨(some 36), .idxs (.tmp 35) (.cst (.int .i64 1)), (some (34, false))⟩,
    ⟨(some 37), .callq 157 [.tmp 36], (some (34, false))⟩,
    ⟨(some 38), .bin .eql (.tmp 37) (.cst (.int .u8 111)), (some (34, false))⟩,
    ⟨(some 39), .pick (.tmp 34) (.cst (.bool true)) (.tmp 38), (some (29, true))⟩,
    ⟨(some 40), .mov (.tmp 39), (some (29, true))⟩,
    ⟨(some 41), .mov (.tmp 0), (some (40, false))⟩,
    ⟨(some 42), .idxs (.tmp 41) (.cst (.int .i64 1)), (some (40, false))⟩,
    ⟨(some 43), .callq 157 [.tmp 42], (some (40, false))⟩,
    ⟨(some 44), .bin .eql (.tmp 43) (.cst (.int .u8 120)), (some (40, false))⟩,
    ⟨(some 45), .pick (.tmp 40) (.cst (.bool true)) (.tmp 44), (some (29, true))⟩,
    ⟨(some 46), .pick (.tmp 29) (.tmp 45) (.cst (.bool false)), none⟩] [])
  (.cond (.tmp 46) (.seq (.region false [⟨(some 4), .mov (.cst (.int .i64 2)), none⟩] [])
  (.seq (.region false [⟨(some 3), .mov (.cst (.int .i32 48)), none⟩] [])
  (.region false [⟨(some 47), .mov (.tmp 0), none⟩,
    ⟨(some 48), .idxs (.tmp 47) (.cst (.int .i64 1)), none⟩,
    ⟨(some 49), .callq 157 [.tmp 48], none⟩,
    ⟨(some 50), .bin .eql (.tmp 49) (.cst (.int .u8 120)), none⟩,
    ⟨(some 5), .own 50, none⟩] []))) .skip))
  (.seq (.block 0 (.loop x158_l0))
  (.seq (.region false [⟨(some 92), .mov (.tmp 3), none⟩,
    ⟨(some 93), .bin .neq (.tmp 92) (.cst (.int .i32 95)), none⟩,
    ⟨(some 2), .own 93, none⟩] [])
  .ret))))))))
def X : List (Option XFn) := [none, none, none, none, none, none, some x6, none, some x8, some x9, none, some x11, none, some x13, none, some x15, none, some x17, none, some x19, some x20, some x21, some x22, some x23, some x24, some x25, some x26, some x27, none, none, none, none, none, none, some x34, some x35, none, some x37, none, none, none, some x41, some x42, none, some x44, some x45, some x46, some x47, some x48, some x49, some x50, none, some x52, some x53, none, none, none, none, none, none, none, none, none, none, some x64, some x65, some x66, none, none, none, none, none, some x72, none, none, none, some x76, some x77, some x78, none, some x80, some x81, none, none, none, none, none, none, none, none, none, some x91, some x92, some x93, none, none, none, none, none, none, some x100, some x101, some x102, some x103, some x104, none, some x106, some x107, none, none, none, none, none, none, none, none, some x116, some x117, some x118, none, none, none, none, none, none, some x125, some x126, some x127, some x128, some x129, some x130, some x131, some x132, some x133, none, none, none, none, none, none, none, none, some x142, some x143, none, none, none, none, none, some x149, some x150, none, none, none, none, none, some x156, some x157, some x158]
end Go.Proofs.YtafeikbbjhmlaaaGreatDoor.Sx.T
