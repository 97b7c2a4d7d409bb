/- The functions of this seat in the small language, printed by a program of ours. -/
import Derived.Test.YtgbmobfjanajaaaDoorSxA
set_option linter.unusedVariables false
set_option linter.unusedSimpArgs false
namespace Go.Proofs.YtgbmobfjanajaaaDoor.Sx.T
open Go Go.Proofs.YtgbmobfjanajaaaDoor.Sx
set_option maxRecDepth 10000
/-- custos/custoslaw02.ValueNumbers -/
def x3 : XFn := XFn.mk 32 [.tmp 0] (.seq (.region false [⟨(some 0), .mov (.cst (.bool false)), none⟩] [])
  (.seq (.region false [⟨(some 1), .mov (.cst (.bool true)), none⟩] [])
  (.seq (.region false [⟨(some 2), .mov (.cst (.bool true)), none⟩] [])
  (.seq (.region false [⟨(some 6), .callq 9 [.cst (.int .i64 9223372036854775807)], none⟩,
    ⟨(some 7), .callq 9 [.cst (.int .i64 1)], none⟩,
    ⟨(some 8), .callq 8 [.tmp 6, .tmp 7], none⟩,
    ⟨(some 5), .mov (.tmp 8), none⟩,
    ⟨(some 9), .ext 5 0, none⟩,
    ⟨(some 10), .ext 5 1, none⟩,
    ⟨(some 3), .alloc [.int .i64 0, .int .i64 0, .int .i64 0, .str []], none⟩,
    ⟨none, .store (.tmp 3) (.tmp 9) 4, none⟩,
    ⟨(some 4), .own 10, none⟩] [])
  (.seq (.region false [⟨(some 11), .mov (.tmp 1), none⟩,
    ⟨(some 12), .mov (.tmp 11), none⟩,
    ⟨(some 13), .mov (.tmp 2), (some (12, true))⟩,
    ⟨(some 14), .pick (.tmp 12) (.tmp 13) (.cst (.bool false)), none⟩,
    ⟨(some 15), .mov (.tmp 14), none⟩,
    ⟨(some 16), .callq 10 [], (some (15, true))⟩,
    ⟨(some 17), .pick (.tmp 15) (.tmp 16) (.cst (.bool false)), none⟩,
    ⟨(some 18), .mov (.tmp 17), none⟩,
    ⟨(some 19), .mov (.tmp 4), (some (18, true))⟩,
    ⟨(some 20), .bin .eql (.tmp 19) (.cst (.int .i64 10)), (some (18, true))⟩,
    ⟨(some 21), .pick (.tmp 18) (.tmp 20) (.cst (.bool false)), none⟩,
    ⟨(some 22), .mov (.tmp 21), none⟩,
    ⟨(some 23), .callq 12 [.cst (.int .i64 2), .cst (.int .i64 4)], (some (22, true))⟩,
    ⟨(some 24), .callq 11 [.tmp 23], (some (22, true))⟩,
    ⟨(some 25), .bin .eql (.tmp 24) (.cst (.int .i64 20)), (some (22, true))⟩,
    ⟨(some 26), .pick (.tmp 22) (.tmp 25) (.cst (.bool false)), none⟩,
    ⟨(some 27), .mov (.tmp 26), none⟩,
    ⟨(some 28), .callq 12 [.cst (.int .i64 0), .cst (.int .i64 1)], (some (27, true))⟩,
    ⟨(some 29), .callq 11 [.tmp 28], (some (27, true))⟩,
    ⟨(some 30), .bin .eql (.tmp 29) (.cst (.int .i64 0)), (some (27, true))⟩,
    ⟨(some 31), .pick (.tmp 27) (.tmp 30) (.cst (.bool false)), none⟩,
    ⟨(some 0), .own 31, none⟩] [])
  .ret)))))
/-- custos/custoslaw02.ValueChecks -/
def x4 : XFn := XFn.mk 11 [.tmp 2] (.seq (.region false [⟨(some 1), .box (.tmp 0) 4, none⟩,
    ⟨(some 2), .mov (.cst (.bool false)), none⟩] [])
  (.seq (.region true [⟨(some 3), .callq 10 [], none⟩,
    ⟨(some 4), .mov (.tmp 3), none⟩,
    ⟨(some 5), .load (.tmp 1) 4 true, (some (4, true))⟩,
    ⟨(some 6), .callq 11 [.tmp 5], (some (4, true))⟩,
    ⟨(some 7), .load (.tmp 1) 4 true, (some (4, true))⟩,
    ⟨(some 8), .callq 13 [.tmp 7], (some (4, true))⟩,
    ⟨(some 9), .bin .eql (.tmp 6) (.tmp 8), (some (4, true))⟩,
    ⟨(some 10), .pick (.tmp 4) (.tmp 9) (.cst (.bool false)), none⟩,
    ⟨(some 2), .own 10, none⟩] [])
  .ret))
/-- custos/custoslaw02.ValueOrder -/
def x5 : XFn := XFn.mk 132 [.tmp 6] (.seq (.region false [⟨(some 3), .box (.tmp 0) 4, none⟩,
    ⟨(some 4), .box (.tmp 1) 4, none⟩,
    ⟨(some 5), .box (.tmp 2) 4, none⟩,
    ⟨(some 6), .mov (.cst (.bool false)), none⟩] [])
  (.seq (.seq (.region false [⟨(some 14), .load (.tmp 3) 4 true, none⟩,
    ⟨(some 15), .callq 11 [.tmp 14], none⟩,
    ⟨(some 16), .bin .neq (.tmp 15) (.cst (.int .i64 0)), none⟩,
    ⟨(some 17), .mov (.tmp 16), none⟩,
    ⟨(some 18), .load (.tmp 4) 4 true, (some (17, false))⟩,
    ⟨(some 19), .callq 11 [.tmp 18], (some (17, false))⟩,
    ⟨(some 20), .bin .neq (.tmp 19) (.cst (.int .i64 0)), (some (17, false))⟩,
    ⟨(some 21), .pick (.tmp 17) (.cst (.bool true)) (.tmp 20), none⟩,
    ⟨(some 22), .mov (.tmp 21), none⟩,
    ⟨(some 23), .load (.tmp 5) 4 true, (some (22, false))⟩,
    ⟨(some 24), .callq 11 [.tmp 23], (some (22, false))⟩,
    ⟨(some 25), .bin .neq (.tmp 24) (.cst (.int .i64 0)), (some (22, false))⟩,
    ⟨(some 26), .pick (.tmp 22) (.cst (.bool true)) (.tmp 25), none⟩] [])
  (.cond (.tmp 26) (.seq (.region false [⟨(some 27), .callq 10 [], none⟩,
    ⟨(some 6), .own 27, none⟩] [])
  .ret) .skip))
  (.seq (.region false [⟨(some 28), .load (.tmp 3) 4 true, none⟩,
    ⟨(some 29), .load (.tmp 4) 4 true, none⟩,
    ⟨(some 30), .callq 14 [.tmp 28, .tmp 29], none⟩,
    ⟨(some 7), .own 30, none⟩] [])
  (.seq (.region false [⟨(some 31), .load (.tmp 4) 4 true, none⟩,
    ⟨(some 32), .load (.tmp 5) 4 true, none⟩,
    ⟨(some 33), .callq 14 [.tmp 31, .tmp 32], none⟩,
    ⟨(some 8), .own 33, none⟩] [])
  (.seq (.region false [⟨(some 34), .load (.tmp 3) 4 true, none⟩,
    ⟨(some 35), .load (.tmp 5) 4 true, none⟩,
    ⟨(some 36), .callq 14 [.tmp 34, .tmp 35], none⟩,
    ⟨(some 9), .own 36, none⟩] [])
  (.seq (.region false [⟨(some 37), .load (.tmp 4) 4 true, none⟩,
    ⟨(some 38), .load (.tmp 3) 4 true, none⟩,
    ⟨(some 39), .callq 14 [.tmp 37, .tmp 38], none⟩,
    ⟨(some 40), .mov (.tmp 7), none⟩,
    ⟨(some 41), .neg (.tmp 40), none⟩,
    ⟨(some 42), .bin .eql (.tmp 39) (.tmp 41), none⟩,
    ⟨(some 43), .mov (.tmp 42), none⟩,
    ⟨(some 44), .mov (.tmp 7), (some (43, true))⟩,
    ⟨(some 45), .bin .eql (.tmp 44) (.cst (.int .i64 0)), (some (43, true))⟩,
    ⟨(some 46), .load (.tmp 3) 4 true, (some (43, true))⟩,
    ⟨(some 47), .load (.tmp 4) 4 true, (some (43, true))⟩,
    ⟨(some 48), .callq 15 [.tmp 46, .tmp 47], (some (43, true))⟩,
    ⟨(some 49), .beq false (.tmp 45) (.tmp 48), (some (43, true))⟩,
    ⟨(some 50), .pick (.tmp 43) (.tmp 49) (.cst (.bool false)), none⟩,
    ⟨(some 51), .mov (.tmp 50), none⟩,
    ⟨(some 52), .mov (.tmp 7), (some (51, true))⟩,
    ⟨(some 53), .bin .geq (.tmp 52) (.cst (.int .i64 (-1))), (some (51, true))⟩,
    ⟨(some 54), .pick (.tmp 51) (.tmp 53) (.cst (.bool false)), none⟩,
    ⟨(some 55), .mov (.tmp 54), none⟩,
    ⟨(some 56), .mov (.tmp 7), (some (55, true))⟩,
    ⟨(some 57), .bin .leq (.tmp 56) (.cst (.int .i64 1)), (some (55, true))⟩,
    ⟨(some 58), .pick (.tmp 55) (.tmp 57) (.cst (.bool false)), none⟩,
    ⟨(some 10), .own 58, none⟩] [])
  (.seq (.region false [⟨(some 59), .mov (.tmp 7), none⟩,
    ⟨(some 60), .bin .gtr (.tmp 59) (.cst (.int .i64 0)), none⟩,
    ⟨(some 61), .mov (.tmp 60), none⟩,
    ⟨(some 62), .mov (.tmp 8), (some (61, false))⟩,
    ⟨(some 63), .bin .gtr (.tmp 62) (.cst (.int .i64 0)), (some (61, false))⟩,
    ⟨(some 64), .pick (.tmp 61) (.cst (.bool true)) (.tmp 63), none⟩,
    ⟨(some 65), .mov (.tmp 64), none⟩,
    ⟨(some 66), .mov (.tmp 9), (some (65, false))⟩,
    ⟨(some 67), .bin .leq (.tmp 66) (.cst (.int .i64 0)), (some (65, false))⟩,
    ⟨(some 68), .mov (.tmp 67), (some (65, false))⟩,
    ⟨(some 69), .mov (.tmp 9), (some (68, true))⟩,
    ⟨(some 70), .bin .eql (.tmp 69) (.cst (.int .i64 0)), (some (68, true))⟩,
    ⟨(some 71), .mov (.tmp 7), (some (68, true))⟩,
    ⟨(some 72), .bin .eql (.tmp 71) (.cst (.int .i64 0)), (some (68, true))⟩,
    ⟨(some 73), .mov (.tmp 72), (some (68, true))⟩,
    ⟨(some 74), .mov (.tmp 8), (some (73, true))⟩,
    ⟨(some 75), .bin .eql (.tmp 74) (.cst (.int .i64 0)), (some (73, true))⟩,
    ⟨(some 76), .pick (.tmp 73) (.tmp 75) (.cst (.bool false)), (some (68, true))⟩,
    ⟨(some 77), .beq false (.tmp 70) (.tmp 76), (some (68, true))⟩,
    ⟨(some 78), .pick (.tmp 68) (.tmp 77) (.cst (.bool false)), (some (65, false))⟩,
    ⟨(some 79), .pick (.tmp 65) (.cst (.bool true)) (.tmp 78), none⟩,
    ⟨(some 11), .own 79, none⟩] [])
  (.seq (.region false [⟨(some 80), .load (.tmp 3) 4 true, none⟩,
    ⟨(some 81), .bslice 4 [.int .i64 0, .int .i64 0, .int .i64 0, .str []] [(0, 4, .tmp 80)], none⟩,
    ⟨(some 82), .load (.tmp 4) 4 true, none⟩,
    ⟨(some 83), .bslice 4 [.int .i64 0, .int .i64 0, .int .i64 0, .str []] [(0, 4, .tmp 82)], none⟩,
    ⟨(some 84), .callq 16 [.tmp 81, .tmp 83], none⟩,
    ⟨(some 85), .mov (.tmp 7), none⟩,
    ⟨(some 86), .bin .eql (.tmp 84) (.tmp 85), none⟩,
    ⟨(some 87), .mov (.tmp 86), none⟩,
    ⟨(some 88), .load (.tmp 5) 4 true, (some (87, true))⟩,
    ⟨(some 89), .load (.tmp 3) 4 true, (some (87, true))⟩,
    ⟨(some 90), .bslice 4 [.int .i64 0, .int .i64 0, .int .i64 0, .str [], .int .i64 0, .int .i64 0, .int .i64 0, .str []] [(0, 4, .tmp 88), (4, 4, .tmp 89)], (some (87, true))⟩,
    ⟨(some 91), .load (.tmp 5) 4 true, (some (87, true))⟩,
    ⟨(some 92), .load (.tmp 4) 4 true, (some (87, true))⟩,
    ⟨(some 93), .bslice 4 [.int .i64 0, .int .i64 0, .int .i64 0, .str [], .int .i64 0, .int .i64 0, .int .i64 0, .str []] [(0, 4, .tmp 91), (4, 4, .tmp 92)], (some (87, true))⟩,
    ⟨(some 94), .callq 16 [.tmp 90, .tmp 93], (some (87, true))⟩,
    ⟨(some 95), .mov (.tmp 7), (some (87, true))⟩,
    ⟨(some 96), .bin .eql (.tmp 94) (.tmp 95), (some (87, true))⟩,
    ⟨(some 97), .pick (.tmp 87) (.tmp 96) (.cst (.bool false)), none⟩,
    ⟨(some 12), .own 97, none⟩] [])
  (.seq (.region false [⟨(some 98), .load (.tmp 3) 4 true, none⟩,
    ⟨(some 99), .bslice 4 [.int .i64 0, .int .i64 0, .int .i64 0, .str []] [(0, 4, .tmp 98)], none⟩,
    ⟨(some 100), .load (.tmp 3) 4 true, none⟩,
    ⟨(some 101), .load (.tmp 4) 4 true, none⟩,
    ⟨(some 102), .bslice 4 [.int .i64 0, .int .i64 0, .int .i64 0, .str [], .int .i64 0, .int .i64 0, .int .i64 0, .str []] [(0, 4, .tmp 100), (4, 4, .tmp 101)], none⟩,
    ⟨(some 103), .callq 16 [.tmp 99, .tmp 102], none⟩,
    ⟨(some 104), .bin .eql (.tmp 103) (.cst (.int .i64 (-1))), none⟩,
    ⟨(some 105), .mov (.tmp 104), none⟩,
    ⟨(some 106), .mov (.tmp 7), (some (105, true))⟩,
    ⟨(some 107), .bin .eql (.tmp 106) (.cst (.int .i64 0)), (some (105, true))⟩,
    ⟨(some 108), .mov (.tmp 107), (some (105, true))⟩,
    ⟨(some 109), .load (.tmp 3) 4 true, (some (108, false))⟩,
    ⟨(some 110), .load (.tmp 5) 4 true, (some (108, false))⟩,
    ⟨(some 111), .bslice 4 [.int .i64 0, .int .i64 0, .int .i64 0, .str [], .int .i64 0, .int .i64 0, .int .i64 0, .str []] [(0, 4, .tmp 109), (4, 4, .tmp 110)], (some (108, false))⟩,
    ⟨(some 112), .load (.tmp 4) 4 true, (some (108, false))⟩,
    ⟨(some 113), .bslice 4 [.int .i64 0, .int .i64 0, .int .i64 0, .str []] [(0, 4, .tmp 112)], (some (108, false))⟩,
    ⟨(some 114), .callq 16 [.tmp 111, .tmp 113], (some (108, false))⟩,
    ⟨(some 115), .mov (.tmp 7), (some (108, false))⟩,
    ⟨(some 116), .bin .eql (.tmp 114) (.tmp 115), (some (108, false))⟩,
    ⟨(some 117), .pick (.tmp 108) (.cst (.bool true)) (.tmp 116), (some (105, true))⟩,
    ⟨(some 118), .pick (.tmp 105) (.tmp 117) (.cst (.bool false)), none⟩,
    ⟨(some 13), .own 118, none⟩] [])
  (.seq (.region false [⟨(some 119), .callq 10 [], none⟩,
    ⟨(some 120), .mov (.tmp 119), none⟩,
    ⟨(some 121), .mov (.tmp 10), (some (120, true))⟩,
    ⟨(some 122), .pick (.tmp 120) (.tmp 121) (.cst (.bool false)), none⟩,
    ⟨(some 123), .mov (.tmp 122), none⟩,
    ⟨(some 124), .mov (.tmp 11), (some (123, true))⟩,
    ⟨(some 125), .pick (.tmp 123) (.tmp 124) (.cst (.bool false)), none⟩,
    ⟨(some 126), .mov (.tmp 125), none⟩,
    ⟨(some 127), .mov (.tmp 12), (some (126, true))⟩,
    ⟨(some 128), .pick (.tmp 126) (.tmp 127) (.cst (.bool false)), none⟩,
    ⟨(some 129), .mov (.tmp 128), none⟩,
    ⟨(some 130), .mov (.tmp 13), (some (129, true))⟩,
    ⟨(some 131), .pick (.tmp 129) (.tmp 130) (.cst (.bool false)), none⟩,
    ⟨(some 6), .own 131, none⟩] [])
  .ret))))))))))
/-- custos/custoslaw02.ValueTexts -/
def x6 : XFn := XFn.mk 85 [.tmp 6] (.seq (.region false [⟨(some 3), .box (.tmp 0) 4, none⟩,
    ⟨(some 4), .box (.tmp 1) 4, none⟩,
    ⟨(some 6), .mov (.cst (.bool false)), none⟩] [])
  (.seq (.region false [⟨(some 18), .load (.tmp 3) 4 true, none⟩,
    ⟨(some 19), .callq 17 [.tmp 18], none⟩,
    ⟨(some 17), .mov (.tmp 19), none⟩,
    ⟨(some 20), .ext 17 0, none⟩,
    ⟨(some 21), .ext 17 1, none⟩,
    ⟨(some 7), .own 20, none⟩,
    ⟨(some 8), .own 21, none⟩] [])
  (.seq (.region false [⟨(some 23), .load (.tmp 4) 4 true, none⟩,
    ⟨(some 24), .callq 17 [.tmp 23], none⟩,
    ⟨(some 22), .mov (.tmp 24), none⟩,
    ⟨(some 25), .ext 22 0, none⟩,
    ⟨(some 26), .ext 22 1, none⟩,
    ⟨(some 9), .own 25, none⟩,
    ⟨(some 10), .own 26, none⟩] [])
  (.seq (.seq (.region false [⟨(some 27), .mov (.tmp 8), none⟩,
    ⟨(some 28), .bin .eql (.tmp 27) (.cst (.int .i64 0)), none⟩] [])
  (.cond (.tmp 28) (.seq (.region false [⟨(some 30), .mov (.tmp 7), none⟩,
    ⟨(some 31), .callq 18 [.tmp 30], none⟩,
    ⟨(some 29), .mov (.tmp 31), none⟩,
    ⟨(some 32), .ext 29 0, none⟩,
    ⟨(some 33), .ext 29 1, none⟩,
    ⟨(some 11), .alloc [.int .i64 0, .int .i64 0, .int .i64 0, .str []], none⟩,
    ⟨none, .store (.tmp 11) (.tmp 32) 4, none⟩,
    ⟨(some 12), .own 33, none⟩] [])
  (.seq (.seq (.region false [⟨(some 34), .mov (.tmp 12), none⟩,
    ⟨(some 35), .bin .neq (.tmp 34) (.cst (.int .i64 0)), none⟩,
    ⟨(some 36), .mov (.tmp 35), none⟩,
    ⟨(some 37), .load (.tmp 11) 4 true, (some (36, false))⟩,
    ⟨(some 38), .load (.tmp 3) 4 true, (some (36, false))⟩,
    ⟨(some 39), .callq 19 [.tmp 37, .tmp 38], (some (36, false))⟩,
    ⟨(some 40), .not (.tmp 39), (some (36, false))⟩,
    ⟨(some 41), .pick (.tmp 36) (.cst (.bool true)) (.tmp 40), none⟩] [])
  (.cond (.tmp 41) (.seq (.region false [⟨(some 6), .mov (.cst (.bool false)), none⟩] [])
  .ret) .skip))
  (.seq (.region false [⟨(some 42), .mov (.tmp 10), none⟩,
    ⟨(some 43), .bin .eql (.tmp 42) (.cst (.int .i64 0)), none⟩,
    ⟨(some 44), .mov (.tmp 43), none⟩,
    ⟨(some 45), .mov (.tmp 7), (some (44, true))⟩,
    ⟨(some 46), .mov (.tmp 9), (some (44, true))⟩,
    ⟨(some 47), .bin .eql (.tmp 45) (.tmp 46), (some (44, true))⟩,
    ⟨(some 48), .load (.tmp 3) 4 true, (some (44, true))⟩,
    ⟨(some 49), .load (.tmp 4) 4 true, (some (44, true))⟩,
    ⟨(some 50), .callq 19 [.tmp 48, .tmp 49], (some (44, true))⟩,
    ⟨(some 51), .beq true (.tmp 47) (.tmp 50), (some (44, true))⟩,
    ⟨(some 52), .pick (.tmp 44) (.tmp 51) (.cst (.bool false)), none⟩] [])
  (.cond (.tmp 52) (.seq (.region false [⟨(some 6), .mov (.cst (.bool false)), none⟩] [])
  .ret) .skip)))) .skip))
  (.seq (.region false [⟨(some 54), .mov (.tmp 2), none⟩,
    ⟨(some 55), .callq 18 [.tmp 54], none⟩,
    ⟨(some 53), .mov (.tmp 55), none⟩,
    ⟨(some 56), .ext 53 0, none⟩,
    ⟨(some 57), .ext 53 1, none⟩,
    ⟨(some 13), .alloc [.int .i64 0, .int .i64 0, .int .i64 0, .str []], none⟩,
    ⟨none, .store (.tmp 13) (.tmp 56) 4, none⟩,
    ⟨(some 14), .own 57, none⟩] [])
  (.seq (.region false [⟨(some 59), .load (.tmp 13) 4 true, none⟩,
    ⟨(some 60), .callq 17 [.tmp 59], none⟩,
    ⟨(some 58), .mov (.tmp 60), none⟩,
    ⟨(some 61), .ext 58 0, none⟩,
    ⟨(some 62), .ext 58 1, none⟩,
    ⟨(some 15), .own 61, none⟩,
    ⟨(some 16), .own 62, none⟩] [])
  (.seq (.region false [⟨(some 63), .callq 10 [], none⟩,
    ⟨(some 64), .mov (.tmp 63), none⟩,
    ⟨(some 65), .mov (.tmp 8), (some (64, true))⟩,
    ⟨(some 66), .bin .eql (.tmp 65) (.cst (.int .i64 0)), (some (64, true))⟩,
    ⟨(some 67), .load (.tmp 3) 4 true, (some (64, true))⟩,
    ⟨(some 68), .callq 11 [.tmp 67], (some (64, true))⟩,
    ⟨(some 69), .bin .eql (.tmp 68) (.cst (.int .i64 0)), (some (64, true))⟩,
    ⟨(some 70), .beq false (.tmp 66) (.tmp 69), (some (64, true))⟩,
    ⟨(some 71), .pick (.tmp 64) (.tmp 70) (.cst (.bool false)), none⟩,
    ⟨(some 72), .mov (.tmp 71), none⟩,
    ⟨(some 73), .mov (.tmp 14), (some (72, true))⟩,
    ⟨(some 74), .bin .neq (.tmp 73) (.cst (.int .i64 0)), (some (72, true))⟩,
    ⟨(some 75), .mov (.tmp 74), (some (72, true))⟩,
    ⟨(some 76), .mov (.tmp 16), (some (75, false))⟩,
    ⟨(some 77), .bin .eql (.tmp 76) (.cst (.int .i64 0)), (some (75, false))⟩,
    ⟨(some 78), .mov (.tmp 77), (some (75, false))⟩,
    ⟨(some 79), .mov (.tmp 15), (some (78, true))⟩,
    ⟨(some 80), .mov (.tmp 2), (some (78, true))⟩,
    ⟨(some 81), .bin .eql (.tmp 79) (.tmp 80), (some (78, true))⟩,
    ⟨(some 82), .pick (.tmp 78) (.tmp 81) (.cst (.bool false)), (some (75, false))⟩,
    ⟨(some 83), .pick (.tmp 75) (.cst (.bool true)) (.tmp 82), (some (72, true))⟩,
    ⟨(some 84), .pick (.tmp 72) (.tmp 83) (.cst (.bool false)), none⟩,
    ⟨(some 6), .own 84, none⟩] [])
  .ret)))))))
/-- custos/custoslaw02.ValueWhole -/
def x7 : XFn := XFn.mk 146 [.tmp 4] (.seq (.region false [⟨(some 4), .mov (.cst (.bool false)), none⟩] [])
  (.seq (.region false [⟨(some 20), .mov (.tmp 0), none⟩,
    ⟨(some 21), .callq 9 [.tmp 20], none⟩,
    ⟨(some 22), .mov (.tmp 1), none⟩,
    ⟨(some 23), .callq 9 [.tmp 22], none⟩,
    ⟨(some 24), .callq 8 [.tmp 21, .tmp 23], none⟩,
    ⟨(some 19), .mov (.tmp 24), none⟩,
    ⟨(some 25), .ext 19 0, none⟩,
    ⟨(some 26), .ext 19 1, none⟩,
    ⟨(some 5), .alloc [.int .i64 0, .int .i64 0, .int .i64 0, .str []], none⟩,
    ⟨none, .store (.tmp 5) (.tmp 25) 4, none⟩,
    ⟨(some 6), .own 26, none⟩] [])
  (.seq (.region false [⟨(some 28), .mov (.tmp 0), none⟩,
    ⟨(some 29), .callq 12 [.tmp 28, .cst (.int .i64 1)], none⟩,
    ⟨(some 30), .mov (.tmp 1), none⟩,
    ⟨(some 31), .callq 12 [.tmp 30, .cst (.int .i64 1)], none⟩,
    ⟨(some 32), .callq 8 [.tmp 29, .tmp 31], none⟩,
    ⟨(some 27), .mov (.tmp 32), none⟩,
    ⟨(some 33), .ext 27 0, none⟩,
    ⟨(some 34), .ext 27 1, none⟩,
    ⟨(some 7), .alloc [.int .i64 0, .int .i64 0, .int .i64 0, .str []], none⟩,
    ⟨none, .store (.tmp 7) (.tmp 33) 4, none⟩,
    ⟨(some 8), .own 34, none⟩] [])
  (.seq (.region false [⟨(some 36), .mov (.tmp 0), none⟩,
    ⟨(some 37), .callq 9 [.tmp 36], none⟩,
    ⟨(some 38), .mov (.tmp 1), none⟩,
    ⟨(some 39), .callq 9 [.tmp 38], none⟩,
    ⟨(some 40), .callq 20 [.tmp 37, .tmp 39], none⟩,
    ⟨(some 35), .mov (.tmp 40), none⟩,
    ⟨(some 41), .ext 35 0, none⟩,
    ⟨(some 42), .ext 35 1, none⟩,
    ⟨(some 9), .alloc [.int .i64 0, .int .i64 0, .int .i64 0, .str []], none⟩,
    ⟨none, .store (.tmp 9) (.tmp 41) 4, none⟩,
    ⟨(some 10), .own 42, none⟩] [])
  (.seq (.region false [⟨(some 44), .mov (.tmp 0), none⟩,
    ⟨(some 45), .callq 12 [.tmp 44, .cst (.int .i64 1)], none⟩,
    ⟨(some 46), .mov (.tmp 1), none⟩,
    ⟨(some 47), .callq 12 [.tmp 46, .cst (.int .i64 1)], none⟩,
    ⟨(some 48), .callq 20 [.tmp 45, .tmp 47], none⟩,
    ⟨(some 43), .mov (.tmp 48), none⟩,
    ⟨(some 49), .ext 43 0, none⟩,
    ⟨(some 50), .ext 43 1, none⟩,
    ⟨(some 11), .alloc [.int .i64 0, .int .i64 0, .int .i64 0, .str []], none⟩,
    ⟨none, .store (.tmp 11) (.tmp 49) 4, none⟩,
    ⟨(some 12), .own 50, none⟩] [])
  (.seq (.region false [⟨(some 52), .mov (.tmp 0), none⟩,
    ⟨(some 53), .callq 9 [.tmp 52], none⟩,
    ⟨(some 54), .mov (.tmp 1), none⟩,
    ⟨(some 55), .callq 9 [.tmp 54], none⟩,
    ⟨(some 56), .callq 21 [.tmp 53, .tmp 55], none⟩,
    ⟨(some 51), .mov (.tmp 56), none⟩,
    ⟨(some 57), .ext 51 0, none⟩,
    ⟨(some 58), .ext 51 1, none⟩,
    ⟨(some 13), .alloc [.int .i64 0, .int .i64 0, .int .i64 0, .str []], none⟩,
    ⟨none, .store (.tmp 13) (.tmp 57) 4, none⟩,
    ⟨(some 14), .own 58, none⟩] [])
  (.seq (.region false [⟨(some 60), .mov (.tmp 0), none⟩,
    ⟨(some 61), .callq 12 [.tmp 60, .cst (.int .i64 1)], none⟩,
    ⟨(some 62), .mov (.tmp 1), none⟩,
    ⟨(some 63), .callq 12 [.tmp 62, .cst (.int .i64 1)], none⟩,
    ⟨(some 64), .callq 21 [.tmp 61, .tmp 63], none⟩,
    ⟨(some 59), .mov (.tmp 64), none⟩,
    ⟨(some 65), .ext 59 0, none⟩,
    ⟨(some 66), .ext 59 1, none⟩,
    ⟨(some 15), .alloc [.int .i64 0, .int .i64 0, .int .i64 0, .str []], none⟩,
    ⟨none, .store (.tmp 15) (.tmp 65) 4, none⟩,
    ⟨(some 16), .own 66, none⟩] [])
  (.seq (.region false [⟨(some 67), .mov (.tmp 6), none⟩,
    ⟨(some 68), .bin .neq (.tmp 67) (.cst (.int .i64 0)), none⟩,
    ⟨(some 69), .mov (.tmp 68), none⟩,
    ⟨(some 70), .faddr (.tmp 7) 2, (some (69, false))⟩,
    ⟨(some 71), .load (.tmp 70) 1 false, (some (69, false))⟩,
    ⟨(some 72), .bin .eql (.tmp 71) (.cst (.int .i64 1)), (some (69, false))⟩,
    ⟨(some 73), .pick (.tmp 69) (.cst (.bool true)) (.tmp 72), none⟩,
    ⟨(some 74), .mov (.tmp 73), none⟩,
    ⟨(some 75), .mov (.tmp 10), (some (74, true))⟩,
    ⟨(some 76), .bin .neq (.tmp 75) (.cst (.int .i64 0)), (some (74, true))⟩,
    ⟨(some 77), .mov (.tmp 76), (some (74, true))⟩,
    ⟨(some 78), .faddr (.tmp 11) 2, (some (77, false))⟩,
    ⟨(some 79), .load (.tmp 78) 1 false, (some (77, false))⟩,
    ⟨(some 80), .bin .eql (.tmp 79) (.cst (.int .i64 1)), (some (77, false))⟩,
    ⟨(some 81), .pick (.tmp 77) (.cst (.bool true)) (.tmp 80), (some (74, true))⟩,
    ⟨(some 82), .pick (.tmp 74) (.tmp 81) (.cst (.bool false)), none⟩,
    ⟨(some 83), .mov (.tmp 82), none⟩,
    ⟨(some 84), .mov (.tmp 14), (some (83, true))⟩,
    ⟨(some 85), .bin .neq (.tmp 84) (.cst (.int .i64 0)), (some (83, true))⟩,
    ⟨(some 86), .mov (.tmp 85), (some (83, true))⟩,
    ⟨(some 87), .faddr (.tmp 15) 2, (some (86, false))⟩,
    ⟨(some 88), .load (.tmp 87) 1 false, (some (86, false))⟩,
    ⟨(some 89), .bin .eql (.tmp 88) (.cst (.int .i64 1)), (some (86, false))⟩,
    ⟨(some 90), .pick (.tmp 86) (.cst (.bool true)) (.tmp 89), (some (83, true))⟩,
    ⟨(some 91), .pick (.tmp 83) (.tmp 90) (.cst (.bool false)), none⟩,
    ⟨(some 17), .own 91, none⟩] [])
  (.seq (.region false [⟨(some 92), .mov (.tmp 0), none⟩,
    ⟨(some 93), .callq 9 [.tmp 92], none⟩,
    ⟨(some 94), .mov (.tmp 1), none⟩,
    ⟨(some 95), .callq 9 [.tmp 94], none⟩,
    ⟨(some 96), .callq 14 [.tmp 93, .tmp 95], none⟩,
    ⟨(some 97), .mov (.tmp 0), none⟩,
    ⟨(some 98), .callq 12 [.tmp 97, .cst (.int .i64 1)], none⟩,
    ⟨(some 99), .mov (.tmp 1), none⟩,
    ⟨(some 100), .callq 12 [.tmp 99, .cst (.int .i64 1)], none⟩,
    ⟨(some 101), .callq 14 [.tmp 98, .tmp 100], none⟩,
    ⟨(some 102), .bin .eql (.tmp 96) (.tmp 101), none⟩,
    ⟨(some 18), .own 102, none⟩] [])
  (.seq (.region false [⟨(some 103), .callq 10 [], none⟩,
    ⟨(some 104), .mov (.tmp 103), none⟩,
    ⟨(some 105), .mov (.tmp 6), (some (104, true))⟩,
    ⟨(some 106), .mov (.tmp 8), (some (104, true))⟩,
    ⟨(some 107), .bin .eql (.tmp 105) (.tmp 106), (some (104, true))⟩,
    ⟨(some 108), .pick (.tmp 104) (.tmp 107) (.cst (.bool false)), none⟩,
    ⟨(some 109), .mov (.tmp 108), none⟩,
    ⟨(some 110), .faddr (.tmp 5) 1, (some (109, true))⟩,
    ⟨(some 111), .load (.tmp 110) 1 false, (some (109, true))⟩,
    ⟨(some 112), .faddr (.tmp 7) 1, (some (109, true))⟩,
    ⟨(some 113), .load (.tmp 112) 1 false, (some (109, true))⟩,
    ⟨(some 114), .bin .eql (.tmp 111) (.tmp 113), (some (109, true))⟩,
    ⟨(some 115), .pick (.tmp 109) (.tmp 114) (.cst (.bool false)), none⟩,
    ⟨(some 116), .mov (.tmp 115), none⟩,
    ⟨(some 117), .mov (.tmp 10), (some (116, true))⟩,
    ⟨(some 118), .mov (.tmp 12), (some (116, true))⟩,
    ⟨(some 119), .bin .eql (.tmp 117) (.tmp 118), (some (116, true))⟩,
    ⟨(some 120), .pick (.tmp 116) (.tmp 119) (.cst (.bool false)), none⟩,
    ⟨(some 121), .mov (.tmp 120), none⟩,
    ⟨(some 122), .faddr (.tmp 9) 1, (some (121, true))⟩,
    ⟨(some 123), .load (.tmp 122) 1 false, (some (121, true))⟩,
    ⟨(some 124), .faddr (.tmp 11) 1, (some (121, true))⟩,
    ⟨(some 125), .load (.tmp 124) 1 false, (some (121, true))⟩,
    ⟨(some 126), .bin .eql (.tmp 123) (.tmp 125), (some (121, true))⟩,
    ⟨(some 127), .pick (.tmp 121) (.tmp 126) (.cst (.bool false)), none⟩,
    ⟨(some 128), .mov (.tmp 127), none⟩,
    ⟨(some 129), .mov (.tmp 14), (some (128, true))⟩,
    ⟨(some 130), .mov (.tmp 16), (some (128, true))⟩,
    ⟨(some 131), .bin .eql (.tmp 129) (.tmp 130), (some (128, true))⟩,
    ⟨(some 132), .pick (.tmp 128) (.tmp 131) (.cst (.bool false)), none⟩,
    ⟨(some 133), .mov (.tmp 132), none⟩,
    ⟨(some 134), .faddr (.tmp 13) 1, (some (133, true))⟩,
    ⟨(some 135), .load (.tmp 134) 1 false, (some (133, true))⟩,
    ⟨(some 136), .faddr (.tmp 15) 1, (some (133, true))⟩,
    ⟨(some 137), .load (.tmp 136) 1 false, (some (133, true))⟩,
    ⟨(some 138), .bin .eql (.tmp 135) (.tmp 137), (some (133, true))⟩,
    ⟨(some 139), .pick (.tmp 133) (.tmp 138) (.cst (.bool false)), none⟩,
    ⟨(some 140), .mov (.tmp 139), none⟩,
    ⟨(some 141), .mov (.tmp 17), (some (140, true))⟩,
    ⟨(some 142), .pick (.tmp 140) (.tmp 141) (.cst (.bool false)), none⟩,
    ⟨(some 143), .mov (.tmp 142), none⟩,
    ⟨(some 144), .mov (.tmp 18), (some (143, true))⟩,
    ⟨(some 145), .pick (.tmp 143) (.tmp 144) (.cst (.bool false)), none⟩,
    ⟨(some 4), .own 145, none⟩] [])
  .ret))))))))))
/-- custos/value.Add -/
def x8 : XFn := XFn.mk 11 [.cell 4 4 true, .tmp 5] (.seq (.region false [⟨(some 2), .box (.tmp 0) 4, none⟩,
    ⟨(some 3), .box (.tmp 1) 4, none⟩,
    ⟨(some 4), .alloc [.int .i64 0, .int .i64 0, .int .i64 0, .str []], none⟩,
    ⟨(some 5), .mov (.cst (.int .i64 0)), none⟩] [])
  (.seq (.region false [⟨(some 6), .load (.tmp 2) 4 true, none⟩,
    ⟨(some 7), .load (.tmp 3) 4 true, none⟩,
    ⟨(some 8), .callq 22 [.cst (.int .i64 0), .tmp 6, .tmp 7], none⟩,
    ⟨(some 9), .ext 8 0, none⟩,
    ⟨(some 10), .ext 8 1, none⟩,
    ⟨none, .store (.tmp 4) (.tmp 9) 4, none⟩,
    ⟨(some 5), .own 10, none⟩] [])
  .ret))
/-- custos/custoslaw02.whole -/
def x9 : XFn := XFn.mk 5 [.cell 2 4 true] (.seq (.region false [⟨(some 2), .alloc [.int .i64 0, .int .i64 0, .int .i64 0, .str []], none⟩] [])
  (.seq (.region false [⟨(some 3), .mov (.tmp 0), none⟩,
    ⟨(some 4), .build [.int .i64 0, .int .i64 0, .int .i64 0, .str []] [(0, 1, .cst (.int .i64 1)), (1, 1, .tmp 3)], none⟩,
    ⟨none, .store (.tmp 2) (.tmp 4) 4, none⟩] [])
  .ret))
/-- custos/custoslaw02.live -/
def x10 : XFn := XFn.mk 77 [.tmp 0] (.seq (.region false [⟨(some 0), .mov (.cst (.bool false)), none⟩] [])
  (.seq (.region false [⟨(some 11), .callq 9 [.cst (.int .i64 2)], none⟩,
    ⟨(some 12), .callq 9 [.cst (.int .i64 3)], none⟩,
    ⟨(some 13), .callq 8 [.tmp 11, .tmp 12], none⟩,
    ⟨(some 10), .mov (.tmp 13), none⟩,
    ⟨(some 14), .ext 10 0, none⟩,
    ⟨(some 15), .ext 10 1, none⟩,
    ⟨(some 1), .alloc [.int .i64 0, .int .i64 0, .int .i64 0, .str []], none⟩,
    ⟨none, .store (.tmp 1) (.tmp 14) 4, none⟩,
    ⟨(some 2), .own 15, none⟩] [])
  (.seq (.region false [⟨(some 17), .callq 9 [.cst (.int .i64 1)], none⟩,
    ⟨(some 18), .callq 12 [.cst (.int .i64 1), .cst (.int .i64 1)], none⟩,
    ⟨(some 19), .callq 8 [.tmp 17, .tmp 18], none⟩,
    ⟨(some 16), .mov (.tmp 19), none⟩,
    ⟨(some 20), .ext 16 0, none⟩,
    ⟨(some 21), .ext 16 1, none⟩,
    ⟨(some 3), .alloc [.int .i64 0, .int .i64 0, .int .i64 0, .str []], none⟩,
    ⟨none, .store (.tmp 3) (.tmp 20) 4, none⟩,
    ⟨(some 4), .own 21, none⟩] [])
  (.seq (.region false [⟨(some 23), .callq 12 [.cst (.int .i64 (-3)), .cst (.int .i64 1)], none⟩,
    ⟨(some 24), .callq 17 [.tmp 23], none⟩,
    ⟨(some 22), .mov (.tmp 24), none⟩,
    ⟨(some 25), .ext 22 0, none⟩,
    ⟨(some 26), .ext 22 1, none⟩,
    ⟨(some 5), .own 25, none⟩,
    ⟨(some 6), .own 26, none⟩] [])
  (.seq (.region false [⟨(some 28), .callq 18 [.cst (.str [34, 65, 92, 120, 48, 48, 34])], none⟩,
    ⟨(some 27), .mov (.tmp 28), none⟩,
    ⟨(some 29), .ext 27 0, none⟩,
    ⟨(some 30), .ext 27 1, none⟩,
    ⟨(some 7), .alloc [.int .i64 0, .int .i64 0, .int .i64 0, .str []], none⟩,
    ⟨none, .store (.tmp 7) (.tmp 29) 4, none⟩,
    ⟨(some 8), .own 30, none⟩] [])
  (.seq (.region false [⟨(some 31), .callq 9 [.cst (.int .i64 5)], none⟩,
    ⟨(some 32), .callq 12 [.cst (.int .i64 1), .cst (.int .i64 2)], none⟩,
    ⟨(some 33), .callq 14 [.tmp 31, .tmp 32], none⟩,
    ⟨(some 34), .bin .eql (.tmp 33) (.cst (.int .i64 (-1))), none⟩,
    ⟨(some 35), .mov (.tmp 34), none⟩,
    ⟨(some 36), .callq 9 [.cst (.int .i64 1)], (some (35, true))⟩,
    ⟨(some 37), .bslice 4 [.int .i64 0, .int .i64 0, .int .i64 0, .str []] [(0, 4, .tmp 36)], (some (35, true))⟩,
    ⟨(some 38), .callq 16 [.tmp 37, .cst .nilsl], (some (35, true))⟩,
    ⟨(some 39), .bin .eql (.tmp 38) (.cst (.int .i64 1)), (some (35, true))⟩,
    ⟨(some 40), .pick (.tmp 35) (.tmp 39) (.cst (.bool false)), none⟩,
    ⟨(some 9), .own 40, none⟩] [])
  (.seq (.region true [⟨(some 41), .load (.tmp 1) 4 true, none⟩,
    ⟨(some 42), .callq 9 [.cst (.int .i64 5)], none⟩,
    ⟨(some 43), .callq 19 [.tmp 41, .tmp 42], none⟩,
    ⟨(some 44), .mov (.tmp 43), none⟩,
    ⟨(some 45), .mov (.tmp 2), (some (44, true))⟩,
    ⟨(some 46), .bin .eql (.tmp 45) (.cst (.int .i64 0)), (some (44, true))⟩,
    ⟨(some 47), .pick (.tmp 44) (.tmp 46) (.cst (.bool false)), none⟩,
    ⟨(some 48), .mov (.tmp 47), none⟩,
    ⟨(some 49), .mov (.tmp 4), (some (48, true))⟩,
    ⟨(some 50), .bin .eql (.tmp 49) (.cst (.int .i64 20)), (some (48, true))⟩,
    ⟨(some 51), .pick (.tmp 48) (.tmp 50) (.cst (.bool false)), none⟩,
    ⟨(some 52), .mov (.tmp 51), none⟩,
    ⟨(some 53), .mov (.tmp 5), (some (52, true))⟩,
    ⟨(some 54), .bin .eql (.tmp 53) (.cst (.str [45, 51, 47, 49])), (some (52, true))⟩,
    ⟨(some 55), .pick (.tmp 52) (.tmp 54) (.cst (.bool false)), none⟩,
    ⟨(some 56), .mov (.tmp 55), none⟩,
    ⟨(some 57), .mov (.tmp 6), (some (56, true))⟩,
    ⟨(some 58), .bin .eql (.tmp 57) (.cst (.int .i64 0)), (some (56, true))⟩,
    ⟨(some 59), .pick (.tmp 56) (.tmp 58) (.cst (.bool false)), none⟩,
    ⟨(some 60), .mov (.tmp 59), none⟩,
    ⟨(some 61), .load (.tmp 7) 4 true, (some (60, true))⟩,
    ⟨(some 62), .callq 23 [.cst (.str [65, 0])], (some (60, true))⟩,
    ⟨(some 63), .callq 19 [.tmp 61, .tmp 62], (some (60, true))⟩,
    ⟨(some 64), .pick (.tmp 60) (.tmp 63) (.cst (.bool false)), none⟩,
    ⟨(some 65), .mov (.tmp 64), none⟩,
    ⟨(some 66), .mov (.tmp 8), (some (65, true))⟩,
    ⟨(some 67), .bin .eql (.tmp 66) (.cst (.int .i64 0)), (some (65, true))⟩,
    ⟨(some 68), .pick (.tmp 65) (.tmp 67) (.cst (.bool false)), none⟩,
    ⟨(some 69), .mov (.tmp 68), none⟩,
    ⟨(some 70), .mov (.tmp 9), (some (69, true))⟩,
    ⟨(some 71), .pick (.tmp 69) (.tmp 70) (.cst (.bool false)), none⟩,
    ⟨(some 72), .mov (.tmp 71), none⟩,
    ⟨(some 73), .load (.tmp 1) 4 true, (some (72, true))⟩,
    ⟨(some 74), .callq 9 [.cst (.int .i64 5)], (some (72, true))⟩,
    ⟨(some 75), .callq 15 [.tmp 73, .tmp 74], (some (72, true))⟩,
    ⟨(some 76), .pick (.tmp 72) (.tmp 75) (.cst (.bool false)), none⟩,
    ⟨(some 0), .own 76, none⟩] [])
  .ret)))))))
/-- custos/value.Check -/
def x11 : XFn := XFn.mk 58 [.tmp 2] (.seq (.region false [⟨(some 1), .box (.tmp 0) 4, none⟩,
    ⟨(some 2), .mov (.cst (.int .i64 0)), none⟩] [])
  (.seq (.region false [⟨(some 3), .mov (.cst (.bool false)), none⟩] [])
  (.seq (.seq (.region false [⟨(some 6), .faddr (.tmp 1) 0, none⟩,
    ⟨(some 7), .load (.tmp 6) 1 false, none⟩] [])
  (.block 0 (.seq (.region false [⟨(some 9), .bin .eql (.tmp 7) (.cst (.int .i64 1)), none⟩,
    ⟨(some 8), .own 9, none⟩] [])
  (.cond (.tmp 8) (.region false [⟨(some 10), .faddr (.tmp 1) 2, none⟩,
    ⟨(some 11), .load (.tmp 10) 1 false, none⟩,
    ⟨(some 12), .bin .neq (.tmp 11) (.cst (.int .i64 0)), none⟩,
    ⟨(some 13), .mov (.tmp 12), none⟩,
    ⟨(some 14), .faddr (.tmp 1) 3, (some (13, false))⟩,
    ⟨(some 15), .load (.tmp 14) 1 false, (some (13, false))⟩,
    ⟨(some 16), .bin .neq (.tmp 15) (.cst (.str [])), (some (13, false))⟩,
    ⟨(some 17), .pick (.tmp 13) (.cst (.bool true)) (.tmp 16), none⟩,
    ⟨(some 3), .own 17, none⟩] []) (.seq (.region false [⟨(some 19), .bin .eql (.tmp 7) (.cst (.int .i64 2)), none⟩,
    ⟨(some 18), .own 19, none⟩] [])
  (.cond (.tmp 18) (.seq (.region false [⟨(some 21), .faddr (.tmp 1) 1, none⟩,
    ⟨(some 22), .load (.tmp 21) 1 false, none⟩,
    ⟨(some 23), .faddr (.tmp 1) 2, none⟩,
    ⟨(some 24), .load (.tmp 23) 1 false, none⟩,
    ⟨(some 25), .callq 24 [.tmp 22, .tmp 24], none⟩,
    ⟨(some 20), .mov (.tmp 25), none⟩,
    ⟨(some 26), .ext 20 0, none⟩,
    ⟨(some 27), .ext 20 1, none⟩,
    ⟨(some 4), .alloc [.int .i64 0, .int .i64 0], none⟩,
    ⟨none, .store (.tmp 4) (.tmp 26) 2, none⟩,
    ⟨(some 5), .own 27, none⟩] [])
  (.region true [⟨(some 28), .faddr (.tmp 1) 3, none⟩,
    ⟨(some 29), .load (.tmp 28) 1 false, none⟩,
    ⟨(some 30), .bin .neq (.tmp 29) (.cst (.str [])), none⟩,
    ⟨(some 31), .mov (.tmp 30), none⟩,
    ⟨(some 32), .mov (.tmp 5), (some (31, false))⟩,
    ⟨(some 33), .bin .neq (.tmp 32) (.cst (.int .i64 0)), (some (31, false))⟩,
    ⟨(some 34), .pick (.tmp 31) (.cst (.bool true)) (.tmp 33), none⟩,
    ⟨(some 35), .mov (.tmp 34), none⟩,
    ⟨(some 36), .load (.tmp 4) 2 true, (some (35, false))⟩,
    ⟨(some 37), .load (.tmp 1) 4 true, (some (35, false))⟩,
    ⟨(some 38), .callq 25 [.tmp 37], (some (35, false))⟩,
    ⟨(some 39), .eqagg true [1, 1] (.tmp 36) (.tmp 38), (some (35, false))⟩,
    ⟨(some 40), .pick (.tmp 35) (.cst (.bool true)) (.tmp 39), none⟩,
    ⟨(some 3), .own 40, none⟩] [])) (.seq (.region false [⟨(some 42), .bin .eql (.tmp 7) (.cst (.int .i64 3)), none⟩,
    ⟨(some 41), .own 42, none⟩] [])
  (.cond (.tmp 41) (.region false [⟨(some 43), .faddr (.tmp 1) 1, none⟩,
    ⟨(some 44), .load (.tmp 43) 1 false, none⟩,
    ⟨(some 45), .bin .neq (.tmp 44) (.cst (.int .i64 0)), none⟩,
    ⟨(some 46), .mov (.tmp 45), none⟩,
    ⟨(some 47), .faddr (.tmp 1) 2, (some (46, false))⟩,
    ⟨(some 48), .load (.tmp 47) 1 false, (some (46, false))⟩,
    ⟨(some 49), .bin .neq (.tmp 48) (.cst (.int .i64 0)), (some (46, false))⟩,
    ⟨(some 50), .pick (.tmp 46) (.cst (.bool true)) (.tmp 49), none⟩,
    ⟨(some 3), .own 50, none⟩] []) (.region false [⟨(some 3), .mov (.cst (.bool true)), none⟩] [])))))))))
  (.seq (.block 1 (.seq (.region false [⟨(some 52), .mov (.tmp 3), none⟩,
    ⟨(some 51), .own 52, none⟩] [])
  (.cond (.tmp 51) (.seq (.region false [⟨(some 2), .mov (.cst (.int .i64 20)), none⟩] [])
  .ret) (.seq (.region false [⟨(some 54), .faddr (.tmp 1) 3, none⟩,
    ⟨(some 55), .load (.tmp 54) 1 false, none⟩,
    ⟨(some 56), .lens true (.tmp 55), none⟩,
    ⟨(some 57), .bin .gtr (.tmp 56) (.cst (.int .i64 64)), none⟩,
    ⟨(some 53), .own 57, none⟩] [])
  (.cond (.tmp 53) (.seq (.region false [⟨(some 2), .mov (.cst (.int .i64 2)), none⟩] [])
  .ret) .skip)))))
  (.seq (.region false [⟨(some 2), .mov (.cst (.int .i64 0)), none⟩] [])
  .ret)))))
/-- custos/custoslaw02.part -/
def x12 : XFn := XFn.mk 8 [.cell 4 4 true] (.seq (.region false [⟨(some 4), .alloc [.int .i64 0, .int .i64 0, .int .i64 0, .str []], none⟩] [])
  (.seq (.region false [⟨(some 5), .mov (.tmp 0), none⟩,
    ⟨(some 6), .mov (.tmp 1), none⟩,
    ⟨(some 7), .build [.int .i64 0, .int .i64 0, .int .i64 0, .str []] [(0, 1, .cst (.int .i64 2)), (1, 1, .tmp 5), (2, 1, .tmp 6)], none⟩,
    ⟨none, .store (.tmp 4) (.tmp 7) 4, none⟩] [])
  .ret))
/-- custos/custosref02.Check -/
def x13 : XFn := XFn.mk 42 [.tmp 2] (.seq (.region false [⟨(some 1), .box (.tmp 0) 4, none⟩,
    ⟨(some 2), .mov (.cst (.int .i64 0)), none⟩] [])
  (.seq (.seq (.region false [⟨(some 4), .faddr (.tmp 1) 0, none⟩,
    ⟨(some 5), .load (.tmp 4) 1 false, none⟩] [])
  (.block 0 (.seq (.region false [⟨(some 7), .bin .eql (.tmp 5) (.cst (.int .i64 1)), none⟩,
    ⟨(some 6), .own 7, none⟩] [])
  (.cond (.tmp 6) (.seq (.region false [⟨(some 8), .faddr (.tmp 1) 2, none⟩,
    ⟨(some 9), .load (.tmp 8) 1 false, none⟩,
    ⟨(some 10), .bin .neq (.tmp 9) (.cst (.int .i64 0)), none⟩,
    ⟨(some 11), .mov (.tmp 10), none⟩,
    ⟨(some 12), .faddr (.tmp 1) 3, (some (11, false))⟩,
    ⟨(some 13), .load (.tmp 12) 1 false, (some (11, false))⟩,
    ⟨(some 14), .bin .neq (.tmp 13) (.cst (.str [])), (some (11, false))⟩,
    ⟨(some 15), .pick (.tmp 11) (.cst (.bool true)) (.tmp 14), none⟩] [])
  (.cond (.tmp 15) (.seq (.region false [⟨(some 2), .mov (.cst (.int .i64 20)), none⟩] [])
  .ret) .skip)) (.seq (.region false [⟨(some 17), .bin .eql (.tmp 5) (.cst (.int .i64 2)), none⟩,
    ⟨(some 16), .own 17, none⟩] [])
  (.cond (.tmp 16) (.seq (.region false [⟨(some 18), .load (.tmp 1) 4 true, none⟩,
    ⟨(some 19), .callq 27 [.tmp 18], none⟩,
    ⟨(some 20), .callq 26 [.tmp 19], none⟩,
    ⟨(some 3), .own 20, none⟩] [])
  (.seq (.region false [⟨(some 21), .faddr (.tmp 1) 3, none⟩,
    ⟨(some 22), .load (.tmp 21) 1 false, none⟩,
    ⟨(some 23), .bin .neq (.tmp 22) (.cst (.str [])), none⟩,
    ⟨(some 24), .mov (.tmp 23), none⟩,
    ⟨(some 25), .mov (.tmp 3), (some (24, false))⟩,
    ⟨(some 26), .not (.tmp 25), (some (24, false))⟩,
    ⟨(some 27), .pick (.tmp 24) (.cst (.bool true)) (.tmp 26), none⟩] [])
  (.cond (.tmp 27) (.seq (.region false [⟨(some 2), .mov (.cst (.int .i64 20)), none⟩] [])
  .ret) .skip))) (.seq (.region false [⟨(some 29), .bin .eql (.tmp 5) (.cst (.int .i64 3)), none⟩,
    ⟨(some 28), .own 29, none⟩] [])
  (.cond (.tmp 28) (.seq (.seq (.region false [⟨(some 30), .faddr (.tmp 1) 1, none⟩,
    ⟨(some 31), .load (.tmp 30) 1 false, none⟩,
    ⟨(some 32), .bin .neq (.tmp 31) (.cst (.int .i64 0)), none⟩,
    ⟨(some 33), .mov (.tmp 32), none⟩,
    ⟨(some 34), .faddr (.tmp 1) 2, (some (33, false))⟩,
    ⟨(some 35), .load (.tmp 34) 1 false, (some (33, false))⟩,
    ⟨(some 36), .bin .neq (.tmp 35) (.cst (.int .i64 0)), (some (33, false))⟩,
    ⟨(some 37), .pick (.tmp 33) (.cst (.bool true)) (.tmp 36), none⟩] [])
  (.cond (.tmp 37) (.seq (.region false [⟨(some 2), .mov (.cst (.int .i64 20)), none⟩] [])
  .ret) .skip))
  (.seq (.region false [⟨(some 38), .faddr (.tmp 1) 3, none⟩,
    ⟨(some 39), .load (.tmp 38) 1 false, none⟩,
    ⟨(some 40), .lens true (.tmp 39), none⟩,
    ⟨(some 41), .bin .gtr (.tmp 40) (.cst (.int .i64 64)), none⟩] [])
  (.cond (.tmp 41) (.seq (.region false [⟨(some 2), .mov (.cst (.int .i64 2)), none⟩] [])
  .ret) .skip))) (.seq (.region false [⟨(some 2), .mov (.cst (.int .i64 20)), none⟩] [])
  .ret)))))))))
  (.seq (.region false [⟨(some 2), .mov (.cst (.int .i64 0)), none⟩] [])
  .ret)))
/-- custos/value.Compare -/
def x14 : XFn := XFn.mk 48 [.tmp 4] (.seq (.region false [⟨(some 2), .box (.tmp 0) 4, none⟩,
    ⟨(some 3), .box (.tmp 1) 4, none⟩,
    ⟨(some 4), .mov (.cst (.int .i64 0)), none⟩] [])
  (.seq (.block 0 (.seq (.region false [⟨(some 6), .load (.tmp 2) 4 true, none⟩,
    ⟨(some 7), .callq 11 [.tmp 6], none⟩,
    ⟨(some 8), .bin .neq (.tmp 7) (.cst (.int .i64 0)), none⟩,
    ⟨(some 9), .mov (.tmp 8), none⟩,
    ⟨(some 10), .load (.tmp 3) 4 true, (some (9, false))⟩,
    ⟨(some 11), .callq 11 [.tmp 10], (some (9, false))⟩,
    ⟨(some 12), .bin .neq (.tmp 11) (.cst (.int .i64 0)), (some (9, false))⟩,
    ⟨(some 13), .pick (.tmp 9) (.cst (.bool true)) (.tmp 12), none⟩,
    ⟨(some 5), .own 13, none⟩] [])
  (.cond (.tmp 5) (.seq (.region false [⟨(some 4), .mov (.cst (.int .i64 0)), none⟩] [])
  .ret) (.seq (.region false [⟨(some 15), .faddr (.tmp 2) 0, none⟩,
    ⟨(some 16), .load (.tmp 15) 1 false, none⟩,
    ⟨(some 17), .faddr (.tmp 3) 0, none⟩,
    ⟨(some 18), .load (.tmp 17) 1 false, none⟩,
    ⟨(some 19), .bin .neq (.tmp 16) (.tmp 18), none⟩,
    ⟨(some 14), .own 19, none⟩] [])
  (.cond (.tmp 14) (.seq (.region false [⟨(some 20), .faddr (.tmp 2) 0, none⟩,
    ⟨(some 21), .load (.tmp 20) 1 false, none⟩,
    ⟨(some 22), .faddr (.tmp 3) 0, none⟩,
    ⟨(some 23), .load (.tmp 22) 1 false, none⟩,
    ⟨(some 24), .callq 28 [.tmp 21, .tmp 23], none⟩,
    ⟨(some 4), .own 24, none⟩] [])
  .ret) (.seq (.region false [⟨(some 26), .faddr (.tmp 2) 0, none⟩,
    ⟨(some 27), .load (.tmp 26) 1 false, none⟩,
    ⟨(some 28), .bin .eql (.tmp 27) (.cst (.int .i64 1)), none⟩,
    ⟨(some 25), .own 28, none⟩] [])
  (.cond (.tmp 25) (.seq (.region false [⟨(some 29), .faddr (.tmp 2) 1, none⟩,
    ⟨(some 30), .load (.tmp 29) 1 false, none⟩,
    ⟨(some 31), .faddr (.tmp 3) 1, none⟩,
    ⟨(some 32), .load (.tmp 31) 1 false, none⟩,
    ⟨(some 33), .callq 29 [.tmp 30, .tmp 32], none⟩,
    ⟨(some 4), .own 33, none⟩] [])
  .ret) (.seq (.region false [⟨(some 35), .faddr (.tmp 2) 0, none⟩,
    ⟨(some 36), .load (.tmp 35) 1 false, none⟩,
    ⟨(some 37), .bin .eql (.tmp 36) (.cst (.int .i64 2)), none⟩,
    ⟨(some 34), .own 37, none⟩] [])
  (.cond (.tmp 34) (.seq (.region true [⟨(some 38), .load (.tmp 2) 4 true, none⟩,
    ⟨(some 39), .callq 25 [.tmp 38], none⟩,
    ⟨(some 40), .load (.tmp 3) 4 true, none⟩,
    ⟨(some 41), .callq 25 [.tmp 40], none⟩,
    ⟨(some 42), .callq 30 [.tmp 39, .tmp 41], none⟩,
    ⟨(some 4), .own 42, none⟩] [])
  .ret) .skip)))))))))
  (.seq (.region false [⟨(some 43), .faddr (.tmp 2) 3, none⟩,
    ⟨(some 44), .load (.tmp 43) 1 false, none⟩,
    ⟨(some 45), .faddr (.tmp 3) 3, none⟩,
    ⟨(some 46), .load (.tmp 45) 1 false, none⟩,
    ⟨(some 47), .callq 31 [.tmp 44, .tmp 46], none⟩,
    ⟨(some 4), .own 47, none⟩] [])
  .ret)))
/-- custos/value.Same -/
def x15 : XFn := XFn.mk 8 [.tmp 4] (.seq (.region false [⟨(some 2), .box (.tmp 0) 4, none⟩,
    ⟨(some 3), .box (.tmp 1) 4, none⟩,
    ⟨(some 4), .mov (.cst (.bool false)), none⟩] [])
  (.seq (.region false [⟨(some 5), .load (.tmp 2) 4 true, none⟩,
    ⟨(some 6), .load (.tmp 3) 4 true, none⟩,
    ⟨(some 7), .eqagg false [1, 1, 1, 2] (.tmp 5) (.tmp 6), none⟩,
    ⟨(some 4), .own 7, none⟩] [])
  .ret))
def x16_l0 : XCode := .seq (.region false [⟨(some 13), .bin .lss (.tmp 12) (.tmp 11), none⟩] [])
  (.seq (.cond (.tmp 13) .skip (.exit 0))
  (.seq (.block 1 (.seq (.region false [⟨(some 14), .mov (.tmp 12), none⟩,
    ⟨(some 5), .own 14, none⟩] [])
  (.seq (.region true [⟨(some 15), .mov (.tmp 0), none⟩,
    ⟨(some 16), .mov (.tmp 5), none⟩,
    ⟨(some 17), .iaddr 4 (.tmp 15) (.tmp 16), none⟩,
    ⟨(some 18), .load (.tmp 17) 4 true, none⟩,
    ⟨(some 19), .mov (.tmp 1), none⟩,
    ⟨(some 20), .mov (.tmp 5), none⟩,
    ⟨(some 21), .iaddr 4 (.tmp 19) (.tmp 20), none⟩,
    ⟨(some 22), .load (.tmp 21) 4 true, none⟩,
    ⟨(some 23), .callq 14 [.tmp 18, .tmp 22], none⟩,
    ⟨(some 6), .own 23, none⟩] [])
  (.seq (.region false [⟨(some 24), .mov (.tmp 6), none⟩,
    ⟨(some 25), .bin .neq (.tmp 24) (.cst (.int .i64 0)), none⟩] [])
  (.cond (.tmp 25) (.seq (.region false [⟨(some 26), .mov (.tmp 6), none⟩,
    ⟨(some 4), .own 26, none⟩] [])
  .ret) .skip)))))
  (.region false [⟨(some 27), .bin .add (.tmp 12) (.cst (.int .i64 1)), none⟩,
    ⟨(some 12), .mov (.tmp 27), none⟩] [])))
/-- custos/value.CompareRow -/
def x16 : XFn := XFn.mk 33 [.tmp 4] (.seq (.region false [⟨(some 4), .mov (.cst (.int .i64 0)), none⟩] [])
  (.seq (.seq (.region false [⟨(some 7), .mov (.tmp 0), none⟩,
    ⟨(some 8), .lens false (.tmp 7), none⟩,
    ⟨(some 9), .mov (.tmp 1), none⟩,
    ⟨(some 10), .lens false (.tmp 9), none⟩,
    ⟨(some 11), .mn (.tmp 8) (.tmp 10), none⟩,
    ⟨(some 12), .mov (.cst (.int .i64 0)), none⟩] [])
  (.block 0 (.loop x16_l0)))
  (.seq (.region false [⟨(some 28), .mov (.tmp 0), none⟩,
    ⟨(some 29), .lens false (.tmp 28), none⟩,
    ⟨(some 30), .mov (.tmp 1), none⟩,
    ⟨(some 31), .lens false (.tmp 30), none⟩,
    ⟨(some 32), .callq 28 [.tmp 29, .tmp 31], none⟩,
    ⟨(some 4), .own 32, none⟩] [])
  .ret)))
/-- custos/value.Print -/
def x17 : XFn := XFn.mk 30 [.tmp 2, .tmp 3] (.seq (.region false [⟨(some 1), .box (.tmp 0) 4, none⟩,
    ⟨(some 2), .mov (.cst (.str [])), none⟩,
    ⟨(some 3), .mov (.cst (.int .i64 0)), none⟩] [])
  (.seq (.seq (.region false [⟨(some 5), .load (.tmp 1) 4 true, none⟩,
    ⟨(some 6), .callq 11 [.tmp 5], none⟩,
    ⟨(some 4), .own 6, none⟩] [])
  (.seq (.region false [⟨(some 7), .mov (.tmp 4), none⟩,
    ⟨(some 8), .bin .neq (.tmp 7) (.cst (.int .i64 0)), none⟩] [])
  (.cond (.tmp 8) (.seq (.region false [⟨(some 9), .mov (.tmp 4), none⟩,
    ⟨(some 2), .mov (.cst (.str [])), none⟩,
    ⟨(some 3), .own 9, none⟩] [])
  .ret) .skip)))
  (.seq (.seq (.region false [⟨(some 10), .faddr (.tmp 1) 0, none⟩,
    ⟨(some 11), .load (.tmp 10) 1 false, none⟩] [])
  (.block 0 (.seq (.region false [⟨(some 13), .bin .eql (.tmp 11) (.cst (.int .i64 1)), none⟩,
    ⟨(some 12), .own 13, none⟩] [])
  (.cond (.tmp 12) (.seq (.region false [⟨(some 14), .faddr (.tmp 1) 1, none⟩,
    ⟨(some 15), .load (.tmp 14) 1 false, none⟩,
    ⟨(some 16), .prim 5 32 [.tmp 15, .cst (.int .i64 10)], none⟩,
    ⟨(some 2), .own 16, none⟩,
    ⟨(some 3), .mov (.cst (.int .i64 0)), none⟩] [])
  .ret) (.seq (.region false [⟨(some 18), .bin .eql (.tmp 11) (.cst (.int .i64 2)), none⟩,
    ⟨(some 17), .own 18, none⟩] [])
  (.cond (.tmp 17) (.seq (.region true [⟨(some 19), .faddr (.tmp 1) 1, none⟩,
    ⟨(some 20), .load (.tmp 19) 1 false, none⟩,
    ⟨(some 21), .prim 5 32 [.tmp 20, .cst (.int .i64 10)], none⟩,
    ⟨(some 22), .bin .add (.tmp 21) (.cst (.str [47])), none⟩,
    ⟨(some 23), .faddr (.tmp 1) 2, none⟩,
    ⟨(some 24), .load (.tmp 23) 1 false, none⟩,
    ⟨(some 25), .prim 5 32 [.tmp 24, .cst (.int .i64 10)], none⟩,
    ⟨(some 26), .bin .add (.tmp 22) (.tmp 25), none⟩,
    ⟨(some 2), .own 26, none⟩,
    ⟨(some 3), .mov (.cst (.int .i64 0)), none⟩] [])
  .ret) .skip))))))
  (.seq (.region false [⟨(some 27), .faddr (.tmp 1) 3, none⟩,
    ⟨(some 28), .load (.tmp 27) 1 false, none⟩,
    ⟨(some 29), .callq 33 [.tmp 28], none⟩,
    ⟨(some 2), .own 29, none⟩,
    ⟨(some 3), .mov (.cst (.int .i64 0)), none⟩] [])
  .ret))))
/-- custos/value.Parse -/
def x18 : XFn := XFn.mk 63 [.cell 2 4 true, .tmp 3] (.seq (.region false [⟨(some 2), .alloc [.int .i64 0, .int .i64 0, .int .i64 0, .str []], none⟩,
    ⟨(some 3), .mov (.cst (.int .i64 0)), none⟩] [])
  (.seq (.seq (.region false [⟨(some 11), .mov (.tmp 0), none⟩,
    ⟨(some 12), .callq 34 [.tmp 11, .cst (.str [34])], none⟩] [])
  (.cond (.tmp 12) (.seq (.region false [⟨(some 13), .mov (.tmp 0), none⟩,
    ⟨(some 14), .callq 35 [.tmp 13], none⟩,
    ⟨(some 4), .own 14, none⟩] [])
  (.seq (.block 0 (.seq (.region false [⟨(some 16), .mov (.tmp 4), none⟩,
    ⟨(some 17), .callq 33 [.tmp 16], none⟩,
    ⟨(some 18), .mov (.tmp 0), none⟩,
    ⟨(some 19), .bin .neq (.tmp 17) (.tmp 18), none⟩,
    ⟨(some 15), .own 19, none⟩] [])
  (.cond (.tmp 15) (.seq (.region false [⟨(some 20), .build [.int .i64 0, .int .i64 0, .int .i64 0, .str []] [], none⟩,
    ⟨none, .store (.tmp 2) (.tmp 20) 4, none⟩,
    ⟨(some 3), .mov (.cst (.int .i64 70)), none⟩] [])
  .ret) (.seq (.region false [⟨(some 22), .mov (.tmp 4), none⟩,
    ⟨(some 23), .lens true (.tmp 22), none⟩,
    ⟨(some 24), .bin .gtr (.tmp 23) (.cst (.int .i64 64)), none⟩,
    ⟨(some 21), .own 24, none⟩] [])
  (.cond (.tmp 21) (.seq (.region false [⟨(some 25), .build [.int .i64 0, .int .i64 0, .int .i64 0, .str []] [], none⟩,
    ⟨none, .store (.tmp 2) (.tmp 25) 4, none⟩,
    ⟨(some 3), .mov (.cst (.int .i64 2)), none⟩] [])
  .ret) .skip)))))
  (.seq (.region false [⟨(some 26), .mov (.tmp 4), none⟩,
    ⟨(some 27), .build [.int .i64 0, .int .i64 0, .int .i64 0, .str []] [(0, 1, .cst (.int .i64 3)), (3, 1, .tmp 26)], none⟩,
    ⟨none, .store (.tmp 2) (.tmp 27) 4, none⟩,
    ⟨(some 3), .mov (.cst (.int .i64 0)), none⟩] [])
  .ret))) .skip))
  (.seq (.region false [⟨(some 28), .build [.int .i64 0, .int .i64 0, .int .i64 0, .str []] [(0, 1, .cst (.int .i64 1))], none⟩,
    ⟨(some 5), .alloc [.int .i64 0, .int .i64 0, .int .i64 0, .str []], none⟩,
    ⟨none, .store (.tmp 5) (.tmp 28) 4, none⟩] [])
  (.seq (.region false [⟨(some 30), .mov (.tmp 0), none⟩,
    ⟨(some 31), .callq 36 [.tmp 30, .cst (.str [47])], none⟩,
    ⟨(some 29), .mov (.tmp 31), none⟩,
    ⟨(some 32), .ext 29 0, none⟩,
    ⟨(some 33), .ext 29 1, none⟩,
    ⟨(some 34), .ext 29 2, none⟩,
    ⟨(some 6), .own 32, none⟩,
    ⟨(some 7), .own 33, none⟩,
    ⟨(some 8), .own 34, none⟩] [])
  (.seq (.region false [⟨(some 36), .mov (.tmp 6), none⟩,
    ⟨(some 37), .prim 6 37 [.tmp 36, .cst (.int .i64 10), .cst (.int .i64 64)], none⟩,
    ⟨(some 35), .mov (.tmp 37), none⟩,
    ⟨(some 38), .ext 35 0, none⟩,
    ⟨(some 39), .ext 35 1, none⟩,
    ⟨(some 40), .faddr (.tmp 5) 1, none⟩,
    ⟨none, .store (.tmp 40) (.tmp 38) 1, none⟩] [])
  (.seq (.seq (.region false [⟨(some 41), .mov (.tmp 8), none⟩] [])
  (.cond (.tmp 41) (.seq (.region false [⟨(some 42), .faddr (.tmp 5) 0, none⟩,
    ⟨none, .store (.tmp 42) (.cst (.int .i64 2)) 1, none⟩] [])
  (.region false [⟨(some 44), .mov (.tmp 7), none⟩,
    ⟨(some 45), .prim 6 37 [.tmp 44, .cst (.int .i64 10), .cst (.int .i64 64)], none⟩,
    ⟨(some 43), .mov (.tmp 45), none⟩,
    ⟨(some 46), .ext 43 0, none⟩,
    ⟨(some 47), .ext 43 1, none⟩,
    ⟨(some 48), .faddr (.tmp 5) 2, none⟩,
    ⟨none, .store (.tmp 48) (.tmp 46) 1, none⟩] [])) .skip))
  (.seq (.seq (.region false [⟨(some 50), .load (.tmp 5) 4 true, none⟩,
    ⟨(some 51), .callq 17 [.tmp 50], none⟩,
    ⟨(some 49), .mov (.tmp 51), none⟩,
    ⟨(some 52), .ext 49 0, none⟩,
    ⟨(some 53), .ext 49 1, none⟩,
    ⟨(some 9), .own 52, none⟩,
    ⟨(some 10), .own 53, none⟩] [])
  (.seq (.region false [⟨(some 54), .mov (.tmp 10), none⟩,
    ⟨(some 55), .bin .neq (.tmp 54) (.cst (.int .i64 0)), none⟩,
    ⟨(some 56), .mov (.tmp 55), none⟩,
    ⟨(some 57), .mov (.tmp 9), (some (56, false))⟩,
    ⟨(some 58), .mov (.tmp 0), (some (56, false))⟩,
    ⟨(some 59), .bin .neq (.tmp 57) (.tmp 58), (some (56, false))⟩,
    ⟨(some 60), .pick (.tmp 56) (.cst (.bool true)) (.tmp 59), none⟩] [])
  (.cond (.tmp 60) (.seq (.region false [⟨(some 61), .build [.int .i64 0, .int .i64 0, .int .i64 0, .str []] [], none⟩,
    ⟨none, .store (.tmp 2) (.tmp 61) 4, none⟩,
    ⟨(some 3), .mov (.cst (.int .i64 70)), none⟩] [])
  .ret) .skip)))
  (.seq (.region false [⟨(some 62), .load (.tmp 5) 4 true, none⟩,
    ⟨none, .store (.tmp 2) (.tmp 62) 4, none⟩,
    ⟨(some 3), .mov (.cst (.int .i64 0)), none⟩] [])
  .ret))))))))
/-- custos/custoslaw02.same -/
def x19 : XFn := XFn.mk 31 [.tmp 4] (.seq (.region false [⟨(some 2), .box (.tmp 0) 4, none⟩,
    ⟨(some 3), .box (.tmp 1) 4, none⟩,
    ⟨(some 4), .mov (.cst (.bool false)), none⟩] [])
  (.seq (.region false [⟨(some 5), .faddr (.tmp 2) 0, none⟩,
    ⟨(some 6), .load (.tmp 5) 1 false, none⟩,
    ⟨(some 7), .faddr (.tmp 3) 0, none⟩,
    ⟨(some 8), .load (.tmp 7) 1 false, none⟩,
    ⟨(some 9), .bin .eql (.tmp 6) (.tmp 8), none⟩,
    ⟨(some 10), .mov (.tmp 9), none⟩,
    ⟨(some 11), .faddr (.tmp 2) 1, (some (10, true))⟩,
    ⟨(some 12), .load (.tmp 11) 1 false, (some (10, true))⟩,
    ⟨(some 13), .faddr (.tmp 3) 1, (some (10, true))⟩,
    ⟨(some 14), .load (.tmp 13) 1 false, (some (10, true))⟩,
    ⟨(some 15), .bin .eql (.tmp 12) (.tmp 14), (some (10, true))⟩,
    ⟨(some 16), .pick (.tmp 10) (.tmp 15) (.cst (.bool false)), none⟩,
    ⟨(some 17), .mov (.tmp 16), none⟩,
    ⟨(some 18), .faddr (.tmp 2) 2, (some (17, true))⟩,
    ⟨(some 19), .load (.tmp 18) 1 false, (some (17, true))⟩,
    ⟨(some 20), .faddr (.tmp 3) 2, (some (17, true))⟩,
    ⟨(some 21), .load (.tmp 20) 1 false, (some (17, true))⟩,
    ⟨(some 22), .bin .eql (.tmp 19) (.tmp 21), (some (17, true))⟩,
    ⟨(some 23), .pick (.tmp 17) (.tmp 22) (.cst (.bool false)), none⟩,
    ⟨(some 24), .mov (.tmp 23), none⟩,
    ⟨(some 25), .faddr (.tmp 2) 3, (some (24, true))⟩,
    ⟨(some 26), .load (.tmp 25) 1 false, (some (24, true))⟩,
    ⟨(some 27), .faddr (.tmp 3) 3, (some (24, true))⟩,
    ⟨(some 28), .load (.tmp 27) 1 false, (some (24, true))⟩,
    ⟨(some 29), .bin .eql (.tmp 26) (.tmp 28), (some (24, true))⟩,
    ⟨(some 30), .pick (.tmp 24) (.tmp 29) (.cst (.bool false)), none⟩,
    ⟨(some 4), .own 30, none⟩] [])
  .ret))
/-- custos/value.Sub -/
def x20 : XFn := XFn.mk 11 [.cell 4 4 true, .tmp 5] (.seq (.region false [⟨(some 2), .box (.tmp 0) 4, none⟩,
    ⟨(some 3), .box (.tmp 1) 4, none⟩,
    ⟨(some 4), .alloc [.int .i64 0, .int .i64 0, .int .i64 0, .str []], none⟩,
    ⟨(some 5), .mov (.cst (.int .i64 0)), none⟩] [])
  (.seq (.region false [⟨(some 6), .load (.tmp 2) 4 true, none⟩,
    ⟨(some 7), .load (.tmp 3) 4 true, none⟩,
    ⟨(some 8), .callq 22 [.cst (.int .i64 1), .tmp 6, .tmp 7], none⟩,
    ⟨(some 9), .ext 8 0, none⟩,
    ⟨(some 10), .ext 8 1, none⟩,
    ⟨none, .store (.tmp 4) (.tmp 9) 4, none⟩,
    ⟨(some 5), .own 10, none⟩] [])
  .ret))
/-- custos/value.Mul -/
def x21 : XFn := XFn.mk 11 [.cell 4 4 true, .tmp 5] (.seq (.region false [⟨(some 2), .box (.tmp 0) 4, none⟩,
    ⟨(some 3), .box (.tmp 1) 4, none⟩,
    ⟨(some 4), .alloc [.int .i64 0, .int .i64 0, .int .i64 0, .str []], none⟩,
    ⟨(some 5), .mov (.cst (.int .i64 0)), none⟩] [])
  (.seq (.region false [⟨(some 6), .load (.tmp 2) 4 true, none⟩,
    ⟨(some 7), .load (.tmp 3) 4 true, none⟩,
    ⟨(some 8), .callq 22 [.cst (.int .i64 2), .tmp 6, .tmp 7], none⟩,
    ⟨(some 9), .ext 8 0, none⟩,
    ⟨(some 10), .ext 8 1, none⟩,
    ⟨none, .store (.tmp 4) (.tmp 9) 4, none⟩,
    ⟨(some 5), .own 10, none⟩] [])
  .ret))
/-- custos/value.reckon -/
def x22 : XFn := XFn.mk 70 [.cell 6 4 true, .tmp 7] (.seq (.region false [⟨(some 4), .box (.tmp 1) 4, none⟩,
    ⟨(some 5), .box (.tmp 2) 4, none⟩,
    ⟨(some 6), .alloc [.int .i64 0, .int .i64 0, .int .i64 0, .str []], none⟩,
    ⟨(some 7), .mov (.cst (.int .i64 0)), none⟩] [])
  (.seq (.seq (.region false [⟨(some 14), .load (.tmp 4) 4 true, none⟩,
    ⟨(some 15), .callq 11 [.tmp 14], none⟩,
    ⟨(some 8), .own 15, none⟩] [])
  (.seq (.region false [⟨(some 16), .mov (.tmp 8), none⟩,
    ⟨(some 17), .bin .neq (.tmp 16) (.cst (.int .i64 0)), none⟩] [])
  (.cond (.tmp 17) (.seq (.region false [⟨(some 18), .build [.int .i64 0, .int .i64 0, .int .i64 0, .str []] [], none⟩,
    ⟨(some 19), .mov (.tmp 8), none⟩,
    ⟨none, .store (.tmp 6) (.tmp 18) 4, none⟩,
    ⟨(some 7), .own 19, none⟩] [])
  .ret) .skip)))
  (.seq (.seq (.region false [⟨(some 20), .load (.tmp 5) 4 true, none⟩,
    ⟨(some 21), .callq 11 [.tmp 20], none⟩,
    ⟨(some 9), .own 21, none⟩] [])
  (.seq (.region false [⟨(some 22), .mov (.tmp 9), none⟩,
    ⟨(some 23), .bin .neq (.tmp 22) (.cst (.int .i64 0)), none⟩] [])
  (.cond (.tmp 23) (.seq (.region false [⟨(some 24), .build [.int .i64 0, .int .i64 0, .int .i64 0, .str []] [], none⟩,
    ⟨(some 25), .mov (.tmp 9), none⟩,
    ⟨none, .store (.tmp 6) (.tmp 24) 4, none⟩,
    ⟨(some 7), .own 25, none⟩] [])
  .ret) .skip)))
  (.seq (.seq (.region false [⟨(some 26), .faddr (.tmp 4) 0, none⟩,
    ⟨(some 27), .load (.tmp 26) 1 false, none⟩,
    ⟨(some 28), .faddr (.tmp 5) 0, none⟩,
    ⟨(some 29), .load (.tmp 28) 1 false, none⟩,
    ⟨(some 30), .bin .neq (.tmp 27) (.tmp 29), none⟩,
    ⟨(some 31), .mov (.tmp 30), none⟩,
    ⟨(some 32), .faddr (.tmp 4) 0, (some (31, false))⟩,
    ⟨(some 33), .load (.tmp 32) 1 false, (some (31, false))⟩,
    ⟨(some 34), .bin .eql (.tmp 33) (.cst (.int .i64 3)), (some (31, false))⟩,
    ⟨(some 35), .pick (.tmp 31) (.cst (.bool true)) (.tmp 34), none⟩] [])
  (.cond (.tmp 35) (.seq (.region false [⟨(some 36), .build [.int .i64 0, .int .i64 0, .int .i64 0, .str []] [], none⟩,
    ⟨none, .store (.tmp 6) (.tmp 36) 4, none⟩,
    ⟨(some 7), .mov (.cst (.int .i64 20)), none⟩] [])
  .ret) .skip))
  (.seq (.region true [⟨(some 37), .load (.tmp 4) 4 true, none⟩,
    ⟨(some 38), .callq 25 [.tmp 37], none⟩,
    ⟨(some 39), .load (.tmp 5) 4 true, none⟩,
    ⟨(some 40), .callq 25 [.tmp 39], none⟩,
    ⟨(some 10), .alloc [.int .i64 0, .int .i64 0], none⟩,
    ⟨(some 11), .alloc [.int .i64 0, .int .i64 0], none⟩,
    ⟨none, .store (.tmp 10) (.tmp 38) 2, none⟩,
    ⟨none, .store (.tmp 11) (.tmp 40) 2, none⟩] [])
  (.seq (.seq (.region false [⟨(some 41), .faddr (.tmp 4) 0, none⟩,
    ⟨(some 42), .load (.tmp 41) 1 false, none⟩,
    ⟨(some 43), .bin .eql (.tmp 42) (.cst (.int .i64 1)), none⟩] [])
  (.cond (.tmp 43) (.region false [⟨(some 44), .faddr (.tmp 10) 1, none⟩,
    ⟨none, .store (.tmp 44) (.cst (.int .i64 1)) 1, none⟩,
    ⟨(some 45), .faddr (.tmp 11) 1, none⟩,
    ⟨none, .store (.tmp 45) (.cst (.int .i64 1)) 1, none⟩] []) .skip))
  (.seq (.region true [⟨(some 47), .callq 38 [], none⟩,
    ⟨(some 48), .mov (.tmp 0), none⟩,
    ⟨(some 49), .idxa 3 1 false (.tmp 47) (.tmp 48), none⟩,
    ⟨(some 50), .load (.tmp 10) 2 true, none⟩,
    ⟨(some 51), .load (.tmp 11) 2 true, none⟩,
    ⟨(some 52), .calldq (.tmp 49) [.tmp 50, .tmp 51], none⟩,
    ⟨(some 46), .mov (.tmp 52), none⟩,
    ⟨(some 53), .ext 46 0, none⟩,
    ⟨(some 54), .ext 46 1, none⟩,
    ⟨(some 12), .alloc [.int .i64 0, .int .i64 0], none⟩,
    ⟨none, .store (.tmp 12) (.tmp 53) 2, none⟩,
    ⟨(some 13), .own 54, none⟩] [])
  (.seq (.seq (.region false [⟨(some 55), .mov (.tmp 13), none⟩,
    ⟨(some 56), .bin .neq (.tmp 55) (.cst (.int .i64 0)), none⟩] [])
  (.cond (.tmp 56) (.seq (.region false [⟨(some 57), .build [.int .i64 0, .int .i64 0, .int .i64 0, .str []] [], none⟩,
    ⟨(some 58), .mov (.tmp 13), none⟩,
    ⟨none, .store (.tmp 6) (.tmp 57) 4, none⟩,
    ⟨(some 7), .own 58, none⟩] [])
  .ret) .skip))
  (.seq (.seq (.region false [⟨(some 59), .faddr (.tmp 4) 0, none⟩,
    ⟨(some 60), .load (.tmp 59) 1 false, none⟩,
    ⟨(some 61), .bin .eql (.tmp 60) (.cst (.int .i64 1)), none⟩] [])
  (.cond (.tmp 61) (.seq (.region false [⟨(some 62), .faddr (.tmp 12) 0, none⟩,
    ⟨(some 63), .load (.tmp 62) 1 false, none⟩,
    ⟨(some 64), .build [.int .i64 0, .int .i64 0, .int .i64 0, .str []] [(0, 1, .cst (.int .i64 1)), (1, 1, .tmp 63)], none⟩,
    ⟨none, .store (.tmp 6) (.tmp 64) 4, none⟩,
    ⟨(some 7), .mov (.cst (.int .i64 0)), none⟩] [])
  .ret) .skip))
  (.seq (.region false [⟨(some 65), .faddr (.tmp 12) 0, none⟩,
    ⟨(some 66), .load (.tmp 65) 1 false, none⟩,
    ⟨(some 67), .faddr (.tmp 12) 1, none⟩,
    ⟨(some 68), .load (.tmp 67) 1 false, none⟩,
    ⟨(some 69), .build [.int .i64 0, .int .i64 0, .int .i64 0, .str []] [(0, 1, .cst (.int .i64 2)), (1, 1, .tmp 66), (2, 1, .tmp 68)], none⟩,
    ⟨none, .store (.tmp 6) (.tmp 69) 4, none⟩,
    ⟨(some 7), .mov (.cst (.int .i64 0)), none⟩] [])
  .ret))))))))))
/-- custos/custoslaw02.text -/
def x23 : XFn := XFn.mk 5 [.cell 2 4 true] (.seq (.region false [⟨(some 2), .alloc [.int .i64 0, .int .i64 0, .int .i64 0, .str []], none⟩] [])
  (.seq (.region false [⟨(some 3), .mov (.tmp 0), none⟩,
    ⟨(some 4), .build [.int .i64 0, .int .i64 0, .int .i64 0, .str []] [(0, 1, .cst (.int .i64 3)), (3, 1, .tmp 3)], none⟩,
    ⟨none, .store (.tmp 2) (.tmp 4) 4, none⟩] [])
  .ret))
/-- custos/rat.Of -/
def x24 : XFn := XFn.mk 64 [.cell 4 2 true, .tmp 5] (.seq (.region false [⟨(some 4), .alloc [.int .i64 0, .int .i64 0], none⟩,
    ⟨(some 5), .mov (.cst (.int .i64 0)), none⟩] [])
  (.seq (.seq (.region false [⟨(some 10), .mov (.tmp 1), none⟩,
    ⟨(some 11), .bin .eql (.tmp 10) (.cst (.int .i64 0)), none⟩] [])
  (.cond (.tmp 11) (.seq (.region false [⟨(some 12), .build [.int .i64 0, .int .i64 0] [], none⟩,
    ⟨none, .store (.tmp 4) (.tmp 12) 2, none⟩,
    ⟨(some 5), .mov (.cst (.int .i64 11)), none⟩] [])
  .ret) .skip))
  (.seq (.region false [⟨(some 13), .mov (.tmp 0), none⟩,
    ⟨(some 14), .callq 40 [.tmp 13], none⟩,
    ⟨(some 15), .mov (.tmp 1), none⟩,
    ⟨(some 16), .callq 40 [.tmp 15], none⟩,
    ⟨(some 17), .callq 39 [.tmp 14, .tmp 16], none⟩,
    ⟨(some 6), .own 17, none⟩] [])
  (.seq (.region true [⟨(some 18), .mov (.tmp 0), none⟩,
    ⟨(some 19), .callq 40 [.tmp 18], none⟩,
    ⟨(some 20), .mov (.tmp 6), none⟩,
    ⟨(some 21), .bin .quo (.tmp 19) (.tmp 20), none⟩,
    ⟨(some 22), .mov (.tmp 1), none⟩,
    ⟨(some 23), .callq 40 [.tmp 22], none⟩,
    ⟨(some 24), .mov (.tmp 6), none⟩,
    ⟨(some 25), .bin .quo (.tmp 23) (.tmp 24), none⟩,
    ⟨(some 7), .own 21, none⟩,
    ⟨(some 8), .own 25, none⟩] [])
  (.seq (.region false [⟨(some 26), .mov (.tmp 0), none⟩,
    ⟨(some 27), .bin .neq (.tmp 26) (.cst (.int .i64 0)), none⟩,
    ⟨(some 28), .mov (.tmp 27), none⟩,
    ⟨(some 29), .mov (.tmp 0), (some (28, true))⟩,
    ⟨(some 30), .bin .lss (.tmp 29) (.cst (.int .i64 0)), (some (28, true))⟩,
    ⟨(some 31), .mov (.tmp 1), (some (28, true))⟩,
    ⟨(some 32), .bin .lss (.tmp 31) (.cst (.int .i64 0)), (some (28, true))⟩,
    ⟨(some 33), .beq true (.tmp 30) (.tmp 32), (some (28, true))⟩,
    ⟨(some 34), .pick (.tmp 28) (.tmp 33) (.cst (.bool false)), none⟩,
    ⟨(some 9), .own 34, none⟩] [])
  (.seq (.seq (.region false [⟨(some 35), .mov (.tmp 8), none⟩,
    ⟨(some 36), .bin .gtr (.tmp 35) (.cst (.int .u64 9223372036854775807)), none⟩,
    ⟨(some 37), .mov (.tmp 36), none⟩,
    ⟨(some 38), .mov (.tmp 7), (some (37, false))⟩,
    ⟨(some 39), .bin .gtr (.tmp 38) (.cst (.int .u64 9223372036854775808)), (some (37, false))⟩,
    ⟨(some 40), .pick (.tmp 37) (.cst (.bool true)) (.tmp 39), none⟩,
    ⟨(some 41), .mov (.tmp 40), none⟩,
    ⟨(some 42), .mov (.tmp 7), (some (41, false))⟩,
    ⟨(some 43), .bin .eql (.tmp 42) (.cst (.int .u64 9223372036854775808)), (some (41, false))⟩,
    ⟨(some 44), .mov (.tmp 43), (some (41, false))⟩,
    ⟨(some 45), .mov (.tmp 9), (some (44, true))⟩,
    ⟨(some 46), .not (.tmp 45), (some (44, true))⟩,
    ⟨(some 47), .pick (.tmp 44) (.tmp 46) (.cst (.bool false)), (some (41, false))⟩,
    ⟨(some 48), .pick (.tmp 41) (.cst (.bool true)) (.tmp 47), none⟩] [])
  (.cond (.tmp 48) (.seq (.region false [⟨(some 49), .build [.int .i64 0, .int .i64 0] [], none⟩,
    ⟨none, .store (.tmp 4) (.tmp 49) 2, none⟩,
    ⟨(some 5), .mov (.cst (.int .i64 10)), none⟩] [])
  .ret) .skip))
  (.seq (.seq (.region false [⟨(some 50), .mov (.tmp 9), none⟩] [])
  (.cond (.tmp 50) (.seq (.region false [⟨(some 51), .mov (.tmp 7), none⟩,
    ⟨(some 52), .bin .sub (.tmp 51) (.cst (.int .u64 1)), none⟩,
    ⟨(some 53), .conv .i64 (.tmp 52), none⟩,
    ⟨(some 54), .neg (.tmp 53), none⟩,
    ⟨(some 55), .bin .sub (.tmp 54) (.cst (.int .i64 1)), none⟩,
    ⟨(some 56), .mov (.tmp 8), none⟩,
    ⟨(some 57), .conv .i64 (.tmp 56), none⟩,
    ⟨(some 58), .build [.int .i64 0, .int .i64 0] [(0, 1, .tmp 55), (1, 1, .tmp 57)], none⟩,
    ⟨none, .store (.tmp 4) (.tmp 58) 2, none⟩,
    ⟨(some 5), .mov (.cst (.int .i64 0)), none⟩] [])
  .ret) .skip))
  (.seq (.region false [⟨(some 59), .mov (.tmp 7), none⟩,
    ⟨(some 60), .conv .i64 (.tmp 59), none⟩,
    ⟨(some 61), .mov (.tmp 8), none⟩,
    ⟨(some 62), .conv .i64 (.tmp 61), none⟩,
    ⟨(some 63), .build [.int .i64 0, .int .i64 0] [(0, 1, .tmp 60), (1, 1, .tmp 62)], none⟩,
    ⟨none, .store (.tmp 4) (.tmp 63) 2, none⟩,
    ⟨(some 5), .mov (.cst (.int .i64 0)), none⟩] [])
  .ret))))))))
/-- custos/value.fraction -/
def x25 : XFn := XFn.mk 8 [.cell 2 2 true] (.seq (.region false [⟨(some 1), .box (.tmp 0) 4, none⟩,
    ⟨(some 2), .alloc [.int .i64 0, .int .i64 0], none⟩] [])
  (.seq (.region false [⟨(some 3), .faddr (.tmp 1) 1, none⟩,
    ⟨(some 4), .load (.tmp 3) 1 false, none⟩,
    ⟨(some 5), .faddr (.tmp 1) 2, none⟩,
    ⟨(some 6), .load (.tmp 5) 1 false, none⟩,
    ⟨(some 7), .build [.int .i64 0, .int .i64 0] [(0, 1, .tmp 4), (1, 1, .tmp 6)], none⟩,
    ⟨none, .store (.tmp 2) (.tmp 7) 2, none⟩] [])
  .ret))
/-- custos/custosref01.MayBe -/
def x26 : XFn := XFn.mk 23 [.tmp 2] (.seq (.region false [⟨(some 1), .box (.tmp 0) 2, none⟩,
    ⟨(some 2), .mov (.cst (.bool false)), none⟩] [])
  (.seq (.seq (.region false [⟨(some 5), .faddr (.tmp 1) 1, none⟩,
    ⟨(some 6), .load (.tmp 5) 1 false, none⟩,
    ⟨(some 7), .bin .leq (.tmp 6) (.cst (.int .i64 0)), none⟩] [])
  (.cond (.tmp 7) (.seq (.region false [⟨(some 2), .mov (.cst (.bool false)), none⟩] [])
  .ret) .skip))
  (.seq (.region false [⟨(some 9), .faddr (.tmp 1) 0, none⟩,
    ⟨(some 10), .load (.tmp 9) 1 false, none⟩,
    ⟨(some 11), .faddr (.tmp 1) 1, none⟩,
    ⟨(some 12), .load (.tmp 11) 1 false, none⟩,
    ⟨(some 13), .callq 41 [.tmp 10, .tmp 12], none⟩,
    ⟨(some 8), .mov (.tmp 13), none⟩,
    ⟨(some 14), .ext 8 0, none⟩,
    ⟨(some 15), .ext 8 1, none⟩,
    ⟨(some 3), .alloc [.int .i64 0, .int .i64 0], none⟩,
    ⟨none, .store (.tmp 3) (.tmp 14) 2, none⟩,
    ⟨(some 4), .own 15, none⟩] [])
  (.seq (.region false [⟨(some 16), .mov (.tmp 4), none⟩,
    ⟨(some 17), .bin .eql (.tmp 16) (.cst (.int .i64 0)), none⟩,
    ⟨(some 18), .mov (.tmp 17), none⟩,
    ⟨(some 19), .load (.tmp 3) 2 true, (some (18, true))⟩,
    ⟨(some 20), .load (.tmp 1) 2 true, (some (18, true))⟩,
    ⟨(some 21), .eqagg false [1, 1] (.tmp 19) (.tmp 20), (some (18, true))⟩,
    ⟨(some 22), .pick (.tmp 18) (.tmp 21) (.cst (.bool false)), none⟩,
    ⟨(some 2), .own 22, none⟩] [])
  .ret))))
/-- custos/custosref02.fraction -/
def x27 : XFn := XFn.mk 8 [.cell 2 2 true] (.seq (.region false [⟨(some 1), .box (.tmp 0) 4, none⟩,
    ⟨(some 2), .alloc [.int .i64 0, .int .i64 0], none⟩] [])
  (.seq (.region false [⟨(some 3), .faddr (.tmp 1) 1, none⟩,
    ⟨(some 4), .load (.tmp 3) 1 false, none⟩,
    ⟨(some 5), .faddr (.tmp 1) 2, none⟩,
    ⟨(some 6), .load (.tmp 5) 1 false, none⟩,
    ⟨(some 7), .build [.int .i64 0, .int .i64 0] [(0, 1, .tmp 4), (1, 1, .tmp 6)], none⟩,
    ⟨none, .store (.tmp 2) (.tmp 7) 2, none⟩] [])
  .ret))
/-- cmp.Compare[int] -/
def x28 : XFn := XFn.mk 20 [.tmp 4] (.seq (.region false [⟨(some 4), .mov (.cst (.int .i64 0)), none⟩] [])
  (.seq (.region false [⟨(some 7), .mov (.tmp 0), none⟩,
    ⟨(some 8), .callq 42 [.tmp 7], none⟩,
    ⟨(some 5), .own 8, none⟩] [])
  (.seq (.region false [⟨(some 9), .mov (.tmp 1), none⟩,
    ⟨(some 10), .callq 42 [.tmp 9], none⟩,
    ⟨(some 6), .own 10, none⟩] [])
  (.seq (.seq (.region false [⟨(some 11), .mov (.tmp 5), none⟩] [])
  (.cond (.tmp 11) (.seq (.seq (.region false [⟨(some 12), .mov (.tmp 6), none⟩] [])
  (.cond (.tmp 12) (.seq (.region false [⟨(some 4), .mov (.cst (.int .i64 0)), none⟩] [])
  .ret) .skip))
  (.seq (.region false [⟨(some 4), .mov (.cst (.int .i64 (-1))), none⟩] [])
  .ret)) .skip))
  (.seq (.seq (.region false [⟨(some 13), .mov (.tmp 6), none⟩] [])
  (.cond (.tmp 13) (.seq (.region false [⟨(some 4), .mov (.cst (.int .i64 1)), none⟩] [])
  .ret) .skip))
  (.seq (.seq (.region false [⟨(some 14), .mov (.tmp 0), none⟩,
    ⟨(some 15), .mov (.tmp 1), none⟩,
    ⟨(some 16), .bin .lss (.tmp 14) (.tmp 15), none⟩] [])
  (.cond (.tmp 16) (.seq (.region false [⟨(some 4), .mov (.cst (.int .i64 (-1))), none⟩] [])
  .ret) .skip))
  (.seq (.seq (.region false [⟨(some 17), .mov (.tmp 0), none⟩,
    ⟨(some 18), .mov (.tmp 1), none⟩,
    ⟨(some 19), .bin .gtr (.tmp 17) (.tmp 18), none⟩] [])
  (.cond (.tmp 19) (.seq (.region false [⟨(some 4), .mov (.cst (.int .i64 1)), none⟩] [])
  .ret) .skip))
  (.seq (.region false [⟨(some 4), .mov (.cst (.int .i64 0)), none⟩] [])
  .ret))))))))
/-- cmp.Compare[int64] -/
def x29 : XFn := XFn.mk 20 [.tmp 4] (.seq (.region false [⟨(some 4), .mov (.cst (.int .i64 0)), none⟩] [])
  (.seq (.region false [⟨(some 7), .mov (.tmp 0), none⟩,
    ⟨(some 8), .callq 43 [.tmp 7], none⟩,
    ⟨(some 5), .own 8, none⟩] [])
  (.seq (.region false [⟨(some 9), .mov (.tmp 1), none⟩,
    ⟨(some 10), .callq 43 [.tmp 9], none⟩,
    ⟨(some 6), .own 10, none⟩] [])
  (.seq (.seq (.region false [⟨(some 11), .mov (.tmp 5), none⟩] [])
  (.cond (.tmp 11) (.seq (.seq (.region false [⟨(some 12), .mov (.tmp 6), none⟩] [])
  (.cond (.tmp 12) (.seq (.region false [⟨(some 4), .mov (.cst (.int .i64 0)), none⟩] [])
  .ret) .skip))
  (.seq (.region false [⟨(some 4), .mov (.cst (.int .i64 (-1))), none⟩] [])
  .ret)) .skip))
  (.seq (.seq (.region false [⟨(some 13), .mov (.tmp 6), none⟩] [])
  (.cond (.tmp 13) (.seq (.region false [⟨(some 4), .mov (.cst (.int .i64 1)), none⟩] [])
  .ret) .skip))
  (.seq (.seq (.region false [⟨(some 14), .mov (.tmp 0), none⟩,
    ⟨(some 15), .mov (.tmp 1), none⟩,
    ⟨(some 16), .bin .lss (.tmp 14) (.tmp 15), none⟩] [])
  (.cond (.tmp 16) (.seq (.region false [⟨(some 4), .mov (.cst (.int .i64 (-1))), none⟩] [])
  .ret) .skip))
  (.seq (.seq (.region false [⟨(some 17), .mov (.tmp 0), none⟩,
    ⟨(some 18), .mov (.tmp 1), none⟩,
    ⟨(some 19), .bin .gtr (.tmp 17) (.tmp 18), none⟩] [])
  (.cond (.tmp 19) (.seq (.region false [⟨(some 4), .mov (.cst (.int .i64 1)), none⟩] [])
  .ret) .skip))
  (.seq (.region false [⟨(some 4), .mov (.cst (.int .i64 0)), none⟩] [])
  .ret))))))))
/-- custos/rat.Compare -/
def x30 : XFn := XFn.mk 36 [.tmp 4] (.seq (.region false [⟨(some 2), .box (.tmp 0) 2, none⟩,
    ⟨(some 3), .box (.tmp 1) 2, none⟩,
    ⟨(some 4), .mov (.cst (.int .i64 0)), none⟩] [])
  (.seq (.seq (.region false [⟨(some 6), .load (.tmp 2) 2 true, none⟩,
    ⟨(some 7), .callq 44 [.tmp 6], none⟩,
    ⟨(some 8), .not (.tmp 7), none⟩,
    ⟨(some 9), .mov (.tmp 8), none⟩,
    ⟨(some 10), .load (.tmp 3) 2 true, (some (9, false))⟩,
    ⟨(some 11), .callq 44 [.tmp 10], (some (9, false))⟩,
    ⟨(some 12), .not (.tmp 11), (some (9, false))⟩,
    ⟨(some 13), .pick (.tmp 9) (.cst (.bool true)) (.tmp 12), none⟩,
    ⟨(some 14), .mov (.tmp 13), none⟩,
    ⟨(some 15), .load (.tmp 2) 2 true, (some (14, false))⟩,
    ⟨(some 16), .load (.tmp 3) 2 true, (some (14, false))⟩,
    ⟨(some 17), .eqagg false [1, 1] (.tmp 15) (.tmp 16), (some (14, false))⟩,
    ⟨(some 18), .pick (.tmp 14) (.cst (.bool true)) (.tmp 17), none⟩] [])
  (.cond (.tmp 18) (.seq (.region false [⟨(some 4), .mov (.cst (.int .i64 0)), none⟩] [])
  .ret) .skip))
  (.seq (.region false [⟨(some 19), .faddr (.tmp 3) 0, none⟩,
    ⟨(some 20), .load (.tmp 19) 1 false, none⟩,
    ⟨(some 21), .faddr (.tmp 2) 1, none⟩,
    ⟨(some 22), .load (.tmp 21) 1 false, none⟩,
    ⟨(some 23), .callq 45 [.tmp 20, .tmp 22], none⟩,
    ⟨(some 5), .alloc [.int .u64 0, .int .u64 0, .bool false], none⟩,
    ⟨none, .store (.tmp 5) (.tmp 23) 3, none⟩] [])
  (.seq (.region false [⟨(some 24), .faddr (.tmp 5) 2, none⟩,
    ⟨(some 25), .load (.tmp 24) 1 false, none⟩,
    ⟨(some 26), .not (.tmp 25), none⟩,
    ⟨(some 27), .faddr (.tmp 5) 2, none⟩,
    ⟨none, .store (.tmp 27) (.tmp 26) 1, none⟩] [])
  (.seq (.seq (.region true [⟨(some 28), .faddr (.tmp 2) 0, none⟩,
    ⟨(some 29), .load (.tmp 28) 1 false, none⟩,
    ⟨(some 30), .faddr (.tmp 3) 1, none⟩,
    ⟨(some 31), .load (.tmp 30) 1 false, none⟩,
    ⟨(some 32), .callq 45 [.tmp 29, .tmp 31], none⟩,
    ⟨(some 33), .load (.tmp 5) 3 true, none⟩,
    ⟨(some 34), .callq 46 [.tmp 32, .tmp 33], none⟩,
    ⟨(some 35), .field (.tmp 34) 2 1 false, none⟩] [])
  (.cond (.tmp 35) (.seq (.region false [⟨(some 4), .mov (.cst (.int .i64 (-1))), none⟩] [])
  .ret) .skip))
  (.seq (.region false [⟨(some 4), .mov (.cst (.int .i64 1)), none⟩] [])
  .ret))))))
/-- strings.Compare -/
def x31 : XFn := XFn.mk 8 [.tmp 4] (.seq (.region false [⟨(some 4), .mov (.cst (.int .i64 0)), none⟩] [])
  (.seq (.region false [⟨(some 5), .mov (.tmp 0), none⟩,
    ⟨(some 6), .mov (.tmp 1), none⟩,
    ⟨(some 7), .callq 47 [.tmp 5, .tmp 6], none⟩,
    ⟨(some 4), .own 7, none⟩] [])
  .ret))
def x33_l0 : XCode := .seq (.region false [⟨(some 11), .bin .lss (.tmp 10) (.tmp 9), none⟩] [])
  (.seq (.cond (.tmp 11) .skip (.exit 0))
  (.seq (.block 1 (.seq (.region false [⟨(some 12), .iaddr 1 (.tmp 8) (.tmp 10), none⟩,
    ⟨(some 13), .load (.tmp 12) 1 false, none⟩,
    ⟨(some 5), .own 13, none⟩] [])
  (.block 2 (.seq (.region false [⟨(some 24), .mov (.tmp 5), none⟩,
    ⟨(some 25), .bin .eql (.tmp 24) (.cst (.int .u8 34)), none⟩,
    ⟨(some 26), .mov (.tmp 25), none⟩,
    ⟨(some 27), .mov (.tmp 5), (some (26, false))⟩,
    ⟨(some 28), .bin .eql (.tmp 27) (.cst (.int .u8 92)), (some (26, false))⟩,
    ⟨(some 29), .pick (.tmp 26) (.cst (.bool true)) (.tmp 28), none⟩,
    ⟨(some 23), .own 29, none⟩] [])
  (.cond (.tmp 23) (.region false [⟨(some 30), .own 3, none⟩,
    ⟨(some 31), .mov (.tmp 5), none⟩,
    ⟨(some 32), .bslice 1 [.int .u8 0, .int .u8 0] [(0, 1, .cst (.int .u8 92)), (1, 1, .tmp 31)], none⟩,
    ⟨(some 33), .app false 1 1 30 (.tmp 32), none⟩,
    ⟨(some 3), .own 33, none⟩] []) (.seq (.region false [⟨(some 35), .mov (.tmp 5), none⟩,
    ⟨(some 36), .bin .geq (.tmp 35) (.cst (.int .u8 32)), none⟩,
    ⟨(some 37), .mov (.tmp 36), none⟩,
    ⟨(some 38), .mov (.tmp 5), (some (37, true))⟩,
    ⟨(some 39), .bin .leq (.tmp 38) (.cst (.int .u8 126)), (some (37, true))⟩,
    ⟨(some 40), .pick (.tmp 37) (.tmp 39) (.cst (.bool false)), none⟩,
    ⟨(some 34), .own 40, none⟩] [])
  (.cond (.tmp 34) (.region false [⟨(some 41), .own 3, none⟩,
    ⟨(some 42), .mov (.tmp 5), none⟩,
    ⟨(some 43), .bslice 1 [.int .u8 0] [(0, 1, .tmp 42)], none⟩,
    ⟨(some 44), .app false 1 1 41 (.tmp 43), none⟩,
    ⟨(some 3), .own 44, none⟩] []) (.region true [⟨(some 14), .own 3, none⟩,
    ⟨(some 15), .mov (.tmp 5), none⟩,
    ⟨(some 16), .bin .shr (.tmp 15) (.cst (.int .u64 4)), none⟩,
    ⟨(some 17), .idxs (.cst (.str [48, 49, 50, 51, 52, 53, 54, 55, 56, 57, 97, 98, 99, 100, 101, 102])) (.tmp 16), none⟩,
    ⟨(some 18), .mov (.tmp 5), none⟩,
    ⟨(some 19), .bin .and (.tmp 18) (.cst (.int .u8 15)), none⟩,
    ⟨(some 20), .idxs (.cst (.str [48, 49, 50, 51, 52, 53, 54, 55, 56, 57, 97, 98, 99, 100, 101, 102])) (.tmp 19), none⟩,
    ⟨(some 21), .bslice 1 [.int .u8 0, .int .u8 0, .int .u8 0, .int .u8 0] [(0, 1, .cst (.int .u8 92)), (1, 1, .cst (.int .u8 120)), (2, 1, .tmp 17), (3, 1, .tmp 20)], none⟩,
    ⟨(some 22), .app false 1 1 14 (.tmp 21), none⟩,
    ⟨(some 3), .own 22, none⟩] []))))))))
  (.region false [⟨(some 45), .bin .add (.tmp 10) (.cst (.int .i64 1)), none⟩,
    ⟨(some 10), .mov (.tmp 45), none⟩] [])))
/-- custos/value.quoted -/
def x33 : XFn := XFn.mk 50 [.tmp 2] (.seq (.region false [⟨(some 2), .mov (.cst (.str [])), none⟩] [])
  (.seq (.region false [⟨(some 6), .bslice 1 [.int .u8 0] [(0, 1, .cst (.int .u8 34))], none⟩,
    ⟨(some 3), .own 6, none⟩] [])
  (.seq (.seq (.region false [⟨(some 7), .mov (.tmp 0), none⟩,
    ⟨(some 8), .strb (.tmp 7), none⟩,
    ⟨(some 9), .lens false (.tmp 8), none⟩,
    ⟨(some 10), .mov (.cst (.int .i64 0)), none⟩] [])
  (.block 0 (.loop x33_l0)))
  (.seq (.region false [⟨(some 46), .own 3, none⟩,
    ⟨(some 47), .bslice 1 [.int .u8 0] [(0, 1, .cst (.int .u8 34))], none⟩,
    ⟨(some 48), .app false 1 1 46 (.tmp 47), none⟩,
    ⟨(some 49), .bstr (.tmp 48), none⟩,
    ⟨(some 2), .own 49, none⟩] [])
  .ret))))
/-- strings.HasPrefix -/
def x34 : XFn := XFn.mk 8 [.tmp 4] (.seq (.region false [⟨(some 4), .mov (.cst (.bool false)), none⟩] [])
  (.seq (.region false [⟨(some 5), .mov (.tmp 0), none⟩,
    ⟨(some 6), .mov (.tmp 1), none⟩,
    ⟨(some 7), .callq 49 [.tmp 5, .tmp 6], none⟩,
    ⟨(some 4), .own 7, none⟩] [])
  .ret))
def x35_l0 : XCode := .seq (.seq (.region false [⟨(some 11), .mov (.tmp 0), none⟩,
    ⟨(some 12), .lens true (.tmp 11), none⟩,
    ⟨(some 13), .bin .gtr (.tmp 12) (.cst (.int .i64 0)), none⟩] [])
  (.cond (.tmp 13) .skip (.exit 0)))
  (.block 1 (.seq (.region false [⟨(some 14), .mov (.tmp 0), none⟩,
    ⟨(some 15), .idxs (.tmp 14) (.cst (.int .i64 0)), none⟩,
    ⟨(some 4), .own 15, none⟩,
    ⟨(some 5), .mov (.cst (.int .i64 1)), none⟩] [])
  (.seq (.seq (.region false [⟨(some 16), .mov (.tmp 4), none⟩,
    ⟨(some 17), .bin .eql (.tmp 16) (.cst (.int .u8 92)), none⟩,
    ⟨(some 18), .mov (.tmp 17), none⟩,
    ⟨(some 19), .mov (.tmp 0), (some (18, true))⟩,
    ⟨(some 20), .lens true (.tmp 19), (some (18, true))⟩,
    ⟨(some 21), .bin .gtr (.tmp 20) (.cst (.int .i64 1)), (some (18, true))⟩,
    ⟨(some 22), .pick (.tmp 18) (.tmp 21) (.cst (.bool false)), none⟩] [])
  (.cond (.tmp 22) (.seq (.region false [⟨(some 23), .mov (.tmp 0), none⟩,
    ⟨(some 24), .idxs (.tmp 23) (.cst (.int .i64 1)), none⟩,
    ⟨(some 4), .own 24, none⟩,
    ⟨(some 5), .mov (.cst (.int .i64 2)), none⟩] [])
  (.seq (.region false [⟨(some 25), .mov (.tmp 4), none⟩,
    ⟨(some 26), .bin .eql (.tmp 25) (.cst (.int .u8 120)), none⟩,
    ⟨(some 27), .mov (.tmp 26), none⟩,
    ⟨(some 28), .mov (.tmp 0), (some (27, true))⟩,
    ⟨(some 29), .lens true (.tmp 28), (some (27, true))⟩,
    ⟨(some 30), .bin .gtr (.tmp 29) (.cst (.int .i64 3)), (some (27, true))⟩,
    ⟨(some 31), .pick (.tmp 27) (.tmp 30) (.cst (.bool false)), none⟩] [])
  (.cond (.tmp 31) (.seq (.region false [⟨(some 33), .mov (.tmp 0), none⟩,
    ⟨(some 34), .sstr (.tmp 33) (some (.cst (.int .i64 2))) (some (.cst (.int .i64 4))), none⟩,
    ⟨(some 35), .callq 51 [.tmp 34, .cst (.int .i64 16), .cst (.int .i64 8)], none⟩,
    ⟨(some 32), .mov (.tmp 35), none⟩,
    ⟨(some 36), .ext 32 0, none⟩,
    ⟨(some 37), .ext 32 1, none⟩,
    ⟨(some 6), .own 36, none⟩,
    ⟨(some 7), .own 37, none⟩] [])
  (.region false [⟨(some 38), .mov (.tmp 6), none⟩,
    ⟨(some 39), .conv .u8 (.tmp 38), none⟩,
    ⟨(some 4), .own 39, none⟩,
    ⟨(some 5), .mov (.cst (.int .i64 4)), none⟩] [])) .skip))) .skip))
  (.seq (.region false [⟨(some 40), .own 3, none⟩,
    ⟨(some 41), .mov (.tmp 4), none⟩,
    ⟨(some 42), .bslice 1 [.int .u8 0] [(0, 1, .tmp 41)], none⟩,
    ⟨(some 43), .app false 1 1 40 (.tmp 42), none⟩,
    ⟨(some 3), .own 43, none⟩] [])
  (.region false [⟨(some 44), .mov (.tmp 0), none⟩,
    ⟨(some 45), .mov (.tmp 5), none⟩,
    ⟨(some 46), .sstr (.tmp 44) (some (.tmp 45)) none, none⟩,
    ⟨(some 0), .own 46, none⟩] [])))))
/-- custos/value.unquoted -/
def x35 : XFn := XFn.mk 49 [.tmp 2] (.seq (.region false [⟨(some 2), .mov (.cst (.str [])), none⟩] [])
  (.seq (.region false [⟨(some 8), .mov (.tmp 0), none⟩,
    ⟨(some 9), .sstr (.tmp 8) (some (.cst (.int .i64 1))) none, none⟩,
    ⟨(some 10), .callq 50 [.tmp 9, .cst (.str [34])], none⟩,
    ⟨(some 0), .own 10, none⟩] [])
  (.seq (.region false [⟨(some 3), .mov (.cst .nilsl), none⟩] [])
  (.seq (.block 0 (.loop x35_l0))
  (.seq (.region false [⟨(some 47), .mov (.tmp 3), none⟩,
    ⟨(some 48), .bstr (.tmp 47), none⟩,
    ⟨(some 2), .own 48, none⟩] [])
  .ret)))))
/-- strings.Cut -/
def x36 : XFn := XFn.mk 13 [.tmp 4, .tmp 5, .tmp 6] (.seq (.region false [⟨(some 4), .mov (.cst (.str [])), none⟩,
    ⟨(some 5), .mov (.cst (.str [])), none⟩,
    ⟨(some 6), .mov (.cst (.bool false)), none⟩] [])
  (.seq (.region false [⟨(some 7), .mov (.tmp 0), none⟩,
    ⟨(some 8), .mov (.tmp 1), none⟩,
    ⟨(some 9), .callq 52 [.tmp 7, .tmp 8], none⟩,
    ⟨(some 10), .ext 9 0, none⟩,
    ⟨(some 11), .ext 9 1, none⟩,
    ⟨(some 12), .ext 9 2, none⟩,
    ⟨(some 4), .own 10, none⟩,
    ⟨(some 5), .own 11, none⟩,
    ⟨(some 6), .own 12, none⟩] [])
  .ret))
/-- custos/value.does -/
def x38 : XFn := XFn.mk 2 [.cell 0 3 true] (.seq (.region false [⟨(some 0), .alloc [.nilfn, .nilfn, .nilfn], none⟩] [])
  (.seq (.region false [⟨(some 1), .build [.nilfn, .nilfn, .nilfn] [(0, 1, .cst (.fn 55 [] [])), (1, 1, .cst (.fn 56 [] [])), (2, 1, .cst (.fn 57 [] []))], none⟩,
    ⟨none, .store (.tmp 0) (.tmp 1) 3, none⟩] [])
  .ret))
def x39_l0 : XCode := .seq (.seq (.region false [⟨(some 5), .mov (.tmp 1), none⟩,
    ⟨(some 6), .bin .neq (.tmp 5) (.cst (.int .u64 0)), none⟩] [])
  (.cond (.tmp 6) .skip (.exit 0)))
  (.block 1 (.region true [⟨(some 7), .mov (.tmp 1), none⟩,
    ⟨(some 8), .mov (.tmp 0), none⟩,
    ⟨(some 9), .mov (.tmp 1), none⟩,
    ⟨(some 10), .bin .rem (.tmp 8) (.tmp 9), none⟩,
    ⟨(some 0), .own 7, none⟩,
    ⟨(some 1), .own 10, none⟩] []))
/-- custos/rat.gcd -/
def x39 : XFn := XFn.mk 12 [.tmp 4] (.seq (.region false [⟨(some 4), .mov (.cst (.int .u64 0)), none⟩] [])
  (.seq (.block 0 (.loop x39_l0))
  (.seq (.region false [⟨(some 11), .mov (.tmp 0), none⟩,
    ⟨(some 4), .own 11, none⟩] [])
  .ret)))
/-- custos/rat.size -/
def x40 : XFn := XFn.mk 10 [.tmp 2] (.seq (.region false [⟨(some 2), .mov (.cst (.int .u64 0)), none⟩] [])
  (.seq (.seq (.region false [⟨(some 3), .mov (.tmp 0), none⟩,
    ⟨(some 4), .bin .lss (.tmp 3) (.cst (.int .i64 0)), none⟩] [])
  (.cond (.tmp 4) (.seq (.region false [⟨(some 5), .mov (.tmp 0), none⟩,
    ⟨(some 6), .conv .u64 (.tmp 5), none⟩,
    ⟨(some 7), .neg (.tmp 6), none⟩,
    ⟨(some 2), .own 7, none⟩] [])
  .ret) .skip))
  (.seq (.region false [⟨(some 8), .mov (.tmp 0), none⟩,
    ⟨(some 9), .conv .u64 (.tmp 8), none⟩,
    ⟨(some 2), .own 9, none⟩] [])
  .ret)))
/-- custos/custosref01.Of -/
def x41 : XFn := XFn.mk 31 [.cell 4 2 true, .tmp 5] (.seq (.region false [⟨(some 4), .alloc [.int .i64 0, .int .i64 0], none⟩,
    ⟨(some 5), .mov (.cst (.int .i64 0)), none⟩] [])
  (.seq (.seq (.region false [⟨(some 8), .mov (.tmp 1), none⟩,
    ⟨(some 9), .bin .eql (.tmp 8) (.cst (.int .i64 0)), none⟩] [])
  (.cond (.tmp 9) (.seq (.region false [⟨(some 10), .build [.int .i64 0, .int .i64 0] [], none⟩,
    ⟨none, .store (.tmp 4) (.tmp 10) 2, none⟩,
    ⟨(some 5), .mov (.cst (.int .i64 11)), none⟩] [])
  .ret) .skip))
  (.seq (.region false [⟨(some 11), .mov (.tmp 0), none⟩,
    ⟨(some 12), .callq 59 [.tmp 11], none⟩,
    ⟨(some 13), .callq 58 [.tmp 12], none⟩,
    ⟨(some 6), .alloc [.int .u64 0, .int .u64 0, .int .u64 0, .int .u64 0], none⟩,
    ⟨none, .store (.tmp 6) (.tmp 13) 4, none⟩] [])
  (.seq (.region false [⟨(some 14), .mov (.tmp 1), none⟩,
    ⟨(some 15), .callq 59 [.tmp 14], none⟩,
    ⟨(some 16), .callq 58 [.tmp 15], none⟩,
    ⟨(some 7), .alloc [.int .u64 0, .int .u64 0, .int .u64 0, .int .u64 0], none⟩,
    ⟨none, .store (.tmp 7) (.tmp 16) 4, none⟩] [])
  (.seq (.region false [⟨(some 17), .mov (.tmp 0), none⟩,
    ⟨(some 18), .bin .neq (.tmp 17) (.cst (.int .i64 0)), none⟩,
    ⟨(some 19), .mov (.tmp 18), none⟩,
    ⟨(some 20), .mov (.tmp 0), (some (19, true))⟩,
    ⟨(some 21), .bin .lss (.tmp 20) (.cst (.int .i64 0)), (some (19, true))⟩,
    ⟨(some 22), .mov (.tmp 1), (some (19, true))⟩,
    ⟨(some 23), .bin .lss (.tmp 22) (.cst (.int .i64 0)), (some (19, true))⟩,
    ⟨(some 24), .beq true (.tmp 21) (.tmp 23), (some (19, true))⟩,
    ⟨(some 25), .pick (.tmp 19) (.tmp 24) (.cst (.bool false)), none⟩,
    ⟨(some 26), .load (.tmp 6) 4 true, none⟩,
    ⟨(some 27), .load (.tmp 7) 4 true, none⟩,
    ⟨(some 28), .callq 60 [.tmp 25, .tmp 26, .tmp 27], none⟩,
    ⟨(some 29), .ext 28 0, none⟩,
    ⟨(some 30), .ext 28 1, none⟩,
    ⟨none, .store (.tmp 4) (.tmp 29) 2, none⟩,
    ⟨(some 5), .own 30, none⟩] [])
  .ret)))))
/-- cmp.isNaN[int] -/
def x42 : XFn := XFn.mk 6 [.tmp 2] (.seq (.region false [⟨(some 2), .mov (.cst (.bool false)), none⟩] [])
  (.seq (.region false [⟨(some 3), .mov (.tmp 0), none⟩,
    ⟨(some 4), .mov (.tmp 0), none⟩,
    ⟨(some 5), .bin .neq (.tmp 3) (.tmp 4), none⟩,
    ⟨(some 2), .own 5, none⟩] [])
  .ret))
/-- cmp.isNaN[int64] -/
def x43 : XFn := XFn.mk 6 [.tmp 2] (.seq (.region false [⟨(some 2), .mov (.cst (.bool false)), none⟩] [])
  (.seq (.region false [⟨(some 3), .mov (.tmp 0), none⟩,
    ⟨(some 4), .mov (.tmp 0), none⟩,
    ⟨(some 5), .bin .neq (.tmp 3) (.tmp 4), none⟩,
    ⟨(some 2), .own 5, none⟩] [])
  .ret))
/-- custos/rat.may -/
def x44 : XFn := XFn.mk 16 [.tmp 2] (.seq (.region false [⟨(some 1), .box (.tmp 0) 2, none⟩,
    ⟨(some 2), .mov (.cst (.bool false)), none⟩] [])
  (.seq (.region true [⟨(some 3), .faddr (.tmp 1) 1, none⟩,
    ⟨(some 4), .load (.tmp 3) 1 false, none⟩,
    ⟨(some 5), .bin .gtr (.tmp 4) (.cst (.int .i64 0)), none⟩,
    ⟨(some 6), .mov (.tmp 5), none⟩,
    ⟨(some 7), .faddr (.tmp 1) 0, (some (6, true))⟩,
    ⟨(some 8), .load (.tmp 7) 1 false, (some (6, true))⟩,
    ⟨(some 9), .callq 40 [.tmp 8], (some (6, true))⟩,
    ⟨(some 10), .faddr (.tmp 1) 1, (some (6, true))⟩,
    ⟨(some 11), .load (.tmp 10) 1 false, (some (6, true))⟩,
    ⟨(some 12), .conv .u64 (.tmp 11), (some (6, true))⟩,
    ⟨(some 13), .callq 39 [.tmp 9, .tmp 12], (some (6, true))⟩,
    ⟨(some 14), .bin .eql (.tmp 13) (.cst (.int .u64 1)), (some (6, true))⟩,
    ⟨(some 15), .pick (.tmp 6) (.tmp 14) (.cst (.bool false)), none⟩,
    ⟨(some 2), .own 15, none⟩] [])
  .ret))
/-- custos/rat.times -/
def x45 : XFn := XFn.mk 23 [.cell 4 3 true] (.seq (.region false [⟨(some 4), .alloc [.int .u64 0, .int .u64 0, .bool false], none⟩] [])
  (.seq (.region false [⟨(some 8), .mov (.tmp 0), none⟩,
    ⟨(some 9), .callq 40 [.tmp 8], none⟩,
    ⟨(some 10), .mov (.tmp 1), none⟩,
    ⟨(some 11), .callq 40 [.tmp 10], none⟩,
    ⟨(some 12), .callq 61 [.tmp 9, .tmp 11], none⟩,
    ⟨(some 7), .mov (.tmp 12), none⟩,
    ⟨(some 13), .ext 7 0, none⟩,
    ⟨(some 14), .ext 7 1, none⟩,
    ⟨(some 5), .own 13, none⟩,
    ⟨(some 6), .own 14, none⟩] [])
  (.seq (.region false [⟨(some 15), .mov (.tmp 5), none⟩,
    ⟨(some 16), .mov (.tmp 6), none⟩,
    ⟨(some 17), .mov (.tmp 0), none⟩,
    ⟨(some 18), .bin .lss (.tmp 17) (.cst (.int .i64 0)), none⟩,
    ⟨(some 19), .mov (.tmp 1), none⟩,
    ⟨(some 20), .bin .lss (.tmp 19) (.cst (.int .i64 0)), none⟩,
    ⟨(some 21), .beq true (.tmp 18) (.tmp 20), none⟩,
    ⟨(some 22), .build [.int .u64 0, .int .u64 0, .bool false] [(0, 1, .tmp 15), (1, 1, .tmp 16), (2, 1, .tmp 21)], none⟩,
    ⟨none, .store (.tmp 4) (.tmp 22) 3, none⟩] [])
  .ret)))
/-- custos/rat.plus -/
def x46 : XFn := XFn.mk 83 [.cell 4 3 true] (.seq (.region false [⟨(some 2), .box (.tmp 0) 3, none⟩,
    ⟨(some 3), .box (.tmp 1) 3, none⟩,
    ⟨(some 4), .alloc [.int .u64 0, .int .u64 0, .bool false], none⟩] [])
  (.seq (.seq (.region false [⟨(some 13), .faddr (.tmp 2) 2, none⟩,
    ⟨(some 14), .load (.tmp 13) 1 false, none⟩,
    ⟨(some 15), .faddr (.tmp 3) 2, none⟩,
    ⟨(some 16), .load (.tmp 15) 1 false, none⟩,
    ⟨(some 17), .beq false (.tmp 14) (.tmp 16), none⟩] [])
  (.cond (.tmp 17) (.seq (.region false [⟨(some 19), .faddr (.tmp 2) 1, none⟩,
    ⟨(some 20), .load (.tmp 19) 1 false, none⟩,
    ⟨(some 21), .faddr (.tmp 3) 1, none⟩,
    ⟨(some 22), .load (.tmp 21) 1 false, none⟩,
    ⟨(some 23), .prim 0 62 [.tmp 20, .tmp 22, .cst (.int .u64 0)], none⟩,
    ⟨(some 18), .mov (.tmp 23), none⟩,
    ⟨(some 24), .ext 18 0, none⟩,
    ⟨(some 25), .ext 18 1, none⟩,
    ⟨(some 5), .own 24, none⟩,
    ⟨(some 6), .own 25, none⟩] [])
  (.seq (.region false [⟨(some 27), .faddr (.tmp 2) 0, none⟩,
    ⟨(some 28), .load (.tmp 27) 1 false, none⟩,
    ⟨(some 29), .faddr (.tmp 3) 0, none⟩,
    ⟨(some 30), .load (.tmp 29) 1 false, none⟩,
    ⟨(some 31), .mov (.tmp 6), none⟩,
    ⟨(some 32), .prim 0 62 [.tmp 28, .tmp 30, .tmp 31], none⟩,
    ⟨(some 26), .mov (.tmp 32), none⟩,
    ⟨(some 33), .ext 26 0, none⟩,
    ⟨(some 34), .ext 26 1, none⟩,
    ⟨(some 7), .own 33, none⟩,
    ⟨(some 8), .own 34, none⟩] [])
  (.seq (.region false [⟨(some 35), .mov (.tmp 7), none⟩,
    ⟨(some 36), .mov (.tmp 5), none⟩,
    ⟨(some 37), .faddr (.tmp 2) 2, none⟩,
    ⟨(some 38), .load (.tmp 37) 1 false, none⟩,
    ⟨(some 39), .build [.int .u64 0, .int .u64 0, .bool false] [(0, 1, .tmp 35), (1, 1, .tmp 36), (2, 1, .tmp 38)], none⟩,
    ⟨none, .store (.tmp 4) (.tmp 39) 3, none⟩] [])
  .ret))) .skip))
  (.seq (.seq (.region false [⟨(some 40), .faddr (.tmp 2) 0, none⟩,
    ⟨(some 41), .load (.tmp 40) 1 false, none⟩,
    ⟨(some 42), .faddr (.tmp 3) 0, none⟩,
    ⟨(some 43), .load (.tmp 42) 1 false, none⟩,
    ⟨(some 44), .bin .lss (.tmp 41) (.tmp 43), none⟩,
    ⟨(some 45), .mov (.tmp 44), none⟩,
    ⟨(some 46), .faddr (.tmp 2) 0, (some (45, false))⟩,
    ⟨(some 47), .load (.tmp 46) 1 false, (some (45, false))⟩,
    ⟨(some 48), .faddr (.tmp 3) 0, (some (45, false))⟩,
    ⟨(some 49), .load (.tmp 48) 1 false, (some (45, false))⟩,
    ⟨(some 50), .bin .eql (.tmp 47) (.tmp 49), (some (45, false))⟩,
    ⟨(some 51), .mov (.tmp 50), (some (45, false))⟩,
    ⟨(some 52), .faddr (.tmp 2) 1, (some (51, true))⟩,
    ⟨(some 53), .load (.tmp 52) 1 false, (some (51, true))⟩,
    ⟨(some 54), .faddr (.tmp 3) 1, (some (51, true))⟩,
    ⟨(some 55), .load (.tmp 54) 1 false, (some (51, true))⟩,
    ⟨(some 56), .bin .lss (.tmp 53) (.tmp 55), (some (51, true))⟩,
    ⟨(some 57), .pick (.tmp 51) (.tmp 56) (.cst (.bool false)), (some (45, false))⟩,
    ⟨(some 58), .pick (.tmp 45) (.cst (.bool true)) (.tmp 57), none⟩] [])
  (.cond (.tmp 58) (.region false [⟨(some 59), .load (.tmp 3) 3 true, none⟩,
    ⟨(some 60), .load (.tmp 2) 3 true, none⟩,
    ⟨none, .store (.tmp 2) (.tmp 59) 3, none⟩,
    ⟨none, .store (.tmp 3) (.tmp 60) 3, none⟩] []) .skip))
  (.seq (.region false [⟨(some 62), .faddr (.tmp 2) 1, none⟩,
    ⟨(some 63), .load (.tmp 62) 1 false, none⟩,
    ⟨(some 64), .faddr (.tmp 3) 1, none⟩,
    ⟨(some 65), .load (.tmp 64) 1 false, none⟩,
    ⟨(some 66), .prim 1 63 [.tmp 63, .tmp 65, .cst (.int .u64 0)], none⟩,
    ⟨(some 61), .mov (.tmp 66), none⟩,
    ⟨(some 67), .ext 61 0, none⟩,
    ⟨(some 68), .ext 61 1, none⟩,
    ⟨(some 9), .own 67, none⟩,
    ⟨(some 10), .own 68, none⟩] [])
  (.seq (.region false [⟨(some 70), .faddr (.tmp 2) 0, none⟩,
    ⟨(some 71), .load (.tmp 70) 1 false, none⟩,
    ⟨(some 72), .faddr (.tmp 3) 0, none⟩,
    ⟨(some 73), .load (.tmp 72) 1 false, none⟩,
    ⟨(some 74), .mov (.tmp 10), none⟩,
    ⟨(some 75), .prim 1 63 [.tmp 71, .tmp 73, .tmp 74], none⟩,
    ⟨(some 69), .mov (.tmp 75), none⟩,
    ⟨(some 76), .ext 69 0, none⟩,
    ⟨(some 77), .ext 69 1, none⟩,
    ⟨(some 11), .own 76, none⟩,
    ⟨(some 12), .own 77, none⟩] [])
  (.seq (.region false [⟨(some 78), .mov (.tmp 11), none⟩,
    ⟨(some 79), .mov (.tmp 9), none⟩,
    ⟨(some 80), .faddr (.tmp 2) 2, none⟩,
    ⟨(some 81), .load (.tmp 80) 1 false, none⟩,
    ⟨(some 82), .build [.int .u64 0, .int .u64 0, .bool false] [(0, 1, .tmp 78), (1, 1, .tmp 79), (2, 1, .tmp 81)], none⟩,
    ⟨none, .store (.tmp 4) (.tmp 82) 3, none⟩] [])
  .ret))))))
/-- internal/bytealg.CompareString -/
def x47 : XFn := XFn.mk 8 [.tmp 4] (.seq (.region false [⟨(some 4), .mov (.cst (.int .i64 0)), none⟩] [])
  (.seq (.region false [⟨(some 5), .mov (.tmp 0), none⟩,
    ⟨(some 6), .mov (.tmp 1), none⟩,
    ⟨(some 7), .prim 3 64 [.tmp 5, .tmp 6], none⟩,
    ⟨(some 4), .own 7, none⟩] [])
  .ret))
/-- internal/stringslite.HasPrefix -/
def x49 : XFn := XFn.mk 18 [.tmp 4] (.seq (.region false [⟨(some 4), .mov (.cst (.bool false)), none⟩] [])
  (.seq (.region false [⟨(some 5), .mov (.tmp 0), none⟩,
    ⟨(some 6), .lens true (.tmp 5), none⟩,
    ⟨(some 7), .mov (.tmp 1), none⟩,
    ⟨(some 8), .lens true (.tmp 7), none⟩,
    ⟨(some 9), .bin .geq (.tmp 6) (.tmp 8), none⟩,
    ⟨(some 10), .mov (.tmp 9), none⟩,
    ⟨(some 11), .mov (.tmp 0), (some (10, true))⟩,
    ⟨(some 12), .mov (.tmp 1), (some (10, true))⟩,
    ⟨(some 13), .lens true (.tmp 12), (some (10, true))⟩,
    ⟨(some 14), .sstr (.tmp 11) none (some (.tmp 13)), (some (10, true))⟩,
    ⟨(some 15), .mov (.tmp 1), (some (10, true))⟩,
    ⟨(some 16), .bin .eql (.tmp 14) (.tmp 15), (some (10, true))⟩,
    ⟨(some 17), .pick (.tmp 10) (.tmp 16) (.cst (.bool false)), none⟩,
    ⟨(some 4), .own 17, none⟩] [])
  .ret))
/-- strings.TrimSuffix -/
def x50 : XFn := XFn.mk 8 [.tmp 4] (.seq (.region false [⟨(some 4), .mov (.cst (.str [])), none⟩] [])
  (.seq (.region false [⟨(some 5), .mov (.tmp 0), none⟩,
    ⟨(some 6), .mov (.tmp 1), none⟩,
    ⟨(some 7), .callq 69 [.tmp 5, .tmp 6], none⟩,
    ⟨(some 4), .own 7, none⟩] [])
  .ret))
/-- strconv.ParseUint -/
def x51 : XFn := XFn.mk 26 [.tmp 6, .tmp 7] (.seq (.region false [⟨(some 6), .mov (.cst (.int .u64 0)), none⟩,
    ⟨(some 7), .mov (.cst .nilif), none⟩] [])
  (.seq (.region false [⟨(some 11), .mov (.tmp 0), none⟩,
    ⟨(some 12), .mov (.tmp 1), none⟩,
    ⟨(some 13), .mov (.tmp 2), none⟩,
    ⟨(some 14), .callq 70 [.tmp 11, .tmp 12, .tmp 13], none⟩,
    ⟨(some 10), .mov (.tmp 14), none⟩,
    ⟨(some 15), .ext 10 0, none⟩,
    ⟨(some 16), .ext 10 1, none⟩,
    ⟨(some 8), .own 15, none⟩,
    ⟨(some 9), .own 16, none⟩] [])
  (.seq (.seq (.region false [⟨(some 17), .mov (.tmp 9), none⟩,
    ⟨(some 18), .eqnil 0 true (.tmp 17), none⟩] [])
  (.cond (.tmp 18) (.seq (.region false [⟨(some 19), .mov (.tmp 8), none⟩,
    ⟨(some 20), .mov (.tmp 0), none⟩,
    ⟨(some 21), .mov (.tmp 1), none⟩,
    ⟨(some 22), .mov (.tmp 2), none⟩,
    ⟨(some 23), .mov (.tmp 9), none⟩,
    ⟨(some 24), .callw 54 [.cst (.str [80, 97, 114, 115, 101, 85, 105, 110, 116]), .tmp 20, .tmp 21, .tmp 22, .tmp 23], none⟩,
    ⟨(some 6), .own 19, none⟩,
    ⟨(some 7), .own 24, none⟩] [])
  .ret) .skip))
  (.seq (.region false [⟨(some 25), .mov (.tmp 8), none⟩,
    ⟨(some 6), .own 25, none⟩,
    ⟨(some 7), .mov (.cst .nilif), none⟩] [])
  .ret))))
/-- internal/stringslite.Cut -/
def x52 : XFn := XFn.mk 23 [.tmp 4, .tmp 5, .tmp 6] (.seq (.region false [⟨(some 4), .mov (.cst (.str [])), none⟩,
    ⟨(some 5), .mov (.cst (.str [])), none⟩,
    ⟨(some 6), .mov (.cst (.bool false)), none⟩] [])
  (.seq (.seq (.region false [⟨(some 8), .mov (.tmp 0), none⟩,
    ⟨(some 9), .mov (.tmp 1), none⟩,
    ⟨(some 10), .callq 71 [.tmp 8, .tmp 9], none⟩,
    ⟨(some 7), .own 10, none⟩] [])
  (.seq (.region false [⟨(some 11), .mov (.tmp 7), none⟩,
    ⟨(some 12), .bin .geq (.tmp 11) (.cst (.int .i64 0)), none⟩] [])
  (.cond (.tmp 12) (.seq (.region true [⟨(some 13), .mov (.tmp 0), none⟩,
    ⟨(some 14), .mov (.tmp 7), none⟩,
    ⟨(some 15), .sstr (.tmp 13) none (some (.tmp 14)), none⟩,
    ⟨(some 16), .mov (.tmp 0), none⟩,
    ⟨(some 17), .mov (.tmp 7), none⟩,
    ⟨(some 18), .mov (.tmp 1), none⟩,
    ⟨(some 19), .lens true (.tmp 18), none⟩,
    ⟨(some 20), .bin .add (.tmp 17) (.tmp 19), none⟩,
    ⟨(some 21), .sstr (.tmp 16) (some (.tmp 20)) none, none⟩,
    ⟨(some 4), .own 15, none⟩,
    ⟨(some 5), .own 21, none⟩,
    ⟨(some 6), .mov (.cst (.bool true)), none⟩] [])
  .ret) .skip)))
  (.seq (.region false [⟨(some 22), .mov (.tmp 0), none⟩,
    ⟨(some 4), .own 22, none⟩,
    ⟨(some 5), .mov (.cst (.str [])), none⟩,
    ⟨(some 6), .mov (.cst (.bool false)), none⟩] [])
  .ret)))
/-- strconv.toError -/
def x54 : XFn := XFn.mk 43 [.tmp 10] (.seq (.region false [⟨(some 10), .mov (.cst .nilif), none⟩] [])
  (.seq (.seq (.region false [⟨(some 11), .mov (.tmp 4), none⟩] [])
  (.block 0 (.seq (.region false [⟨(some 13), .mkif 100 (.cst (.int .i64 2)), none⟩,
    ⟨(some 14), .eqif false [6, 24, 100, 140, 141, 143, 144] (.tmp 11) (.tmp 13), none⟩,
    ⟨(some 12), .own 14, none⟩] [])
  (.cond (.tmp 12) (.seq (.region false [⟨(some 15), .mov (.tmp 0), none⟩,
    ⟨(some 16), .mov (.tmp 1), none⟩,
    ⟨(some 17), .callq 72 [.tmp 15, .tmp 16], none⟩,
    ⟨(some 18), .mkif 101 (.tmp 17), none⟩,
    ⟨(some 10), .own 18, none⟩] [])
  .ret) (.seq (.region false [⟨(some 20), .mkif 100 (.cst (.int .i64 1)), none⟩,
    ⟨(some 21), .eqif false [6, 24, 100, 140, 141, 143, 144] (.tmp 11) (.tmp 20), none⟩,
    ⟨(some 19), .own 21, none⟩] [])
  (.cond (.tmp 19) (.seq (.region false [⟨(some 22), .mov (.tmp 0), none⟩,
    ⟨(some 23), .mov (.tmp 1), none⟩,
    ⟨(some 24), .callq 73 [.tmp 22, .tmp 23], none⟩,
    ⟨(some 25), .mkif 101 (.tmp 24), none⟩,
    ⟨(some 10), .own 25, none⟩] [])
  .ret) (.seq (.region false [⟨(some 27), .mkif 100 (.cst (.int .i64 3)), none⟩,
    ⟨(some 28), .eqif false [6, 24, 100, 140, 141, 143, 144] (.tmp 11) (.tmp 27), none⟩,
    ⟨(some 26), .own 28, none⟩] [])
  (.cond (.tmp 26) (.seq (.region false [⟨(some 29), .mov (.tmp 0), none⟩,
    ⟨(some 30), .mov (.tmp 1), none⟩,
    ⟨(some 31), .mov (.tmp 2), none⟩,
    ⟨(some 32), .callq 74 [.tmp 29, .tmp 30, .tmp 31], none⟩,
    ⟨(some 33), .mkif 101 (.tmp 32), none⟩,
    ⟨(some 10), .own 33, none⟩] [])
  .ret) (.seq (.region false [⟨(some 35), .mkif 100 (.cst (.int .i64 4)), none⟩,
    ⟨(some 36), .eqif false [6, 24, 100, 140, 141, 143, 144] (.tmp 11) (.tmp 35), none⟩,
    ⟨(some 34), .own 36, none⟩] [])
  (.cond (.tmp 34) (.seq (.region false [⟨(some 37), .mov (.tmp 0), none⟩,
    ⟨(some 38), .mov (.tmp 1), none⟩,
    ⟨(some 39), .mov (.tmp 3), none⟩,
    ⟨(some 40), .callq 75 [.tmp 37, .tmp 38, .tmp 39], none⟩,
    ⟨(some 41), .mkif 101 (.tmp 40), none⟩,
    ⟨(some 10), .own 41, none⟩] [])
  .ret) .skip))))))))))
  (.seq (.region false [⟨(some 42), .mov (.tmp 4), none⟩,
    ⟨(some 10), .own 42, none⟩] [])
  .ret)))
/-- custos/rat.Add -/
def x55 : XFn := XFn.mk 20 [.cell 4 2 true, .tmp 5] (.seq (.region false [⟨(some 2), .box (.tmp 0) 2, none⟩,
    ⟨(some 3), .box (.tmp 1) 2, none⟩,
    ⟨(some 4), .alloc [.int .i64 0, .int .i64 0], none⟩,
    ⟨(some 5), .mov (.cst (.int .i64 0)), none⟩] [])
  (.seq (.seq (.region false [⟨(some 6), .load (.tmp 2) 2 true, none⟩,
    ⟨(some 7), .callq 44 [.tmp 6], none⟩,
    ⟨(some 8), .not (.tmp 7), none⟩,
    ⟨(some 9), .mov (.tmp 8), none⟩,
    ⟨(some 10), .load (.tmp 3) 2 true, (some (9, false))⟩,
    ⟨(some 11), .callq 44 [.tmp 10], (some (9, false))⟩,
    ⟨(some 12), .not (.tmp 11), (some (9, false))⟩,
    ⟨(some 13), .pick (.tmp 9) (.cst (.bool true)) (.tmp 12), none⟩] [])
  (.cond (.tmp 13) (.seq (.region false [⟨(some 14), .build [.int .i64 0, .int .i64 0] [], none⟩,
    ⟨none, .store (.tmp 4) (.tmp 14) 2, none⟩,
    ⟨(some 5), .mov (.cst (.int .i64 1)), none⟩] [])
  .ret) .skip))
  (.seq (.region false [⟨(some 15), .load (.tmp 2) 2 true, none⟩,
    ⟨(some 16), .load (.tmp 3) 2 true, none⟩,
    ⟨(some 17), .callq 76 [.tmp 15, .tmp 16, .cst (.int .i64 1)], none⟩,
    ⟨(some 18), .ext 17 0, none⟩,
    ⟨(some 19), .ext 17 1, none⟩,
    ⟨none, .store (.tmp 4) (.tmp 18) 2, none⟩,
    ⟨(some 5), .own 19, none⟩] [])
  .ret)))
/-- custos/rat.Sub -/
def x56 : XFn := XFn.mk 20 [.cell 4 2 true, .tmp 5] (.seq (.region false [⟨(some 2), .box (.tmp 0) 2, none⟩,
    ⟨(some 3), .box (.tmp 1) 2, none⟩,
    ⟨(some 4), .alloc [.int .i64 0, .int .i64 0], none⟩,
    ⟨(some 5), .mov (.cst (.int .i64 0)), none⟩] [])
  (.seq (.seq (.region false [⟨(some 6), .load (.tmp 2) 2 true, none⟩,
    ⟨(some 7), .callq 44 [.tmp 6], none⟩,
    ⟨(some 8), .not (.tmp 7), none⟩,
    ⟨(some 9), .mov (.tmp 8), none⟩,
    ⟨(some 10), .load (.tmp 3) 2 true, (some (9, false))⟩,
    ⟨(some 11), .callq 44 [.tmp 10], (some (9, false))⟩,
    ⟨(some 12), .not (.tmp 11), (some (9, false))⟩,
    ⟨(some 13), .pick (.tmp 9) (.cst (.bool true)) (.tmp 12), none⟩] [])
  (.cond (.tmp 13) (.seq (.region false [⟨(some 14), .build [.int .i64 0, .int .i64 0] [], none⟩,
    ⟨none, .store (.tmp 4) (.tmp 14) 2, none⟩,
    ⟨(some 5), .mov (.cst (.int .i64 1)), none⟩] [])
  .ret) .skip))
  (.seq (.region false [⟨(some 15), .load (.tmp 2) 2 true, none⟩,
    ⟨(some 16), .load (.tmp 3) 2 true, none⟩,
    ⟨(some 17), .callq 76 [.tmp 15, .tmp 16, .cst (.int .i64 (-1))], none⟩,
    ⟨(some 18), .ext 17 0, none⟩,
    ⟨(some 19), .ext 17 1, none⟩,
    ⟨none, .store (.tmp 4) (.tmp 18) 2, none⟩,
    ⟨(some 5), .own 19, none⟩] [])
  .ret)))
/-- custos/rat.Mul -/
def x57 : XFn := XFn.mk 37 [.cell 4 2 true, .tmp 5] (.seq (.region false [⟨(some 2), .box (.tmp 0) 2, none⟩,
    ⟨(some 3), .box (.tmp 1) 2, none⟩,
    ⟨(some 4), .alloc [.int .i64 0, .int .i64 0], none⟩,
    ⟨(some 5), .mov (.cst (.int .i64 0)), none⟩] [])
  (.seq (.seq (.region false [⟨(some 6), .load (.tmp 2) 2 true, none⟩,
    ⟨(some 7), .callq 44 [.tmp 6], none⟩,
    ⟨(some 8), .not (.tmp 7), none⟩,
    ⟨(some 9), .mov (.tmp 8), none⟩,
    ⟨(some 10), .load (.tmp 3) 2 true, (some (9, false))⟩,
    ⟨(some 11), .callq 44 [.tmp 10], (some (9, false))⟩,
    ⟨(some 12), .not (.tmp 11), (some (9, false))⟩,
    ⟨(some 13), .pick (.tmp 9) (.cst (.bool true)) (.tmp 12), none⟩] [])
  (.cond (.tmp 13) (.seq (.region false [⟨(some 14), .build [.int .i64 0, .int .i64 0] [], none⟩,
    ⟨none, .store (.tmp 4) (.tmp 14) 2, none⟩,
    ⟨(some 5), .mov (.cst (.int .i64 1)), none⟩] [])
  .ret) .skip))
  (.seq (.region true [⟨(some 15), .faddr (.tmp 2) 0, none⟩,
    ⟨(some 16), .load (.tmp 15) 1 false, none⟩,
    ⟨(some 17), .callq 40 [.tmp 16], none⟩,
    ⟨(some 18), .faddr (.tmp 2) 1, none⟩,
    ⟨(some 19), .load (.tmp 18) 1 false, none⟩,
    ⟨(some 20), .conv .u64 (.tmp 19), none⟩,
    ⟨(some 21), .faddr (.tmp 3) 0, none⟩,
    ⟨(some 22), .load (.tmp 21) 1 false, none⟩,
    ⟨(some 23), .callq 40 [.tmp 22], none⟩,
    ⟨(some 24), .faddr (.tmp 3) 1, none⟩,
    ⟨(some 25), .load (.tmp 24) 1 false, none⟩,
    ⟨(some 26), .conv .u64 (.tmp 25), none⟩,
    ⟨(some 27), .faddr (.tmp 2) 0, none⟩,
    ⟨(some 28), .load (.tmp 27) 1 false, none⟩,
    ⟨(some 29), .bin .lss (.tmp 28) (.cst (.int .i64 0)), none⟩,
    ⟨(some 30), .faddr (.tmp 3) 0, none⟩,
    ⟨(some 31), .load (.tmp 30) 1 false, none⟩,
    ⟨(some 32), .bin .lss (.tmp 31) (.cst (.int .i64 0)), none⟩,
    ⟨(some 33), .beq true (.tmp 29) (.tmp 32), none⟩,
    ⟨(some 34), .callq 77 [.tmp 17, .tmp 20, .tmp 23, .tmp 26, .tmp 33], none⟩,
    ⟨(some 35), .ext 34 0, none⟩,
    ⟨(some 36), .ext 34 1, none⟩,
    ⟨none, .store (.tmp 4) (.tmp 35) 2, none⟩,
    ⟨(some 5), .own 36, none⟩] [])
  .ret)))
/-- custos/custosref01.of -/
def x58 : XFn := XFn.mk 13 [.cell 2 4 true] (.seq (.region false [⟨(some 2), .alloc [.int .u64 0, .int .u64 0, .int .u64 0, .int .u64 0], none⟩] [])
  (.seq (.region false [⟨(some 3), .alloc [.int .u64 0, .int .u64 0, .int .u64 0, .int .u64 0], none⟩] [])
  (.seq (.region false [⟨(some 4), .mov (.tmp 0), none⟩,
    ⟨(some 5), .bin .rem (.tmp 4) (.cst (.int .u64 4294967296)), none⟩,
    ⟨(some 6), .faddr (.tmp 3) 0, none⟩,
    ⟨(some 7), .iarr 4 1 (.tmp 6) (.cst (.int .i64 0)), none⟩,
    ⟨none, .store (.tmp 7) (.tmp 5) 1, none⟩] [])
  (.seq (.region false [⟨(some 8), .mov (.tmp 0), none⟩,
    ⟨(some 9), .bin .quo (.tmp 8) (.cst (.int .u64 4294967296)), none⟩,
    ⟨(some 10), .faddr (.tmp 3) 0, none⟩,
    ⟨(some 11), .iarr 4 1 (.tmp 10) (.cst (.int .i64 1)), none⟩,
    ⟨none, .store (.tmp 11) (.tmp 9) 1, none⟩] [])
  (.seq (.region false [⟨(some 12), .load (.tmp 3) 4 true, none⟩,
    ⟨none, .store (.tmp 2) (.tmp 12) 4, none⟩] [])
  .ret)))))
/-- custos/custosref01.size -/
def x59 : XFn := XFn.mk 12 [.tmp 2] (.seq (.region false [⟨(some 2), .mov (.cst (.int .u64 0)), none⟩] [])
  (.seq (.seq (.region false [⟨(some 3), .mov (.tmp 0), none⟩,
    ⟨(some 4), .bin .lss (.tmp 3) (.cst (.int .i64 0)), none⟩] [])
  (.cond (.tmp 4) (.seq (.region false [⟨(some 5), .mov (.tmp 0), none⟩,
    ⟨(some 6), .bin .add (.tmp 5) (.cst (.int .i64 1)), none⟩,
    ⟨(some 7), .neg (.tmp 6), none⟩,
    ⟨(some 8), .conv .u64 (.tmp 7), none⟩,
    ⟨(some 9), .bin .add (.tmp 8) (.cst (.int .u64 1)), none⟩,
    ⟨(some 2), .own 9, none⟩] [])
  .ret) .skip))
  (.seq (.region false [⟨(some 10), .mov (.tmp 0), none⟩,
    ⟨(some 11), .conv .u64 (.tmp 10), none⟩,
    ⟨(some 2), .own 11, none⟩] [])
  .ret)))
/-- custos/custosref01.made -/
def x60 : XFn := XFn.mk 84 [.cell 6 2 true, .tmp 7] (.seq (.region false [⟨(some 4), .box (.tmp 1) 4, none⟩,
    ⟨(some 5), .box (.tmp 2) 4, none⟩,
    ⟨(some 6), .alloc [.int .i64 0, .int .i64 0], none⟩,
    ⟨(some 7), .mov (.cst (.int .i64 0)), none⟩] [])
  (.seq (.region false [⟨(some 18), .load (.tmp 4) 4 true, none⟩,
    ⟨(some 19), .load (.tmp 5) 4 true, none⟩,
    ⟨(some 20), .callq 78 [.tmp 18, .tmp 19], none⟩,
    ⟨(some 8), .alloc [.int .u64 0, .int .u64 0, .int .u64 0, .int .u64 0], none⟩,
    ⟨none, .store (.tmp 8) (.tmp 20) 4, none⟩] [])
  (.seq (.region false [⟨(some 22), .load (.tmp 4) 4 true, none⟩,
    ⟨(some 23), .load (.tmp 8) 4 true, none⟩,
    ⟨(some 24), .callq 79 [.tmp 22, .tmp 23], none⟩,
    ⟨(some 21), .mov (.tmp 24), none⟩,
    ⟨(some 25), .ext 21 0, none⟩,
    ⟨(some 26), .ext 21 1, none⟩,
    ⟨(some 9), .alloc [.int .u64 0, .int .u64 0, .int .u64 0, .int .u64 0], none⟩,
    ⟨(some 10), .alloc [.int .u64 0, .int .u64 0, .int .u64 0, .int .u64 0], none⟩,
    ⟨none, .store (.tmp 9) (.tmp 25) 4, none⟩,
    ⟨none, .store (.tmp 10) (.tmp 26) 4, none⟩] [])
  (.seq (.region false [⟨(some 28), .load (.tmp 5) 4 true, none⟩,
    ⟨(some 29), .load (.tmp 8) 4 true, none⟩,
    ⟨(some 30), .callq 79 [.tmp 28, .tmp 29], none⟩,
    ⟨(some 27), .mov (.tmp 30), none⟩,
    ⟨(some 31), .ext 27 0, none⟩,
    ⟨(some 32), .ext 27 1, none⟩,
    ⟨(some 11), .alloc [.int .u64 0, .int .u64 0, .int .u64 0, .int .u64 0], none⟩,
    ⟨(some 12), .alloc [.int .u64 0, .int .u64 0, .int .u64 0, .int .u64 0], none⟩,
    ⟨none, .store (.tmp 11) (.tmp 31) 4, none⟩,
    ⟨none, .store (.tmp 12) (.tmp 32) 4, none⟩] [])
  (.seq (.region false [⟨(some 33), .callq 58 [.cst (.int .u64 9223372036854775808)], none⟩,
    ⟨(some 13), .alloc [.int .u64 0, .int .u64 0, .int .u64 0, .int .u64 0], none⟩,
    ⟨none, .store (.tmp 13) (.tmp 33) 4, none⟩] [])
  (.seq (.region false [⟨(some 34), .load (.tmp 9) 4 true, none⟩,
    ⟨(some 35), .load (.tmp 13) 4 true, none⟩,
    ⟨(some 36), .callq 80 [.tmp 34, .tmp 35], none⟩,
    ⟨(some 14), .own 36, none⟩] [])
  (.seq (.region false [⟨(some 37), .load (.tmp 11) 4 true, none⟩,
    ⟨(some 38), .load (.tmp 13) 4 true, none⟩,
    ⟨(some 39), .callq 80 [.tmp 37, .tmp 38], none⟩,
    ⟨(some 15), .own 39, none⟩] [])
  (.seq (.seq (.region false [⟨(some 40), .mov (.tmp 15), none⟩,
    ⟨(some 41), .bin .geq (.tmp 40) (.cst (.int .i64 0)), none⟩,
    ⟨(some 42), .mov (.tmp 41), none⟩,
    ⟨(some 43), .mov (.tmp 14), (some (42, false))⟩,
    ⟨(some 44), .bin .gtr (.tmp 43) (.cst (.int .i64 0)), (some (42, false))⟩,
    ⟨(some 45), .pick (.tmp 42) (.cst (.bool true)) (.tmp 44), none⟩,
    ⟨(some 46), .mov (.tmp 45), none⟩,
    ⟨(some 47), .mov (.tmp 14), (some (46, false))⟩,
    ⟨(some 48), .bin .eql (.tmp 47) (.cst (.int .i64 0)), (some (46, false))⟩,
    ⟨(some 49), .mov (.tmp 48), (some (46, false))⟩,
    ⟨(some 50), .mov (.tmp 0), (some (49, true))⟩,
    ⟨(some 51), .not (.tmp 50), (some (49, true))⟩,
    ⟨(some 52), .pick (.tmp 49) (.tmp 51) (.cst (.bool false)), (some (46, false))⟩,
    ⟨(some 53), .pick (.tmp 46) (.cst (.bool true)) (.tmp 52), none⟩] [])
  (.cond (.tmp 53) (.seq (.region false [⟨(some 54), .build [.int .i64 0, .int .i64 0] [], none⟩,
    ⟨none, .store (.tmp 6) (.tmp 54) 2, none⟩,
    ⟨(some 7), .mov (.cst (.int .i64 10)), none⟩] [])
  .ret) .skip))
  (.seq (.region false [⟨(some 55), .faddr (.tmp 9) 0, none⟩,
    ⟨(some 56), .iarr 4 1 (.tmp 55) (.cst (.int .i64 1)), none⟩,
    ⟨(some 57), .load (.tmp 56) 1 false, none⟩,
    ⟨(some 58), .bin .mul (.tmp 57) (.cst (.int .u64 4294967296)), none⟩,
    ⟨(some 59), .faddr (.tmp 9) 0, none⟩,
    ⟨(some 60), .iarr 4 1 (.tmp 59) (.cst (.int .i64 0)), none⟩,
    ⟨(some 61), .load (.tmp 60) 1 false, none⟩,
    ⟨(some 62), .bin .add (.tmp 58) (.tmp 61), none⟩,
    ⟨(some 16), .own 62, none⟩] [])
  (.seq (.region false [⟨(some 63), .faddr (.tmp 11) 0, none⟩,
    ⟨(some 64), .iarr 4 1 (.tmp 63) (.cst (.int .i64 1)), none⟩,
    ⟨(some 65), .load (.tmp 64) 1 false, none⟩,
    ⟨(some 66), .bin .mul (.tmp 65) (.cst (.int .u64 4294967296)), none⟩,
    ⟨(some 67), .faddr (.tmp 11) 0, none⟩,
    ⟨(some 68), .iarr 4 1 (.tmp 67) (.cst (.int .i64 0)), none⟩,
    ⟨(some 69), .load (.tmp 68) 1 false, none⟩,
    ⟨(some 70), .bin .add (.tmp 66) (.tmp 69), none⟩,
    ⟨(some 71), .conv .i64 (.tmp 70), none⟩,
    ⟨(some 17), .own 71, none⟩] [])
  (.seq (.seq (.region false [⟨(some 72), .mov (.tmp 0), none⟩] [])
  (.cond (.tmp 72) (.seq (.region false [⟨(some 73), .mov (.tmp 16), none⟩,
    ⟨(some 74), .bin .sub (.tmp 73) (.cst (.int .u64 1)), none⟩,
    ⟨(some 75), .conv .i64 (.tmp 74), none⟩,
    ⟨(some 76), .neg (.tmp 75), none⟩,
    ⟨(some 77), .bin .sub (.tmp 76) (.cst (.int .i64 1)), none⟩,
    ⟨(some 78), .mov (.tmp 17), none⟩,
    ⟨(some 79), .build [.int .i64 0, .int .i64 0] [(0, 1, .tmp 77), (1, 1, .tmp 78)], none⟩,
    ⟨none, .store (.tmp 6) (.tmp 79) 2, none⟩,
    ⟨(some 7), .mov (.cst (.int .i64 0)), none⟩] [])
  .ret) .skip))
  (.seq (.region false [⟨(some 80), .mov (.tmp 16), none⟩,
    ⟨(some 81), .conv .i64 (.tmp 80), none⟩,
    ⟨(some 82), .mov (.tmp 17), none⟩,
    ⟨(some 83), .build [.int .i64 0, .int .i64 0] [(0, 1, .tmp 81), (1, 1, .tmp 82)], none⟩,
    ⟨none, .store (.tmp 6) (.tmp 83) 2, none⟩,
    ⟨(some 7), .mov (.cst (.int .i64 0)), none⟩] [])
  .ret))))))))))))
/-- math/bits.Mul64 -/
def x61 : XFn := XFn.mk 51 [.tmp 4, .tmp 5] (.seq (.region false [⟨(some 4), .mov (.cst (.int .u64 0)), none⟩,
    ⟨(some 5), .mov (.cst (.int .u64 0)), none⟩] [])
  (.seq (.region false [⟨(some 14), .mov (.tmp 0), none⟩,
    ⟨(some 15), .bin .and (.tmp 14) (.cst (.int .u64 4294967295)), none⟩,
    ⟨(some 6), .own 15, none⟩] [])
  (.seq (.region false [⟨(some 16), .mov (.tmp 0), none⟩,
    ⟨(some 17), .bin .shr (.tmp 16) (.cst (.int .u64 32)), none⟩,
    ⟨(some 7), .own 17, none⟩] [])
  (.seq (.region false [⟨(some 18), .mov (.tmp 1), none⟩,
    ⟨(some 19), .bin .and (.tmp 18) (.cst (.int .u64 4294967295)), none⟩,
    ⟨(some 8), .own 19, none⟩] [])
  (.seq (.region false [⟨(some 20), .mov (.tmp 1), none⟩,
    ⟨(some 21), .bin .shr (.tmp 20) (.cst (.int .u64 32)), none⟩,
    ⟨(some 9), .own 21, none⟩] [])
  (.seq (.region false [⟨(some 22), .mov (.tmp 6), none⟩,
    ⟨(some 23), .mov (.tmp 8), none⟩,
    ⟨(some 24), .bin .mul (.tmp 22) (.tmp 23), none⟩,
    ⟨(some 10), .own 24, none⟩] [])
  (.seq (.region false [⟨(some 25), .mov (.tmp 7), none⟩,
    ⟨(some 26), .mov (.tmp 8), none⟩,
    ⟨(some 27), .bin .mul (.tmp 25) (.tmp 26), none⟩,
    ⟨(some 28), .mov (.tmp 10), none⟩,
    ⟨(some 29), .bin .shr (.tmp 28) (.cst (.int .u64 32)), none⟩,
    ⟨(some 30), .bin .add (.tmp 27) (.tmp 29), none⟩,
    ⟨(some 11), .own 30, none⟩] [])
  (.seq (.region false [⟨(some 31), .mov (.tmp 11), none⟩,
    ⟨(some 32), .bin .and (.tmp 31) (.cst (.int .u64 4294967295)), none⟩,
    ⟨(some 12), .own 32, none⟩] [])
  (.seq (.region false [⟨(some 33), .mov (.tmp 11), none⟩,
    ⟨(some 34), .bin .shr (.tmp 33) (.cst (.int .u64 32)), none⟩,
    ⟨(some 13), .own 34, none⟩] [])
  (.seq (.region false [⟨(some 35), .mov (.tmp 12), none⟩,
    ⟨(some 36), .mov (.tmp 6), none⟩,
    ⟨(some 37), .mov (.tmp 9), none⟩,
    ⟨(some 38), .bin .mul (.tmp 36) (.tmp 37), none⟩,
    ⟨(some 39), .bin .add (.tmp 35) (.tmp 38), none⟩,
    ⟨(some 12), .own 39, none⟩] [])
  (.seq (.region false [⟨(some 40), .mov (.tmp 7), none⟩,
    ⟨(some 41), .mov (.tmp 9), none⟩,
    ⟨(some 42), .bin .mul (.tmp 40) (.tmp 41), none⟩,
    ⟨(some 43), .mov (.tmp 13), none⟩,
    ⟨(some 44), .bin .add (.tmp 42) (.tmp 43), none⟩,
    ⟨(some 45), .mov (.tmp 12), none⟩,
    ⟨(some 46), .bin .shr (.tmp 45) (.cst (.int .u64 32)), none⟩,
    ⟨(some 47), .bin .add (.tmp 44) (.tmp 46), none⟩,
    ⟨(some 4), .own 47, none⟩] [])
  (.seq (.region false [⟨(some 48), .mov (.tmp 0), none⟩,
    ⟨(some 49), .mov (.tmp 1), none⟩,
    ⟨(some 50), .bin .mul (.tmp 48) (.tmp 49), none⟩,
    ⟨(some 5), .own 50, none⟩] [])
  .ret))))))))))))
/-- internal/stringslite.TrimSuffix -/
def x69 : XFn := XFn.mk 16 [.tmp 4] (.seq (.region false [⟨(some 4), .mov (.cst (.str [])), none⟩] [])
  (.seq (.seq (.region false [⟨(some 5), .mov (.tmp 0), none⟩,
    ⟨(some 6), .mov (.tmp 1), none⟩,
    ⟨(some 7), .callq 86 [.tmp 5, .tmp 6], none⟩] [])
  (.cond (.tmp 7) (.seq (.region false [⟨(some 8), .mov (.tmp 0), none⟩,
    ⟨(some 9), .mov (.tmp 0), none⟩,
    ⟨(some 10), .lens true (.tmp 9), none⟩,
    ⟨(some 11), .mov (.tmp 1), none⟩,
    ⟨(some 12), .lens true (.tmp 11), none⟩,
    ⟨(some 13), .bin .sub (.tmp 10) (.tmp 12), none⟩,
    ⟨(some 14), .sstr (.tmp 8) none (some (.tmp 13)), none⟩,
    ⟨(some 4), .own 14, none⟩] [])
  .ret) .skip))
  (.seq (.region false [⟨(some 15), .mov (.tmp 0), none⟩,
    ⟨(some 4), .own 15, none⟩] [])
  .ret)))
def x70_l0 : XCode := .seq (.region false [⟨(some 102), .bin .lss (.tmp 101) (.tmp 100), none⟩] [])
  (.seq (.cond (.tmp 102) .skip (.exit 3))
  (.seq (.block 4 (.seq (.region false [⟨(some 103), .iaddr 1 (.tmp 99) (.tmp 101), none⟩,
    ⟨(some 104), .load (.tmp 103) 1 false, none⟩,
    ⟨(some 15), .own 104, none⟩] [])
  (.seq (.region false [⟨(some 16), .mov (.cst (.int .u8 0)), none⟩] [])
  (.seq (.block 5 (.seq (.region false [⟨(some 107), .mov (.tmp 15), none⟩,
    ⟨(some 108), .bin .eql (.tmp 107) (.cst (.int .u8 95)), none⟩,
    ⟨(some 109), .mov (.tmp 108), none⟩,
    ⟨(some 110), .mov (.tmp 8), (some (109, true))⟩,
    ⟨(some 111), .pick (.tmp 109) (.tmp 110) (.cst (.bool false)), none⟩,
    ⟨(some 106), .own 111, none⟩] [])
  (.cond (.tmp 106) (.seq (.region false [⟨(some 12), .mov (.cst (.bool true)), none⟩] [])
  (.exit 4)) (.seq (.region false [⟨(some 113), .mov (.tmp 15), none⟩,
    ⟨(some 114), .bin .leq (.cst (.int .u8 48)) (.tmp 113), none⟩,
    ⟨(some 115), .mov (.tmp 114), none⟩,
    ⟨(some 116), .mov (.tmp 15), (some (115, true))⟩,
    ⟨(some 117), .bin .leq (.tmp 116) (.cst (.int .u8 57)), (some (115, true))⟩,
    ⟨(some 118), .pick (.tmp 115) (.tmp 117) (.cst (.bool false)), none⟩,
    ⟨(some 112), .own 118, none⟩] [])
  (.cond (.tmp 112) (.region false [⟨(some 119), .mov (.tmp 15), none⟩,
    ⟨(some 120), .bin .sub (.tmp 119) (.cst (.int .u8 48)), none⟩,
    ⟨(some 16), .own 120, none⟩] []) (.seq (.region false [⟨(some 122), .mov (.tmp 15), none⟩,
    ⟨(some 123), .callq 87 [.tmp 122], none⟩,
    ⟨(some 124), .bin .leq (.cst (.int .u8 97)) (.tmp 123), none⟩,
    ⟨(some 125), .mov (.tmp 124), none⟩,
    ⟨(some 126), .mov (.tmp 15), (some (125, true))⟩,
    ⟨(some 127), .callq 87 [.tmp 126], (some (125, true))⟩,
    ⟨(some 128), .bin .leq (.tmp 127) (.cst (.int .u8 122)), (some (125, true))⟩,
    ⟨(some 129), .pick (.tmp 125) (.tmp 128) (.cst (.bool false)), none⟩,
    ⟨(some 121), .own 129, none⟩] [])
  (.cond (.tmp 121) (.region false [⟨(some 130), .mov (.tmp 15), none⟩,
    ⟨(some 131), .callq 87 [.tmp 130], none⟩,
    ⟨(some 132), .bin .sub (.tmp 131) (.cst (.int .u8 97)), none⟩,
    ⟨(some 133), .bin .add (.tmp 132) (.cst (.int .u8 10)), none⟩,
    ⟨(some 16), .own 133, none⟩] []) (.seq (.region false [⟨(some 105), .mkif 100 (.cst (.int .i64 2)), none⟩,
    ⟨(some 6), .mov (.cst (.int .u64 0)), none⟩,
    ⟨(some 7), .own 105, none⟩] [])
  .ret))))))))
  (.seq (.seq (.region false [⟨(some 134), .mov (.tmp 16), none⟩,
    ⟨(some 135), .mov (.tmp 1), none⟩,
    ⟨(some 136), .conv .u8 (.tmp 135), none⟩,
    ⟨(some 137), .bin .geq (.tmp 134) (.tmp 136), none⟩] [])
  (.cond (.tmp 137) (.seq (.region false [⟨(some 138), .mkif 100 (.cst (.int .i64 2)), none⟩,
    ⟨(some 6), .mov (.cst (.int .u64 0)), none⟩,
    ⟨(some 7), .own 138, none⟩] [])
  .ret) .skip))
  (.seq (.seq (.region false [⟨(some 139), .mov (.tmp 13), none⟩,
    ⟨(some 140), .mov (.tmp 10), none⟩,
    ⟨(some 141), .bin .geq (.tmp 139) (.tmp 140), none⟩] [])
  (.cond (.tmp 141) (.seq (.region false [⟨(some 142), .mov (.tmp 11), none⟩,
    ⟨(some 143), .mkif 100 (.cst (.int .i64 1)), none⟩,
    ⟨(some 6), .own 142, none⟩,
    ⟨(some 7), .own 143, none⟩] [])
  .ret) .skip))
  (.seq (.region false [⟨(some 144), .mov (.tmp 13), none⟩,
    ⟨(some 145), .mov (.tmp 1), none⟩,
    ⟨(some 146), .conv .u64 (.tmp 145), none⟩,
    ⟨(some 147), .bin .mul (.tmp 144) (.tmp 146), none⟩,
    ⟨(some 13), .own 147, none⟩] [])
  (.seq (.region false [⟨(some 148), .mov (.tmp 13), none⟩,
    ⟨(some 149), .mov (.tmp 16), none⟩,
    ⟨(some 150), .conv .u64 (.tmp 149), none⟩,
    ⟨(some 151), .bin .add (.tmp 148) (.tmp 150), none⟩,
    ⟨(some 17), .own 151, none⟩] [])
  (.seq (.seq (.region false [⟨(some 152), .mov (.tmp 17), none⟩,
    ⟨(some 153), .mov (.tmp 13), none⟩,
    ⟨(some 154), .bin .lss (.tmp 152) (.tmp 153), none⟩,
    ⟨(some 155), .mov (.tmp 154), none⟩,
    ⟨(some 156), .mov (.tmp 17), (some (155, false))⟩,
    ⟨(some 157), .mov (.tmp 11), (some (155, false))⟩,
    ⟨(some 158), .bin .gtr (.tmp 156) (.tmp 157), (some (155, false))⟩,
    ⟨(some 159), .pick (.tmp 155) (.cst (.bool true)) (.tmp 158), none⟩] [])
  (.cond (.tmp 159) (.seq (.region false [⟨(some 160), .mov (.tmp 11), none⟩,
    ⟨(some 161), .mkif 100 (.cst (.int .i64 1)), none⟩,
    ⟨(some 6), .own 160, none⟩,
    ⟨(some 7), .own 161, none⟩] [])
  .ret) .skip))
  (.region false [⟨(some 162), .mov (.tmp 17), none⟩,
    ⟨(some 13), .own 162, none⟩] []))))))))))
  (.region false [⟨(some 163), .bin .add (.tmp 101) (.cst (.int .i64 1)), none⟩,
    ⟨(some 101), .mov (.tmp 163), none⟩] [])))
/-- internal/strconv.ParseUint -/
def x70 : XFn := XFn.mk 172 [.tmp 6, .tmp 7] (.seq (.region false [⟨(some 6), .mov (.cst (.int .u64 0)), none⟩,
    ⟨(some 7), .mov (.cst .nilif), none⟩] [])
  (.seq (.seq (.region false [⟨(some 18), .mov (.tmp 0), none⟩,
    ⟨(some 19), .bin .eql (.tmp 18) (.cst (.str [])), none⟩] [])
  (.cond (.tmp 19) (.seq (.region false [⟨(some 20), .mkif 100 (.cst (.int .i64 2)), none⟩,
    ⟨(some 6), .mov (.cst (.int .u64 0)), none⟩,
    ⟨(some 7), .own 20, none⟩] [])
  .ret) .skip))
  (.seq (.region false [⟨(some 21), .mov (.tmp 1), none⟩,
    ⟨(some 22), .bin .eql (.tmp 21) (.cst (.int .i64 0)), none⟩,
    ⟨(some 8), .own 22, none⟩] [])
  (.seq (.region false [⟨(some 23), .mov (.tmp 0), none⟩,
    ⟨(some 9), .own 23, none⟩] [])
  (.seq (.block 0 (.seq (.region false [⟨(some 26), .mov (.tmp 1), none⟩,
    ⟨(some 27), .bin .leq (.cst (.int .i64 2)) (.tmp 26), none⟩,
    ⟨(some 28), .mov (.tmp 27), none⟩,
    ⟨(some 29), .mov (.tmp 1), (some (28, true))⟩,
    ⟨(some 30), .bin .leq (.tmp 29) (.cst (.int .i64 36)), (some (28, true))⟩,
    ⟨(some 31), .pick (.tmp 28) (.tmp 30) (.cst (.bool false)), none⟩,
    ⟨(some 25), .own 31, none⟩] [])
  (.cond (.tmp 25) .skip (.seq (.region false [⟨(some 33), .mov (.tmp 1), none⟩,
    ⟨(some 34), .bin .eql (.tmp 33) (.cst (.int .i64 0)), none⟩,
    ⟨(some 32), .own 34, none⟩] [])
  (.cond (.tmp 32) (.seq (.region false [⟨(some 1), .mov (.cst (.int .i64 10)), none⟩] [])
  (.seq (.region false [⟨(some 35), .mov (.tmp 0), none⟩,
    ⟨(some 36), .idxs (.tmp 35) (.cst (.int .i64 0)), none⟩,
    ⟨(some 37), .bin .eql (.tmp 36) (.cst (.int .u8 48)), none⟩] [])
  (.cond (.tmp 37) (.block 1 (.seq (.region false [⟨(some 41), .mov (.tmp 0), none⟩,
    ⟨(some 42), .lens true (.tmp 41), none⟩,
    ⟨(some 43), .bin .geq (.tmp 42) (.cst (.int .i64 3)), none⟩,
    ⟨(some 44), .mov (.tmp 43), none⟩,
    ⟨(some 45), .mov (.tmp 0), (some (44, true))⟩,
    ⟨(some 46), .idxs (.tmp 45) (.cst (.int .i64 1)), (some (44, true))⟩,
    ⟨(some 47), .callq 87 [.tmp 46], (some (44, true))⟩,
    ⟨(some 48), .bin .eql (.tmp 47) (.cst (.int .u8 98)), (some (44, true))⟩,
    ⟨(some 49), .pick (.tmp 44) (.tmp 48) (.cst (.bool false)), none⟩,
    ⟨(some 40), .own 49, none⟩] [])
  (.cond (.tmp 40) (.seq (.region false [⟨(some 1), .mov (.cst (.int .i64 2)), none⟩] [])
  (.region false [⟨(some 50), .mov (.tmp 0), none⟩,
    ⟨(some 51), .sstr (.tmp 50) (some (.cst (.int .i64 2))) none, none⟩,
    ⟨(some 0), .own 51, none⟩] [])) (.seq (.region false [⟨(some 53), .mov (.tmp 0), none⟩,
    ⟨(some 54), .lens true (.tmp 53), none⟩,
    ⟨(some 55), .bin .geq (.tmp 54) (.cst (.int .i64 3)), none⟩,
    ⟨(some 56), .mov (.tmp 55), none⟩,
    ⟨(some 57), .mov (.tmp 0), (some (56, true))⟩,
    ⟨(some 58), .idxs (.tmp 57) (.cst (.int .i64 1)), (some (56, true))⟩,
    ⟨(some 59), .callq 87 [.tmp 58], (some (56, true))⟩,
    ⟨(some 60), .bin .eql (.tmp 59) (.cst (.int .u8 111)), (some (56, true))⟩,
    ⟨(some 61), .pick (.tmp 56) (.tmp 60) (.cst (.bool false)), none⟩,
    ⟨(some 52), .own 61, none⟩] [])
  (.cond (.tmp 52) (.seq (.region false [⟨(some 1), .mov (.cst (.int .i64 8)), none⟩] [])
  (.region false [⟨(some 62), .mov (.tmp 0), none⟩,
    ⟨(some 63), .sstr (.tmp 62) (some (.cst (.int .i64 2))) none, none⟩,
    ⟨(some 0), .own 63, none⟩] [])) (.seq (.region false [⟨(some 65), .mov (.tmp 0), none⟩,
    ⟨(some 66), .lens true (.tmp 65), none⟩,
    ⟨(some 67), .bin .geq (.tmp 66) (.cst (.int .i64 3)), none⟩,
    ⟨(some 68), .mov (.tmp 67), none⟩,
    ⟨(some 69), .mov (.tmp 0), (some (68, true))⟩,
    ⟨(some 70), .idxs (.tmp 69) (.cst (.int .i64 1)), (some (68, true))⟩,
    ⟨(some 71), .callq 87 [.tmp 70], (some (68, true))⟩,
    ⟨(some 72), .bin .eql (.tmp 71) (.cst (.int .u8 120)), (some (68, true))⟩,
    ⟨(some 73), .pick (.tmp 68) (.tmp 72) (.cst (.bool false)), none⟩,
    ⟨(some 64), .own 73, none⟩] [])
  (.cond (.tmp 64) (.seq (.region false [⟨(some 1), .mov (.cst (.int .i64 16)), none⟩] [])
  (.region false [⟨(some 74), .mov (.tmp 0), none⟩,
    ⟨(some 75), .sstr (.tmp 74) (some (.cst (.int .i64 2))) none, none⟩,
    ⟨(some 0), .own 75, none⟩] [])) (.seq (.region false [⟨(some 1), .mov (.cst (.int .i64 8)), none⟩] [])
  (.region false [⟨(some 38), .mov (.tmp 0), none⟩,
    ⟨(some 39), .sstr (.tmp 38) (some (.cst (.int .i64 1))) none, none⟩,
    ⟨(some 0), .own 39, none⟩] []))))))))) .skip))) (.seq (.region false [⟨(some 24), .mkif 100 (.cst (.int .i64 3)), none⟩,
    ⟨(some 6), .mov (.cst (.int .u64 0)), none⟩,
    ⟨(some 7), .own 24, none⟩] [])
  .ret))))))
  (.seq (.seq (.region false [⟨(some 76), .mov (.tmp 2), none⟩,
    ⟨(some 77), .bin .eql (.tmp 76) (.cst (.int .i64 0)), none⟩] [])
  (.cond (.tmp 77) (.region false [⟨(some 2), .mov (.cst (.int .i64 64)), none⟩] []) (.seq (.region false [⟨(some 78), .mov (.tmp 2), none⟩,
    ⟨(some 79), .bin .lss (.tmp 78) (.cst (.int .i64 0)), none⟩,
    ⟨(some 80), .mov (.tmp 79), none⟩,
    ⟨(some 81), .mov (.tmp 2), (some (80, false))⟩,
    ⟨(some 82), .bin .gtr (.tmp 81) (.cst (.int .i64 64)), (some (80, false))⟩,
    ⟨(some 83), .pick (.tmp 80) (.cst (.bool true)) (.tmp 82), none⟩] [])
  (.cond (.tmp 83) (.seq (.region false [⟨(some 84), .mkif 100 (.cst (.int .i64 4)), none⟩,
    ⟨(some 6), .mov (.cst (.int .u64 0)), none⟩,
    ⟨(some 7), .own 84, none⟩] [])
  .ret) .skip))))
  (.seq (.region false [⟨(some 10), .mov (.cst (.int .u64 0)), none⟩] [])
  (.seq (.seq (.region false [⟨(some 85), .mov (.tmp 1), none⟩] [])
  (.block 2 (.seq (.region false [⟨(some 91), .bin .eql (.tmp 85) (.cst (.int .i64 10)), none⟩,
    ⟨(some 90), .own 91, none⟩] [])
  (.cond (.tmp 90) (.region false [⟨(some 10), .mov (.cst (.int .u64 1844674407370955162)), none⟩] []) (.seq (.region false [⟨(some 93), .bin .eql (.tmp 85) (.cst (.int .i64 16)), none⟩,
    ⟨(some 92), .own 93, none⟩] [])
  (.cond (.tmp 92) (.region false [⟨(some 10), .mov (.cst (.int .u64 1152921504606846976)), none⟩] []) (.region false [⟨(some 86), .mov (.tmp 1), none⟩,
    ⟨(some 87), .conv .u64 (.tmp 86), none⟩,
    ⟨(some 88), .bin .quo (.cst (.int .u64 18446744073709551615)) (.tmp 87), none⟩,
    ⟨(some 89), .bin .add (.tmp 88) (.cst (.int .u64 1)), none⟩,
    ⟨(some 10), .own 89, none⟩] [])))))))
  (.seq (.region false [⟨(some 94), .mov (.tmp 2), none⟩,
    ⟨(some 95), .conv .u64 (.tmp 94), none⟩,
    ⟨(some 96), .bin .shl (.cst (.int .u64 1)) (.tmp 95), none⟩,
    ⟨(some 97), .bin .sub (.tmp 96) (.cst (.int .u64 1)), none⟩,
    ⟨(some 11), .own 97, none⟩] [])
  (.seq (.region false [⟨(some 12), .mov (.cst (.bool false)), none⟩] [])
  (.seq (.region false [⟨(some 13), .mov (.cst (.int .u64 0)), none⟩] [])
  (.seq (.seq (.region false [⟨(some 98), .mov (.tmp 0), none⟩,
    ⟨(some 99), .strb (.tmp 98), none⟩,
    ⟨(some 100), .lens false (.tmp 99), none⟩,
    ⟨(some 101), .mov (.cst (.int .i64 0)), none⟩] [])
  (.block 3 (.loop x70_l0)))
  (.seq (.seq (.region false [⟨(some 164), .mov (.tmp 12), none⟩,
    ⟨(some 165), .mov (.tmp 164), none⟩,
    ⟨(some 166), .mov (.tmp 9), (some (165, true))⟩,
    ⟨(some 167), .callq 88 [.tmp 166], (some (165, true))⟩,
    ⟨(some 168), .not (.tmp 167), (some (165, true))⟩,
    ⟨(some 169), .pick (.tmp 165) (.tmp 168) (.cst (.bool false)), none⟩] [])
  (.cond (.tmp 169) (.seq (.region false [⟨(some 170), .mkif 100 (.cst (.int .i64 2)), none⟩,
    ⟨(some 6), .mov (.cst (.int .u64 0)), none⟩,
    ⟨(some 7), .own 170, none⟩] [])
  .ret) .skip))
  (.seq (.region false [⟨(some 171), .mov (.tmp 13), none⟩,
    ⟨(some 6), .own 171, none⟩,
    ⟨(some 7), .mov (.cst .nilif), none⟩] [])
  .ret))))))))))))))
def x71_l0 : XCode := .seq (.seq (.region false [⟨(some 57), .mov (.tmp 8), none⟩,
    ⟨(some 58), .mov (.tmp 9), none⟩,
    ⟨(some 59), .bin .lss (.tmp 57) (.tmp 58), none⟩] [])
  (.cond (.tmp 59) .skip (.exit 1)))
  (.block 2 (.seq (.seq (.region false [⟨(some 60), .mov (.tmp 0), none⟩,
    ⟨(some 61), .mov (.tmp 8), none⟩,
    ⟨(some 62), .idxs (.tmp 60) (.tmp 61), none⟩,
    ⟨(some 63), .mov (.tmp 6), none⟩,
    ⟨(some 64), .bin .neq (.tmp 62) (.tmp 63), none⟩] [])
  (.cond (.tmp 64) (.seq (.region false [⟨(some 65), .mov (.tmp 0), none⟩,
    ⟨(some 66), .mov (.tmp 8), none⟩,
    ⟨(some 67), .bin .add (.tmp 66) (.cst (.int .i64 1)), none⟩,
    ⟨(some 68), .mov (.tmp 9), none⟩,
    ⟨(some 69), .sstr (.tmp 65) (some (.tmp 67)) (some (.tmp 68)), none⟩,
    ⟨(some 70), .mov (.tmp 6), none⟩,
    ⟨(some 71), .callq 89 [.tmp 69, .tmp 70], none⟩,
    ⟨(some 11), .own 71, none⟩] [])
  (.seq (.seq (.region false [⟨(some 72), .mov (.tmp 11), none⟩,
    ⟨(some 73), .bin .lss (.tmp 72) (.cst (.int .i64 0)), none⟩] [])
  (.cond (.tmp 73) (.seq (.region false [⟨(some 4), .mov (.cst (.int .i64 (-1))), none⟩] [])
  .ret) .skip))
  (.region false [⟨(some 74), .mov (.tmp 8), none⟩,
    ⟨(some 75), .mov (.tmp 11), none⟩,
    ⟨(some 76), .bin .add (.tmp 75) (.cst (.int .i64 1)), none⟩,
    ⟨(some 77), .bin .add (.tmp 74) (.tmp 76), none⟩,
    ⟨(some 8), .own 77, none⟩] []))) .skip))
  (.seq (.seq (.region false [⟨(some 78), .mov (.tmp 0), none⟩,
    ⟨(some 79), .mov (.tmp 8), none⟩,
    ⟨(some 80), .bin .add (.tmp 79) (.cst (.int .i64 1)), none⟩,
    ⟨(some 81), .idxs (.tmp 78) (.tmp 80), none⟩,
    ⟨(some 82), .mov (.tmp 7), none⟩,
    ⟨(some 83), .bin .eql (.tmp 81) (.tmp 82), none⟩,
    ⟨(some 84), .mov (.tmp 83), none⟩,
    ⟨(some 85), .mov (.tmp 0), (some (84, true))⟩,
    ⟨(some 86), .mov (.tmp 8), (some (84, true))⟩,
    ⟨(some 87), .mov (.tmp 8), (some (84, true))⟩,
    ⟨(some 88), .mov (.tmp 5), (some (84, true))⟩,
    ⟨(some 89), .bin .add (.tmp 87) (.tmp 88), (some (84, true))⟩,
    ⟨(some 90), .sstr (.tmp 85) (some (.tmp 86)) (some (.tmp 89)), (some (84, true))⟩,
    ⟨(some 91), .mov (.tmp 1), (some (84, true))⟩,
    ⟨(some 92), .bin .eql (.tmp 90) (.tmp 91), (some (84, true))⟩,
    ⟨(some 93), .pick (.tmp 84) (.tmp 92) (.cst (.bool false)), none⟩] [])
  (.cond (.tmp 93) (.seq (.region false [⟨(some 94), .mov (.tmp 8), none⟩,
    ⟨(some 4), .own 94, none⟩] [])
  .ret) .skip))
  (.seq (.region false [⟨(some 95), .mov (.tmp 8), none⟩,
    ⟨(some 96), .bin .add (.tmp 95) (.cst (.int .i64 1)), none⟩,
    ⟨(some 8), .own 96, none⟩] [])
  (.seq (.region false [⟨(some 97), .mov (.tmp 10), none⟩,
    ⟨(some 98), .bin .add (.tmp 97) (.cst (.int .i64 1)), none⟩,
    ⟨(some 10), .own 98, none⟩] [])
  (.seq (.region false [⟨(some 99), .mov (.tmp 5), none⟩,
    ⟨(some 100), .load (.glob 0) 1 false, none⟩,
    ⟨(some 101), .bin .leq (.tmp 99) (.tmp 100), none⟩,
    ⟨(some 102), .mov (.tmp 101), none⟩,
    ⟨(some 103), .mov (.tmp 10), (some (102, true))⟩,
    ⟨(some 104), .mov (.tmp 8), (some (102, true))⟩,
    ⟨(some 105), .callq 91 [.tmp 104], (some (102, true))⟩,
    ⟨(some 106), .bin .gtr (.tmp 103) (.tmp 105), (some (102, true))⟩,
    ⟨(some 107), .pick (.tmp 102) (.tmp 106) (.cst (.bool false)), none⟩] [])
  (.cond (.tmp 107) (.seq (.region false [⟨(some 108), .mov (.tmp 0), none⟩,
    ⟨(some 109), .mov (.tmp 8), none⟩,
    ⟨(some 110), .sstr (.tmp 108) (some (.tmp 109)) none, none⟩,
    ⟨(some 111), .mov (.tmp 1), none⟩,
    ⟨(some 112), .prim 99 90 [.tmp 110, .tmp 111], none⟩,
    ⟨(some 12), .own 112, none⟩] [])
  (.seq (.seq (.region false [⟨(some 113), .mov (.tmp 12), none⟩,
    ⟨(some 114), .bin .geq (.tmp 113) (.cst (.int .i64 0)), none⟩] [])
  (.cond (.tmp 114) (.seq (.region false [⟨(some 115), .mov (.tmp 12), none⟩,
    ⟨(some 116), .mov (.tmp 8), none⟩,
    ⟨(some 117), .bin .add (.tmp 115) (.tmp 116), none⟩,
    ⟨(some 4), .own 117, none⟩] [])
  .ret) .skip))
  (.seq (.region false [⟨(some 4), .mov (.cst (.int .i64 (-1))), none⟩] [])
  .ret))) (.seq (.region false [⟨(some 118), .mov (.tmp 5), none⟩,
    ⟨(some 119), .load (.glob 0) 1 false, none⟩,
    ⟨(some 120), .bin .gtr (.tmp 118) (.tmp 119), none⟩,
    ⟨(some 121), .mov (.tmp 120), none⟩,
    ⟨(some 122), .mov (.tmp 10), (some (121, true))⟩,
    ⟨(some 123), .mov (.tmp 8), (some (121, true))⟩,
    ⟨(some 124), .bin .shr (.tmp 123) (.cst (.int .u64 4)), (some (121, true))⟩,
    ⟨(some 125), .bin .add (.cst (.int .i64 4)) (.tmp 124), (some (121, true))⟩,
    ⟨(some 126), .bin .geq (.tmp 122) (.tmp 125), (some (121, true))⟩,
    ⟨(some 127), .pick (.tmp 121) (.tmp 126) (.cst (.bool false)), none⟩,
    ⟨(some 128), .mov (.tmp 127), none⟩,
    ⟨(some 129), .mov (.tmp 8), (some (128, true))⟩,
    ⟨(some 130), .mov (.tmp 9), (some (128, true))⟩,
    ⟨(some 131), .bin .lss (.tmp 129) (.tmp 130), (some (128, true))⟩,
    ⟨(some 132), .pick (.tmp 128) (.tmp 131) (.cst (.bool false)), none⟩] [])
  (.cond (.tmp 132) (.seq (.region false [⟨(some 133), .mov (.tmp 0), none⟩,
    ⟨(some 134), .mov (.tmp 8), none⟩,
    ⟨(some 135), .sstr (.tmp 133) (some (.tmp 134)) none, none⟩,
    ⟨(some 136), .mov (.tmp 1), none⟩,
    ⟨(some 137), .callq 92 [.tmp 135, .tmp 136], none⟩,
    ⟨(some 13), .own 137, none⟩] [])
  (.seq (.seq (.region false [⟨(some 138), .mov (.tmp 13), none⟩,
    ⟨(some 139), .bin .lss (.tmp 138) (.cst (.int .i64 0)), none⟩] [])
  (.cond (.tmp 139) (.seq (.region false [⟨(some 4), .mov (.cst (.int .i64 (-1))), none⟩] [])
  .ret) .skip))
  (.seq (.region false [⟨(some 140), .mov (.tmp 8), none⟩,
    ⟨(some 141), .mov (.tmp 13), none⟩,
    ⟨(some 142), .bin .add (.tmp 140) (.tmp 141), none⟩,
    ⟨(some 4), .own 142, none⟩] [])
  .ret))) .skip)))))))))
/-- internal/stringslite.Index -/
def x71 : XFn := XFn.mk 143 [.tmp 4] (.seq (.region false [⟨(some 4), .mov (.cst (.int .i64 0)), none⟩] [])
  (.seq (.region false [⟨(some 14), .mov (.tmp 1), none⟩,
    ⟨(some 15), .lens true (.tmp 14), none⟩,
    ⟨(some 5), .own 15, none⟩] [])
  (.seq (.block 0 (.seq (.region false [⟨(some 17), .mov (.tmp 5), none⟩,
    ⟨(some 18), .bin .eql (.tmp 17) (.cst (.int .i64 0)), none⟩,
    ⟨(some 19), .mov (.tmp 18), none⟩,
    ⟨(some 20), .mov (.tmp 1), (some (19, false))⟩,
    ⟨(some 21), .mov (.tmp 0), (some (19, false))⟩,
    ⟨(some 22), .bin .eql (.tmp 20) (.tmp 21), (some (19, false))⟩,
    ⟨(some 23), .pick (.tmp 19) (.cst (.bool true)) (.tmp 22), none⟩,
    ⟨(some 16), .own 23, none⟩] [])
  (.cond (.tmp 16) (.seq (.region false [⟨(some 4), .mov (.cst (.int .i64 0)), none⟩] [])
  .ret) (.seq (.region false [⟨(some 25), .mov (.tmp 5), none⟩,
    ⟨(some 26), .bin .eql (.tmp 25) (.cst (.int .i64 1)), none⟩,
    ⟨(some 24), .own 26, none⟩] [])
  (.cond (.tmp 24) (.seq (.region false [⟨(some 27), .mov (.tmp 0), none⟩,
    ⟨(some 28), .mov (.tmp 1), none⟩,
    ⟨(some 29), .idxs (.tmp 28) (.cst (.int .i64 0)), none⟩,
    ⟨(some 30), .callq 89 [.tmp 27, .tmp 29], none⟩,
    ⟨(some 4), .own 30, none⟩] [])
  .ret) (.seq (.region false [⟨(some 32), .mov (.tmp 5), none⟩,
    ⟨(some 33), .mov (.tmp 0), none⟩,
    ⟨(some 34), .lens true (.tmp 33), none⟩,
    ⟨(some 35), .bin .geq (.tmp 32) (.tmp 34), none⟩,
    ⟨(some 31), .own 35, none⟩] [])
  (.cond (.tmp 31) (.seq (.region false [⟨(some 4), .mov (.cst (.int .i64 (-1))), none⟩] [])
  .ret) (.seq (.region false [⟨(some 37), .mov (.tmp 5), none⟩,
    ⟨(some 38), .load (.glob 0) 1 false, none⟩,
    ⟨(some 39), .bin .leq (.tmp 37) (.tmp 38), none⟩,
    ⟨(some 40), .mov (.tmp 39), none⟩,
    ⟨(some 41), .mov (.tmp 0), (some (40, true))⟩,
    ⟨(some 42), .lens true (.tmp 41), (some (40, true))⟩,
    ⟨(some 43), .bin .leq (.tmp 42) (.cst (.int .i64 64)), (some (40, true))⟩,
    ⟨(some 44), .pick (.tmp 40) (.tmp 43) (.cst (.bool false)), none⟩,
    ⟨(some 36), .own 44, none⟩] [])
  (.cond (.tmp 36) (.seq (.region false [⟨(some 45), .mov (.tmp 0), none⟩,
    ⟨(some 46), .mov (.tmp 1), none⟩,
    ⟨(some 47), .prim 99 90 [.tmp 45, .tmp 46], none⟩,
    ⟨(some 4), .own 47, none⟩] [])
  .ret) .skip)))))))))
  (.seq (.region false [⟨(some 48), .mov (.tmp 1), none⟩,
    ⟨(some 49), .idxs (.tmp 48) (.cst (.int .i64 0)), none⟩,
    ⟨(some 6), .own 49, none⟩] [])
  (.seq (.region false [⟨(some 50), .mov (.tmp 1), none⟩,
    ⟨(some 51), .idxs (.tmp 50) (.cst (.int .i64 1)), none⟩,
    ⟨(some 7), .own 51, none⟩] [])
  (.seq (.region false [⟨(some 8), .mov (.cst (.int .i64 0)), none⟩] [])
  (.seq (.region false [⟨(some 52), .mov (.tmp 0), none⟩,
    ⟨(some 53), .lens true (.tmp 52), none⟩,
    ⟨(some 54), .mov (.tmp 5), none⟩,
    ⟨(some 55), .bin .sub (.tmp 53) (.tmp 54), none⟩,
    ⟨(some 56), .bin .add (.tmp 55) (.cst (.int .i64 1)), none⟩,
    ⟨(some 9), .own 56, none⟩] [])
  (.seq (.region false [⟨(some 10), .mov (.cst (.int .i64 0)), none⟩] [])
  (.seq (.block 1 (.loop x71_l0))
  (.seq (.region false [⟨(some 4), .mov (.cst (.int .i64 (-1))), none⟩] [])
  .ret))))))))))
/-- strconv.syntaxError -/
def x72 : XFn := XFn.mk 11 [.tmp 4] (.seq (.region false [⟨(some 4), .mov (.cst .nilptr), none⟩] [])
  (.seq (.region true [⟨(some 5), .mov (.tmp 0), none⟩,
    ⟨(some 6), .mov (.tmp 1), none⟩,
    ⟨(some 7), .prim 4 93 [.tmp 6], none⟩,
    ⟨(some 8), .load (.glob 2) 1 false, none⟩,
    ⟨(some 9), .build [.str [], .str [], .nilif] [(0, 1, .tmp 5), (1, 1, .tmp 7), (2, 1, .tmp 8)], none⟩,
    ⟨(some 10), .box (.tmp 9) 3, none⟩,
    ⟨(some 4), .own 10, none⟩] [])
  .ret))
/-- strconv.rangeError -/
def x73 : XFn := XFn.mk 11 [.tmp 4] (.seq (.region false [⟨(some 4), .mov (.cst .nilptr), none⟩] [])
  (.seq (.region true [⟨(some 5), .mov (.tmp 0), none⟩,
    ⟨(some 6), .mov (.tmp 1), none⟩,
    ⟨(some 7), .prim 4 93 [.tmp 6], none⟩,
    ⟨(some 8), .load (.glob 3) 1 false, none⟩,
    ⟨(some 9), .build [.str [], .str [], .nilif] [(0, 1, .tmp 5), (1, 1, .tmp 7), (2, 1, .tmp 8)], none⟩,
    ⟨(some 10), .box (.tmp 9) 3, none⟩,
    ⟨(some 4), .own 10, none⟩] [])
  .ret))
/-- custos/rat.sum -/
def x76 : XFn := XFn.mk 100 [.cell 6 2 true, .tmp 7] (.seq (.region false [⟨(some 3), .box (.tmp 0) 2, none⟩,
    ⟨(some 4), .box (.tmp 1) 2, none⟩,
    ⟨(some 6), .alloc [.int .i64 0, .int .i64 0], none⟩,
    ⟨(some 7), .mov (.cst (.int .i64 0)), none⟩] [])
  (.seq (.region false [⟨(some 19), .faddr (.tmp 3) 1, none⟩,
    ⟨(some 20), .load (.tmp 19) 1 false, none⟩,
    ⟨(some 21), .conv .u64 (.tmp 20), none⟩,
    ⟨(some 22), .faddr (.tmp 4) 1, none⟩,
    ⟨(some 23), .load (.tmp 22) 1 false, none⟩,
    ⟨(some 24), .conv .u64 (.tmp 23), none⟩,
    ⟨(some 25), .callq 39 [.tmp 21, .tmp 24], none⟩,
    ⟨(some 8), .own 25, none⟩] [])
  (.seq (.region true [⟨(some 26), .faddr (.tmp 3) 0, none⟩,
    ⟨(some 27), .load (.tmp 26) 1 false, none⟩,
    ⟨(some 28), .faddr (.tmp 4) 1, none⟩,
    ⟨(some 29), .load (.tmp 28) 1 false, none⟩,
    ⟨(some 30), .mov (.tmp 8), none⟩,
    ⟨(some 31), .conv .i64 (.tmp 30), none⟩,
    ⟨(some 32), .bin .quo (.tmp 29) (.tmp 31), none⟩,
    ⟨(some 33), .callq 45 [.tmp 27, .tmp 32], none⟩,
    ⟨(some 9), .alloc [.int .u64 0, .int .u64 0, .bool false], none⟩,
    ⟨none, .store (.tmp 9) (.tmp 33) 3, none⟩] [])
  (.seq (.region true [⟨(some 34), .faddr (.tmp 4) 0, none⟩,
    ⟨(some 35), .load (.tmp 34) 1 false, none⟩,
    ⟨(some 36), .faddr (.tmp 3) 1, none⟩,
    ⟨(some 37), .load (.tmp 36) 1 false, none⟩,
    ⟨(some 38), .mov (.tmp 8), none⟩,
    ⟨(some 39), .conv .i64 (.tmp 38), none⟩,
    ⟨(some 40), .bin .quo (.tmp 37) (.tmp 39), none⟩,
    ⟨(some 41), .callq 45 [.tmp 35, .tmp 40], none⟩,
    ⟨(some 10), .alloc [.int .u64 0, .int .u64 0, .bool false], none⟩,
    ⟨none, .store (.tmp 10) (.tmp 41) 3, none⟩] [])
  (.seq (.region false [⟨(some 42), .faddr (.tmp 10) 2, none⟩,
    ⟨(some 43), .load (.tmp 42) 1 false, none⟩,
    ⟨(some 44), .mov (.tmp 2), none⟩,
    ⟨(some 45), .bin .lss (.tmp 44) (.cst (.int .i64 0)), none⟩,
    ⟨(some 46), .beq true (.tmp 43) (.tmp 45), none⟩,
    ⟨(some 47), .faddr (.tmp 10) 2, none⟩,
    ⟨none, .store (.tmp 47) (.tmp 46) 1, none⟩] [])
  (.seq (.region false [⟨(some 48), .load (.tmp 9) 3 true, none⟩,
    ⟨(some 49), .load (.tmp 10) 3 true, none⟩,
    ⟨(some 50), .callq 46 [.tmp 48, .tmp 49], none⟩,
    ⟨(some 11), .alloc [.int .u64 0, .int .u64 0, .bool false], none⟩,
    ⟨none, .store (.tmp 11) (.tmp 50) 3, none⟩] [])
  (.seq (.region true [⟨(some 52), .faddr (.tmp 11) 0, none⟩,
    ⟨(some 53), .load (.tmp 52) 1 false, none⟩,
    ⟨(some 54), .mov (.tmp 8), none⟩,
    ⟨(some 55), .bin .rem (.tmp 53) (.tmp 54), none⟩,
    ⟨(some 56), .faddr (.tmp 11) 1, none⟩,
    ⟨(some 57), .load (.tmp 56) 1 false, none⟩,
    ⟨(some 58), .mov (.tmp 8), none⟩,
    ⟨(some 59), .callq 96 [.tmp 55, .tmp 57, .tmp 58], none⟩,
    ⟨(some 51), .mov (.tmp 59), none⟩,
    ⟨(some 60), .ext 51 0, none⟩,
    ⟨(some 61), .ext 51 1, none⟩,
    ⟨(some 12), .own 60, none⟩,
    ⟨(some 13), .own 61, none⟩] [])
  (.seq (.region false [⟨(some 62), .mov (.tmp 13), none⟩,
    ⟨(some 63), .mov (.tmp 8), none⟩,
    ⟨(some 64), .callq 39 [.tmp 62, .tmp 63], none⟩,
    ⟨(some 14), .own 64, none⟩] [])
  (.seq (.region false [⟨(some 66), .load (.tmp 11) 3 true, none⟩,
    ⟨(some 67), .mov (.tmp 14), none⟩,
    ⟨(some 68), .callq 97 [.tmp 66, .tmp 67], none⟩,
    ⟨(some 65), .mov (.tmp 68), none⟩,
    ⟨(some 69), .ext 65 0, none⟩,
    ⟨(some 70), .ext 65 1, none⟩,
    ⟨(some 15), .own 69, none⟩,
    ⟨(some 16), .own 70, none⟩] [])
  (.seq (.region true [⟨(some 72), .faddr (.tmp 3) 1, none⟩,
    ⟨(some 73), .load (.tmp 72) 1 false, none⟩,
    ⟨(some 74), .conv .u64 (.tmp 73), none⟩,
    ⟨(some 75), .mov (.tmp 8), none⟩,
    ⟨(some 76), .bin .quo (.tmp 74) (.tmp 75), none⟩,
    ⟨(some 77), .faddr (.tmp 4) 1, none⟩,
    ⟨(some 78), .load (.tmp 77) 1 false, none⟩,
    ⟨(some 79), .conv .u64 (.tmp 78), none⟩,
    ⟨(some 80), .mov (.tmp 14), none⟩,
    ⟨(some 81), .bin .quo (.tmp 79) (.tmp 80), none⟩,
    ⟨(some 82), .callq 61 [.tmp 76, .tmp 81], none⟩,
    ⟨(some 71), .mov (.tmp 82), none⟩,
    ⟨(some 83), .ext 71 0, none⟩,
    ⟨(some 84), .ext 71 1, none⟩,
    ⟨(some 17), .own 83, none⟩,
    ⟨(some 18), .own 84, none⟩] [])
  (.seq (.seq (.region false [⟨(some 85), .mov (.tmp 16), none⟩,
    ⟨(some 86), .not (.tmp 85), none⟩,
    ⟨(some 87), .mov (.tmp 86), none⟩,
    ⟨(some 88), .mov (.tmp 17), (some (87, false))⟩,
    ⟨(some 89), .bin .neq (.tmp 88) (.cst (.int .u64 0)), (some (87, false))⟩,
    ⟨(some 90), .pick (.tmp 87) (.cst (.bool true)) (.tmp 89), none⟩,
    ⟨(some 91), .mov (.tmp 90), none⟩,
    ⟨(some 92), .mov (.tmp 18), (some (91, false))⟩,
    ⟨(some 93), .bin .gtr (.tmp 92) (.cst (.int .u64 9223372036854775807)), (some (91, false))⟩,
    ⟨(some 94), .pick (.tmp 91) (.cst (.bool true)) (.tmp 93), none⟩] [])
  (.cond (.tmp 94) (.seq (.region false [⟨(some 95), .build [.int .i64 0, .int .i64 0] [], none⟩,
    ⟨none, .store (.tmp 6) (.tmp 95) 2, none⟩,
    ⟨(some 7), .mov (.cst (.int .i64 10)), none⟩] [])
  .ret) .skip))
  (.seq (.region false [⟨(some 96), .mov (.tmp 15), none⟩,
    ⟨(some 97), .mov (.tmp 18), none⟩,
    ⟨(some 98), .conv .i64 (.tmp 97), none⟩,
    ⟨(some 99), .build [.int .i64 0, .int .i64 0] [(0, 1, .tmp 96), (1, 1, .tmp 98)], none⟩,
    ⟨none, .store (.tmp 6) (.tmp 99) 2, none⟩,
    ⟨(some 7), .mov (.cst (.int .i64 0)), none⟩] [])
  .ret))))))))))))
/-- custos/rat.product -/
def x77 : XFn := XFn.mk 86 [.cell 10 2 true, .tmp 11] (.seq (.region false [⟨(some 10), .alloc [.int .i64 0, .int .i64 0], none⟩,
    ⟨(some 11), .mov (.cst (.int .i64 0)), none⟩] [])
  (.seq (.region false [⟨(some 18), .mov (.tmp 0), none⟩,
    ⟨(some 19), .mov (.tmp 3), none⟩,
    ⟨(some 20), .callq 39 [.tmp 18, .tmp 19], none⟩,
    ⟨(some 21), .mov (.tmp 2), none⟩,
    ⟨(some 22), .mov (.tmp 1), none⟩,
    ⟨(some 23), .callq 39 [.tmp 21, .tmp 22], none⟩,
    ⟨(some 12), .own 20, none⟩,
    ⟨(some 13), .own 23, none⟩] [])
  (.seq (.region true [⟨(some 25), .mov (.tmp 0), none⟩,
    ⟨(some 26), .mov (.tmp 12), none⟩,
    ⟨(some 27), .bin .quo (.tmp 25) (.tmp 26), none⟩,
    ⟨(some 28), .mov (.tmp 2), none⟩,
    ⟨(some 29), .mov (.tmp 13), none⟩,
    ⟨(some 30), .bin .quo (.tmp 28) (.tmp 29), none⟩,
    ⟨(some 31), .callq 61 [.tmp 27, .tmp 30], none⟩,
    ⟨(some 24), .mov (.tmp 31), none⟩,
    ⟨(some 32), .ext 24 0, none⟩,
    ⟨(some 33), .ext 24 1, none⟩,
    ⟨(some 14), .own 32, none⟩,
    ⟨(some 15), .own 33, none⟩] [])
  (.seq (.region true [⟨(some 35), .mov (.tmp 1), none⟩,
    ⟨(some 36), .mov (.tmp 13), none⟩,
    ⟨(some 37), .bin .quo (.tmp 35) (.tmp 36), none⟩,
    ⟨(some 38), .mov (.tmp 3), none⟩,
    ⟨(some 39), .mov (.tmp 12), none⟩,
    ⟨(some 40), .bin .quo (.tmp 38) (.tmp 39), none⟩,
    ⟨(some 41), .callq 61 [.tmp 37, .tmp 40], none⟩,
    ⟨(some 34), .mov (.tmp 41), none⟩,
    ⟨(some 42), .ext 34 0, none⟩,
    ⟨(some 43), .ext 34 1, none⟩,
    ⟨(some 16), .own 42, none⟩,
    ⟨(some 17), .own 43, none⟩] [])
  (.seq (.region false [⟨(some 44), .mov (.tmp 4), none⟩,
    ⟨(some 45), .mov (.tmp 44), none⟩,
    ⟨(some 46), .mov (.tmp 15), (some (45, true))⟩,
    ⟨(some 47), .bin .neq (.tmp 46) (.cst (.int .u64 0)), (some (45, true))⟩,
    ⟨(some 48), .pick (.tmp 45) (.tmp 47) (.cst (.bool false)), none⟩,
    ⟨(some 4), .own 48, none⟩] [])
  (.seq (.seq (.region false [⟨(some 49), .mov (.tmp 14), none⟩,
    ⟨(some 50), .bin .neq (.tmp 49) (.cst (.int .u64 0)), none⟩,
    ⟨(some 51), .mov (.tmp 50), none⟩,
    ⟨(some 52), .mov (.tmp 16), (some (51, false))⟩,
    ⟨(some 53), .bin .neq (.tmp 52) (.cst (.int .u64 0)), (some (51, false))⟩,
    ⟨(some 54), .pick (.tmp 51) (.cst (.bool true)) (.tmp 53), none⟩,
    ⟨(some 55), .mov (.tmp 54), none⟩,
    ⟨(some 56), .mov (.tmp 17), (some (55, false))⟩,
    ⟨(some 57), .bin .gtr (.tmp 56) (.cst (.int .u64 9223372036854775807)), (some (55, false))⟩,
    ⟨(some 58), .pick (.tmp 55) (.cst (.bool true)) (.tmp 57), none⟩,
    ⟨(some 59), .mov (.tmp 58), none⟩,
    ⟨(some 60), .mov (.tmp 15), (some (59, false))⟩,
    ⟨(some 61), .bin .gtr (.tmp 60) (.cst (.int .u64 9223372036854775808)), (some (59, false))⟩,
    ⟨(some 62), .pick (.tmp 59) (.cst (.bool true)) (.tmp 61), none⟩,
    ⟨(some 63), .mov (.tmp 62), none⟩,
    ⟨(some 64), .mov (.tmp 15), (some (63, false))⟩,
    ⟨(some 65), .bin .eql (.tmp 64) (.cst (.int .u64 9223372036854775808)), (some (63, false))⟩,
    ⟨(some 66), .mov (.tmp 65), (some (63, false))⟩,
    ⟨(some 67), .mov (.tmp 4), (some (66, true))⟩,
    ⟨(some 68), .not (.tmp 67), (some (66, true))⟩,
    ⟨(some 69), .pick (.tmp 66) (.tmp 68) (.cst (.bool false)), (some (63, false))⟩,
    ⟨(some 70), .pick (.tmp 63) (.cst (.bool true)) (.tmp 69), none⟩] [])
  (.cond (.tmp 70) (.seq (.region false [⟨(some 71), .build [.int .i64 0, .int .i64 0] [], none⟩,
    ⟨none, .store (.tmp 10) (.tmp 71) 2, none⟩,
    ⟨(some 11), .mov (.cst (.int .i64 10)), none⟩] [])
  .ret) .skip))
  (.seq (.seq (.region false [⟨(some 72), .mov (.tmp 4), none⟩] [])
  (.cond (.tmp 72) (.seq (.region false [⟨(some 73), .mov (.tmp 15), none⟩,
    ⟨(some 74), .bin .sub (.tmp 73) (.cst (.int .u64 1)), none⟩,
    ⟨(some 75), .conv .i64 (.tmp 74), none⟩,
    ⟨(some 76), .neg (.tmp 75), none⟩,
    ⟨(some 77), .bin .sub (.tmp 76) (.cst (.int .i64 1)), none⟩,
    ⟨(some 78), .mov (.tmp 17), none⟩,
    ⟨(some 79), .conv .i64 (.tmp 78), none⟩,
    ⟨(some 80), .build [.int .i64 0, .int .i64 0] [(0, 1, .tmp 77), (1, 1, .tmp 79)], none⟩,
    ⟨none, .store (.tmp 10) (.tmp 80) 2, none⟩,
    ⟨(some 11), .mov (.cst (.int .i64 0)), none⟩] [])
  .ret) .skip))
  (.seq (.region false [⟨(some 81), .mov (.tmp 15), none⟩,
    ⟨(some 82), .conv .i64 (.tmp 81), none⟩,
    ⟨(some 83), .mov (.tmp 17), none⟩,
    ⟨(some 84), .conv .i64 (.tmp 83), none⟩,
    ⟨(some 85), .build [.int .i64 0, .int .i64 0] [(0, 1, .tmp 82), (1, 1, .tmp 84)], none⟩,
    ⟨none, .store (.tmp 10) (.tmp 85) 2, none⟩,
    ⟨(some 11), .mov (.cst (.int .i64 0)), none⟩] [])
  .ret))))))))
def x78_l0 : XCode := .seq (.seq (.region false [⟨(some 9), .load (.tmp 3) 4 true, none⟩,
    ⟨(some 10), .load (.tmp 5) 4 true, none⟩,
    ⟨(some 11), .eqagg true [1, 1, 1, 1] (.tmp 9) (.tmp 10), none⟩] [])
  (.cond (.tmp 11) .skip (.exit 0)))
  (.block 1 (.seq (.region false [⟨(some 13), .load (.tmp 2) 4 true, none⟩,
    ⟨(some 14), .load (.tmp 3) 4 true, none⟩,
    ⟨(some 15), .callq 79 [.tmp 13, .tmp 14], none⟩,
    ⟨(some 12), .mov (.tmp 15), none⟩,
    ⟨(some 16), .ext 12 0, none⟩,
    ⟨(some 17), .ext 12 1, none⟩,
    ⟨(some 6), .alloc [.int .u64 0, .int .u64 0, .int .u64 0, .int .u64 0], none⟩,
    ⟨(some 7), .alloc [.int .u64 0, .int .u64 0, .int .u64 0, .int .u64 0], none⟩,
    ⟨none, .store (.tmp 6) (.tmp 16) 4, none⟩,
    ⟨none, .store (.tmp 7) (.tmp 17) 4, none⟩] [])
  (.seq (.region false [⟨(some 18), .load (.tmp 3) 4 true, none⟩,
    ⟨none, .store (.tmp 2) (.tmp 18) 4, none⟩] [])
  (.region false [⟨(some 19), .load (.tmp 7) 4 true, none⟩,
    ⟨none, .store (.tmp 3) (.tmp 19) 4, none⟩] []))))
/-- custos/custosref01.common -/
def x78 : XFn := XFn.mk 21 [.cell 4 4 true] (.seq (.region false [⟨(some 2), .box (.tmp 0) 4, none⟩,
    ⟨(some 3), .box (.tmp 1) 4, none⟩,
    ⟨(some 4), .alloc [.int .u64 0, .int .u64 0, .int .u64 0, .int .u64 0], none⟩] [])
  (.seq (.region false [⟨(some 8), .build [.int .u64 0, .int .u64 0, .int .u64 0, .int .u64 0] [], none⟩,
    ⟨(some 5), .alloc [.int .u64 0, .int .u64 0, .int .u64 0, .int .u64 0], none⟩,
    ⟨none, .store (.tmp 5) (.tmp 8) 4, none⟩] [])
  (.seq (.block 0 (.loop x78_l0))
  (.seq (.region false [⟨(some 20), .load (.tmp 2) 4 true, none⟩,
    ⟨none, .store (.tmp 4) (.tmp 20) 4, none⟩] [])
  .ret))))
def x79_l0 : XCode := .seq (.seq (.region false [⟨(some 10), .mov (.tmp 8), none⟩,
    ⟨(some 11), .bin .geq (.tmp 10) (.cst (.int .i64 0)), none⟩] [])
  (.cond (.tmp 11) .skip (.exit 0)))
  (.seq (.block 1 (.seq (.region false [⟨(some 14), .load (.tmp 7) 4 true, none⟩,
    ⟨(some 15), .load (.tmp 7) 4 true, none⟩,
    ⟨(some 16), .callq 98 [.tmp 14, .tmp 15], none⟩,
    ⟨none, .store (.tmp 7) (.tmp 16) 4, none⟩] [])
  (.seq (.region true [⟨(some 17), .faddr (.tmp 7) 0, none⟩,
    ⟨(some 18), .iarr 4 1 (.tmp 17) (.cst (.int .i64 0)), none⟩,
    ⟨(some 19), .load (.tmp 18) 1 false, none⟩,
    ⟨(some 20), .mov (.tmp 8), none⟩,
    ⟨(some 21), .bin .quo (.tmp 20) (.cst (.int .i64 32)), none⟩,
    ⟨(some 22), .faddr (.tmp 2) 0, none⟩,
    ⟨(some 23), .iarr 4 1 (.tmp 22) (.tmp 21), none⟩,
    ⟨(some 24), .load (.tmp 23) 1 false, none⟩,
    ⟨(some 25), .mov (.tmp 8), none⟩,
    ⟨(some 26), .bin .rem (.tmp 25) (.cst (.int .i64 32)), none⟩,
    ⟨(some 27), .conv .u64 (.tmp 26), none⟩,
    ⟨(some 28), .bin .shr (.tmp 24) (.tmp 27), none⟩,
    ⟨(some 29), .bin .rem (.tmp 28) (.cst (.int .u64 2)), none⟩,
    ⟨(some 30), .bin .add (.tmp 19) (.tmp 29), none⟩,
    ⟨(some 31), .faddr (.tmp 7) 0, none⟩,
    ⟨(some 32), .iarr 4 1 (.tmp 31) (.cst (.int .i64 0)), none⟩,
    ⟨none, .store (.tmp 32) (.tmp 30) 1, none⟩] [])
  (.seq (.region false [⟨(some 33), .load (.tmp 7) 4 true, none⟩,
    ⟨(some 34), .load (.tmp 3) 4 true, none⟩,
    ⟨(some 35), .callq 80 [.tmp 33, .tmp 34], none⟩,
    ⟨(some 9), .own 35, none⟩] [])
  (.seq (.region false [⟨(some 36), .mov (.tmp 9), none⟩,
    ⟨(some 37), .bin .geq (.tmp 36) (.cst (.int .i64 0)), none⟩] [])
  (.cond (.tmp 37) (.seq (.region false [⟨(some 38), .load (.tmp 7) 4 true, none⟩,
    ⟨(some 39), .load (.tmp 3) 4 true, none⟩,
    ⟨(some 40), .callq 99 [.tmp 38, .tmp 39], none⟩,
    ⟨none, .store (.tmp 7) (.tmp 40) 4, none⟩] [])
  (.region false [⟨(some 41), .mov (.tmp 8), none⟩,
    ⟨(some 42), .bin .quo (.tmp 41) (.cst (.int .i64 32)), none⟩,
    ⟨(some 43), .mov (.tmp 8), none⟩,
    ⟨(some 44), .bin .quo (.tmp 43) (.cst (.int .i64 32)), none⟩,
    ⟨(some 45), .faddr (.tmp 6) 0, none⟩,
    ⟨(some 46), .iarr 4 1 (.tmp 45) (.tmp 44), none⟩,
    ⟨(some 47), .load (.tmp 46) 1 false, none⟩,
    ⟨(some 48), .mov (.tmp 8), none⟩,
    ⟨(some 49), .bin .rem (.tmp 48) (.cst (.int .i64 32)), none⟩,
    ⟨(some 50), .conv .u64 (.tmp 49), none⟩,
    ⟨(some 51), .bin .shl (.cst (.int .u64 1)) (.tmp 50), none⟩,
    ⟨(some 52), .bin .add (.tmp 47) (.tmp 51), none⟩,
    ⟨(some 53), .faddr (.tmp 6) 0, none⟩,
    ⟨(some 54), .iarr 4 1 (.tmp 53) (.tmp 42), none⟩,
    ⟨none, .store (.tmp 54) (.tmp 52) 1, none⟩] [])) .skip))))))
  (.region false [⟨(some 12), .mov (.tmp 8), none⟩,
    ⟨(some 13), .bin .sub (.tmp 12) (.cst (.int .i64 1)), none⟩,
    ⟨(some 8), .own 13, none⟩] []))
/-- custos/custosref01.divided -/
def x79 : XFn := XFn.mk 57 [.cell 4 4 true, .cell 5 4 true] (.seq (.region false [⟨(some 2), .box (.tmp 0) 4, none⟩,
    ⟨(some 3), .box (.tmp 1) 4, none⟩,
    ⟨(some 4), .alloc [.int .u64 0, .int .u64 0, .int .u64 0, .int .u64 0], none⟩,
    ⟨(some 5), .alloc [.int .u64 0, .int .u64 0, .int .u64 0, .int .u64 0], none⟩] [])
  (.seq (.region false [⟨(some 6), .alloc [.int .u64 0, .int .u64 0, .int .u64 0, .int .u64 0], none⟩] [])
  (.seq (.region false [⟨(some 7), .alloc [.int .u64 0, .int .u64 0, .int .u64 0, .int .u64 0], none⟩] [])
  (.seq (.seq (.region false [⟨(some 8), .mov (.cst (.int .i64 127)), none⟩] [])
  (.block 0 (.loop x79_l0)))
  (.seq (.region true [⟨(some 55), .load (.tmp 6) 4 true, none⟩,
    ⟨(some 56), .load (.tmp 7) 4 true, none⟩,
    ⟨none, .store (.tmp 4) (.tmp 55) 4, none⟩,
    ⟨none, .store (.tmp 5) (.tmp 56) 4, none⟩] [(7, 4)])
  .ret)))))
def x80_l0 : XCode := .seq (.seq (.region false [⟨(some 6), .mov (.tmp 5), none⟩,
    ⟨(some 7), .bin .geq (.tmp 6) (.cst (.int .i64 0)), none⟩] [])
  (.cond (.tmp 7) .skip (.exit 0)))
  (.seq (.block 1 (.seq (.seq (.region true [⟨(some 10), .mov (.tmp 5), none⟩,
    ⟨(some 11), .faddr (.tmp 2) 0, none⟩,
    ⟨(some 12), .iarr 4 1 (.tmp 11) (.tmp 10), none⟩,
    ⟨(some 13), .load (.tmp 12) 1 false, none⟩,
    ⟨(some 14), .mov (.tmp 5), none⟩,
    ⟨(some 15), .faddr (.tmp 3) 0, none⟩,
    ⟨(some 16), .iarr 4 1 (.tmp 15) (.tmp 14), none⟩,
    ⟨(some 17), .load (.tmp 16) 1 false, none⟩,
    ⟨(some 18), .bin .lss (.tmp 13) (.tmp 17), none⟩] [])
  (.cond (.tmp 18) (.seq (.region false [⟨(some 4), .mov (.cst (.int .i64 (-1))), none⟩] [])
  .ret) .skip))
  (.seq (.region true [⟨(some 19), .mov (.tmp 5), none⟩,
    ⟨(some 20), .faddr (.tmp 2) 0, none⟩,
    ⟨(some 21), .iarr 4 1 (.tmp 20) (.tmp 19), none⟩,
    ⟨(some 22), .load (.tmp 21) 1 false, none⟩,
    ⟨(some 23), .mov (.tmp 5), none⟩,
    ⟨(some 24), .faddr (.tmp 3) 0, none⟩,
    ⟨(some 25), .iarr 4 1 (.tmp 24) (.tmp 23), none⟩,
    ⟨(some 26), .load (.tmp 25) 1 false, none⟩,
    ⟨(some 27), .bin .gtr (.tmp 22) (.tmp 26), none⟩] [])
  (.cond (.tmp 27) (.seq (.region false [⟨(some 4), .mov (.cst (.int .i64 1)), none⟩] [])
  .ret) .skip))))
  (.region false [⟨(some 8), .mov (.tmp 5), none⟩,
    ⟨(some 9), .bin .sub (.tmp 8) (.cst (.int .i64 1)), none⟩,
    ⟨(some 5), .own 9, none⟩] []))
/-- custos/custosref01.compare -/
def x80 : XFn := XFn.mk 28 [.tmp 4] (.seq (.region false [⟨(some 2), .box (.tmp 0) 4, none⟩,
    ⟨(some 3), .box (.tmp 1) 4, none⟩,
    ⟨(some 4), .mov (.cst (.int .i64 0)), none⟩] [])
  (.seq (.seq (.region false [⟨(some 5), .mov (.cst (.int .i64 3)), none⟩] [])
  (.block 0 (.loop x80_l0)))
  (.seq (.region false [⟨(some 4), .mov (.cst (.int .i64 0)), none⟩] [])
  .ret)))
/-- math/bits.Len64 -/
def x82 : XFn := XFn.mk 25 [.tmp 2] (.seq (.region false [⟨(some 2), .mov (.cst (.int .i64 0)), none⟩] [])
  (.seq (.seq (.region false [⟨(some 3), .mov (.tmp 0), none⟩,
    ⟨(some 4), .bin .geq (.tmp 3) (.cst (.int .u64 4294967296)), none⟩] [])
  (.cond (.tmp 4) (.seq (.region false [⟨(some 5), .mov (.tmp 0), none⟩,
    ⟨(some 6), .bin .shr (.tmp 5) (.cst (.int .u64 32)), none⟩,
    ⟨(some 0), .own 6, none⟩] [])
  (.region false [⟨(some 2), .mov (.cst (.int .i64 32)), none⟩] [])) .skip))
  (.seq (.seq (.region false [⟨(some 7), .mov (.tmp 0), none⟩,
    ⟨(some 8), .bin .geq (.tmp 7) (.cst (.int .u64 65536)), none⟩] [])
  (.cond (.tmp 8) (.seq (.region false [⟨(some 9), .mov (.tmp 0), none⟩,
    ⟨(some 10), .bin .shr (.tmp 9) (.cst (.int .u64 16)), none⟩,
    ⟨(some 0), .own 10, none⟩] [])
  (.region false [⟨(some 11), .mov (.tmp 2), none⟩,
    ⟨(some 12), .bin .add (.tmp 11) (.cst (.int .i64 16)), none⟩,
    ⟨(some 2), .own 12, none⟩] [])) .skip))
  (.seq (.seq (.region false [⟨(some 13), .mov (.tmp 0), none⟩,
    ⟨(some 14), .bin .geq (.tmp 13) (.cst (.int .u64 256)), none⟩] [])
  (.cond (.tmp 14) (.seq (.region false [⟨(some 15), .mov (.tmp 0), none⟩,
    ⟨(some 16), .bin .shr (.tmp 15) (.cst (.int .u64 8)), none⟩,
    ⟨(some 0), .own 16, none⟩] [])
  (.region false [⟨(some 17), .mov (.tmp 2), none⟩,
    ⟨(some 18), .bin .add (.tmp 17) (.cst (.int .i64 8)), none⟩,
    ⟨(some 2), .own 18, none⟩] [])) .skip))
  (.seq (.region false [⟨(some 19), .mov (.tmp 2), none⟩,
    ⟨(some 20), .mov (.tmp 0), none⟩,
    ⟨(some 21), .conv .u8 (.tmp 20), none⟩,
    ⟨(some 22), .idxs (.cst (.str [0, 1, 2, 2, 3, 3, 3, 3, 4, 4, 4, 4, 4, 4, 4, 4, 5, 5, 5, 5, 5, 5, 5, 5, 5, 5, 5, 5, 5, 5, 5, 5, 6, 6, 6, 6, 6, 6, 6, 6, 6, 6, 6, 6, 6, 6, 6, 6, 6, 6, 6, 6, 6, 6, 6, 6, 6, 6, 6, 6, 6, 6, 6, 6, 7, 7, 7, 7, 7, 7, 7, 7, 7, 7, 7, 7, 7, 7, 7, 7, 7, 7, 7, 7, 7, 7, 7, 7, 7, 7, 7, 7, 7, 7, 7, 7, 7, 7, 7, 7, 7, 7, 7, 7, 7, 7, 7, 7, 7, 7, 7, 7, 7, 7, 7, 7, 7, 7, 7, 7, 7, 7, 7, 7, 7, 7, 7, 7, 8, 8, 8, 8, 8, 8, 8, 8, 8, 8, 8, 8, 8, 8, 8, 8, 8, 8, 8, 8, 8, 8, 8, 8, 8, 8, 8, 8, 8, 8, 8, 8, 8, 8, 8, 8, 8, 8, 8, 8, 8, 8, 8, 8, 8, 8, 8, 8, 8, 8, 8, 8, 8, 8, 8, 8, 8, 8, 8, 8, 8, 8, 8, 8, 8, 8, 8, 8, 8, 8, 8, 8, 8, 8, 8, 8, 8, 8, 8, 8, 8, 8, 8, 8, 8, 8, 8, 8, 8, 8, 8, 8, 8, 8, 8, 8, 8, 8, 8, 8, 8, 8, 8, 8, 8, 8, 8, 8, 8, 8, 8, 8, 8, 8, 8, 8, 8, 8, 8, 8, 8, 8, 8, 8, 8, 8, 8, 8])) (.tmp 21), none⟩,
    ⟨(some 23), .conv .i64 (.tmp 22), none⟩,
    ⟨(some 24), .bin .add (.tmp 19) (.tmp 23), none⟩,
    ⟨(some 2), .own 24, none⟩] [])
  .ret)))))
/-- internal/stringslite.HasSuffix -/
def x86 : XFn := XFn.mk 21 [.tmp 4] (.seq (.region false [⟨(some 4), .mov (.cst (.bool false)), none⟩] [])
  (.seq (.region false [⟨(some 5), .mov (.tmp 0), none⟩,
    ⟨(some 6), .lens true (.tmp 5), none⟩,
    ⟨(some 7), .mov (.tmp 1), none⟩,
    ⟨(some 8), .lens true (.tmp 7), none⟩,
    ⟨(some 9), .bin .geq (.tmp 6) (.tmp 8), none⟩,
    ⟨(some 10), .mov (.tmp 9), none⟩,
    ⟨(some 11), .mov (.tmp 0), (some (10, true))⟩,
    ⟨(some 12), .mov (.tmp 0), (some (10, true))⟩,
    ⟨(some 13), .lens true (.tmp 12), (some (10, true))⟩,
    ⟨(some 14), .mov (.tmp 1), (some (10, true))⟩,
    ⟨(some 15), .lens true (.tmp 14), (some (10, true))⟩,
    ⟨(some 16), .bin .sub (.tmp 13) (.tmp 15), (some (10, true))⟩,
    ⟨(some 17), .sstr (.tmp 11) (some (.tmp 16)) none, (some (10, true))⟩,
    ⟨(some 18), .mov (.tmp 1), (some (10, true))⟩,
    ⟨(some 19), .bin .eql (.tmp 17) (.tmp 18), (some (10, true))⟩,
    ⟨(some 20), .pick (.tmp 10) (.tmp 19) (.cst (.bool false)), none⟩,
    ⟨(some 4), .own 20, none⟩] [])
  .ret))
/-- internal/strconv.lower -/
def x87 : XFn := XFn.mk 5 [.tmp 2] (.seq (.region false [⟨(some 2), .mov (.cst (.int .u8 0)), none⟩] [])
  (.seq (.region false [⟨(some 3), .mov (.tmp 0), none⟩,
    ⟨(some 4), .bin .or (.tmp 3) (.cst (.int .u8 32)), none⟩,
    ⟨(some 2), .own 4, none⟩] [])
  .ret))
/-- internal/stringslite.IndexByte -/
def x89 : XFn := XFn.mk 8 [.tmp 4] (.seq (.region false [⟨(some 4), .mov (.cst (.int .i64 0)), none⟩] [])
  (.seq (.region false [⟨(some 5), .mov (.tmp 0), none⟩,
    ⟨(some 6), .mov (.tmp 1), none⟩,
    ⟨(some 7), .prim 2 102 [.tmp 5, .tmp 6], none⟩,
    ⟨(some 4), .own 7, none⟩] [])
  .ret))
/-- internal/bytealg.Cutover -/
def x91 : XFn := XFn.mk 6 [.tmp 2] (.seq (.region false [⟨(some 2), .mov (.cst (.int .i64 0)), none⟩] [])
  (.seq (.region false [⟨(some 3), .mov (.tmp 0), none⟩,
    ⟨(some 4), .bin .add (.tmp 3) (.cst (.int .i64 16)), none⟩,
    ⟨(some 5), .bin .quo (.tmp 4) (.cst (.int .i64 8)), none⟩,
    ⟨(some 2), .own 5, none⟩] [])
  .ret))
def x96_l0 : XCode := .seq (.seq (.region false [⟨(some 67), .mov (.tmp 15), none⟩,
    ⟨(some 68), .bin .geq (.tmp 67) (.cst (.int .u64 4294967296)), none⟩,
    ⟨(some 69), .mov (.tmp 68), none⟩,
    ⟨(some 70), .mov (.tmp 15), (some (69, false))⟩,
    ⟨(some 71), .mov (.tmp 10), (some (69, false))⟩,
    ⟨(some 72), .bin .mul (.tmp 70) (.tmp 71), (some (69, false))⟩,
    ⟨(some 73), .mov (.tmp 16), (some (69, false))⟩,
    ⟨(some 74), .bin .mul (.cst (.int .u64 4294967296)) (.tmp 73), (some (69, false))⟩,
    ⟨(some 75), .mov (.tmp 13), (some (69, false))⟩,
    ⟨(some 76), .bin .add (.tmp 74) (.tmp 75), (some (69, false))⟩,
    ⟨(some 77), .bin .gtr (.tmp 72) (.tmp 76), (some (69, false))⟩,
    ⟨(some 78), .pick (.tmp 69) (.cst (.bool true)) (.tmp 77), none⟩] [])
  (.cond (.tmp 78) .skip (.exit 0)))
  (.block 1 (.seq (.region false [⟨(some 79), .mov (.tmp 15), none⟩,
    ⟨(some 80), .bin .sub (.tmp 79) (.cst (.int .u64 1)), none⟩,
    ⟨(some 15), .own 80, none⟩] [])
  (.seq (.region false [⟨(some 81), .mov (.tmp 16), none⟩,
    ⟨(some 82), .mov (.tmp 9), none⟩,
    ⟨(some 83), .bin .add (.tmp 81) (.tmp 82), none⟩,
    ⟨(some 16), .own 83, none⟩] [])
  (.seq (.region false [⟨(some 84), .mov (.tmp 16), none⟩,
    ⟨(some 85), .bin .geq (.tmp 84) (.cst (.int .u64 4294967296)), none⟩] [])
  (.cond (.tmp 85) (.exit 0) .skip)))))
def x96_l1 : XCode := .seq (.seq (.region false [⟨(some 102), .mov (.tmp 18), none⟩,
    ⟨(some 103), .bin .geq (.tmp 102) (.cst (.int .u64 4294967296)), none⟩,
    ⟨(some 104), .mov (.tmp 103), none⟩,
    ⟨(some 105), .mov (.tmp 18), (some (104, false))⟩,
    ⟨(some 106), .mov (.tmp 10), (some (104, false))⟩,
    ⟨(some 107), .bin .mul (.tmp 105) (.tmp 106), (some (104, false))⟩,
    ⟨(some 108), .mov (.tmp 16), (some (104, false))⟩,
    ⟨(some 109), .bin .mul (.cst (.int .u64 4294967296)) (.tmp 108), (some (104, false))⟩,
    ⟨(some 110), .mov (.tmp 14), (some (104, false))⟩,
    ⟨(some 111), .bin .add (.tmp 109) (.tmp 110), (some (104, false))⟩,
    ⟨(some 112), .bin .gtr (.tmp 107) (.tmp 111), (some (104, false))⟩,
    ⟨(some 113), .pick (.tmp 104) (.cst (.bool true)) (.tmp 112), none⟩] [])
  (.cond (.tmp 113) .skip (.exit 2)))
  (.block 3 (.seq (.region false [⟨(some 114), .mov (.tmp 18), none⟩,
    ⟨(some 115), .bin .sub (.tmp 114) (.cst (.int .u64 1)), none⟩,
    ⟨(some 18), .own 115, none⟩] [])
  (.seq (.region false [⟨(some 116), .mov (.tmp 16), none⟩,
    ⟨(some 117), .mov (.tmp 9), none⟩,
    ⟨(some 118), .bin .add (.tmp 116) (.tmp 117), none⟩,
    ⟨(some 16), .own 118, none⟩] [])
  (.seq (.region false [⟨(some 119), .mov (.tmp 16), none⟩,
    ⟨(some 120), .bin .geq (.tmp 119) (.cst (.int .u64 4294967296)), none⟩] [])
  (.cond (.tmp 120) (.exit 2) .skip)))))
/-- math/bits.Div64 -/
def x96 : XFn := XFn.mk 135 [.tmp 6, .tmp 7] (.seq (.region false [⟨(some 6), .mov (.cst (.int .u64 0)), none⟩,
    ⟨(some 7), .mov (.cst (.int .u64 0)), none⟩] [])
  (.seq (.seq (.region false [⟨(some 19), .mov (.tmp 2), none⟩,
    ⟨(some 20), .bin .eql (.tmp 19) (.cst (.int .u64 0)), none⟩] [])
  (.cond (.tmp 20) (.region false [⟨(some 21), .load (.glob 4) 1 false, none⟩,
    ⟨none, .stop, none⟩] []) .skip))
  (.seq (.seq (.region false [⟨(some 22), .mov (.tmp 2), none⟩,
    ⟨(some 23), .mov (.tmp 0), none⟩,
    ⟨(some 24), .bin .leq (.tmp 22) (.tmp 23), none⟩] [])
  (.cond (.tmp 24) (.region false [⟨(some 25), .load (.glob 5) 1 false, none⟩,
    ⟨none, .stop, none⟩] []) .skip))
  (.seq (.seq (.region false [⟨(some 26), .mov (.tmp 0), none⟩,
    ⟨(some 27), .bin .eql (.tmp 26) (.cst (.int .u64 0)), none⟩] [])
  (.cond (.tmp 27) (.seq (.region true [⟨(some 28), .mov (.tmp 1), none⟩,
    ⟨(some 29), .mov (.tmp 2), none⟩,
    ⟨(some 30), .bin .quo (.tmp 28) (.tmp 29), none⟩,
    ⟨(some 31), .mov (.tmp 1), none⟩,
    ⟨(some 32), .mov (.tmp 2), none⟩,
    ⟨(some 33), .bin .rem (.tmp 31) (.tmp 32), none⟩,
    ⟨(some 6), .own 30, none⟩,
    ⟨(some 7), .own 33, none⟩] [])
  .ret) .skip))
  (.seq (.region false [⟨(some 34), .mov (.tmp 2), none⟩,
    ⟨(some 35), .callq 105 [.tmp 34], none⟩,
    ⟨(some 36), .conv .u64 (.tmp 35), none⟩,
    ⟨(some 8), .own 36, none⟩] [])
  (.seq (.region false [⟨(some 37), .mov (.tmp 2), none⟩,
    ⟨(some 38), .mov (.tmp 8), none⟩,
    ⟨(some 39), .bin .shl (.tmp 37) (.tmp 38), none⟩,
    ⟨(some 2), .own 39, none⟩] [])
  (.seq (.region false [⟨(some 40), .mov (.tmp 2), none⟩,
    ⟨(some 41), .bin .shr (.tmp 40) (.cst (.int .u64 32)), none⟩,
    ⟨(some 9), .own 41, none⟩] [])
  (.seq (.region false [⟨(some 42), .mov (.tmp 2), none⟩,
    ⟨(some 43), .bin .and (.tmp 42) (.cst (.int .u64 4294967295)), none⟩,
    ⟨(some 10), .own 43, none⟩] [])
  (.seq (.region false [⟨(some 44), .mov (.tmp 0), none⟩,
    ⟨(some 45), .mov (.tmp 8), none⟩,
    ⟨(some 46), .bin .shl (.tmp 44) (.tmp 45), none⟩,
    ⟨(some 47), .mov (.tmp 1), none⟩,
    ⟨(some 48), .mov (.tmp 8), none⟩,
    ⟨(some 49), .bin .sub (.cst (.int .u64 64)) (.tmp 48), none⟩,
    ⟨(some 50), .bin .shr (.tmp 47) (.tmp 49), none⟩,
    ⟨(some 51), .bin .or (.tmp 46) (.tmp 50), none⟩,
    ⟨(some 11), .own 51, none⟩] [])
  (.seq (.region false [⟨(some 52), .mov (.tmp 1), none⟩,
    ⟨(some 53), .mov (.tmp 8), none⟩,
    ⟨(some 54), .bin .shl (.tmp 52) (.tmp 53), none⟩,
    ⟨(some 12), .own 54, none⟩] [])
  (.seq (.region false [⟨(some 55), .mov (.tmp 12), none⟩,
    ⟨(some 56), .bin .shr (.tmp 55) (.cst (.int .u64 32)), none⟩,
    ⟨(some 13), .own 56, none⟩] [])
  (.seq (.region false [⟨(some 57), .mov (.tmp 12), none⟩,
    ⟨(some 58), .bin .and (.tmp 57) (.cst (.int .u64 4294967295)), none⟩,
    ⟨(some 14), .own 58, none⟩] [])
  (.seq (.region false [⟨(some 59), .mov (.tmp 11), none⟩,
    ⟨(some 60), .mov (.tmp 9), none⟩,
    ⟨(some 61), .bin .quo (.tmp 59) (.tmp 60), none⟩,
    ⟨(some 15), .own 61, none⟩] [])
  (.seq (.region false [⟨(some 62), .mov (.tmp 11), none⟩,
    ⟨(some 63), .mov (.tmp 15), none⟩,
    ⟨(some 64), .mov (.tmp 9), none⟩,
    ⟨(some 65), .bin .mul (.tmp 63) (.tmp 64), none⟩,
    ⟨(some 66), .bin .sub (.tmp 62) (.tmp 65), none⟩,
    ⟨(some 16), .own 66, none⟩] [])
  (.seq (.block 0 (.loop x96_l0))
  (.seq (.region false [⟨(some 86), .mov (.tmp 11), none⟩,
    ⟨(some 87), .bin .mul (.tmp 86) (.cst (.int .u64 4294967296)), none⟩,
    ⟨(some 88), .mov (.tmp 13), none⟩,
    ⟨(some 89), .bin .add (.tmp 87) (.tmp 88), none⟩,
    ⟨(some 90), .mov (.tmp 15), none⟩,
    ⟨(some 91), .mov (.tmp 2), none⟩,
    ⟨(some 92), .bin .mul (.tmp 90) (.tmp 91), none⟩,
    ⟨(some 93), .bin .sub (.tmp 89) (.tmp 92), none⟩,
    ⟨(some 17), .own 93, none⟩] [])
  (.seq (.region false [⟨(some 94), .mov (.tmp 17), none⟩,
    ⟨(some 95), .mov (.tmp 9), none⟩,
    ⟨(some 96), .bin .quo (.tmp 94) (.tmp 95), none⟩,
    ⟨(some 18), .own 96, none⟩] [])
  (.seq (.region false [⟨(some 97), .mov (.tmp 17), none⟩,
    ⟨(some 98), .mov (.tmp 18), none⟩,
    ⟨(some 99), .mov (.tmp 9), none⟩,
    ⟨(some 100), .bin .mul (.tmp 98) (.tmp 99), none⟩,
    ⟨(some 101), .bin .sub (.tmp 97) (.tmp 100), none⟩,
    ⟨(some 16), .own 101, none⟩] [])
  (.seq (.block 2 (.loop x96_l1))
  (.seq (.region false [⟨(some 121), .mov (.tmp 15), none⟩,
    ⟨(some 122), .bin .mul (.tmp 121) (.cst (.int .u64 4294967296)), none⟩,
    ⟨(some 123), .mov (.tmp 18), none⟩,
    ⟨(some 124), .bin .add (.tmp 122) (.tmp 123), none⟩,
    ⟨(some 125), .mov (.tmp 17), none⟩,
    ⟨(some 126), .bin .mul (.tmp 125) (.cst (.int .u64 4294967296)), none⟩,
    ⟨(some 127), .mov (.tmp 14), none⟩,
    ⟨(some 128), .bin .add (.tmp 126) (.tmp 127), none⟩,
    ⟨(some 129), .mov (.tmp 18), none⟩,
    ⟨(some 130), .mov (.tmp 2), none⟩,
    ⟨(some 131), .bin .mul (.tmp 129) (.tmp 130), none⟩,
    ⟨(some 132), .bin .sub (.tmp 128) (.tmp 131), none⟩,
    ⟨(some 133), .mov (.tmp 8), none⟩,
    ⟨(some 134), .bin .shr (.tmp 132) (.tmp 133), none⟩,
    ⟨(some 6), .own 124, none⟩,
    ⟨(some 7), .own 134, none⟩] [])
  .ret))))))))))))))))))))
/-- (custos/rat.wide).over -/
def x97 : XFn := XFn.mk 45 [.tmp 4, .tmp 5] (.seq (.region false [⟨(some 2), .box (.tmp 0) 3, none⟩,
    ⟨(some 4), .mov (.cst (.int .i64 0)), none⟩,
    ⟨(some 5), .mov (.cst (.bool false)), none⟩] [])
  (.seq (.seq (.region false [⟨(some 8), .faddr (.tmp 2) 0, none⟩,
    ⟨(some 9), .load (.tmp 8) 1 false, none⟩,
    ⟨(some 10), .mov (.tmp 1), none⟩,
    ⟨(some 11), .bin .geq (.tmp 9) (.tmp 10), none⟩] [])
  (.cond (.tmp 11) (.seq (.region false [⟨(some 4), .mov (.cst (.int .i64 0)), none⟩,
    ⟨(some 5), .mov (.cst (.bool false)), none⟩] [])
  .ret) .skip))
  (.seq (.region false [⟨(some 13), .faddr (.tmp 2) 0, none⟩,
    ⟨(some 14), .load (.tmp 13) 1 false, none⟩,
    ⟨(some 15), .faddr (.tmp 2) 1, none⟩,
    ⟨(some 16), .load (.tmp 15) 1 false, none⟩,
    ⟨(some 17), .mov (.tmp 1), none⟩,
    ⟨(some 18), .callq 96 [.tmp 14, .tmp 16, .tmp 17], none⟩,
    ⟨(some 12), .mov (.tmp 18), none⟩,
    ⟨(some 19), .ext 12 0, none⟩,
    ⟨(some 20), .ext 12 1, none⟩,
    ⟨(some 6), .own 19, none⟩,
    ⟨(some 7), .own 20, none⟩] [])
  (.seq (.block 0 (.seq (.region false [⟨(some 22), .faddr (.tmp 2) 2, none⟩,
    ⟨(some 23), .load (.tmp 22) 1 false, none⟩,
    ⟨(some 24), .mov (.tmp 23), none⟩,
    ⟨(some 25), .mov (.tmp 6), (some (24, true))⟩,
    ⟨(some 26), .bin .leq (.tmp 25) (.cst (.int .u64 9223372036854775808)), (some (24, true))⟩,
    ⟨(some 27), .pick (.tmp 24) (.tmp 26) (.cst (.bool false)), none⟩,
    ⟨(some 21), .own 27, none⟩] [])
  (.cond (.tmp 21) (.seq (.region false [⟨(some 28), .mov (.tmp 6), none⟩,
    ⟨(some 29), .bin .sub (.tmp 28) (.cst (.int .u64 1)), none⟩,
    ⟨(some 30), .conv .i64 (.tmp 29), none⟩,
    ⟨(some 31), .neg (.tmp 30), none⟩,
    ⟨(some 32), .bin .sub (.tmp 31) (.cst (.int .i64 1)), none⟩,
    ⟨(some 4), .own 32, none⟩,
    ⟨(some 5), .mov (.cst (.bool true)), none⟩] [])
  .ret) (.seq (.region false [⟨(some 34), .mov (.tmp 6), none⟩,
    ⟨(some 35), .bin .leq (.tmp 34) (.cst (.int .u64 9223372036854775807)), none⟩,
    ⟨(some 33), .own 35, none⟩] [])
  (.cond (.tmp 33) (.seq (.region false [⟨(some 36), .mov (.tmp 6), none⟩,
    ⟨(some 37), .conv .i64 (.tmp 36), none⟩,
    ⟨(some 38), .faddr (.tmp 2) 2, none⟩,
    ⟨(some 39), .load (.tmp 38) 1 false, none⟩,
    ⟨(some 40), .not (.tmp 39), none⟩,
    ⟨(some 41), .mov (.tmp 40), none⟩,
    ⟨(some 42), .mov (.tmp 6), (some (41, false))⟩,
    ⟨(some 43), .bin .eql (.tmp 42) (.cst (.int .u64 0)), (some (41, false))⟩,
    ⟨(some 44), .pick (.tmp 41) (.cst (.bool true)) (.tmp 43), none⟩,
    ⟨(some 4), .own 37, none⟩,
    ⟨(some 5), .own 44, none⟩] [])
  .ret) .skip)))))
  (.seq (.region false [⟨(some 4), .mov (.cst (.int .i64 0)), none⟩,
    ⟨(some 5), .mov (.cst (.bool false)), none⟩] [])
  .ret)))))
def x98_l0 : XCode := .seq (.seq (.region false [⟨(some 9), .mov (.tmp 7), none⟩,
    ⟨(some 10), .bin .lss (.tmp 9) (.cst (.int .i64 4)), none⟩] [])
  (.cond (.tmp 10) .skip (.exit 0)))
  (.seq (.block 1 (.seq (.region true [⟨(some 13), .mov (.tmp 7), none⟩,
    ⟨(some 14), .faddr (.tmp 2) 0, none⟩,
    ⟨(some 15), .iarr 4 1 (.tmp 14) (.tmp 13), none⟩,
    ⟨(some 16), .load (.tmp 15) 1 false, none⟩,
    ⟨(some 17), .mov (.tmp 7), none⟩,
    ⟨(some 18), .faddr (.tmp 3) 0, none⟩,
    ⟨(some 19), .iarr 4 1 (.tmp 18) (.tmp 17), none⟩,
    ⟨(some 20), .load (.tmp 19) 1 false, none⟩,
    ⟨(some 21), .bin .add (.tmp 16) (.tmp 20), none⟩,
    ⟨(some 22), .mov (.tmp 6), none⟩,
    ⟨(some 23), .bin .add (.tmp 21) (.tmp 22), none⟩,
    ⟨(some 8), .own 23, none⟩] [])
  (.seq (.region false [⟨(some 24), .mov (.tmp 7), none⟩,
    ⟨(some 25), .mov (.tmp 8), none⟩,
    ⟨(some 26), .bin .rem (.tmp 25) (.cst (.int .u64 4294967296)), none⟩,
    ⟨(some 27), .faddr (.tmp 5) 0, none⟩,
    ⟨(some 28), .iarr 4 1 (.tmp 27) (.tmp 24), none⟩,
    ⟨none, .store (.tmp 28) (.tmp 26) 1, none⟩] [])
  (.region false [⟨(some 29), .mov (.tmp 8), none⟩,
    ⟨(some 30), .bin .quo (.tmp 29) (.cst (.int .u64 4294967296)), none⟩,
    ⟨(some 6), .own 30, none⟩] []))))
  (.region false [⟨(some 11), .mov (.tmp 7), none⟩,
    ⟨(some 12), .bin .add (.tmp 11) (.cst (.int .i64 1)), none⟩,
    ⟨(some 7), .own 12, none⟩] []))
/-- custos/custosref01.plus -/
def x98 : XFn := XFn.mk 32 [.cell 4 4 true] (.seq (.region false [⟨(some 2), .box (.tmp 0) 4, none⟩,
    ⟨(some 3), .box (.tmp 1) 4, none⟩,
    ⟨(some 4), .alloc [.int .u64 0, .int .u64 0, .int .u64 0, .int .u64 0], none⟩] [])
  (.seq (.region false [⟨(some 5), .alloc [.int .u64 0, .int .u64 0, .int .u64 0, .int .u64 0], none⟩] [])
  (.seq (.region false [⟨(some 6), .mov (.cst (.int .u64 0)), none⟩] [])
  (.seq (.seq (.region false [⟨(some 7), .mov (.cst (.int .i64 0)), none⟩] [])
  (.block 0 (.loop x98_l0)))
  (.seq (.region false [⟨(some 31), .load (.tmp 5) 4 true, none⟩,
    ⟨none, .store (.tmp 4) (.tmp 31) 4, none⟩] [])
  .ret)))))
def x99_l0 : XCode := .seq (.seq (.region false [⟨(some 9), .mov (.tmp 7), none⟩,
    ⟨(some 10), .bin .lss (.tmp 9) (.cst (.int .i64 4)), none⟩] [])
  (.cond (.tmp 10) .skip (.exit 0)))
  (.seq (.block 1 (.seq (.region true [⟨(some 13), .mov (.tmp 7), none⟩,
    ⟨(some 14), .faddr (.tmp 2) 0, none⟩,
    ⟨(some 15), .iarr 4 1 (.tmp 14) (.tmp 13), none⟩,
    ⟨(some 16), .load (.tmp 15) 1 false, none⟩,
    ⟨(some 17), .bin .add (.tmp 16) (.cst (.int .u64 4294967296)), none⟩,
    ⟨(some 18), .mov (.tmp 7), none⟩,
    ⟨(some 19), .faddr (.tmp 3) 0, none⟩,
    ⟨(some 20), .iarr 4 1 (.tmp 19) (.tmp 18), none⟩,
    ⟨(some 21), .load (.tmp 20) 1 false, none⟩,
    ⟨(some 22), .bin .sub (.tmp 17) (.tmp 21), none⟩,
    ⟨(some 23), .mov (.tmp 6), none⟩,
    ⟨(some 24), .bin .sub (.tmp 22) (.tmp 23), none⟩,
    ⟨(some 8), .own 24, none⟩] [])
  (.seq (.region false [⟨(some 25), .mov (.tmp 7), none⟩,
    ⟨(some 26), .mov (.tmp 8), none⟩,
    ⟨(some 27), .bin .rem (.tmp 26) (.cst (.int .u64 4294967296)), none⟩,
    ⟨(some 28), .faddr (.tmp 5) 0, none⟩,
    ⟨(some 29), .iarr 4 1 (.tmp 28) (.tmp 25), none⟩,
    ⟨none, .store (.tmp 29) (.tmp 27) 1, none⟩] [])
  (.region false [⟨(some 30), .mov (.tmp 8), none⟩,
    ⟨(some 31), .bin .quo (.tmp 30) (.cst (.int .u64 4294967296)), none⟩,
    ⟨(some 32), .bin .sub (.cst (.int .u64 1)) (.tmp 31), none⟩,
    ⟨(some 6), .own 32, none⟩] []))))
  (.region false [⟨(some 11), .mov (.tmp 7), none⟩,
    ⟨(some 12), .bin .add (.tmp 11) (.cst (.int .i64 1)), none⟩,
    ⟨(some 7), .own 12, none⟩] []))
/-- custos/custosref01.less -/
def x99 : XFn := XFn.mk 34 [.cell 4 4 true] (.seq (.region false [⟨(some 2), .box (.tmp 0) 4, none⟩,
    ⟨(some 3), .box (.tmp 1) 4, none⟩,
    ⟨(some 4), .alloc [.int .u64 0, .int .u64 0, .int .u64 0, .int .u64 0], none⟩] [])
  (.seq (.region false [⟨(some 5), .alloc [.int .u64 0, .int .u64 0, .int .u64 0, .int .u64 0], none⟩] [])
  (.seq (.region false [⟨(some 6), .mov (.cst (.int .u64 0)), none⟩] [])
  (.seq (.seq (.region false [⟨(some 7), .mov (.cst (.int .i64 0)), none⟩] [])
  (.block 0 (.loop x99_l0)))
  (.seq (.region false [⟨(some 33), .load (.tmp 5) 4 true, none⟩,
    ⟨none, .store (.tmp 4) (.tmp 33) 4, none⟩] [])
  .ret)))))
/-- math/bits.LeadingZeros64 -/
def x105 : XFn := XFn.mk 6 [.tmp 2] (.seq (.region false [⟨(some 2), .mov (.cst (.int .i64 0)), none⟩] [])
  (.seq (.region false [⟨(some 3), .mov (.tmp 0), none⟩,
    ⟨(some 4), .callq 82 [.tmp 3], none⟩,
    ⟨(some 5), .bin .sub (.cst (.int .i64 64)) (.tmp 4), none⟩,
    ⟨(some 2), .own 5, none⟩] [])
  .ret))
def X : List (Option XFn) := [none, none, none, some x3, some x4, some x5, some x6, some x7, some x8, some x9, some x10, some x11, some x12, some x13, some x14, some x15, some x16, some x17, some x18, some x19, some x20, some x21, some x22, some x23, some x24, some x25, some x26, some x27, some x28, some x29, some x30, some x31, none, some x33, some x34, some x35, some x36, none, some x38, some x39, some x40, some x41, some x42, some x43, some x44, some x45, some x46, some x47, none, some x49, some x50, some x51, some x52, none, some x54, some x55, some x56, some x57, some x58, some x59, some x60, some x61, none, none, none, none, none, none, none, some x69, some x70, some x71, some x72, some x73, none, none, some x76, some x77, some x78, some x79, some x80, none, some x82, none, none, none, some x86, some x87, none, some x89, none, some x91, none, none, none, none, some x96, some x97, some x98, some x99, none, none, none, none, none, some x105]
end Go.Proofs.YtgbmobfjanajaaaDoor.Sx.T
