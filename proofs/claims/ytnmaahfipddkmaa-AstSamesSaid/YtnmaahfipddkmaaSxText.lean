/- The functions of this seat in the small language, printed by a program of ours. -/
import Derived.Test.YtnmaahfipddkmaaSxA
set_option linter.unusedVariables false
set_option linter.unusedSimpArgs false
namespace Go.Proofs.Ytnmaahfipddkmaa.Sx.T
open Go Go.Proofs.Ytnmaahfipddkmaa.Sx
set_option maxRecDepth 10000
/-- custos/custoslaw06.AstNumbers -/
def x3 : XFn := XFn.mk 19 [.tmp 0] (.seq (.region false [⟨(some 0), .mov (.cst (.bool false)), none⟩] [])
  (.seq (.region false [⟨(some 1), .mov (.cst (.bool true)), none⟩] [])
  (.seq (.region false [⟨(some 2), .mov (.cst (.bool true)), none⟩] [])
  (.seq (.region false [⟨(some 3), .mov (.cst (.bool true)), none⟩] [])
  (.seq (.region false [⟨(some 4), .mov (.tmp 1), none⟩,
    ⟨(some 5), .mov (.tmp 4), none⟩,
    ⟨(some 6), .mov (.tmp 2), (some (5, true))⟩,
    ⟨(some 7), .pick (.tmp 5) (.tmp 6) (.cst (.bool false)), none⟩,
    ⟨(some 8), .mov (.tmp 7), none⟩,
    ⟨(some 9), .mov (.tmp 3), (some (8, true))⟩,
    ⟨(some 10), .pick (.tmp 8) (.tmp 9) (.cst (.bool false)), none⟩,
    ⟨(some 11), .mov (.tmp 10), none⟩,
    ⟨(some 12), .callq 8 [], (some (11, true))⟩,
    ⟨(some 13), .pick (.tmp 11) (.tmp 12) (.cst (.bool false)), none⟩,
    ⟨(some 14), .mov (.tmp 13), none⟩,
    ⟨(some 15), .build [.int .i64 0, .str [], .int .i64 0, .nilsl, .nilsl, .int .i64 0, .int .i64 0, .bool false, .nilsl, .nilsl] [(0, 1, .cst (.int .i64 23))], (some (14, true))⟩,
    ⟨(some 16), .callq 9 [.tmp 15], (some (14, true))⟩,
    ⟨(some 17), .bin .eql (.tmp 16) (.cst (.int .i64 20)), (some (14, true))⟩,
    ⟨(some 18), .pick (.tmp 14) (.tmp 17) (.cst (.bool false)), none⟩,
    ⟨(some 0), .own 18, none⟩] [])
  .ret)))))
/-- custos/custoslaw06.AstNames -/
def x4 : XFn := XFn.mk 11 [.tmp 2] (.seq (.region false [⟨(some 2), .mov (.cst (.bool false)), none⟩] [])
  (.seq (.region false [⟨(some 3), .callq 8 [], none⟩,
    ⟨(some 4), .mov (.tmp 3), none⟩,
    ⟨(some 5), .mov (.tmp 0), (some (4, true))⟩,
    ⟨(some 6), .callq 10 [.tmp 5], (some (4, true))⟩,
    ⟨(some 7), .mov (.tmp 0), (some (4, true))⟩,
    ⟨(some 8), .callq 11 [.tmp 7], (some (4, true))⟩,
    ⟨(some 9), .beq false (.tmp 6) (.tmp 8), (some (4, true))⟩,
    ⟨(some 10), .pick (.tmp 4) (.tmp 9) (.cst (.bool false)), none⟩,
    ⟨(some 2), .own 10, none⟩] [])
  .ret))
/-- custos/custoslaw06.AstSames -/
def x5 : XFn := XFn.mk 29 [.tmp 4] (.seq (.region false [⟨(some 2), .box (.tmp 0) 10, none⟩,
    ⟨(some 3), .box (.tmp 1) 10, none⟩,
    ⟨(some 4), .mov (.cst (.bool false)), none⟩] [])
  (.seq (.region false [⟨(some 6), .load (.tmp 2) 10 true, none⟩,
    ⟨(some 7), .load (.tmp 3) 10 true, none⟩,
    ⟨(some 8), .callq 12 [.tmp 6, .tmp 7], none⟩,
    ⟨(some 5), .own 8, none⟩] [])
  (.seq (.region false [⟨(some 9), .callq 8 [], none⟩,
    ⟨(some 10), .mov (.tmp 9), none⟩,
    ⟨(some 11), .load (.tmp 2) 10 true, (some (10, true))⟩,
    ⟨(some 12), .load (.tmp 3) 10 true, (some (10, true))⟩,
    ⟨(some 13), .callq 13 [.tmp 11, .tmp 12], (some (10, true))⟩,
    ⟨(some 14), .mov (.tmp 5), (some (10, true))⟩,
    ⟨(some 15), .beq false (.tmp 13) (.tmp 14), (some (10, true))⟩,
    ⟨(some 16), .pick (.tmp 10) (.tmp 15) (.cst (.bool false)), none⟩,
    ⟨(some 17), .mov (.tmp 16), none⟩,
    ⟨(some 18), .load (.tmp 3) 10 true, (some (17, true))⟩,
    ⟨(some 19), .load (.tmp 2) 10 true, (some (17, true))⟩,
    ⟨(some 20), .callq 13 [.tmp 18, .tmp 19], (some (17, true))⟩,
    ⟨(some 21), .mov (.tmp 5), (some (17, true))⟩,
    ⟨(some 22), .beq false (.tmp 20) (.tmp 21), (some (17, true))⟩,
    ⟨(some 23), .pick (.tmp 17) (.tmp 22) (.cst (.bool false)), none⟩,
    ⟨(some 24), .mov (.tmp 23), none⟩,
    ⟨(some 25), .load (.tmp 2) 10 true, (some (24, true))⟩,
    ⟨(some 26), .load (.tmp 2) 10 true, (some (24, true))⟩,
    ⟨(some 27), .callq 13 [.tmp 25, .tmp 26], (some (24, true))⟩,
    ⟨(some 28), .pick (.tmp 24) (.tmp 27) (.cst (.bool false)), none⟩,
    ⟨(some 4), .own 28, none⟩] [])
  .ret)))
/-- custos/custoslaw06.live -/
def x8 : XFn := XFn.mk 94 [.tmp 0] (.seq (.region false [⟨(some 0), .mov (.cst (.bool false)), none⟩] [])
  (.seq (.region false [⟨(some 9), .bslice 1 [.str [], .str []] [(0, 1, .cst (.str [120])), (1, 1, .cst (.str [121]))], none⟩,
    ⟨(some 10), .callq 24 [.tmp 9], none⟩,
    ⟨(some 11), .callq 25 [.cst (.str [120])], none⟩,
    ⟨(some 12), .build [.int .i64 0, .int .i64 0, .int .i64 0, .str []] [(0, 1, .cst (.int .i64 1)), (1, 1, .cst (.int .i64 3))], none⟩,
    ⟨(some 13), .build [.int .i64 0, .str [], .int .i64 0, .int .i64 0, .int .i64 0, .str [], .nilsl] [(0, 1, .cst (.int .i64 2)), (2, 4, .tmp 12)], none⟩,
    ⟨(some 14), .bslice 7 [.int .i64 0, .str [], .int .i64 0, .int .i64 0, .int .i64 0, .str [], .nilsl, .int .i64 0, .str [], .int .i64 0, .int .i64 0, .int .i64 0, .str [], .nilsl] [(0, 7, .tmp 11), (7, 7, .tmp 13)], none⟩,
    ⟨(some 15), .build [.int .i64 0, .str [], .int .i64 0, .nilsl, .nilsl, .int .i64 0, .int .i64 0, .bool false, .nilsl, .nilsl] [(0, 1, .cst (.int .i64 5)), (4, 1, .tmp 14)], none⟩,
    ⟨(some 16), .callq 23 [.tmp 10, .tmp 15], none⟩,
    ⟨(some 1), .alloc [.int .i64 0, .str [], .int .i64 0, .nilsl, .nilsl, .int .i64 0, .int .i64 0, .bool false, .nilsl, .nilsl], none⟩,
    ⟨none, .store (.tmp 1) (.tmp 16) 10, none⟩] [])
  (.seq (.region false [⟨(some 18), .load (.tmp 1) 10 true, none⟩,
    ⟨(some 19), .bslice 1 [.int .i64 0] [(0, 1, .cst (.int .i64 0))], none⟩,
    ⟨(some 20), .callq 21 [.tmp 18, .tmp 19], none⟩,
    ⟨(some 17), .mov (.tmp 20), none⟩,
    ⟨(some 21), .ext 17 0, none⟩,
    ⟨(some 22), .ext 17 1, none⟩,
    ⟨(some 2), .alloc [.int .i64 0, .str [], .int .i64 0, .nilsl, .nilsl, .int .i64 0, .int .i64 0, .bool false, .nilsl, .nilsl], none⟩,
    ⟨none, .store (.tmp 2) (.tmp 21) 10, none⟩,
    ⟨(some 3), .own 22, none⟩] [])
  (.seq (.region false [⟨(some 24), .load (.tmp 1) 10 true, none⟩,
    ⟨(some 25), .bslice 1 [.int .i64 0] [(0, 1, .cst (.int .i64 2))], none⟩,
    ⟨(some 26), .callq 21 [.tmp 24, .tmp 25], none⟩,
    ⟨(some 23), .mov (.tmp 26), none⟩,
    ⟨(some 27), .ext 23 0, none⟩,
    ⟨(some 28), .ext 23 1, none⟩,
    ⟨(some 4), .alloc [.int .i64 0, .str [], .int .i64 0, .nilsl, .nilsl, .int .i64 0, .int .i64 0, .bool false, .nilsl, .nilsl], none⟩,
    ⟨none, .store (.tmp 4) (.tmp 27) 10, none⟩,
    ⟨(some 5), .own 28, none⟩] [])
  (.seq (.region false [⟨(some 29), .load (.tmp 1) 10 true, none⟩,
    ⟨(some 30), .bslice 10 [.int .i64 0, .str [], .int .i64 0, .nilsl, .nilsl, .int .i64 0, .int .i64 0, .bool false, .nilsl, .nilsl] [(0, 10, .tmp 29)], none⟩,
    ⟨(some 31), .build [.int .i64 0, .str [], .int .i64 0, .nilsl, .nilsl, .int .i64 0, .int .i64 0, .bool false, .nilsl, .nilsl] [(0, 1, .cst (.int .i64 8)), (8, 1, .tmp 30)], none⟩,
    ⟨(some 32), .callq 9 [.tmp 31], none⟩,
    ⟨(some 6), .own 32, none⟩] [])
  (.seq (.region false [⟨(some 33), .callq 25 [.cst (.str [98])], none⟩,
    ⟨(some 34), .callq 25 [.cst (.str [97])], none⟩,
    ⟨(some 35), .bslice 7 [.int .i64 0, .str [], .int .i64 0, .int .i64 0, .int .i64 0, .str [], .nilsl, .int .i64 0, .str [], .int .i64 0, .int .i64 0, .int .i64 0, .str [], .nilsl] [(0, 7, .tmp 33), (7, 7, .tmp 34)], none⟩,
    ⟨(some 36), .build [.int .i64 0, .str [], .int .i64 0, .int .i64 0, .int .i64 0, .str [], .nilsl] [(0, 1, .cst (.int .i64 3)), (6, 1, .tmp 35)], none⟩,
    ⟨(some 37), .callq 20 [.tmp 36], none⟩,
    ⟨(some 7), .own 37, none⟩] [])
  (.seq (.region false [⟨(some 38), .load (.tmp 1) 10 true, none⟩,
    ⟨(some 39), .callq 9 [.tmp 38], none⟩,
    ⟨(some 40), .bin .eql (.tmp 39) (.cst (.int .i64 0)), none⟩,
    ⟨(some 41), .mov (.tmp 40), none⟩,
    ⟨(some 42), .mov (.tmp 6), (some (41, true))⟩,
    ⟨(some 43), .bin .eql (.tmp 42) (.cst (.int .i64 1)), (some (41, true))⟩,
    ⟨(some 44), .pick (.tmp 41) (.tmp 43) (.cst (.bool false)), none⟩,
    ⟨(some 45), .mov (.tmp 44), none⟩,
    ⟨(some 46), .mov (.tmp 3), (some (45, true))⟩,
    ⟨(some 47), .bin .eql (.tmp 46) (.cst (.int .i64 0)), (some (45, true))⟩,
    ⟨(some 48), .pick (.tmp 45) (.tmp 47) (.cst (.bool false)), none⟩,
    ⟨(some 49), .mov (.tmp 48), none⟩,
    ⟨(some 50), .mov (.tmp 5), (some (49, true))⟩,
    ⟨(some 51), .bin .eql (.tmp 50) (.cst (.int .i64 5)), (some (49, true))⟩,
    ⟨(some 52), .pick (.tmp 49) (.tmp 51) (.cst (.bool false)), none⟩,
    ⟨(some 53), .mov (.tmp 52), none⟩,
    ⟨(some 54), .mov (.tmp 7), (some (53, true))⟩,
    ⟨(some 55), .bslice 1 [.str [], .str []] [(0, 1, .cst (.str [97])), (1, 1, .cst (.str [98]))], (some (53, true))⟩,
    ⟨(some 56), .callq 15 [.tmp 54, .tmp 55], (some (53, true))⟩,
    ⟨(some 57), .pick (.tmp 53) (.tmp 56) (.cst (.bool false)), none⟩,
    ⟨(some 8), .own 57, none⟩] [])
  (.seq (.region true [⟨(some 58), .mov (.tmp 8), none⟩,
    ⟨(some 59), .mov (.tmp 58), none⟩,
    ⟨(some 60), .load (.tmp 1) 10 true, (some (59, true))⟩,
    ⟨(some 61), .callq 16 [.tmp 60], (some (59, true))⟩,
    ⟨(some 62), .bslice 1 [.str [], .str []] [(0, 1, .cst (.str [120])), (1, 1, .cst (.str [121]))], (some (59, true))⟩,
    ⟨(some 63), .callq 15 [.tmp 61, .tmp 62], (some (59, true))⟩,
    ⟨(some 64), .pick (.tmp 59) (.tmp 63) (.cst (.bool false)), none⟩,
    ⟨(some 65), .mov (.tmp 64), none⟩,
    ⟨(some 66), .load (.tmp 1) 10 true, (some (65, true))⟩,
    ⟨(some 67), .callq 17 [.tmp 66], (some (65, true))⟩,
    ⟨(some 68), .bin .eql (.tmp 67) (.cst (.int .i64 7)), (some (65, true))⟩,
    ⟨(some 69), .pick (.tmp 65) (.tmp 68) (.cst (.bool false)), none⟩,
    ⟨(some 70), .mov (.tmp 69), none⟩,
    ⟨(some 71), .load (.tmp 1) 10 true, (some (70, true))⟩,
    ⟨(some 72), .callq 19 [.tmp 71], (some (70, true))⟩,
    ⟨(some 73), .bin .eql (.tmp 72) (.cst (.int .i64 3)), (some (70, true))⟩,
    ⟨(some 74), .pick (.tmp 70) (.tmp 73) (.cst (.bool false)), none⟩,
    ⟨(some 75), .mov (.tmp 74), none⟩,
    ⟨(some 76), .load (.tmp 2) 10 true, (some (75, true))⟩,
    ⟨(some 77), .bslice 1 [.str [], .str []] [(0, 1, .cst (.str [120])), (1, 1, .cst (.str [121]))], (some (75, true))⟩,
    ⟨(some 78), .callq 24 [.tmp 77], (some (75, true))⟩,
    ⟨(some 79), .callq 13 [.tmp 76, .tmp 78], (some (75, true))⟩,
    ⟨(some 80), .pick (.tmp 75) (.tmp 79) (.cst (.bool false)), none⟩,
    ⟨(some 81), .mov (.tmp 80), none⟩,
    ⟨(some 82), .callq 10 [.cst (.str [97, 95, 57])], (some (81, true))⟩,
    ⟨(some 83), .pick (.tmp 81) (.tmp 82) (.cst (.bool false)), none⟩,
    ⟨(some 84), .mov (.tmp 83), none⟩,
    ⟨(some 85), .callq 10 [.cst (.str [97, 110, 100])], (some (84, true))⟩,
    ⟨(some 86), .not (.tmp 85), (some (84, true))⟩,
    ⟨(some 87), .pick (.tmp 84) (.tmp 86) (.cst (.bool false)), none⟩,
    ⟨(some 88), .mov (.tmp 87), none⟩,
    ⟨(some 89), .load (.tmp 1) 10 true, (some (88, true))⟩,
    ⟨(some 90), .callq 14 [.tmp 89], (some (88, true))⟩,
    ⟨(some 91), .load (.tmp 1) 10 true, (some (88, true))⟩,
    ⟨(some 92), .callq 13 [.tmp 90, .tmp 91], (some (88, true))⟩,
    ⟨(some 93), .pick (.tmp 88) (.tmp 92) (.cst (.bool false)), none⟩,
    ⟨(some 0), .own 93, none⟩] [])
  .ret))))))))
/-- custos/ast.Check -/
def x9 : XFn := XFn.mk 8 [.tmp 2] (.seq (.region false [⟨(some 1), .box (.tmp 0) 10, none⟩,
    ⟨(some 2), .mov (.cst (.int .i64 0)), none⟩] [])
  (.seq (.region false [⟨(some 3), .load (.tmp 1) 10 true, none⟩,
    ⟨(some 4), .callq 26 [.tmp 3], none⟩,
    ⟨(some 5), .nilck (.tmp 4), none⟩,
    ⟨(some 6), .faddr (.tmp 5) 2, none⟩,
    ⟨(some 7), .load (.tmp 6) 1 false, none⟩,
    ⟨(some 2), .own 7, none⟩] [])
  .ret))
def x10_l0 : XCode := .seq (.region false [⟨(some 19), .nexts (.tmp 18), none⟩,
    ⟨(some 20), .ext 19 0, none⟩] [])
  (.seq (.cond (.tmp 20) .skip (.exit 0))
  (.block 1 (.seq (.region false [⟨(some 21), .ext 19 1, none⟩,
    ⟨(some 22), .ext 19 2, none⟩,
    ⟨(some 3), .own 21, none⟩,
    ⟨(some 4), .own 22, none⟩] [])
  (.seq (.region false [⟨(some 23), .mov (.tmp 4), none⟩,
    ⟨(some 24), .bin .geq (.tmp 23) (.cst (.int .i32 97)), none⟩,
    ⟨(some 25), .mov (.tmp 24), none⟩,
    ⟨(some 26), .mov (.tmp 4), (some (25, true))⟩,
    ⟨(some 27), .bin .leq (.tmp 26) (.cst (.int .i32 122)), (some (25, true))⟩,
    ⟨(some 28), .pick (.tmp 25) (.tmp 27) (.cst (.bool false)), none⟩,
    ⟨(some 5), .own 28, none⟩] [])
  (.seq (.region false [⟨(some 29), .mov (.tmp 5), none⟩,
    ⟨(some 30), .not (.tmp 29), none⟩,
    ⟨(some 31), .mov (.tmp 30), none⟩,
    ⟨(some 32), .mov (.tmp 3), (some (31, true))⟩,
    ⟨(some 33), .bin .eql (.tmp 32) (.cst (.int .i64 0)), (some (31, true))⟩,
    ⟨(some 34), .mov (.tmp 33), (some (31, true))⟩,
    ⟨(some 35), .mov (.tmp 4), (some (34, false))⟩,
    ⟨(some 36), .bin .neq (.tmp 35) (.cst (.int .i32 95)), (some (34, false))⟩,
    ⟨(some 37), .mov (.tmp 36), (some (34, false))⟩,
    ⟨(some 38), .mov (.tmp 4), (some (37, true))⟩,
    ⟨(some 39), .bin .lss (.tmp 38) (.cst (.int .i32 48)), (some (37, true))⟩,
    ⟨(some 40), .mov (.tmp 39), (some (37, true))⟩,
    ⟨(some 41), .mov (.tmp 4), (some (40, false))⟩,
    ⟨(some 42), .bin .gtr (.tmp 41) (.cst (.int .i32 57)), (some (40, false))⟩,
    ⟨(some 43), .pick (.tmp 40) (.cst (.bool true)) (.tmp 42), (some (37, true))⟩,
    ⟨(some 44), .pick (.tmp 37) (.tmp 43) (.cst (.bool false)), (some (34, false))⟩,
    ⟨(some 45), .pick (.tmp 34) (.cst (.bool true)) (.tmp 44), (some (31, true))⟩,
    ⟨(some 46), .pick (.tmp 31) (.tmp 45) (.cst (.bool false)), none⟩] [])
  (.cond (.tmp 46) (.seq (.region false [⟨(some 2), .mov (.cst (.bool false)), none⟩] [])
  .ret) .skip))))))
/-- custos/ast.Name -/
def x10 : XFn := XFn.mk 47 [.tmp 2] (.seq (.region false [⟨(some 2), .mov (.cst (.bool false)), none⟩] [])
  (.seq (.seq (.region false [⟨(some 6), .mov (.tmp 0), none⟩,
    ⟨(some 7), .bin .eql (.tmp 6) (.cst (.str [])), none⟩,
    ⟨(some 8), .mov (.tmp 7), none⟩,
    ⟨(some 9), .mov (.tmp 0), (some (8, false))⟩,
    ⟨(some 10), .lens true (.tmp 9), (some (8, false))⟩,
    ⟨(some 11), .bin .gtr (.tmp 10) (.cst (.int .i64 16)), (some (8, false))⟩,
    ⟨(some 12), .pick (.tmp 8) (.cst (.bool true)) (.tmp 11), none⟩,
    ⟨(some 13), .mov (.tmp 12), none⟩,
    ⟨(some 14), .mov (.tmp 0), (some (13, false))⟩,
    ⟨(some 15), .callq 27 [.tmp 14], (some (13, false))⟩,
    ⟨(some 16), .pick (.tmp 13) (.cst (.bool true)) (.tmp 15), none⟩] [])
  (.cond (.tmp 16) (.seq (.region false [⟨(some 2), .mov (.cst (.bool false)), none⟩] [])
  .ret) .skip))
  (.seq (.seq (.region false [⟨(some 17), .mov (.tmp 0), none⟩,
    ⟨(some 18), .rngs (.tmp 17), none⟩] [])
  (.block 0 (.loop x10_l0)))
  (.seq (.region false [⟨(some 2), .mov (.cst (.bool true)), none⟩] [])
  .ret))))
def x11_l0 : XCode := .seq (.seq (.region false [⟨(some 25), .mov (.tmp 3), none⟩,
    ⟨(some 26), .mov (.tmp 0), none⟩,
    ⟨(some 27), .lens true (.tmp 26), none⟩,
    ⟨(some 28), .bin .lss (.tmp 25) (.tmp 27), none⟩] [])
  (.cond (.tmp 28) .skip (.exit 0)))
  (.seq (.block 1 (.seq (.region false [⟨(some 31), .mov (.tmp 0), none⟩,
    ⟨(some 32), .mov (.tmp 3), none⟩,
    ⟨(some 33), .idxs (.tmp 31) (.tmp 32), none⟩,
    ⟨(some 4), .own 33, none⟩] [])
  (.seq (.region false [⟨(some 34), .mov (.tmp 4), none⟩,
    ⟨(some 35), .bin .lss (.tmp 34) (.cst (.int .u8 97)), none⟩,
    ⟨(some 36), .mov (.tmp 35), none⟩,
    ⟨(some 37), .mov (.tmp 4), (some (36, false))⟩,
    ⟨(some 38), .bin .gtr (.tmp 37) (.cst (.int .u8 122)), (some (36, false))⟩,
    ⟨(some 39), .pick (.tmp 36) (.cst (.bool true)) (.tmp 38), none⟩,
    ⟨(some 40), .mov (.tmp 39), none⟩,
    ⟨(some 41), .mov (.tmp 4), (some (40, true))⟩,
    ⟨(some 42), .bin .lss (.tmp 41) (.cst (.int .u8 48)), (some (40, true))⟩,
    ⟨(some 43), .mov (.tmp 42), (some (40, true))⟩,
    ⟨(some 44), .mov (.tmp 4), (some (43, false))⟩,
    ⟨(some 45), .bin .gtr (.tmp 44) (.cst (.int .u8 57)), (some (43, false))⟩,
    ⟨(some 46), .pick (.tmp 43) (.cst (.bool true)) (.tmp 45), (some (40, true))⟩,
    ⟨(some 47), .pick (.tmp 40) (.tmp 46) (.cst (.bool false)), none⟩,
    ⟨(some 48), .mov (.tmp 47), none⟩,
    ⟨(some 49), .mov (.tmp 4), (some (48, true))⟩,
    ⟨(some 50), .bin .neq (.tmp 49) (.cst (.int .u8 95)), (some (48, true))⟩,
    ⟨(some 51), .pick (.tmp 48) (.tmp 50) (.cst (.bool false)), none⟩] [])
  (.cond (.tmp 51) (.seq (.region false [⟨(some 2), .mov (.cst (.bool false)), none⟩] [])
  .ret) .skip))))
  (.region false [⟨(some 29), .mov (.tmp 3), none⟩,
    ⟨(some 30), .bin .add (.tmp 29) (.cst (.int .i64 1)), none⟩,
    ⟨(some 3), .own 30, none⟩] []))
/-- custos/custosref06.Name -/
def x11 : XFn := XFn.mk 58 [.tmp 2] (.seq (.region false [⟨(some 2), .mov (.cst (.bool false)), none⟩] [])
  (.seq (.seq (.region false [⟨(some 7), .mov (.tmp 0), none⟩,
    ⟨(some 8), .lens true (.tmp 7), none⟩,
    ⟨(some 9), .bin .lss (.tmp 8) (.cst (.int .i64 1)), none⟩,
    ⟨(some 10), .mov (.tmp 9), none⟩,
    ⟨(some 11), .mov (.tmp 0), (some (10, false))⟩,
    ⟨(some 12), .lens true (.tmp 11), (some (10, false))⟩,
    ⟨(some 13), .bin .gtr (.tmp 12) (.cst (.int .i64 16)), (some (10, false))⟩,
    ⟨(some 14), .pick (.tmp 10) (.cst (.bool true)) (.tmp 13), none⟩,
    ⟨(some 15), .mov (.tmp 14), none⟩,
    ⟨(some 16), .mov (.tmp 0), (some (15, false))⟩,
    ⟨(some 17), .idxs (.tmp 16) (.cst (.int .i64 0)), (some (15, false))⟩,
    ⟨(some 18), .bin .lss (.tmp 17) (.cst (.int .u8 97)), (some (15, false))⟩,
    ⟨(some 19), .pick (.tmp 15) (.cst (.bool true)) (.tmp 18), none⟩,
    ⟨(some 20), .mov (.tmp 19), none⟩,
    ⟨(some 21), .mov (.tmp 0), (some (20, false))⟩,
    ⟨(some 22), .idxs (.tmp 21) (.cst (.int .i64 0)), (some (20, false))⟩,
    ⟨(some 23), .bin .gtr (.tmp 22) (.cst (.int .u8 122)), (some (20, false))⟩,
    ⟨(some 24), .pick (.tmp 20) (.cst (.bool true)) (.tmp 23), none⟩] [])
  (.cond (.tmp 24) (.seq (.region false [⟨(some 2), .mov (.cst (.bool false)), none⟩] [])
  .ret) .skip))
  (.seq (.seq (.region false [⟨(some 3), .mov (.cst (.int .i64 0)), none⟩] [])
  (.block 0 (.loop x11_l0)))
  (.seq (.region false [⟨(some 52), .callq 28 [], none⟩,
    ⟨(some 5), .own 52, none⟩] [])
  (.seq (.region false [⟨(some 53), .mov (.tmp 5), none⟩,
    ⟨(some 54), .mov (.tmp 0), none⟩,
    ⟨(some 55), .callq 22 [.tmp 53, .tmp 54], none⟩,
    ⟨(some 6), .own 55, none⟩] [])
  (.seq (.region false [⟨(some 56), .mov (.tmp 6), none⟩,
    ⟨(some 57), .not (.tmp 56), none⟩,
    ⟨(some 2), .own 57, none⟩] [])
  .ret))))))
/-- custos/custosref06.Same -/
def x12 : XFn := XFn.mk 63 [.tmp 4] (.seq (.region false [⟨(some 2), .box (.tmp 0) 10, none⟩,
    ⟨(some 3), .box (.tmp 1) 10, none⟩,
    ⟨(some 4), .mov (.cst (.bool false)), none⟩] [])
  (.seq (.seq (.region false [⟨(some 8), .faddr (.tmp 2) 0, none⟩,
    ⟨(some 9), .load (.tmp 8) 1 false, none⟩,
    ⟨(some 10), .faddr (.tmp 3) 0, none⟩,
    ⟨(some 11), .load (.tmp 10) 1 false, none⟩,
    ⟨(some 12), .bin .neq (.tmp 9) (.tmp 11), none⟩,
    ⟨(some 13), .mov (.tmp 12), none⟩,
    ⟨(some 14), .faddr (.tmp 2) 1, (some (13, false))⟩,
    ⟨(some 15), .load (.tmp 14) 1 false, (some (13, false))⟩,
    ⟨(some 16), .faddr (.tmp 3) 1, (some (13, false))⟩,
    ⟨(some 17), .load (.tmp 16) 1 false, (some (13, false))⟩,
    ⟨(some 18), .bin .neq (.tmp 15) (.tmp 17), (some (13, false))⟩,
    ⟨(some 19), .pick (.tmp 13) (.cst (.bool true)) (.tmp 18), none⟩,
    ⟨(some 20), .mov (.tmp 19), none⟩,
    ⟨(some 21), .faddr (.tmp 2) 2, (some (20, false))⟩,
    ⟨(some 22), .load (.tmp 21) 1 false, (some (20, false))⟩,
    ⟨(some 23), .faddr (.tmp 3) 2, (some (20, false))⟩,
    ⟨(some 24), .load (.tmp 23) 1 false, (some (20, false))⟩,
    ⟨(some 25), .bin .neq (.tmp 22) (.tmp 24), (some (20, false))⟩,
    ⟨(some 26), .pick (.tmp 20) (.cst (.bool true)) (.tmp 25), none⟩,
    ⟨(some 27), .mov (.tmp 26), none⟩,
    ⟨(some 28), .faddr (.tmp 2) 5, (some (27, false))⟩,
    ⟨(some 29), .load (.tmp 28) 3 true, (some (27, false))⟩,
    ⟨(some 30), .faddr (.tmp 3) 5, (some (27, false))⟩,
    ⟨(some 31), .load (.tmp 30) 3 true, (some (27, false))⟩,
    ⟨(some 32), .eqagg true [1, 1, 0] (.tmp 29) (.tmp 31), (some (27, false))⟩,
    ⟨(some 33), .pick (.tmp 27) (.cst (.bool true)) (.tmp 32), none⟩] [])
  (.cond (.tmp 33) (.seq (.region false [⟨(some 4), .mov (.cst (.bool false)), none⟩] [])
  .ret) .skip))
  (.seq (.region false [⟨(some 34), .faddr (.tmp 2) 3, none⟩,
    ⟨(some 35), .load (.tmp 34) 1 false, none⟩,
    ⟨(some 36), .faddr (.tmp 3) 3, none⟩,
    ⟨(some 37), .load (.tmp 36) 1 false, none⟩,
    ⟨(some 38), .callq 29 [.tmp 35, .tmp 37], none⟩,
    ⟨(some 5), .own 38, none⟩] [])
  (.seq (.region false [⟨(some 39), .faddr (.tmp 2) 4, none⟩,
    ⟨(some 40), .load (.tmp 39) 1 false, none⟩,
    ⟨(some 41), .faddr (.tmp 3) 4, none⟩,
    ⟨(some 42), .load (.tmp 41) 1 false, none⟩,
    ⟨(some 43), .callq 30 [.tmp 40, .tmp 42], none⟩,
    ⟨(some 6), .own 43, none⟩] [])
  (.seq (.region false [⟨(some 44), .faddr (.tmp 2) 9, none⟩,
    ⟨(some 45), .load (.tmp 44) 1 false, none⟩,
    ⟨(some 46), .faddr (.tmp 3) 9, none⟩,
    ⟨(some 47), .load (.tmp 46) 1 false, none⟩,
    ⟨(some 48), .callq 31 [.tmp 45, .tmp 47], none⟩,
    ⟨(some 7), .own 48, none⟩] [])
  (.seq (.region false [⟨(some 49), .mov (.tmp 5), none⟩,
    ⟨(some 50), .mov (.tmp 49), none⟩,
    ⟨(some 51), .mov (.tmp 6), (some (50, true))⟩,
    ⟨(some 52), .pick (.tmp 50) (.tmp 51) (.cst (.bool false)), none⟩,
    ⟨(some 53), .mov (.tmp 52), none⟩,
    ⟨(some 54), .mov (.tmp 7), (some (53, true))⟩,
    ⟨(some 55), .pick (.tmp 53) (.tmp 54) (.cst (.bool false)), none⟩,
    ⟨(some 56), .mov (.tmp 55), none⟩,
    ⟨(some 57), .faddr (.tmp 2) 8, (some (56, true))⟩,
    ⟨(some 58), .load (.tmp 57) 1 false, (some (56, true))⟩,
    ⟨(some 59), .faddr (.tmp 3) 8, (some (56, true))⟩,
    ⟨(some 60), .load (.tmp 59) 1 false, (some (56, true))⟩,
    ⟨(some 61), .callq 32 [.tmp 58, .tmp 60], (some (56, true))⟩,
    ⟨(some 62), .pick (.tmp 56) (.tmp 61) (.cst (.bool false)), none⟩,
    ⟨(some 4), .own 62, none⟩] [])
  .ret))))))
/-- custos/ast.Same -/
def x13 : XFn := XFn.mk 59 [.tmp 4] (.seq (.region false [⟨(some 2), .box (.tmp 0) 10, none⟩,
    ⟨(some 3), .box (.tmp 1) 10, none⟩,
    ⟨(some 4), .mov (.cst (.bool false)), none⟩] [])
  (.seq (.region false [⟨(some 5), .faddr (.tmp 2) 0, none⟩,
    ⟨(some 6), .load (.tmp 5) 1 false, none⟩,
    ⟨(some 7), .faddr (.tmp 3) 0, none⟩,
    ⟨(some 8), .load (.tmp 7) 1 false, none⟩,
    ⟨(some 9), .bin .eql (.tmp 6) (.tmp 8), none⟩,
    ⟨(some 10), .mov (.tmp 9), none⟩,
    ⟨(some 11), .faddr (.tmp 2) 1, (some (10, true))⟩,
    ⟨(some 12), .load (.tmp 11) 1 false, (some (10, true))⟩,
    ⟨(some 13), .faddr (.tmp 3) 1, (some (10, true))⟩,
    ⟨(some 14), .load (.tmp 13) 1 false, (some (10, true))⟩,
    ⟨(some 15), .bin .eql (.tmp 12) (.tmp 14), (some (10, true))⟩,
    ⟨(some 16), .pick (.tmp 10) (.tmp 15) (.cst (.bool false)), none⟩,
    ⟨(some 17), .mov (.tmp 16), none⟩,
    ⟨(some 18), .faddr (.tmp 2) 2, (some (17, true))⟩,
    ⟨(some 19), .load (.tmp 18) 1 false, (some (17, true))⟩,
    ⟨(some 20), .faddr (.tmp 3) 2, (some (17, true))⟩,
    ⟨(some 21), .load (.tmp 20) 1 false, (some (17, true))⟩,
    ⟨(some 22), .bin .eql (.tmp 19) (.tmp 21), (some (17, true))⟩,
    ⟨(some 23), .pick (.tmp 17) (.tmp 22) (.cst (.bool false)), none⟩,
    ⟨(some 24), .mov (.tmp 23), none⟩,
    ⟨(some 25), .faddr (.tmp 2) 5, (some (24, true))⟩,
    ⟨(some 26), .load (.tmp 25) 3 true, (some (24, true))⟩,
    ⟨(some 27), .faddr (.tmp 3) 5, (some (24, true))⟩,
    ⟨(some 28), .load (.tmp 27) 3 true, (some (24, true))⟩,
    ⟨(some 29), .eqagg false [1, 1, 0] (.tmp 26) (.tmp 28), (some (24, true))⟩,
    ⟨(some 30), .pick (.tmp 24) (.tmp 29) (.cst (.bool false)), none⟩,
    ⟨(some 31), .mov (.tmp 30), none⟩,
    ⟨(some 32), .faddr (.tmp 2) 3, (some (31, true))⟩,
    ⟨(some 33), .load (.tmp 32) 1 false, (some (31, true))⟩,
    ⟨(some 34), .faddr (.tmp 3) 3, (some (31, true))⟩,
    ⟨(some 35), .load (.tmp 34) 1 false, (some (31, true))⟩,
    ⟨(some 36), .callq 33 [.tmp 33, .tmp 35], (some (31, true))⟩,
    ⟨(some 37), .pick (.tmp 31) (.tmp 36) (.cst (.bool false)), none⟩,
    ⟨(some 38), .mov (.tmp 37), none⟩,
    ⟨(some 39), .faddr (.tmp 2) 4, (some (38, true))⟩,
    ⟨(some 40), .load (.tmp 39) 1 false, (some (38, true))⟩,
    ⟨(some 41), .faddr (.tmp 3) 4, (some (38, true))⟩,
    ⟨(some 42), .load (.tmp 41) 1 false, (some (38, true))⟩,
    ⟨(some 43), .callw 34 [.tmp 40, .tmp 42, .cst (.fn 35 [] [])], (some (38, true))⟩,
    ⟨(some 44), .pick (.tmp 38) (.tmp 43) (.cst (.bool false)), none⟩,
    ⟨(some 45), .mov (.tmp 44), none⟩,
    ⟨(some 46), .faddr (.tmp 2) 9, (some (45, true))⟩,
    ⟨(some 47), .load (.tmp 46) 1 false, (some (45, true))⟩,
    ⟨(some 48), .faddr (.tmp 3) 9, (some (45, true))⟩,
    ⟨(some 49), .load (.tmp 48) 1 false, (some (45, true))⟩,
    ⟨(some 50), .callw 36 [.tmp 47, .tmp 49, .cst (.fn 37 [] [])], (some (45, true))⟩,
    ⟨(some 51), .pick (.tmp 45) (.tmp 50) (.cst (.bool false)), none⟩,
    ⟨(some 52), .mov (.tmp 51), none⟩,
    ⟨(some 53), .faddr (.tmp 2) 8, (some (52, true))⟩,
    ⟨(some 54), .load (.tmp 53) 1 false, (some (52, true))⟩,
    ⟨(some 55), .faddr (.tmp 3) 8, (some (52, true))⟩,
    ⟨(some 56), .load (.tmp 55) 1 false, (some (52, true))⟩,
    ⟨(some 57), .callw 38 [.tmp 54, .tmp 56, .cst (.fn 13 [] [])], (some (52, true))⟩,
    ⟨(some 58), .pick (.tmp 52) (.tmp 57) (.cst (.bool false)), none⟩,
    ⟨(some 4), .own 58, none⟩] [])
  .ret))
/-- custos/ast.Clone -/
def x14 : XFn := XFn.mk 20 [.cell 2 10 true] (.seq (.region false [⟨(some 1), .box (.tmp 0) 10, none⟩,
    ⟨(some 2), .alloc [.int .i64 0, .str [], .int .i64 0, .nilsl, .nilsl, .int .i64 0, .int .i64 0, .bool false, .nilsl, .nilsl], none⟩] [])
  (.seq (.region false [⟨(some 3), .faddr (.tmp 1) 3, none⟩,
    ⟨(some 4), .load (.tmp 3) 1 false, none⟩,
    ⟨(some 5), .callq 39 [.tmp 4], none⟩,
    ⟨(some 6), .faddr (.tmp 1) 3, none⟩,
    ⟨none, .store (.tmp 6) (.tmp 5) 1, none⟩] [])
  (.seq (.region false [⟨(some 7), .faddr (.tmp 1) 4, none⟩,
    ⟨(some 8), .load (.tmp 7) 1 false, none⟩,
    ⟨(some 9), .callw 40 [.tmp 8, .cst (.fn 41 [] [])], none⟩,
    ⟨(some 10), .faddr (.tmp 1) 4, none⟩,
    ⟨none, .store (.tmp 10) (.tmp 9) 1, none⟩] [])
  (.seq (.region false [⟨(some 11), .faddr (.tmp 1) 9, none⟩,
    ⟨(some 12), .load (.tmp 11) 1 false, none⟩,
    ⟨(some 13), .callw 42 [.tmp 12, .cst (.fn 43 [] [])], none⟩,
    ⟨(some 14), .faddr (.tmp 1) 9, none⟩,
    ⟨none, .store (.tmp 14) (.tmp 13) 1, none⟩] [])
  (.seq (.region false [⟨(some 15), .faddr (.tmp 1) 8, none⟩,
    ⟨(some 16), .load (.tmp 15) 1 false, none⟩,
    ⟨(some 17), .callw 44 [.tmp 16, .cst (.fn 14 [] [])], none⟩,
    ⟨(some 18), .faddr (.tmp 1) 8, none⟩,
    ⟨none, .store (.tmp 18) (.tmp 17) 1, none⟩] [])
  (.seq (.region false [⟨(some 19), .load (.tmp 1) 10 true, none⟩,
    ⟨none, .store (.tmp 2) (.tmp 19) 10, none⟩] [])
  .ret))))))
def x15_l0 : XCode := .seq (.seq (.region false [⟨(some 11), .mov (.tmp 5), none⟩,
    ⟨(some 12), .mov (.tmp 0), none⟩,
    ⟨(some 13), .lens false (.tmp 12), none⟩,
    ⟨(some 14), .bin .lss (.tmp 11) (.tmp 13), none⟩] [])
  (.cond (.tmp 14) .skip (.exit 0)))
  (.seq (.block 1 (.seq (.region true [⟨(some 17), .mov (.tmp 0), none⟩,
    ⟨(some 18), .mov (.tmp 5), none⟩,
    ⟨(some 19), .iaddr 1 (.tmp 17) (.tmp 18), none⟩,
    ⟨(some 20), .load (.tmp 19) 1 false, none⟩,
    ⟨(some 21), .mov (.tmp 1), none⟩,
    ⟨(some 22), .mov (.tmp 5), none⟩,
    ⟨(some 23), .iaddr 1 (.tmp 21) (.tmp 22), none⟩,
    ⟨(some 24), .load (.tmp 23) 1 false, none⟩,
    ⟨(some 25), .bin .neq (.tmp 20) (.tmp 24), none⟩] [])
  (.cond (.tmp 25) (.seq (.region false [⟨(some 4), .mov (.cst (.bool false)), none⟩] [])
  .ret) .skip)))
  (.region false [⟨(some 15), .mov (.tmp 5), none⟩,
    ⟨(some 16), .bin .add (.tmp 15) (.cst (.int .i64 1)), none⟩,
    ⟨(some 5), .own 16, none⟩] []))
/-- custos/custoslaw06.same -/
def x15 : XFn := XFn.mk 26 [.tmp 4] (.seq (.region false [⟨(some 4), .mov (.cst (.bool false)), none⟩] [])
  (.seq (.seq (.region false [⟨(some 6), .mov (.tmp 0), none⟩,
    ⟨(some 7), .lens false (.tmp 6), none⟩,
    ⟨(some 8), .mov (.tmp 1), none⟩,
    ⟨(some 9), .lens false (.tmp 8), none⟩,
    ⟨(some 10), .bin .neq (.tmp 7) (.tmp 9), none⟩] [])
  (.cond (.tmp 10) (.seq (.region false [⟨(some 4), .mov (.cst (.bool false)), none⟩] [])
  .ret) .skip))
  (.seq (.seq (.region false [⟨(some 5), .mov (.cst (.int .i64 0)), none⟩] [])
  (.block 0 (.loop x15_l0)))
  (.seq (.region false [⟨(some 4), .mov (.cst (.bool true)), none⟩] [])
  .ret))))
/-- custos/ast.Free -/
def x16 : XFn := XFn.mk 14 [.tmp 2] (.seq (.region false [⟨(some 1), .box (.tmp 0) 10, none⟩,
    ⟨(some 2), .mov (.cst .nilsl), none⟩] [])
  (.seq (.seq (.region false [⟨(some 5), .load (.tmp 1) 10 true, none⟩,
    ⟨(some 6), .callq 9 [.tmp 5], none⟩,
    ⟨(some 7), .bin .neq (.tmp 6) (.cst (.int .i64 0)), none⟩] [])
  (.cond (.tmp 7) (.seq (.region false [⟨(some 2), .mov (.cst .nilsl), none⟩] [])
  .ret) .skip))
  (.seq (.region false [⟨(some 9), .load (.tmp 1) 10 true, none⟩,
    ⟨(some 10), .callq 45 [.tmp 9], none⟩,
    ⟨(some 8), .mov (.tmp 10), none⟩,
    ⟨(some 11), .ext 8 0, none⟩,
    ⟨(some 12), .ext 8 1, none⟩,
    ⟨(some 3), .own 11, none⟩,
    ⟨(some 4), .own 12, none⟩] [])
  (.seq (.region false [⟨(some 13), .mov (.tmp 3), none⟩,
    ⟨(some 2), .own 13, none⟩] [])
  .ret))))
/-- custos/ast.Nodes -/
def x17 : XFn := XFn.mk 15 [.tmp 2] (.seq (.region false [⟨(some 1), .box (.tmp 0) 10, none⟩,
    ⟨(some 2), .mov (.cst (.int .i64 0)), none⟩] [])
  (.seq (.seq (.region false [⟨(some 4), .load (.tmp 1) 10 true, none⟩,
    ⟨(some 5), .callq 26 [.tmp 4], none⟩,
    ⟨(some 3), .own 5, none⟩] [])
  (.seq (.region false [⟨(some 6), .mov (.tmp 3), none⟩,
    ⟨(some 7), .nilck (.tmp 6), none⟩,
    ⟨(some 8), .faddr (.tmp 7) 2, none⟩,
    ⟨(some 9), .load (.tmp 8) 1 false, none⟩,
    ⟨(some 10), .bin .eql (.tmp 9) (.cst (.int .i64 0)), none⟩] [])
  (.cond (.tmp 10) (.seq (.region false [⟨(some 11), .mov (.tmp 3), none⟩,
    ⟨(some 12), .nilck (.tmp 11), none⟩,
    ⟨(some 13), .faddr (.tmp 12) 0, none⟩,
    ⟨(some 14), .load (.tmp 13) 1 false, none⟩,
    ⟨(some 2), .own 14, none⟩] [])
  .ret) .skip)))
  (.seq (.region false [⟨(some 2), .mov (.cst (.int .i64 0)), none⟩] [])
  .ret)))
/-- custos/ast.Depth -/
def x19 : XFn := XFn.mk 15 [.tmp 2] (.seq (.region false [⟨(some 1), .box (.tmp 0) 10, none⟩,
    ⟨(some 2), .mov (.cst (.int .i64 0)), none⟩] [])
  (.seq (.seq (.region false [⟨(some 4), .load (.tmp 1) 10 true, none⟩,
    ⟨(some 5), .callq 26 [.tmp 4], none⟩,
    ⟨(some 3), .own 5, none⟩] [])
  (.seq (.region false [⟨(some 6), .mov (.tmp 3), none⟩,
    ⟨(some 7), .nilck (.tmp 6), none⟩,
    ⟨(some 8), .faddr (.tmp 7) 2, none⟩,
    ⟨(some 9), .load (.tmp 8) 1 false, none⟩,
    ⟨(some 10), .bin .eql (.tmp 9) (.cst (.int .i64 0)), none⟩] [])
  (.cond (.tmp 10) (.seq (.region false [⟨(some 11), .mov (.tmp 3), none⟩,
    ⟨(some 12), .nilck (.tmp 11), none⟩,
    ⟨(some 13), .faddr (.tmp 12) 1, none⟩,
    ⟨(some 14), .load (.tmp 13) 1 false, none⟩,
    ⟨(some 2), .own 14, none⟩] [])
  .ret) .skip)))
  (.seq (.region false [⟨(some 2), .mov (.cst (.int .i64 0)), none⟩] [])
  .ret)))
def x20_l0 : XCode := .seq (.region false [⟨(some 18), .bin .lss (.tmp 17) (.tmp 16), none⟩] [])
  (.seq (.cond (.tmp 18) .skip (.exit 0))
  (.seq (.block 1 (.seq (.region false [⟨(some 19), .iaddr 7 (.tmp 15) (.tmp 17), none⟩,
    ⟨(some 20), .load (.tmp 19) 7 true, none⟩,
    ⟨(some 5), .alloc [.int .i64 0, .str [], .int .i64 0, .int .i64 0, .int .i64 0, .str [], .nilsl], none⟩,
    ⟨none, .store (.tmp 5) (.tmp 20) 7, none⟩] [])
  (.region false [⟨(some 21), .own 3, none⟩,
    ⟨(some 22), .load (.tmp 5) 7 true, none⟩,
    ⟨(some 23), .callq 20 [.tmp 22], none⟩,
    ⟨(some 24), .app true 1 16 21 (.tmp 23), none⟩,
    ⟨(some 3), .own 24, none⟩] [])))
  (.region false [⟨(some 25), .bin .add (.tmp 17) (.cst (.int .i64 1)), none⟩,
    ⟨(some 17), .mov (.tmp 25), none⟩] [])))
/-- custos/ast.TermVars -/
def x20 : XFn := XFn.mk 28 [.tmp 2] (.seq (.region false [⟨(some 1), .box (.tmp 0) 7, none⟩,
    ⟨(some 2), .mov (.cst .nilsl), none⟩] [])
  (.seq (.region false [⟨(some 3), .mov (.cst .nilsl), none⟩] [])
  (.seq (.seq (.region false [⟨(some 6), .faddr (.tmp 1) 0, none⟩,
    ⟨(some 7), .load (.tmp 6) 1 false, none⟩,
    ⟨(some 8), .bin .eql (.tmp 7) (.cst (.int .i64 1)), none⟩] [])
  (.cond (.tmp 8) (.region false [⟨(some 9), .own 3, none⟩,
    ⟨(some 10), .faddr (.tmp 1) 1, none⟩,
    ⟨(some 11), .load (.tmp 10) 1 false, none⟩,
    ⟨(some 12), .bslice 1 [.str []] [(0, 1, .tmp 11)], none⟩,
    ⟨(some 13), .app true 1 16 9 (.tmp 12), none⟩,
    ⟨(some 3), .own 13, none⟩] []) .skip))
  (.seq (.seq (.region false [⟨(some 14), .faddr (.tmp 1) 6, none⟩,
    ⟨(some 15), .load (.tmp 14) 1 false, none⟩,
    ⟨(some 16), .lens false (.tmp 15), none⟩,
    ⟨(some 17), .mov (.cst (.int .i64 0)), none⟩] [])
  (.block 0 (.loop x20_l0)))
  (.seq (.region false [⟨(some 26), .own 3, none⟩,
    ⟨(some 27), .primm 100 46 26, none⟩,
    ⟨(some 2), .ownd 27, none⟩] [])
  .ret)))))
def x21_l0 : XCode := .seq (.region false [⟨(some 19), .bin .lss (.tmp 18) (.tmp 17), none⟩] [])
  (.seq (.cond (.tmp 19) .skip (.exit 0))
  (.seq (.block 1 (.seq (.region false [⟨(some 20), .iaddr 1 (.tmp 16) (.tmp 18), none⟩,
    ⟨(some 21), .load (.tmp 20) 1 false, none⟩,
    ⟨(some 8), .own 21, none⟩] [])
  (.seq (.region false [⟨(some 22), .load (.tmp 2) 10 true, none⟩,
    ⟨(some 23), .callq 47 [.tmp 22], none⟩,
    ⟨(some 9), .own 23, none⟩] [])
  (.seq (.seq (.region false [⟨(some 24), .mov (.tmp 8), none⟩,
    ⟨(some 25), .bin .lss (.tmp 24) (.cst (.int .i64 0)), none⟩,
    ⟨(some 26), .mov (.tmp 25), none⟩,
    ⟨(some 27), .mov (.tmp 8), (some (26, false))⟩,
    ⟨(some 28), .mov (.tmp 9), (some (26, false))⟩,
    ⟨(some 29), .lens false (.tmp 28), (some (26, false))⟩,
    ⟨(some 30), .bin .geq (.tmp 27) (.tmp 29), (some (26, false))⟩,
    ⟨(some 31), .pick (.tmp 26) (.cst (.bool true)) (.tmp 30), none⟩] [])
  (.cond (.tmp 31) (.seq (.region false [⟨(some 32), .build [.int .i64 0, .str [], .int .i64 0, .nilsl, .nilsl, .int .i64 0, .int .i64 0, .bool false, .nilsl, .nilsl] [], none⟩,
    ⟨none, .store (.tmp 4) (.tmp 32) 10, none⟩,
    ⟨(some 5), .mov (.cst (.int .i64 5)), none⟩] [])
  .ret) .skip))
  (.region false [⟨(some 33), .mov (.tmp 9), none⟩,
    ⟨(some 34), .mov (.tmp 8), none⟩,
    ⟨(some 35), .iaddr 10 (.tmp 33) (.tmp 34), none⟩,
    ⟨(some 36), .load (.tmp 35) 10 true, none⟩,
    ⟨none, .store (.tmp 2) (.tmp 36) 10, none⟩] [])))))
  (.region false [⟨(some 37), .bin .add (.tmp 18) (.cst (.int .i64 1)), none⟩,
    ⟨(some 18), .mov (.tmp 37), none⟩] [])))
/-- custos/ast.Part -/
def x21 : XFn := XFn.mk 40 [.cell 4 10 true, .tmp 5] (.seq (.region false [⟨(some 2), .box (.tmp 0) 10, none⟩,
    ⟨(some 4), .alloc [.int .i64 0, .str [], .int .i64 0, .nilsl, .nilsl, .int .i64 0, .int .i64 0, .bool false, .nilsl, .nilsl], none⟩,
    ⟨(some 5), .mov (.cst (.int .i64 0)), none⟩] [])
  (.seq (.seq (.region false [⟨(some 10), .load (.tmp 2) 10 true, none⟩,
    ⟨(some 11), .callq 9 [.tmp 10], none⟩,
    ⟨(some 6), .own 11, none⟩] [])
  (.seq (.region false [⟨(some 12), .mov (.tmp 6), none⟩,
    ⟨(some 13), .bin .neq (.tmp 12) (.cst (.int .i64 0)), none⟩] [])
  (.cond (.tmp 13) (.seq (.region false [⟨(some 14), .build [.int .i64 0, .str [], .int .i64 0, .nilsl, .nilsl, .int .i64 0, .int .i64 0, .bool false, .nilsl, .nilsl] [], none⟩,
    ⟨(some 15), .mov (.tmp 6), none⟩,
    ⟨none, .store (.tmp 4) (.tmp 14) 10, none⟩,
    ⟨(some 5), .own 15, none⟩] [])
  .ret) .skip)))
  (.seq (.seq (.region false [⟨(some 16), .mov (.tmp 1), none⟩,
    ⟨(some 17), .lens false (.tmp 16), none⟩,
    ⟨(some 18), .mov (.cst (.int .i64 0)), none⟩] [])
  (.block 0 (.loop x21_l0)))
  (.seq (.region false [⟨(some 38), .load (.tmp 2) 10 true, none⟩,
    ⟨(some 39), .callq 14 [.tmp 38], none⟩,
    ⟨none, .store (.tmp 4) (.tmp 39) 10, none⟩,
    ⟨(some 5), .mov (.cst (.int .i64 0)), none⟩] [])
  .ret))))
def x22_l0 : XCode := .seq (.seq (.region false [⟨(some 6), .mov (.tmp 5), none⟩,
    ⟨(some 7), .mov (.tmp 0), none⟩,
    ⟨(some 8), .lens false (.tmp 7), none⟩,
    ⟨(some 9), .bin .lss (.tmp 6) (.tmp 8), none⟩] [])
  (.cond (.tmp 9) .skip (.exit 0)))
  (.seq (.block 1 (.seq (.region false [⟨(some 12), .mov (.tmp 0), none⟩,
    ⟨(some 13), .mov (.tmp 5), none⟩,
    ⟨(some 14), .iaddr 1 (.tmp 12) (.tmp 13), none⟩,
    ⟨(some 15), .load (.tmp 14) 1 false, none⟩,
    ⟨(some 16), .mov (.tmp 1), none⟩,
    ⟨(some 17), .bin .eql (.tmp 15) (.tmp 16), none⟩] [])
  (.cond (.tmp 17) (.seq (.region false [⟨(some 4), .mov (.cst (.bool true)), none⟩] [])
  .ret) .skip)))
  (.region false [⟨(some 10), .mov (.tmp 5), none⟩,
    ⟨(some 11), .bin .add (.tmp 10) (.cst (.int .i64 1)), none⟩,
    ⟨(some 5), .own 11, none⟩] []))
/-- custos/custosref06.Has -/
def x22 : XFn := XFn.mk 18 [.tmp 4] (.seq (.region false [⟨(some 4), .mov (.cst (.bool false)), none⟩] [])
  (.seq (.seq (.region false [⟨(some 5), .mov (.cst (.int .i64 0)), none⟩] [])
  (.block 0 (.loop x22_l0)))
  (.seq (.region false [⟨(some 4), .mov (.cst (.bool false)), none⟩] [])
  .ret)))
/-- custos/custoslaw06.both -/
def x23 : XFn := XFn.mk 9 [.cell 4 10 true] (.seq (.region false [⟨(some 2), .box (.tmp 0) 10, none⟩,
    ⟨(some 3), .box (.tmp 1) 10, none⟩,
    ⟨(some 4), .alloc [.int .i64 0, .str [], .int .i64 0, .nilsl, .nilsl, .int .i64 0, .int .i64 0, .bool false, .nilsl, .nilsl], none⟩] [])
  (.seq (.region false [⟨(some 5), .load (.tmp 2) 10 true, none⟩,
    ⟨(some 6), .load (.tmp 3) 10 true, none⟩,
    ⟨(some 7), .bslice 10 [.int .i64 0, .str [], .int .i64 0, .nilsl, .nilsl, .int .i64 0, .int .i64 0, .bool false, .nilsl, .nilsl, .int .i64 0, .str [], .int .i64 0, .nilsl, .nilsl, .int .i64 0, .int .i64 0, .bool false, .nilsl, .nilsl] [(0, 10, .tmp 5), (10, 10, .tmp 6)], none⟩,
    ⟨(some 8), .build [.int .i64 0, .str [], .int .i64 0, .nilsl, .nilsl, .int .i64 0, .int .i64 0, .bool false, .nilsl, .nilsl] [(0, 1, .cst (.int .i64 8)), (8, 1, .tmp 7)], none⟩,
    ⟨none, .store (.tmp 4) (.tmp 8) 10, none⟩] [])
  .ret))
def x24_l0 : XCode := .seq (.seq (.region false [⟨(some 6), .mov (.tmp 4), none⟩,
    ⟨(some 7), .mov (.tmp 0), none⟩,
    ⟨(some 8), .lens false (.tmp 7), none⟩,
    ⟨(some 9), .bin .lss (.tmp 6) (.tmp 8), none⟩] [])
  (.cond (.tmp 9) .skip (.exit 0)))
  (.seq (.block 1 (.region true [⟨(some 12), .faddr (.tmp 3) 4, none⟩,
    ⟨(some 13), .lown (.tmp 12), none⟩,
    ⟨(some 14), .mov (.tmp 0), none⟩,
    ⟨(some 15), .mov (.tmp 4), none⟩,
    ⟨(some 16), .iaddr 1 (.tmp 14) (.tmp 15), none⟩,
    ⟨(some 17), .load (.tmp 16) 1 false, none⟩,
    ⟨(some 18), .callq 25 [.tmp 17], none⟩,
    ⟨(some 19), .bslice 7 [.int .i64 0, .str [], .int .i64 0, .int .i64 0, .int .i64 0, .str [], .nilsl] [(0, 7, .tmp 18)], none⟩,
    ⟨(some 20), .app false 7 88 13 (.tmp 19), none⟩,
    ⟨(some 21), .faddr (.tmp 3) 4, none⟩,
    ⟨none, .store (.tmp 21) (.tmp 20) 1, none⟩] [(12, 16)]))
  (.region false [⟨(some 10), .mov (.tmp 4), none⟩,
    ⟨(some 11), .bin .add (.tmp 10) (.cst (.int .i64 1)), none⟩,
    ⟨(some 4), .own 11, none⟩] []))
/-- custos/custoslaw06.p -/
def x24 : XFn := XFn.mk 23 [.cell 2 10 true] (.seq (.region false [⟨(some 2), .alloc [.int .i64 0, .str [], .int .i64 0, .nilsl, .nilsl, .int .i64 0, .int .i64 0, .bool false, .nilsl, .nilsl], none⟩] [])
  (.seq (.region false [⟨(some 5), .build [.int .i64 0, .str [], .int .i64 0, .nilsl, .nilsl, .int .i64 0, .int .i64 0, .bool false, .nilsl, .nilsl] [(0, 1, .cst (.int .i64 3)), (1, 1, .cst (.str [112]))], none⟩,
    ⟨(some 3), .alloc [.int .i64 0, .str [], .int .i64 0, .nilsl, .nilsl, .int .i64 0, .int .i64 0, .bool false, .nilsl, .nilsl], none⟩,
    ⟨none, .store (.tmp 3) (.tmp 5) 10, none⟩] [])
  (.seq (.seq (.region false [⟨(some 4), .mov (.cst (.int .i64 0)), none⟩] [])
  (.block 0 (.loop x24_l0)))
  (.seq (.region false [⟨(some 22), .load (.tmp 3) 10 true, none⟩,
    ⟨none, .store (.tmp 2) (.tmp 22) 10, none⟩] [])
  .ret))))
/-- custos/custoslaw06.x -/
def x25 : XFn := XFn.mk 5 [.cell 2 7 true] (.seq (.region false [⟨(some 2), .alloc [.int .i64 0, .str [], .int .i64 0, .int .i64 0, .int .i64 0, .str [], .nilsl], none⟩] [])
  (.seq (.region false [⟨(some 3), .mov (.tmp 0), none⟩,
    ⟨(some 4), .build [.int .i64 0, .str [], .int .i64 0, .int .i64 0, .int .i64 0, .str [], .nilsl] [(0, 1, .cst (.int .i64 1)), (1, 1, .tmp 3)], none⟩,
    ⟨none, .store (.tmp 2) (.tmp 4) 7, none⟩] [])
  .ret))
/-- custos/ast.look -/
def x26 : XFn := XFn.mk 26 [.tmp 2] (.seq (.region false [⟨(some 1), .box (.tmp 0) 10, none⟩,
    ⟨(some 2), .mov (.cst .nilptr), none⟩] [])
  (.seq (.region false [⟨(some 6), .build [.int .i64 0, .int .i64 0, .int .i64 0] [], none⟩,
    ⟨(some 7), .box (.tmp 6) 3, none⟩,
    ⟨(some 3), .own 7, none⟩] [])
  (.seq (.region false [⟨(some 8), .mov (.tmp 3), none⟩,
    ⟨(some 9), .load (.tmp 1) 10 true, none⟩,
    ⟨(some 10), .callw 48 [.tmp 8, .tmp 9, .cst (.int .i64 1)], none⟩] [])
  (.seq (.seq (.region false [⟨(some 11), .mov (.tmp 3), none⟩,
    ⟨(some 12), .nilck (.tmp 11), none⟩,
    ⟨(some 13), .faddr (.tmp 12) 2, none⟩,
    ⟨(some 14), .load (.tmp 13) 1 false, none⟩,
    ⟨(some 15), .bin .eql (.tmp 14) (.cst (.int .i64 0)), none⟩] [])
  (.cond (.tmp 15) (.seq (.region false [⟨(some 17), .load (.tmp 1) 10 true, none⟩,
    ⟨(some 18), .callq 45 [.tmp 17], none⟩,
    ⟨(some 16), .mov (.tmp 18), none⟩,
    ⟨(some 19), .ext 16 0, none⟩,
    ⟨(some 20), .ext 16 1, none⟩,
    ⟨(some 4), .own 19, none⟩,
    ⟨(some 5), .own 20, none⟩] [])
  (.region false [⟨(some 21), .mov (.tmp 3), none⟩,
    ⟨(some 22), .mov (.tmp 5), none⟩,
    ⟨(some 23), .bin .leq (.tmp 22) (.cst (.int .i64 8)), none⟩,
    ⟨(some 24), .callw 49 [.tmp 21, .tmp 23, .cst (.int .i64 30)], none⟩] [])) .skip))
  (.seq (.region false [⟨(some 25), .mov (.tmp 3), none⟩,
    ⟨(some 2), .own 25, none⟩] [])
  .ret)))))
/-- custos/ast.keyword -/
def x27 : XFn := XFn.mk 28 [.tmp 2] (.seq (.region false [⟨(some 2), .mov (.cst (.bool false)), none⟩] [])
  (.seq (.seq (.region false [⟨(some 3), .mov (.tmp 0), none⟩] [])
  (.block 0 (.seq (.seq (.region false [⟨(some 5), .bin .eql (.tmp 3) (.cst (.str [116, 114, 117, 101])), none⟩,
    ⟨(some 4), .own 5, none⟩] [])
  (.cond (.tmp 4) .skip (.seq (.region false [⟨(some 6), .bin .eql (.tmp 3) (.cst (.str [102, 97, 108, 115, 101])), none⟩,
    ⟨(some 4), .own 6, none⟩] [])
  (.cond (.tmp 4) .skip (.seq (.region false [⟨(some 7), .bin .eql (.tmp 3) (.cst (.str [110, 111, 116])), none⟩,
    ⟨(some 4), .own 7, none⟩] [])
  (.cond (.tmp 4) .skip (.seq (.region false [⟨(some 8), .bin .eql (.tmp 3) (.cst (.str [97, 110, 100])), none⟩,
    ⟨(some 4), .own 8, none⟩] [])
  (.cond (.tmp 4) .skip (.seq (.region false [⟨(some 9), .bin .eql (.tmp 3) (.cst (.str [111, 114])), none⟩,
    ⟨(some 4), .own 9, none⟩] [])
  (.cond (.tmp 4) .skip (.seq (.region false [⟨(some 10), .bin .eql (.tmp 3) (.cst (.str [101, 120, 105, 115, 116, 115])), none⟩,
    ⟨(some 4), .own 10, none⟩] [])
  (.cond (.tmp 4) .skip (.seq (.region false [⟨(some 11), .bin .eql (.tmp 3) (.cst (.str [112, 114, 101, 118])), none⟩,
    ⟨(some 4), .own 11, none⟩] [])
  (.cond (.tmp 4) .skip (.seq (.region false [⟨(some 12), .bin .eql (.tmp 3) (.cst (.str [110, 101, 120, 116])), none⟩,
    ⟨(some 4), .own 12, none⟩] [])
  (.cond (.tmp 4) .skip (.seq (.region false [⟨(some 13), .bin .eql (.tmp 3) (.cst (.str [111, 110, 99, 101])), none⟩,
    ⟨(some 4), .own 13, none⟩] [])
  (.cond (.tmp 4) .skip (.seq (.region false [⟨(some 14), .bin .eql (.tmp 3) (.cst (.str [115, 111, 111, 110])), none⟩,
    ⟨(some 4), .own 14, none⟩] [])
  (.cond (.tmp 4) .skip (.seq (.region false [⟨(some 15), .bin .eql (.tmp 3) (.cst (.str [115, 105, 110, 99, 101])), none⟩,
    ⟨(some 4), .own 15, none⟩] [])
  (.cond (.tmp 4) .skip (.seq (.region false [⟨(some 16), .bin .eql (.tmp 3) (.cst (.str [117, 110, 116, 105, 108])), none⟩,
    ⟨(some 4), .own 16, none⟩] [])
  (.cond (.tmp 4) .skip (.seq (.region false [⟨(some 17), .bin .eql (.tmp 3) (.cst (.str [98, 101, 102, 111, 114, 101])), none⟩,
    ⟨(some 4), .own 17, none⟩] [])
  (.cond (.tmp 4) .skip (.seq (.region false [⟨(some 18), .bin .eql (.tmp 3) (.cst (.str [97, 102, 116, 101, 114])), none⟩,
    ⟨(some 4), .own 18, none⟩] [])
  (.cond (.tmp 4) .skip (.seq (.region false [⟨(some 19), .bin .eql (.tmp 3) (.cst (.str [97, 103, 103])), none⟩,
    ⟨(some 4), .own 19, none⟩] [])
  (.cond (.tmp 4) .skip (.seq (.region false [⟨(some 20), .bin .eql (.tmp 3) (.cst (.str [108, 101, 116])), none⟩,
    ⟨(some 4), .own 20, none⟩] [])
  (.cond (.tmp 4) .skip (.seq (.region false [⟨(some 21), .bin .eql (.tmp 3) (.cst (.str [108, 101, 116, 112, 97, 115, 116])), none⟩,
    ⟨(some 4), .own 21, none⟩] [])
  (.cond (.tmp 4) .skip (.seq (.region false [⟨(some 22), .bin .eql (.tmp 3) (.cst (.str [106, 111, 105, 110])), none⟩,
    ⟨(some 4), .own 22, none⟩] [])
  (.cond (.tmp 4) .skip (.seq (.region false [⟨(some 23), .bin .eql (.tmp 3) (.cst (.str [97, 110, 121])), none⟩,
    ⟨(some 4), .own 23, none⟩] [])
  (.cond (.tmp 4) .skip (.seq (.region false [⟨(some 24), .bin .eql (.tmp 3) (.cst (.str [116, 101, 115, 116])), none⟩,
    ⟨(some 4), .own 24, none⟩] [])
  (.cond (.tmp 4) .skip (.seq (.region false [⟨(some 25), .bin .eql (.tmp 3) (.cst (.str [97, 108, 116])), none⟩,
    ⟨(some 4), .own 25, none⟩] [])
  (.cond (.tmp 4) .skip (.seq (.region false [⟨(some 26), .bin .eql (.tmp 3) (.cst (.str [115, 101, 113])), none⟩,
    ⟨(some 4), .own 26, none⟩] [])
  (.cond (.tmp 4) .skip (.region false [⟨(some 27), .bin .eql (.tmp 3) (.cst (.str [115, 116, 97, 114])), none⟩,
    ⟨(some 4), .own 27, none⟩] [])))))))))))))))))))))))))))))))))))))))))))))
  (.cond (.tmp 4) (.seq (.region false [⟨(some 2), .mov (.cst (.bool true)), none⟩] [])
  .ret) .skip))))
  (.seq (.region false [⟨(some 2), .mov (.cst (.bool false)), none⟩] [])
  .ret)))
/-- custos/custosref06.words -/
def x28 : XFn := XFn.mk 2 [.tmp 0] (.seq (.region false [⟨(some 0), .mov (.cst .nilsl), none⟩] [])
  (.seq (.region false [⟨(some 1), .bslice 1 [.str [], .str [], .str [], .str [], .str [], .str [], .str [], .str [], .str [], .str [], .str [], .str [], .str [], .str [], .str [], .str [], .str [], .str [], .str [], .str [], .str [], .str [], .str []] [(0, 1, .cst (.str [116, 114, 117, 101])), (1, 1, .cst (.str [102, 97, 108, 115, 101])), (2, 1, .cst (.str [110, 111, 116])), (3, 1, .cst (.str [97, 110, 100])), (4, 1, .cst (.str [111, 114])), (5, 1, .cst (.str [101, 120, 105, 115, 116, 115])), (6, 1, .cst (.str [112, 114, 101, 118])), (7, 1, .cst (.str [110, 101, 120, 116])), (8, 1, .cst (.str [111, 110, 99, 101])), (9, 1, .cst (.str [115, 111, 111, 110])), (10, 1, .cst (.str [115, 105, 110, 99, 101])), (11, 1, .cst (.str [117, 110, 116, 105, 108])), (12, 1, .cst (.str [98, 101, 102, 111, 114, 101])), (13, 1, .cst (.str [97, 102, 116, 101, 114])), (14, 1, .cst (.str [97, 103, 103])), (15, 1, .cst (.str [108, 101, 116])), (16, 1, .cst (.str [108, 101, 116, 112, 97, 115, 116])), (17, 1, .cst (.str [106, 111, 105, 110])), (18, 1, .cst (.str [97, 110, 121])), (19, 1, .cst (.str [116, 101, 115, 116])), (20, 1, .cst (.str [97, 108, 116])), (21, 1, .cst (.str [115, 101, 113])), (22, 1, .cst (.str [115, 116, 97, 114]))], none⟩,
    ⟨(some 0), .own 1, none⟩] [])
  .ret))
def x29_l0 : XCode := .seq (.seq (.region false [⟨(some 11), .mov (.tmp 5), none⟩,
    ⟨(some 12), .mov (.tmp 0), none⟩,
    ⟨(some 13), .lens false (.tmp 12), none⟩,
    ⟨(some 14), .bin .lss (.tmp 11) (.tmp 13), none⟩] [])
  (.cond (.tmp 14) .skip (.exit 0)))
  (.seq (.block 1 (.seq (.region true [⟨(some 17), .mov (.tmp 0), none⟩,
    ⟨(some 18), .mov (.tmp 5), none⟩,
    ⟨(some 19), .iaddr 1 (.tmp 17) (.tmp 18), none⟩,
    ⟨(some 20), .load (.tmp 19) 1 false, none⟩,
    ⟨(some 21), .mov (.tmp 1), none⟩,
    ⟨(some 22), .mov (.tmp 5), none⟩,
    ⟨(some 23), .iaddr 1 (.tmp 21) (.tmp 22), none⟩,
    ⟨(some 24), .load (.tmp 23) 1 false, none⟩,
    ⟨(some 25), .bin .neq (.tmp 20) (.tmp 24), none⟩] [])
  (.cond (.tmp 25) (.seq (.region false [⟨(some 4), .mov (.cst (.bool false)), none⟩] [])
  .ret) .skip)))
  (.region false [⟨(some 15), .mov (.tmp 5), none⟩,
    ⟨(some 16), .bin .add (.tmp 15) (.cst (.int .i64 1)), none⟩,
    ⟨(some 5), .own 16, none⟩] []))
/-- custos/custosref06.sameNames -/
def x29 : XFn := XFn.mk 26 [.tmp 4] (.seq (.region false [⟨(some 4), .mov (.cst (.bool false)), none⟩] [])
  (.seq (.seq (.region false [⟨(some 6), .mov (.tmp 0), none⟩,
    ⟨(some 7), .lens false (.tmp 6), none⟩,
    ⟨(some 8), .mov (.tmp 1), none⟩,
    ⟨(some 9), .lens false (.tmp 8), none⟩,
    ⟨(some 10), .bin .neq (.tmp 7) (.tmp 9), none⟩] [])
  (.cond (.tmp 10) (.seq (.region false [⟨(some 4), .mov (.cst (.bool false)), none⟩] [])
  .ret) .skip))
  (.seq (.seq (.region false [⟨(some 5), .mov (.cst (.int .i64 0)), none⟩] [])
  (.block 0 (.loop x29_l0)))
  (.seq (.region false [⟨(some 4), .mov (.cst (.bool true)), none⟩] [])
  .ret))))
def x30_l0 : XCode := .seq (.seq (.region false [⟨(some 12), .mov (.tmp 5), none⟩,
    ⟨(some 13), .mov (.tmp 0), none⟩,
    ⟨(some 14), .lens false (.tmp 13), none⟩,
    ⟨(some 15), .bin .lss (.tmp 12) (.tmp 14), none⟩] [])
  (.cond (.tmp 15) .skip (.exit 0)))
  (.seq (.block 1 (.seq (.region true [⟨(some 18), .mov (.tmp 0), none⟩,
    ⟨(some 19), .mov (.tmp 5), none⟩,
    ⟨(some 20), .iaddr 7 (.tmp 18) (.tmp 19), none⟩,
    ⟨(some 21), .load (.tmp 20) 7 true, none⟩,
    ⟨(some 22), .mov (.tmp 1), none⟩,
    ⟨(some 23), .mov (.tmp 5), none⟩,
    ⟨(some 24), .iaddr 7 (.tmp 22) (.tmp 23), none⟩,
    ⟨(some 25), .load (.tmp 24) 7 true, none⟩,
    ⟨(some 26), .callq 50 [.tmp 21, .tmp 25], none⟩,
    ⟨(some 6), .own 26, none⟩] [])
  (.seq (.region false [⟨(some 27), .mov (.tmp 6), none⟩,
    ⟨(some 28), .not (.tmp 27), none⟩] [])
  (.cond (.tmp 28) (.seq (.region false [⟨(some 4), .mov (.cst (.bool false)), none⟩] [])
  .ret) .skip))))
  (.region false [⟨(some 16), .mov (.tmp 5), none⟩,
    ⟨(some 17), .bin .add (.tmp 16) (.cst (.int .i64 1)), none⟩,
    ⟨(some 5), .own 17, none⟩] []))
/-- custos/custosref06.SameTerms -/
def x30 : XFn := XFn.mk 29 [.tmp 4] (.seq (.region false [⟨(some 4), .mov (.cst (.bool false)), none⟩] [])
  (.seq (.seq (.region false [⟨(some 7), .mov (.tmp 0), none⟩,
    ⟨(some 8), .lens false (.tmp 7), none⟩,
    ⟨(some 9), .mov (.tmp 1), none⟩,
    ⟨(some 10), .lens false (.tmp 9), none⟩,
    ⟨(some 11), .bin .neq (.tmp 8) (.tmp 10), none⟩] [])
  (.cond (.tmp 11) (.seq (.region false [⟨(some 4), .mov (.cst (.bool false)), none⟩] [])
  .ret) .skip))
  (.seq (.seq (.region false [⟨(some 5), .mov (.cst (.int .i64 0)), none⟩] [])
  (.block 0 (.loop x30_l0)))
  (.seq (.region false [⟨(some 4), .mov (.cst (.bool true)), none⟩] [])
  .ret))))
def x31_l0 : XCode := .seq (.seq (.region false [⟨(some 13), .mov (.tmp 5), none⟩,
    ⟨(some 14), .mov (.tmp 0), none⟩,
    ⟨(some 15), .lens false (.tmp 14), none⟩,
    ⟨(some 16), .bin .lss (.tmp 13) (.tmp 15), none⟩] [])
  (.cond (.tmp 16) .skip (.exit 0)))
  (.seq (.block 1 (.seq (.region true [⟨(some 19), .mov (.tmp 0), none⟩,
    ⟨(some 20), .mov (.tmp 5), none⟩,
    ⟨(some 21), .iaddr 3 (.tmp 19) (.tmp 20), none⟩,
    ⟨(some 22), .faddr (.tmp 21) 1, none⟩,
    ⟨(some 23), .load (.tmp 22) 1 false, none⟩,
    ⟨(some 24), .mov (.tmp 1), none⟩,
    ⟨(some 25), .mov (.tmp 5), none⟩,
    ⟨(some 26), .iaddr 3 (.tmp 24) (.tmp 25), none⟩,
    ⟨(some 27), .faddr (.tmp 26) 1, none⟩,
    ⟨(some 28), .load (.tmp 27) 1 false, none⟩,
    ⟨(some 29), .callq 32 [.tmp 23, .tmp 28], none⟩,
    ⟨(some 6), .own 29, none⟩] [])
  (.seq (.region true [⟨(some 30), .mov (.tmp 0), none⟩,
    ⟨(some 31), .mov (.tmp 5), none⟩,
    ⟨(some 32), .iaddr 3 (.tmp 30) (.tmp 31), none⟩,
    ⟨(some 33), .faddr (.tmp 32) 2, none⟩,
    ⟨(some 34), .load (.tmp 33) 1 false, none⟩,
    ⟨(some 35), .mov (.tmp 1), none⟩,
    ⟨(some 36), .mov (.tmp 5), none⟩,
    ⟨(some 37), .iaddr 3 (.tmp 35) (.tmp 36), none⟩,
    ⟨(some 38), .faddr (.tmp 37) 2, none⟩,
    ⟨(some 39), .load (.tmp 38) 1 false, none⟩,
    ⟨(some 40), .callq 31 [.tmp 34, .tmp 39], none⟩,
    ⟨(some 7), .own 40, none⟩] [])
  (.seq (.region true [⟨(some 41), .mov (.tmp 0), none⟩,
    ⟨(some 42), .mov (.tmp 5), none⟩,
    ⟨(some 43), .iaddr 3 (.tmp 41) (.tmp 42), none⟩,
    ⟨(some 44), .faddr (.tmp 43) 0, none⟩,
    ⟨(some 45), .load (.tmp 44) 1 false, none⟩,
    ⟨(some 46), .mov (.tmp 1), none⟩,
    ⟨(some 47), .mov (.tmp 5), none⟩,
    ⟨(some 48), .iaddr 3 (.tmp 46) (.tmp 47), none⟩,
    ⟨(some 49), .faddr (.tmp 48) 0, none⟩,
    ⟨(some 50), .load (.tmp 49) 1 false, none⟩,
    ⟨(some 51), .bin .neq (.tmp 45) (.tmp 50), none⟩,
    ⟨(some 52), .mov (.tmp 51), none⟩,
    ⟨(some 53), .mov (.tmp 6), (some (52, false))⟩,
    ⟨(some 54), .not (.tmp 53), (some (52, false))⟩,
    ⟨(some 55), .pick (.tmp 52) (.cst (.bool true)) (.tmp 54), none⟩,
    ⟨(some 56), .mov (.tmp 55), none⟩,
    ⟨(some 57), .mov (.tmp 7), (some (56, false))⟩,
    ⟨(some 58), .not (.tmp 57), (some (56, false))⟩,
    ⟨(some 59), .pick (.tmp 56) (.cst (.bool true)) (.tmp 58), none⟩] [])
  (.cond (.tmp 59) (.seq (.region false [⟨(some 4), .mov (.cst (.bool false)), none⟩] [])
  .ret) .skip)))))
  (.region false [⟨(some 17), .mov (.tmp 5), none⟩,
    ⟨(some 18), .bin .add (.tmp 17) (.cst (.int .i64 1)), none⟩,
    ⟨(some 5), .own 18, none⟩] []))
/-- custos/custosref06.SameRegexes -/
def x31 : XFn := XFn.mk 60 [.tmp 4] (.seq (.region false [⟨(some 4), .mov (.cst (.bool false)), none⟩] [])
  (.seq (.seq (.region false [⟨(some 8), .mov (.tmp 0), none⟩,
    ⟨(some 9), .lens false (.tmp 8), none⟩,
    ⟨(some 10), .mov (.tmp 1), none⟩,
    ⟨(some 11), .lens false (.tmp 10), none⟩,
    ⟨(some 12), .bin .neq (.tmp 9) (.tmp 11), none⟩] [])
  (.cond (.tmp 12) (.seq (.region false [⟨(some 4), .mov (.cst (.bool false)), none⟩] [])
  .ret) .skip))
  (.seq (.seq (.region false [⟨(some 5), .mov (.cst (.int .i64 0)), none⟩] [])
  (.block 0 (.loop x31_l0)))
  (.seq (.region false [⟨(some 4), .mov (.cst (.bool true)), none⟩] [])
  .ret))))
def x32_l0 : XCode := .seq (.seq (.region false [⟨(some 12), .mov (.tmp 5), none⟩,
    ⟨(some 13), .mov (.tmp 0), none⟩,
    ⟨(some 14), .lens false (.tmp 13), none⟩,
    ⟨(some 15), .bin .lss (.tmp 12) (.tmp 14), none⟩] [])
  (.cond (.tmp 15) .skip (.exit 0)))
  (.seq (.block 1 (.seq (.region true [⟨(some 18), .mov (.tmp 0), none⟩,
    ⟨(some 19), .mov (.tmp 5), none⟩,
    ⟨(some 20), .iaddr 10 (.tmp 18) (.tmp 19), none⟩,
    ⟨(some 21), .load (.tmp 20) 10 true, none⟩,
    ⟨(some 22), .mov (.tmp 1), none⟩,
    ⟨(some 23), .mov (.tmp 5), none⟩,
    ⟨(some 24), .iaddr 10 (.tmp 22) (.tmp 23), none⟩,
    ⟨(some 25), .load (.tmp 24) 10 true, none⟩,
    ⟨(some 26), .callq 12 [.tmp 21, .tmp 25], none⟩,
    ⟨(some 6), .own 26, none⟩] [])
  (.seq (.region false [⟨(some 27), .mov (.tmp 6), none⟩,
    ⟨(some 28), .not (.tmp 27), none⟩] [])
  (.cond (.tmp 28) (.seq (.region false [⟨(some 4), .mov (.cst (.bool false)), none⟩] [])
  .ret) .skip))))
  (.region false [⟨(some 16), .mov (.tmp 5), none⟩,
    ⟨(some 17), .bin .add (.tmp 16) (.cst (.int .i64 1)), none⟩,
    ⟨(some 5), .own 17, none⟩] []))
/-- custos/custosref06.SameAll -/
def x32 : XFn := XFn.mk 29 [.tmp 4] (.seq (.region false [⟨(some 4), .mov (.cst (.bool false)), none⟩] [])
  (.seq (.seq (.region false [⟨(some 7), .mov (.tmp 0), none⟩,
    ⟨(some 8), .lens false (.tmp 7), none⟩,
    ⟨(some 9), .mov (.tmp 1), none⟩,
    ⟨(some 10), .lens false (.tmp 9), none⟩,
    ⟨(some 11), .bin .neq (.tmp 8) (.tmp 10), none⟩] [])
  (.cond (.tmp 11) (.seq (.region false [⟨(some 4), .mov (.cst (.bool false)), none⟩] [])
  .ret) .skip))
  (.seq (.seq (.region false [⟨(some 5), .mov (.cst (.int .i64 0)), none⟩] [])
  (.block 0 (.loop x32_l0)))
  (.seq (.region false [⟨(some 4), .mov (.cst (.bool true)), none⟩] [])
  .ret))))
def x33_l0 : XCode := .seq (.region false [⟨(some 14), .bin .lss (.tmp 13) (.tmp 12), none⟩] [])
  (.seq (.cond (.tmp 14) .skip (.exit 0))
  (.seq (.block 1 (.seq (.region false [⟨(some 15), .mov (.tmp 13), none⟩,
    ⟨(some 5), .own 15, none⟩] [])
  (.seq (.region true [⟨(some 16), .mov (.tmp 0), none⟩,
    ⟨(some 17), .mov (.tmp 5), none⟩,
    ⟨(some 18), .iaddr 1 (.tmp 16) (.tmp 17), none⟩,
    ⟨(some 19), .load (.tmp 18) 1 false, none⟩,
    ⟨(some 20), .mov (.tmp 1), none⟩,
    ⟨(some 21), .mov (.tmp 5), none⟩,
    ⟨(some 22), .iaddr 1 (.tmp 20) (.tmp 21), none⟩,
    ⟨(some 23), .load (.tmp 22) 1 false, none⟩,
    ⟨(some 24), .bin .neq (.tmp 19) (.tmp 23), none⟩] [])
  (.cond (.tmp 24) (.seq (.region false [⟨(some 4), .mov (.cst (.bool false)), none⟩] [])
  .ret) .skip))))
  (.region false [⟨(some 25), .bin .add (.tmp 13) (.cst (.int .i64 1)), none⟩,
    ⟨(some 13), .mov (.tmp 25), none⟩] [])))
/-- slices.Equal[[]string,string] -/
def x33 : XFn := XFn.mk 26 [.tmp 4] (.seq (.region false [⟨(some 4), .mov (.cst (.bool false)), none⟩] [])
  (.seq (.seq (.region false [⟨(some 6), .mov (.tmp 0), none⟩,
    ⟨(some 7), .lens false (.tmp 6), none⟩,
    ⟨(some 8), .mov (.tmp 1), none⟩,
    ⟨(some 9), .lens false (.tmp 8), none⟩,
    ⟨(some 10), .bin .neq (.tmp 7) (.tmp 9), none⟩] [])
  (.cond (.tmp 10) (.seq (.region false [⟨(some 4), .mov (.cst (.bool false)), none⟩] [])
  .ret) .skip))
  (.seq (.seq (.region false [⟨(some 11), .mov (.tmp 0), none⟩,
    ⟨(some 12), .lens false (.tmp 11), none⟩,
    ⟨(some 13), .mov (.cst (.int .i64 0)), none⟩] [])
  (.block 0 (.loop x33_l0)))
  (.seq (.region false [⟨(some 4), .mov (.cst (.bool true)), none⟩] [])
  .ret))))
def x34_l0 : XCode := .seq (.region false [⟨(some 18), .bin .lss (.tmp 17) (.tmp 16), none⟩] [])
  (.seq (.cond (.tmp 18) .skip (.exit 0))
  (.seq (.block 1 (.seq (.region false [⟨(some 19), .mov (.tmp 17), none⟩,
    ⟨(some 20), .iaddr 7 (.tmp 15) (.tmp 17), none⟩,
    ⟨(some 21), .load (.tmp 20) 7 true, none⟩,
    ⟨(some 8), .alloc [.int .i64 0, .str [], .int .i64 0, .int .i64 0, .int .i64 0, .str [], .nilsl], none⟩,
    ⟨(some 7), .own 19, none⟩,
    ⟨none, .store (.tmp 8) (.tmp 21) 7, none⟩] [])
  (.seq (.region false [⟨(some 22), .mov (.tmp 1), none⟩,
    ⟨(some 23), .mov (.tmp 7), none⟩,
    ⟨(some 24), .iaddr 7 (.tmp 22) (.tmp 23), none⟩,
    ⟨(some 25), .load (.tmp 24) 7 true, none⟩,
    ⟨(some 9), .alloc [.int .i64 0, .str [], .int .i64 0, .int .i64 0, .int .i64 0, .str [], .nilsl], none⟩,
    ⟨none, .store (.tmp 9) (.tmp 25) 7, none⟩] [])
  (.seq (.region false [⟨(some 26), .mov (.tmp 2), none⟩,
    ⟨(some 27), .load (.tmp 8) 7 true, none⟩,
    ⟨(some 28), .load (.tmp 9) 7 true, none⟩,
    ⟨(some 29), .calld (.tmp 26) [.tmp 27, .tmp 28], none⟩,
    ⟨(some 30), .not (.tmp 29), none⟩] [])
  (.cond (.tmp 30) (.seq (.region false [⟨(some 6), .mov (.cst (.bool false)), none⟩] [])
  .ret) .skip)))))
  (.region false [⟨(some 31), .bin .add (.tmp 17) (.cst (.int .i64 1)), none⟩,
    ⟨(some 17), .mov (.tmp 31), none⟩] [])))
/-- slices.EqualFunc[[]custos/api.Term,[]custos/api.Term,custos/api.Term,custos/api.Term] -/
def x34 : XFn := XFn.mk 32 [.tmp 6] (.seq (.region false [⟨(some 6), .mov (.cst (.bool false)), none⟩] [])
  (.seq (.seq (.region false [⟨(some 10), .mov (.tmp 0), none⟩,
    ⟨(some 11), .lens false (.tmp 10), none⟩,
    ⟨(some 12), .mov (.tmp 1), none⟩,
    ⟨(some 13), .lens false (.tmp 12), none⟩,
    ⟨(some 14), .bin .neq (.tmp 11) (.tmp 13), none⟩] [])
  (.cond (.tmp 14) (.seq (.region false [⟨(some 6), .mov (.cst (.bool false)), none⟩] [])
  .ret) .skip))
  (.seq (.seq (.region false [⟨(some 15), .mov (.tmp 0), none⟩,
    ⟨(some 16), .lens false (.tmp 15), none⟩,
    ⟨(some 17), .mov (.cst (.int .i64 0)), none⟩] [])
  (.block 0 (.loop x34_l0)))
  (.seq (.region false [⟨(some 6), .mov (.cst (.bool true)), none⟩] [])
  .ret))))
/-- custos/ast.sameTerm -/
def x35 : XFn := XFn.mk 31 [.tmp 4] (.seq (.region false [⟨(some 2), .box (.tmp 0) 7, none⟩,
    ⟨(some 3), .box (.tmp 1) 7, none⟩,
    ⟨(some 4), .mov (.cst (.bool false)), none⟩] [])
  (.seq (.region false [⟨(some 5), .faddr (.tmp 2) 0, none⟩,
    ⟨(some 6), .load (.tmp 5) 1 false, none⟩,
    ⟨(some 7), .faddr (.tmp 3) 0, none⟩,
    ⟨(some 8), .load (.tmp 7) 1 false, none⟩,
    ⟨(some 9), .bin .eql (.tmp 6) (.tmp 8), none⟩,
    ⟨(some 10), .mov (.tmp 9), none⟩,
    ⟨(some 11), .faddr (.tmp 2) 1, (some (10, true))⟩,
    ⟨(some 12), .load (.tmp 11) 1 false, (some (10, true))⟩,
    ⟨(some 13), .faddr (.tmp 3) 1, (some (10, true))⟩,
    ⟨(some 14), .load (.tmp 13) 1 false, (some (10, true))⟩,
    ⟨(some 15), .bin .eql (.tmp 12) (.tmp 14), (some (10, true))⟩,
    ⟨(some 16), .pick (.tmp 10) (.tmp 15) (.cst (.bool false)), none⟩,
    ⟨(some 17), .mov (.tmp 16), none⟩,
    ⟨(some 18), .faddr (.tmp 2) 2, (some (17, true))⟩,
    ⟨(some 19), .load (.tmp 18) 4 true, (some (17, true))⟩,
    ⟨(some 20), .faddr (.tmp 3) 2, (some (17, true))⟩,
    ⟨(some 21), .load (.tmp 20) 4 true, (some (17, true))⟩,
    ⟨(some 22), .callq 51 [.tmp 19, .tmp 21], (some (17, true))⟩,
    ⟨(some 23), .pick (.tmp 17) (.tmp 22) (.cst (.bool false)), none⟩,
    ⟨(some 24), .mov (.tmp 23), none⟩,
    ⟨(some 25), .faddr (.tmp 2) 6, (some (24, true))⟩,
    ⟨(some 26), .load (.tmp 25) 1 false, (some (24, true))⟩,
    ⟨(some 27), .faddr (.tmp 3) 6, (some (24, true))⟩,
    ⟨(some 28), .load (.tmp 27) 1 false, (some (24, true))⟩,
    ⟨(some 29), .callw 34 [.tmp 26, .tmp 28, .cst (.fn 35 [] [])], (some (24, true))⟩,
    ⟨(some 30), .pick (.tmp 24) (.tmp 29) (.cst (.bool false)), none⟩,
    ⟨(some 4), .own 30, none⟩] [])
  .ret))
def x36_l0 : XCode := .seq (.region false [⟨(some 18), .bin .lss (.tmp 17) (.tmp 16), none⟩] [])
  (.seq (.cond (.tmp 18) .skip (.exit 0))
  (.seq (.block 1 (.seq (.region false [⟨(some 19), .mov (.tmp 17), none⟩,
    ⟨(some 20), .iaddr 3 (.tmp 15) (.tmp 17), none⟩,
    ⟨(some 21), .load (.tmp 20) 3 true, none⟩,
    ⟨(some 8), .alloc [.int .i64 0, .nilsl, .nilsl], none⟩,
    ⟨(some 7), .own 19, none⟩,
    ⟨none, .store (.tmp 8) (.tmp 21) 3, none⟩] [])
  (.seq (.region false [⟨(some 22), .mov (.tmp 1), none⟩,
    ⟨(some 23), .mov (.tmp 7), none⟩,
    ⟨(some 24), .iaddr 3 (.tmp 22) (.tmp 23), none⟩,
    ⟨(some 25), .load (.tmp 24) 3 true, none⟩,
    ⟨(some 9), .alloc [.int .i64 0, .nilsl, .nilsl], none⟩,
    ⟨none, .store (.tmp 9) (.tmp 25) 3, none⟩] [])
  (.seq (.region false [⟨(some 26), .mov (.tmp 2), none⟩,
    ⟨(some 27), .load (.tmp 8) 3 true, none⟩,
    ⟨(some 28), .load (.tmp 9) 3 true, none⟩,
    ⟨(some 29), .calld (.tmp 26) [.tmp 27, .tmp 28], none⟩,
    ⟨(some 30), .not (.tmp 29), none⟩] [])
  (.cond (.tmp 30) (.seq (.region false [⟨(some 6), .mov (.cst (.bool false)), none⟩] [])
  .ret) .skip)))))
  (.region false [⟨(some 31), .bin .add (.tmp 17) (.cst (.int .i64 1)), none⟩,
    ⟨(some 17), .mov (.tmp 31), none⟩] [])))
/-- slices.EqualFunc[[]custos/api.Regex,[]custos/api.Regex,custos/api.Regex,custos/api.Regex] -/
def x36 : XFn := XFn.mk 32 [.tmp 6] (.seq (.region false [⟨(some 6), .mov (.cst (.bool false)), none⟩] [])
  (.seq (.seq (.region false [⟨(some 10), .mov (.tmp 0), none⟩,
    ⟨(some 11), .lens false (.tmp 10), none⟩,
    ⟨(some 12), .mov (.tmp 1), none⟩,
    ⟨(some 13), .lens false (.tmp 12), none⟩,
    ⟨(some 14), .bin .neq (.tmp 11) (.tmp 13), none⟩] [])
  (.cond (.tmp 14) (.seq (.region false [⟨(some 6), .mov (.cst (.bool false)), none⟩] [])
  .ret) .skip))
  (.seq (.seq (.region false [⟨(some 15), .mov (.tmp 0), none⟩,
    ⟨(some 16), .lens false (.tmp 15), none⟩,
    ⟨(some 17), .mov (.cst (.int .i64 0)), none⟩] [])
  (.block 0 (.loop x36_l0)))
  (.seq (.region false [⟨(some 6), .mov (.cst (.bool true)), none⟩] [])
  .ret))))
/-- custos/ast.sameRegex -/
def x37 : XFn := XFn.mk 24 [.tmp 4] (.seq (.region false [⟨(some 2), .box (.tmp 0) 3, none⟩,
    ⟨(some 3), .box (.tmp 1) 3, none⟩,
    ⟨(some 4), .mov (.cst (.bool false)), none⟩] [])
  (.seq (.region false [⟨(some 5), .faddr (.tmp 2) 0, none⟩,
    ⟨(some 6), .load (.tmp 5) 1 false, none⟩,
    ⟨(some 7), .faddr (.tmp 3) 0, none⟩,
    ⟨(some 8), .load (.tmp 7) 1 false, none⟩,
    ⟨(some 9), .bin .eql (.tmp 6) (.tmp 8), none⟩,
    ⟨(some 10), .mov (.tmp 9), none⟩,
    ⟨(some 11), .faddr (.tmp 2) 1, (some (10, true))⟩,
    ⟨(some 12), .load (.tmp 11) 1 false, (some (10, true))⟩,
    ⟨(some 13), .faddr (.tmp 3) 1, (some (10, true))⟩,
    ⟨(some 14), .load (.tmp 13) 1 false, (some (10, true))⟩,
    ⟨(some 15), .callw 38 [.tmp 12, .tmp 14, .cst (.fn 13 [] [])], (some (10, true))⟩,
    ⟨(some 16), .pick (.tmp 10) (.tmp 15) (.cst (.bool false)), none⟩,
    ⟨(some 17), .mov (.tmp 16), none⟩,
    ⟨(some 18), .faddr (.tmp 2) 2, (some (17, true))⟩,
    ⟨(some 19), .load (.tmp 18) 1 false, (some (17, true))⟩,
    ⟨(some 20), .faddr (.tmp 3) 2, (some (17, true))⟩,
    ⟨(some 21), .load (.tmp 20) 1 false, (some (17, true))⟩,
    ⟨(some 22), .callw 36 [.tmp 19, .tmp 21, .cst (.fn 37 [] [])], (some (17, true))⟩,
    ⟨(some 23), .pick (.tmp 17) (.tmp 22) (.cst (.bool false)), none⟩,
    ⟨(some 4), .own 23, none⟩] [])
  .ret))
def x38_l0 : XCode := .seq (.region false [⟨(some 18), .bin .lss (.tmp 17) (.tmp 16), none⟩] [])
  (.seq (.cond (.tmp 18) .skip (.exit 0))
  (.seq (.block 1 (.seq (.region false [⟨(some 19), .mov (.tmp 17), none⟩,
    ⟨(some 20), .iaddr 10 (.tmp 15) (.tmp 17), none⟩,
    ⟨(some 21), .load (.tmp 20) 10 true, none⟩,
    ⟨(some 8), .alloc [.int .i64 0, .str [], .int .i64 0, .nilsl, .nilsl, .int .i64 0, .int .i64 0, .bool false, .nilsl, .nilsl], none⟩,
    ⟨(some 7), .own 19, none⟩,
    ⟨none, .store (.tmp 8) (.tmp 21) 10, none⟩] [])
  (.seq (.region false [⟨(some 22), .mov (.tmp 1), none⟩,
    ⟨(some 23), .mov (.tmp 7), none⟩,
    ⟨(some 24), .iaddr 10 (.tmp 22) (.tmp 23), none⟩,
    ⟨(some 25), .load (.tmp 24) 10 true, none⟩,
    ⟨(some 9), .alloc [.int .i64 0, .str [], .int .i64 0, .nilsl, .nilsl, .int .i64 0, .int .i64 0, .bool false, .nilsl, .nilsl], none⟩,
    ⟨none, .store (.tmp 9) (.tmp 25) 10, none⟩] [])
  (.seq (.region false [⟨(some 26), .mov (.tmp 2), none⟩,
    ⟨(some 27), .load (.tmp 8) 10 true, none⟩,
    ⟨(some 28), .load (.tmp 9) 10 true, none⟩,
    ⟨(some 29), .calld (.tmp 26) [.tmp 27, .tmp 28], none⟩,
    ⟨(some 30), .not (.tmp 29), none⟩] [])
  (.cond (.tmp 30) (.seq (.region false [⟨(some 6), .mov (.cst (.bool false)), none⟩] [])
  .ret) .skip)))))
  (.region false [⟨(some 31), .bin .add (.tmp 17) (.cst (.int .i64 1)), none⟩,
    ⟨(some 17), .mov (.tmp 31), none⟩] [])))
/-- slices.EqualFunc[[]custos/api.Formula,[]custos/api.Formula,custos/api.Formula,custos/api.Formula] -/
def x38 : XFn := XFn.mk 32 [.tmp 6] (.seq (.region false [⟨(some 6), .mov (.cst (.bool false)), none⟩] [])
  (.seq (.seq (.region false [⟨(some 10), .mov (.tmp 0), none⟩,
    ⟨(some 11), .lens false (.tmp 10), none⟩,
    ⟨(some 12), .mov (.tmp 1), none⟩,
    ⟨(some 13), .lens false (.tmp 12), none⟩,
    ⟨(some 14), .bin .neq (.tmp 11) (.tmp 13), none⟩] [])
  (.cond (.tmp 14) (.seq (.region false [⟨(some 6), .mov (.cst (.bool false)), none⟩] [])
  .ret) .skip))
  (.seq (.seq (.region false [⟨(some 15), .mov (.tmp 0), none⟩,
    ⟨(some 16), .lens false (.tmp 15), none⟩,
    ⟨(some 17), .mov (.cst (.int .i64 0)), none⟩] [])
  (.block 0 (.loop x38_l0)))
  (.seq (.region false [⟨(some 6), .mov (.cst (.bool true)), none⟩] [])
  .ret))))
/-- slices.Clone[[]string,string] -/
def x39 : XFn := XFn.mk 8 [.tmp 2] (.seq (.region false [⟨(some 2), .mov (.cst .nilsl), none⟩] [])
  (.seq (.seq (.region false [⟨(some 3), .mov (.tmp 0), none⟩,
    ⟨(some 4), .eqnil 1 false (.tmp 3), none⟩] [])
  (.cond (.tmp 4) (.seq (.region false [⟨(some 2), .mov (.cst .nilsl), none⟩] [])
  .ret) .skip))
  (.seq (.region false [⟨(some 5), .bslice 1 [] [], none⟩,
    ⟨(some 6), .mov (.tmp 0), none⟩,
    ⟨(some 7), .app true 1 16 5 (.tmp 6), none⟩,
    ⟨(some 2), .own 7, none⟩] [])
  .ret)))
def x40_l0 : XCode := .seq (.region false [⟨(some 11), .bin .lss (.tmp 10) (.tmp 9), none⟩] [])
  (.seq (.cond (.tmp 11) .skip (.exit 0))
  (.seq (.block 1 (.seq (.region false [⟨(some 12), .iaddr 7 (.tmp 8) (.tmp 10), none⟩,
    ⟨(some 13), .load (.tmp 12) 7 true, none⟩,
    ⟨(some 7), .alloc [.int .i64 0, .str [], .int .i64 0, .int .i64 0, .int .i64 0, .str [], .nilsl], none⟩,
    ⟨none, .store (.tmp 7) (.tmp 13) 7, none⟩] [])
  (.region false [⟨(some 14), .own 5, none⟩,
    ⟨(some 15), .mov (.tmp 1), none⟩,
    ⟨(some 16), .load (.tmp 7) 7 true, none⟩,
    ⟨(some 17), .calld (.tmp 15) [.tmp 16], none⟩,
    ⟨(some 18), .bslice 7 [.int .i64 0, .str [], .int .i64 0, .int .i64 0, .int .i64 0, .str [], .nilsl] [(0, 7, .tmp 17)], none⟩,
    ⟨(some 19), .app false 7 88 14 (.tmp 18), none⟩,
    ⟨(some 5), .own 19, none⟩] [])))
  (.region false [⟨(some 20), .bin .add (.tmp 10) (.cst (.int .i64 1)), none⟩,
    ⟨(some 10), .mov (.tmp 20), none⟩] [])))
/-- custos/ast.each[custos/api.Term] -/
def x40 : XFn := XFn.mk 22 [.tmp 4] (.seq (.region false [⟨(some 4), .mov (.cst .nilsl), none⟩] [])
  (.seq (.region false [⟨(some 5), .mov (.cst .nilsl), none⟩] [])
  (.seq (.seq (.region false [⟨(some 8), .mov (.tmp 0), none⟩,
    ⟨(some 9), .lens false (.tmp 8), none⟩,
    ⟨(some 10), .mov (.cst (.int .i64 0)), none⟩] [])
  (.block 0 (.loop x40_l0)))
  (.seq (.region false [⟨(some 21), .mov (.tmp 5), none⟩,
    ⟨(some 4), .own 21, none⟩] [])
  .ret))))
/-- custos/ast.cloneTerm -/
def x41 : XFn := XFn.mk 8 [.cell 2 7 true] (.seq (.region false [⟨(some 1), .box (.tmp 0) 7, none⟩,
    ⟨(some 2), .alloc [.int .i64 0, .str [], .int .i64 0, .int .i64 0, .int .i64 0, .str [], .nilsl], none⟩] [])
  (.seq (.region false [⟨(some 3), .faddr (.tmp 1) 6, none⟩,
    ⟨(some 4), .load (.tmp 3) 1 false, none⟩,
    ⟨(some 5), .callw 40 [.tmp 4, .cst (.fn 41 [] [])], none⟩,
    ⟨(some 6), .faddr (.tmp 1) 6, none⟩,
    ⟨none, .store (.tmp 6) (.tmp 5) 1, none⟩] [])
  (.seq (.region false [⟨(some 7), .load (.tmp 1) 7 true, none⟩,
    ⟨none, .store (.tmp 2) (.tmp 7) 7, none⟩] [])
  .ret)))
def x42_l0 : XCode := .seq (.region false [⟨(some 11), .bin .lss (.tmp 10) (.tmp 9), none⟩] [])
  (.seq (.cond (.tmp 11) .skip (.exit 0))
  (.seq (.block 1 (.seq (.region false [⟨(some 12), .iaddr 3 (.tmp 8) (.tmp 10), none⟩,
    ⟨(some 13), .load (.tmp 12) 3 true, none⟩,
    ⟨(some 7), .alloc [.int .i64 0, .nilsl, .nilsl], none⟩,
    ⟨none, .store (.tmp 7) (.tmp 13) 3, none⟩] [])
  (.region false [⟨(some 14), .own 5, none⟩,
    ⟨(some 15), .mov (.tmp 1), none⟩,
    ⟨(some 16), .load (.tmp 7) 3 true, none⟩,
    ⟨(some 17), .calld (.tmp 15) [.tmp 16], none⟩,
    ⟨(some 18), .bslice 3 [.int .i64 0, .nilsl, .nilsl] [(0, 3, .tmp 17)], none⟩,
    ⟨(some 19), .app false 3 56 14 (.tmp 18), none⟩,
    ⟨(some 5), .own 19, none⟩] [])))
  (.region false [⟨(some 20), .bin .add (.tmp 10) (.cst (.int .i64 1)), none⟩,
    ⟨(some 10), .mov (.tmp 20), none⟩] [])))
/-- custos/ast.each[custos/api.Regex] -/
def x42 : XFn := XFn.mk 22 [.tmp 4] (.seq (.region false [⟨(some 4), .mov (.cst .nilsl), none⟩] [])
  (.seq (.region false [⟨(some 5), .mov (.cst .nilsl), none⟩] [])
  (.seq (.seq (.region false [⟨(some 8), .mov (.tmp 0), none⟩,
    ⟨(some 9), .lens false (.tmp 8), none⟩,
    ⟨(some 10), .mov (.cst (.int .i64 0)), none⟩] [])
  (.block 0 (.loop x42_l0)))
  (.seq (.region false [⟨(some 21), .mov (.tmp 5), none⟩,
    ⟨(some 4), .own 21, none⟩] [])
  .ret))))
/-- custos/ast.cloneRegex -/
def x43 : XFn := XFn.mk 12 [.cell 2 3 true] (.seq (.region false [⟨(some 1), .box (.tmp 0) 3, none⟩,
    ⟨(some 2), .alloc [.int .i64 0, .nilsl, .nilsl], none⟩] [])
  (.seq (.region false [⟨(some 3), .faddr (.tmp 1) 1, none⟩,
    ⟨(some 4), .load (.tmp 3) 1 false, none⟩,
    ⟨(some 5), .callw 44 [.tmp 4, .cst (.fn 14 [] [])], none⟩,
    ⟨(some 6), .faddr (.tmp 1) 1, none⟩,
    ⟨none, .store (.tmp 6) (.tmp 5) 1, none⟩] [])
  (.seq (.region false [⟨(some 7), .faddr (.tmp 1) 2, none⟩,
    ⟨(some 8), .load (.tmp 7) 1 false, none⟩,
    ⟨(some 9), .callw 42 [.tmp 8, .cst (.fn 43 [] [])], none⟩,
    ⟨(some 10), .faddr (.tmp 1) 2, none⟩,
    ⟨none, .store (.tmp 10) (.tmp 9) 1, none⟩] [])
  (.seq (.region false [⟨(some 11), .load (.tmp 1) 3 true, none⟩,
    ⟨none, .store (.tmp 2) (.tmp 11) 3, none⟩] [])
  .ret))))
def x44_l0 : XCode := .seq (.region false [⟨(some 11), .bin .lss (.tmp 10) (.tmp 9), none⟩] [])
  (.seq (.cond (.tmp 11) .skip (.exit 0))
  (.seq (.block 1 (.seq (.region false [⟨(some 12), .iaddr 10 (.tmp 8) (.tmp 10), none⟩,
    ⟨(some 13), .load (.tmp 12) 10 true, none⟩,
    ⟨(some 7), .alloc [.int .i64 0, .str [], .int .i64 0, .nilsl, .nilsl, .int .i64 0, .int .i64 0, .bool false, .nilsl, .nilsl], none⟩,
    ⟨none, .store (.tmp 7) (.tmp 13) 10, none⟩] [])
  (.region false [⟨(some 14), .own 5, none⟩,
    ⟨(some 15), .mov (.tmp 1), none⟩,
    ⟨(some 16), .load (.tmp 7) 10 true, none⟩,
    ⟨(some 17), .calld (.tmp 15) [.tmp 16], none⟩,
    ⟨(some 18), .bslice 10 [.int .i64 0, .str [], .int .i64 0, .nilsl, .nilsl, .int .i64 0, .int .i64 0, .bool false, .nilsl, .nilsl] [(0, 10, .tmp 17)], none⟩,
    ⟨(some 19), .app false 10 152 14 (.tmp 18), none⟩,
    ⟨(some 5), .own 19, none⟩] [])))
  (.region false [⟨(some 20), .bin .add (.tmp 10) (.cst (.int .i64 1)), none⟩,
    ⟨(some 10), .mov (.tmp 20), none⟩] [])))
/-- custos/ast.each[custos/api.Formula] -/
def x44 : XFn := XFn.mk 22 [.tmp 4] (.seq (.region false [⟨(some 4), .mov (.cst .nilsl), none⟩] [])
  (.seq (.region false [⟨(some 5), .mov (.cst .nilsl), none⟩] [])
  (.seq (.seq (.region false [⟨(some 8), .mov (.tmp 0), none⟩,
    ⟨(some 9), .lens false (.tmp 8), none⟩,
    ⟨(some 10), .mov (.cst (.int .i64 0)), none⟩] [])
  (.block 0 (.loop x44_l0)))
  (.seq (.region false [⟨(some 21), .mov (.tmp 5), none⟩,
    ⟨(some 4), .own 21, none⟩] [])
  .ret))))
def x45_l0 : XCode := .seq (.region false [⟨(some 14), .bin .lss (.tmp 13) (.tmp 12), none⟩] [])
  (.seq (.cond (.tmp 14) .skip (.exit 0))
  (.seq (.block 1 (.seq (.region false [⟨(some 15), .iaddr 7 (.tmp 11) (.tmp 13), none⟩,
    ⟨(some 16), .load (.tmp 15) 7 true, none⟩,
    ⟨(some 5), .alloc [.int .i64 0, .str [], .int .i64 0, .int .i64 0, .int .i64 0, .str [], .nilsl], none⟩,
    ⟨none, .store (.tmp 5) (.tmp 16) 7, none⟩] [])
  (.region false [⟨(some 17), .own 2, none⟩,
    ⟨(some 18), .load (.tmp 5) 7 true, none⟩,
    ⟨(some 19), .callq 20 [.tmp 18], none⟩,
    ⟨(some 20), .app true 1 16 17 (.tmp 19), none⟩,
    ⟨(some 2), .own 20, none⟩] [])))
  (.region false [⟨(some 21), .bin .add (.tmp 13) (.cst (.int .i64 1)), none⟩,
    ⟨(some 13), .mov (.tmp 21), none⟩] [])))
def x45_l1 : XCode := .seq (.region false [⟨(some 26), .bin .lss (.tmp 25) (.tmp 24), none⟩] [])
  (.seq (.cond (.tmp 26) .skip (.exit 2))
  (.seq (.block 3 (.seq (.region false [⟨(some 27), .mov (.tmp 25), none⟩,
    ⟨(some 28), .iaddr 10 (.tmp 23) (.tmp 25), none⟩,
    ⟨(some 29), .load (.tmp 28) 10 true, none⟩,
    ⟨(some 7), .alloc [.int .i64 0, .str [], .int .i64 0, .nilsl, .nilsl, .int .i64 0, .int .i64 0, .bool false, .nilsl, .nilsl], none⟩,
    ⟨(some 6), .own 27, none⟩,
    ⟨none, .store (.tmp 7) (.tmp 29) 10, none⟩] [])
  (.seq (.region false [⟨(some 31), .load (.tmp 7) 10 true, none⟩,
    ⟨(some 32), .callq 45 [.tmp 31], none⟩,
    ⟨(some 30), .mov (.tmp 32), none⟩,
    ⟨(some 33), .ext 30 0, none⟩,
    ⟨(some 34), .ext 30 1, none⟩,
    ⟨(some 8), .own 33, none⟩,
    ⟨(some 9), .own 34, none⟩] [])
  (.seq (.region false [⟨(some 35), .mov (.tmp 3), none⟩,
    ⟨(some 36), .mov (.tmp 9), none⟩,
    ⟨(some 37), .mx (.tmp 35) (.tmp 36), none⟩,
    ⟨(some 3), .own 37, none⟩] [])
  (.seq (.region false [⟨(some 38), .faddr (.tmp 1) 0, none⟩,
    ⟨(some 39), .load (.tmp 38) 1 false, none⟩,
    ⟨(some 40), .bin .neq (.tmp 39) (.cst (.int .i64 19)), none⟩,
    ⟨(some 41), .mov (.tmp 40), none⟩,
    ⟨(some 42), .faddr (.tmp 1) 0, (some (41, true))⟩,
    ⟨(some 43), .load (.tmp 42) 1 false, (some (41, true))⟩,
    ⟨(some 44), .bin .neq (.tmp 43) (.cst (.int .i64 20)), (some (41, true))⟩,
    ⟨(some 45), .mov (.tmp 44), (some (41, true))⟩,
    ⟨(some 46), .faddr (.tmp 1) 0, (some (45, true))⟩,
    ⟨(some 47), .load (.tmp 46) 1 false, (some (45, true))⟩,
    ⟨(some 48), .bin .neq (.tmp 47) (.cst (.int .i64 21)), (some (45, true))⟩,
    ⟨(some 49), .pick (.tmp 45) (.tmp 48) (.cst (.bool false)), (some (41, true))⟩,
    ⟨(some 50), .mov (.tmp 49), (some (41, true))⟩,
    ⟨(some 51), .mov (.tmp 6), (some (50, false))⟩,
    ⟨(some 52), .bin .eql (.tmp 51) (.cst (.int .i64 1)), (some (50, false))⟩,
    ⟨(some 53), .pick (.tmp 50) (.cst (.bool true)) (.tmp 52), (some (41, true))⟩,
    ⟨(some 54), .pick (.tmp 41) (.tmp 53) (.cst (.bool false)), none⟩] [])
  (.cond (.tmp 54) (.region false [⟨(some 55), .own 2, none⟩,
    ⟨(some 56), .mov (.tmp 8), none⟩,
    ⟨(some 57), .app true 1 16 55 (.tmp 56), none⟩,
    ⟨(some 2), .own 57, none⟩] []) .skip))))))
  (.region false [⟨(some 58), .bin .add (.tmp 25) (.cst (.int .i64 1)), none⟩,
    ⟨(some 25), .mov (.tmp 58), none⟩] [])))
/-- custos/ast.free -/
def x45 : XFn := XFn.mk 83 [.tmp 2, .tmp 3] (.seq (.region false [⟨(some 1), .box (.tmp 0) 10, none⟩,
    ⟨(some 2), .mov (.cst .nilsl), none⟩,
    ⟨(some 3), .mov (.cst (.int .i64 0)), none⟩] [])
  (.seq (.seq (.region false [⟨(some 10), .faddr (.tmp 1) 4, none⟩,
    ⟨(some 11), .load (.tmp 10) 1 false, none⟩,
    ⟨(some 12), .lens false (.tmp 11), none⟩,
    ⟨(some 13), .mov (.cst (.int .i64 0)), none⟩] [])
  (.block 0 (.loop x45_l0)))
  (.seq (.seq (.region false [⟨(some 22), .load (.tmp 1) 10 true, none⟩,
    ⟨(some 23), .callq 47 [.tmp 22], none⟩,
    ⟨(some 24), .lens false (.tmp 23), none⟩,
    ⟨(some 25), .mov (.cst (.int .i64 0)), none⟩] [])
  (.block 2 (.loop x45_l1)))
  (.seq (.seq (.region false [⟨(some 59), .faddr (.tmp 1) 0, none⟩,
    ⟨(some 60), .load (.tmp 59) 1 false, none⟩] [])
  (.block 4 (.seq (.region false [⟨(some 62), .bin .eql (.tmp 60) (.cst (.int .i64 19)), none⟩,
    ⟨(some 61), .own 62, none⟩] [])
  (.cond (.tmp 61) (.region true [⟨(some 63), .faddr (.tmp 1) 3, none⟩,
    ⟨(some 64), .load (.tmp 63) 1 false, none⟩,
    ⟨(some 65), .ssl 1 (.tmp 64) (some (.cst (.int .i64 1))) none none, none⟩,
    ⟨(some 66), .callq 39 [.tmp 65], none⟩,
    ⟨(some 67), .faddr (.tmp 1) 1, none⟩,
    ⟨(some 68), .load (.tmp 67) 1 false, none⟩,
    ⟨(some 69), .bslice 1 [.str []] [(0, 1, .tmp 68)], none⟩,
    ⟨(some 70), .app true 1 16 66 (.tmp 69), none⟩,
    ⟨(some 2), .own 70, none⟩] []) (.seq (.region false [⟨(some 72), .bin .eql (.tmp 60) (.cst (.int .i64 10)), none⟩,
    ⟨(some 71), .own 72, none⟩] [])
  (.cond (.tmp 71) (.region false [⟨(some 73), .mov (.tmp 2), none⟩,
    ⟨(some 74), .mkfn 53 [] [.tmp 1], none⟩,
    ⟨(some 75), .callw 52 [.tmp 73, .tmp 74], none⟩,
    ⟨(some 2), .own 75, none⟩] []) .skip))))))
  (.seq (.region false [⟨(some 76), .own 2, none⟩,
    ⟨(some 77), .primm 100 46 76, none⟩,
    ⟨(some 2), .ownd 77, none⟩] [])
  (.seq (.region false [⟨(some 78), .mov (.tmp 2), none⟩,
    ⟨(some 79), .mov (.tmp 3), none⟩,
    ⟨(some 80), .mov (.tmp 2), none⟩,
    ⟨(some 81), .lens false (.tmp 80), none⟩,
    ⟨(some 82), .mx (.tmp 79) (.tmp 81), none⟩,
    ⟨(some 2), .own 78, none⟩,
    ⟨(some 3), .own 82, none⟩] [])
  .ret))))))
/-- custos/ast.parts -/
def x47 : XFn := XFn.mk 14 [.tmp 2] (.seq (.region false [⟨(some 1), .box (.tmp 0) 10, none⟩,
    ⟨(some 2), .mov (.cst .nilsl), none⟩] [])
  (.seq (.seq (.region false [⟨(some 3), .faddr (.tmp 1) 9, none⟩,
    ⟨(some 4), .load (.tmp 3) 1 false, none⟩,
    ⟨(some 5), .lens false (.tmp 4), none⟩,
    ⟨(some 6), .bin .gtr (.tmp 5) (.cst (.int .i64 0)), none⟩] [])
  (.cond (.tmp 6) (.seq (.region false [⟨(some 7), .faddr (.tmp 1) 9, none⟩,
    ⟨(some 8), .load (.tmp 7) 1 false, none⟩,
    ⟨(some 9), .iaddr 3 (.tmp 8) (.cst (.int .i64 0)), none⟩,
    ⟨(some 10), .load (.tmp 9) 3 true, none⟩,
    ⟨(some 11), .callq 57 [.tmp 10], none⟩,
    ⟨(some 2), .own 11, none⟩] [])
  .ret) .skip))
  (.seq (.region false [⟨(some 12), .faddr (.tmp 1) 8, none⟩,
    ⟨(some 13), .load (.tmp 12) 1 false, none⟩,
    ⟨(some 2), .own 13, none⟩] [])
  .ret)))
/-- (*custos/ast.walk).formula -/
def x48 : XFn := XFn.mk 105 [] (.seq (.region false [⟨(some 4), .box (.tmp 1) 10, none⟩] [])
  (.seq (.seq (.region false [⟨(some 8), .mov (.tmp 0), none⟩,
    ⟨(some 9), .mov (.tmp 2), none⟩,
    ⟨(some 10), .callw 58 [.tmp 8, .tmp 9], none⟩,
    ⟨(some 11), .not (.tmp 10), none⟩,
    ⟨(some 12), .mov (.tmp 11), none⟩,
    ⟨(some 13), .mov (.tmp 0), (some (12, false))⟩,
    ⟨(some 14), .faddr (.tmp 4) 0, (some (12, false))⟩,
    ⟨(some 15), .load (.tmp 14) 1 false, (some (12, false))⟩,
    ⟨(some 16), .bin .geq (.tmp 15) (.cst (.int .i64 1)), (some (12, false))⟩,
    ⟨(some 17), .mov (.tmp 16), (some (12, false))⟩,
    ⟨(some 18), .faddr (.tmp 4) 0, (some (17, true))⟩,
    ⟨(some 19), .load (.tmp 18) 1 false, (some (17, true))⟩,
    ⟨(some 20), .bin .leq (.tmp 19) (.cst (.int .i64 22)), (some (17, true))⟩,
    ⟨(some 21), .pick (.tmp 17) (.tmp 20) (.cst (.bool false)), (some (12, false))⟩,
    ⟨(some 22), .callw 49 [.tmp 13, .tmp 21, .cst (.int .i64 20)], (some (12, false))⟩,
    ⟨(some 23), .not (.tmp 22), (some (12, false))⟩,
    ⟨(some 24), .pick (.tmp 12) (.cst (.bool true)) (.tmp 23), none⟩] [])
  (.cond (.tmp 24) .ret .skip))
  (.seq (.region false [⟨(some 26), .faddr (.tmp 4) 0, none⟩,
    ⟨(some 27), .load (.tmp 26) 1 false, none⟩,
    ⟨(some 28), .callq 59 [.tmp 27], none⟩,
    ⟨(some 25), .mov (.tmp 28), none⟩,
    ⟨(some 29), .ext 25 0, none⟩,
    ⟨(some 30), .ext 25 1, none⟩,
    ⟨(some 6), .own 29, none⟩,
    ⟨(some 7), .own 30, none⟩] [])
  (.seq (.region false [⟨(some 31), .mov (.tmp 0), none⟩,
    ⟨(some 32), .mov (.tmp 6), none⟩,
    ⟨(some 33), .bin .eql (.tmp 32) (.cst (.int .i64 0)), none⟩,
    ⟨(some 34), .mov (.tmp 33), none⟩,
    ⟨(some 35), .faddr (.tmp 4) 4, (some (34, false))⟩,
    ⟨(some 36), .load (.tmp 35) 1 false, (some (34, false))⟩,
    ⟨(some 37), .lens false (.tmp 36), (some (34, false))⟩,
    ⟨(some 38), .mov (.tmp 6), (some (34, false))⟩,
    ⟨(some 39), .bin .leq (.tmp 37) (.tmp 38), (some (34, false))⟩,
    ⟨(some 40), .pick (.tmp 34) (.cst (.bool true)) (.tmp 39), none⟩,
    ⟨(some 41), .callw 49 [.tmp 31, .tmp 40, .cst (.int .i64 3)], none⟩] [])
  (.seq (.region false [⟨(some 42), .mov (.tmp 0), none⟩,
    ⟨(some 43), .mov (.tmp 7), none⟩,
    ⟨(some 44), .bin .eql (.tmp 43) (.cst (.int .i64 0)), none⟩,
    ⟨(some 45), .mov (.tmp 44), none⟩,
    ⟨(some 46), .faddr (.tmp 4) 3, (some (45, false))⟩,
    ⟨(some 47), .load (.tmp 46) 1 false, (some (45, false))⟩,
    ⟨(some 48), .lens false (.tmp 47), (some (45, false))⟩,
    ⟨(some 49), .mov (.tmp 7), (some (45, false))⟩,
    ⟨(some 50), .bin .leq (.tmp 48) (.tmp 49), (some (45, false))⟩,
    ⟨(some 51), .pick (.tmp 45) (.cst (.bool true)) (.tmp 50), none⟩,
    ⟨(some 52), .callw 49 [.tmp 42, .tmp 51, .cst (.int .i64 3)], none⟩] [])
  (.seq (.region false [⟨(some 53), .mov (.tmp 0), none⟩,
    ⟨(some 54), .load (.tmp 4) 10 true, none⟩,
    ⟨(some 55), .callq 60 [.tmp 54], none⟩,
    ⟨(some 56), .callw 49 [.tmp 53, .tmp 55, .cst (.int .i64 1)], none⟩] [])
  (.seq (.region false [⟨(some 57), .mov (.tmp 0), none⟩,
    ⟨(some 58), .faddr (.tmp 4) 3, none⟩,
    ⟨(some 59), .load (.tmp 58) 1 false, none⟩,
    ⟨(some 60), .callq 61 [.tmp 59], none⟩,
    ⟨(some 61), .not (.tmp 60), none⟩,
    ⟨(some 62), .callw 49 [.tmp 57, .tmp 61, .cst (.int .i64 30)], none⟩] [])
  (.seq (.seq (.region true [⟨(some 63), .mov (.tmp 0), none⟩,
    ⟨(some 64), .faddr (.tmp 4) 0, none⟩,
    ⟨(some 65), .load (.tmp 64) 1 false, none⟩,
    ⟨(some 66), .bin .neq (.tmp 65) (.cst (.int .i64 19)), none⟩,
    ⟨(some 67), .mov (.tmp 66), none⟩,
    ⟨(some 68), .faddr (.tmp 4) 3, (some (67, false))⟩,
    ⟨(some 69), .load (.tmp 68) 1 false, (some (67, false))⟩,
    ⟨(some 70), .lens false (.tmp 69), (some (67, false))⟩,
    ⟨(some 71), .bin .gtr (.tmp 70) (.cst (.int .i64 0)), (some (67, false))⟩,
    ⟨(some 72), .mov (.tmp 71), (some (67, false))⟩,
    ⟨(some 73), .faddr (.tmp 4) 3, (some (72, true))⟩,
    ⟨(some 74), .load (.tmp 73) 1 false, (some (72, true))⟩,
    ⟨(some 75), .ssl 1 (.tmp 74) (some (.cst (.int .i64 1))) none none, (some (72, true))⟩,
    ⟨(some 76), .faddr (.tmp 4) 1, (some (72, true))⟩,
    ⟨(some 77), .load (.tmp 76) 1 false, (some (72, true))⟩,
    ⟨(some 78), .callq 54 [.tmp 75, .tmp 77], (some (72, true))⟩,
    ⟨(some 79), .not (.tmp 78), (some (72, true))⟩,
    ⟨(some 80), .pick (.tmp 72) (.tmp 79) (.cst (.bool false)), (some (67, false))⟩,
    ⟨(some 81), .pick (.tmp 67) (.cst (.bool true)) (.tmp 80), none⟩,
    ⟨(some 82), .callw 49 [.tmp 63, .tmp 81, .cst (.int .i64 30)], none⟩,
    ⟨(some 83), .not (.tmp 82), none⟩] [])
  (.cond (.tmp 83) .ret .skip))
  (.seq (.region false [⟨(some 84), .mov (.tmp 0), none⟩,
    ⟨(some 85), .mkfn 63 [.tmp 84] [], none⟩,
    ⟨(some 86), .mov (.tmp 2), none⟩,
    ⟨(some 87), .bin .add (.tmp 86) (.cst (.int .i64 1)), none⟩,
    ⟨(some 88), .faddr (.tmp 4) 4, none⟩,
    ⟨(some 89), .load (.tmp 88) 1 false, none⟩,
    ⟨(some 90), .callw 62 [.tmp 85, .tmp 87, .tmp 89], none⟩] [])
  (.seq (.region false [⟨(some 91), .mov (.tmp 0), none⟩,
    ⟨(some 92), .mkfn 65 [.tmp 91] [], none⟩,
    ⟨(some 93), .mov (.tmp 2), none⟩,
    ⟨(some 94), .bin .add (.tmp 93) (.cst (.int .i64 1)), none⟩,
    ⟨(some 95), .faddr (.tmp 4) 9, none⟩,
    ⟨(some 96), .load (.tmp 95) 1 false, none⟩,
    ⟨(some 97), .callw 64 [.tmp 92, .tmp 94, .tmp 96], none⟩] [])
  (.region false [⟨(some 98), .mov (.tmp 0), none⟩,
    ⟨(some 99), .mkfn 48 [.tmp 98] [], none⟩,
    ⟨(some 100), .mov (.tmp 2), none⟩,
    ⟨(some 101), .bin .add (.tmp 100) (.cst (.int .i64 1)), none⟩,
    ⟨(some 102), .faddr (.tmp 4) 8, none⟩,
    ⟨(some 103), .load (.tmp 102) 1 false, none⟩,
    ⟨(some 104), .callw 66 [.tmp 99, .tmp 101, .tmp 103], none⟩] [])))))))))))
/-- (*custos/ast.walk).must -/
def x49 : XFn := XFn.mk 25 [.tmp 6] (.seq (.region false [⟨(some 6), .mov (.cst (.bool false)), none⟩] [])
  (.seq (.seq (.region false [⟨(some 7), .mov (.tmp 1), none⟩,
    ⟨(some 8), .not (.tmp 7), none⟩,
    ⟨(some 9), .mov (.tmp 8), none⟩,
    ⟨(some 10), .mov (.tmp 0), (some (9, true))⟩,
    ⟨(some 11), .nilck (.tmp 10), (some (9, true))⟩,
    ⟨(some 12), .faddr (.tmp 11) 2, (some (9, true))⟩,
    ⟨(some 13), .load (.tmp 12) 1 false, (some (9, true))⟩,
    ⟨(some 14), .bin .eql (.tmp 13) (.cst (.int .i64 0)), (some (9, true))⟩,
    ⟨(some 15), .pick (.tmp 9) (.tmp 14) (.cst (.bool false)), none⟩] [])
  (.cond (.tmp 15) (.region false [⟨(some 16), .mov (.tmp 0), none⟩,
    ⟨(some 17), .mov (.tmp 2), none⟩,
    ⟨(some 18), .nilck (.tmp 16), none⟩,
    ⟨(some 19), .faddr (.tmp 18) 2, none⟩,
    ⟨none, .store (.tmp 19) (.tmp 17) 1, none⟩] []) .skip))
  (.seq (.region false [⟨(some 20), .mov (.tmp 0), none⟩,
    ⟨(some 21), .nilck (.tmp 20), none⟩,
    ⟨(some 22), .faddr (.tmp 21) 2, none⟩,
    ⟨(some 23), .load (.tmp 22) 1 false, none⟩,
    ⟨(some 24), .bin .eql (.tmp 23) (.cst (.int .i64 0)), none⟩,
    ⟨(some 6), .own 24, none⟩] [])
  .ret)))
/-- custos/custosref06.SameTerm -/
def x50 : XFn := XFn.mk 33 [.tmp 4] (.seq (.region false [⟨(some 2), .box (.tmp 0) 7, none⟩,
    ⟨(some 3), .box (.tmp 1) 7, none⟩,
    ⟨(some 4), .mov (.cst (.bool false)), none⟩] [])
  (.seq (.region false [⟨(some 6), .faddr (.tmp 2) 2, none⟩,
    ⟨(some 7), .load (.tmp 6) 4 true, none⟩,
    ⟨(some 8), .faddr (.tmp 3) 2, none⟩,
    ⟨(some 9), .load (.tmp 8) 4 true, none⟩,
    ⟨(some 10), .callq 67 [.tmp 7, .tmp 9], none⟩,
    ⟨(some 5), .own 10, none⟩] [])
  (.seq (.region false [⟨(some 11), .faddr (.tmp 2) 0, none⟩,
    ⟨(some 12), .load (.tmp 11) 1 false, none⟩,
    ⟨(some 13), .faddr (.tmp 3) 0, none⟩,
    ⟨(some 14), .load (.tmp 13) 1 false, none⟩,
    ⟨(some 15), .bin .eql (.tmp 12) (.tmp 14), none⟩,
    ⟨(some 16), .mov (.tmp 15), none⟩,
    ⟨(some 17), .faddr (.tmp 2) 1, (some (16, true))⟩,
    ⟨(some 18), .load (.tmp 17) 1 false, (some (16, true))⟩,
    ⟨(some 19), .faddr (.tmp 3) 1, (some (16, true))⟩,
    ⟨(some 20), .load (.tmp 19) 1 false, (some (16, true))⟩,
    ⟨(some 21), .bin .eql (.tmp 18) (.tmp 20), (some (16, true))⟩,
    ⟨(some 22), .pick (.tmp 16) (.tmp 21) (.cst (.bool false)), none⟩,
    ⟨(some 23), .mov (.tmp 22), none⟩,
    ⟨(some 24), .mov (.tmp 5), (some (23, true))⟩,
    ⟨(some 25), .pick (.tmp 23) (.tmp 24) (.cst (.bool false)), none⟩,
    ⟨(some 26), .mov (.tmp 25), none⟩,
    ⟨(some 27), .faddr (.tmp 2) 6, (some (26, true))⟩,
    ⟨(some 28), .load (.tmp 27) 1 false, (some (26, true))⟩,
    ⟨(some 29), .faddr (.tmp 3) 6, (some (26, true))⟩,
    ⟨(some 30), .load (.tmp 29) 1 false, (some (26, true))⟩,
    ⟨(some 31), .callq 30 [.tmp 28, .tmp 30], (some (26, true))⟩,
    ⟨(some 32), .pick (.tmp 26) (.tmp 31) (.cst (.bool false)), none⟩,
    ⟨(some 4), .own 32, none⟩] [])
  .ret)))
/-- custos/value.Same -/
def x51 : XFn := XFn.mk 8 [.tmp 4] (.seq (.region false [⟨(some 2), .box (.tmp 0) 4, none⟩,
    ⟨(some 3), .box (.tmp 1) 4, none⟩,
    ⟨(some 4), .mov (.cst (.bool false)), none⟩] [])
  (.seq (.region false [⟨(some 5), .load (.tmp 2) 4 true, none⟩,
    ⟨(some 6), .load (.tmp 3) 4 true, none⟩,
    ⟨(some 7), .eqagg false [1, 1, 1, 2] (.tmp 5) (.tmp 6), none⟩,
    ⟨(some 4), .own 7, none⟩] [])
  .ret))
/-- custos/ast.free$1 -/
def x53 : XFn := XFn.mk 8 [.tmp 3] (.seq (.region false [⟨(some 3), .mov (.cst (.bool false)), none⟩] [])
  (.seq (.region false [⟨(some 4), .faddr (.tmp 1) 3, none⟩,
    ⟨(some 5), .load (.tmp 4) 1 false, none⟩,
    ⟨(some 6), .mov (.tmp 0), none⟩,
    ⟨(some 7), .callq 54 [.tmp 5, .tmp 6], none⟩,
    ⟨(some 3), .own 7, none⟩] [])
  .ret))
/-- slices.Contains[[]string,string] -/
def x54 : XFn := XFn.mk 9 [.tmp 4] (.seq (.region false [⟨(some 4), .mov (.cst (.bool false)), none⟩] [])
  (.seq (.region false [⟨(some 5), .mov (.tmp 0), none⟩,
    ⟨(some 6), .mov (.tmp 1), none⟩,
    ⟨(some 7), .callq 69 [.tmp 5, .tmp 6], none⟩,
    ⟨(some 8), .bin .geq (.tmp 7) (.cst (.int .i64 0)), none⟩,
    ⟨(some 4), .own 8, none⟩] [])
  .ret))
def x57_l0 : XCode := .seq (.region false [⟨(some 13), .bin .lss (.tmp 12) (.tmp 11), none⟩] [])
  (.seq (.cond (.tmp 13) .skip (.exit 0))
  (.seq (.block 1 (.seq (.region false [⟨(some 14), .iaddr 3 (.tmp 10) (.tmp 12), none⟩,
    ⟨(some 15), .load (.tmp 14) 3 true, none⟩,
    ⟨(some 5), .alloc [.int .i64 0, .nilsl, .nilsl], none⟩,
    ⟨none, .store (.tmp 5) (.tmp 15) 3, none⟩] [])
  (.region false [⟨(some 16), .own 3, none⟩,
    ⟨(some 17), .load (.tmp 5) 3 true, none⟩,
    ⟨(some 18), .callq 57 [.tmp 17], none⟩,
    ⟨(some 19), .app false 10 152 16 (.tmp 18), none⟩,
    ⟨(some 3), .own 19, none⟩] [])))
  (.region false [⟨(some 20), .bin .add (.tmp 12) (.cst (.int .i64 1)), none⟩,
    ⟨(some 12), .mov (.tmp 20), none⟩] [])))
/-- custos/ast.tests -/
def x57 : XFn := XFn.mk 22 [.tmp 2] (.seq (.region false [⟨(some 1), .box (.tmp 0) 3, none⟩,
    ⟨(some 2), .mov (.cst .nilsl), none⟩] [])
  (.seq (.region false [⟨(some 6), .faddr (.tmp 1) 1, none⟩,
    ⟨(some 7), .load (.tmp 6) 1 false, none⟩,
    ⟨(some 8), .callq 72 [.tmp 7], none⟩,
    ⟨(some 3), .own 8, none⟩] [])
  (.seq (.seq (.region false [⟨(some 9), .faddr (.tmp 1) 2, none⟩,
    ⟨(some 10), .load (.tmp 9) 1 false, none⟩,
    ⟨(some 11), .lens false (.tmp 10), none⟩,
    ⟨(some 12), .mov (.cst (.int .i64 0)), none⟩] [])
  (.block 0 (.loop x57_l0)))
  (.seq (.region false [⟨(some 21), .mov (.tmp 3), none⟩,
    ⟨(some 2), .own 21, none⟩] [])
  .ret))))
/-- (*custos/ast.walk).enter -/
def x58 : XFn := XFn.mk 43 [.tmp 4] (.seq (.region false [⟨(some 4), .mov (.cst (.bool false)), none⟩] [])
  (.seq (.seq (.region false [⟨(some 5), .mov (.tmp 0), none⟩,
    ⟨(some 6), .nilck (.tmp 5), none⟩,
    ⟨(some 7), .faddr (.tmp 6) 2, none⟩,
    ⟨(some 8), .load (.tmp 7) 1 false, none⟩,
    ⟨(some 9), .bin .neq (.tmp 8) (.cst (.int .i64 0)), none⟩,
    ⟨(some 10), .mov (.tmp 9), none⟩,
    ⟨(some 11), .mov (.tmp 0), (some (10, false))⟩,
    ⟨(some 12), .mov (.tmp 1), (some (10, false))⟩,
    ⟨(some 13), .bin .leq (.tmp 12) (.cst (.int .i64 24)), (some (10, false))⟩,
    ⟨(some 14), .callw 49 [.tmp 11, .tmp 13, .cst (.int .i64 71)], (some (10, false))⟩,
    ⟨(some 15), .not (.tmp 14), (some (10, false))⟩,
    ⟨(some 16), .pick (.tmp 10) (.cst (.bool true)) (.tmp 15), none⟩,
    ⟨(some 17), .mov (.tmp 16), none⟩,
    ⟨(some 18), .mov (.tmp 0), (some (17, false))⟩,
    ⟨(some 19), .mov (.tmp 0), (some (17, false))⟩,
    ⟨(some 20), .nilck (.tmp 19), (some (17, false))⟩,
    ⟨(some 21), .faddr (.tmp 20) 0, (some (17, false))⟩,
    ⟨(some 22), .load (.tmp 21) 1 false, (some (17, false))⟩,
    ⟨(some 23), .bin .lss (.tmp 22) (.cst (.int .i64 256)), (some (17, false))⟩,
    ⟨(some 24), .callw 49 [.tmp 18, .tmp 23, .cst (.int .i64 3)], (some (17, false))⟩,
    ⟨(some 25), .not (.tmp 24), (some (17, false))⟩,
    ⟨(some 26), .pick (.tmp 17) (.cst (.bool true)) (.tmp 25), none⟩] [])
  (.cond (.tmp 26) (.seq (.region false [⟨(some 4), .mov (.cst (.bool false)), none⟩] [])
  .ret) .skip))
  (.seq (.region false [⟨(some 27), .mov (.tmp 0), none⟩,
    ⟨(some 28), .nilck (.tmp 27), none⟩,
    ⟨(some 29), .faddr (.tmp 28) 0, none⟩,
    ⟨(some 30), .load (.tmp 29) 1 false, none⟩,
    ⟨(some 31), .bin .add (.tmp 30) (.cst (.int .i64 1)), none⟩,
    ⟨(some 32), .nilck (.tmp 27), none⟩,
    ⟨(some 33), .faddr (.tmp 32) 0, none⟩,
    ⟨none, .store (.tmp 33) (.tmp 31) 1, none⟩] [])
  (.seq (.region false [⟨(some 34), .mov (.tmp 0), none⟩,
    ⟨(some 35), .mov (.tmp 0), none⟩,
    ⟨(some 36), .nilck (.tmp 35), none⟩,
    ⟨(some 37), .faddr (.tmp 36) 1, none⟩,
    ⟨(some 38), .load (.tmp 37) 1 false, none⟩,
    ⟨(some 39), .mov (.tmp 1), none⟩,
    ⟨(some 40), .mx (.tmp 38) (.tmp 39), none⟩,
    ⟨(some 41), .nilck (.tmp 34), none⟩,
    ⟨(some 42), .faddr (.tmp 41) 1, none⟩,
    ⟨none, .store (.tmp 42) (.tmp 40) 1, none⟩] [])
  (.seq (.region false [⟨(some 4), .mov (.cst (.bool true)), none⟩] [])
  .ret)))))
/-- custos/ast.most -/
def x59 : XFn := XFn.mk 13 [.tmp 2, .tmp 3] (.seq (.region false [⟨(some 2), .mov (.cst (.int .i64 0)), none⟩,
    ⟨(some 3), .mov (.cst (.int .i64 0)), none⟩] [])
  (.seq (.seq (.region false [⟨(some 4), .mov (.tmp 0), none⟩] [])
  (.block 0 (.seq (.region false [⟨(some 6), .bin .eql (.tmp 4) (.cst (.int .i64 3)), none⟩,
    ⟨(some 5), .own 6, none⟩] [])
  (.cond (.tmp 5) (.seq (.region false [⟨(some 2), .mov (.cst (.int .i64 6)), none⟩,
    ⟨(some 3), .mov (.cst (.int .i64 0)), none⟩] [])
  .ret) (.seq (.seq (.region false [⟨(some 8), .bin .eql (.tmp 4) (.cst (.int .i64 20)), none⟩,
    ⟨(some 7), .own 8, none⟩] [])
  (.cond (.tmp 7) .skip (.region false [⟨(some 9), .bin .eql (.tmp 4) (.cst (.int .i64 21)), none⟩,
    ⟨(some 7), .own 9, none⟩] [])))
  (.cond (.tmp 7) (.seq (.region false [⟨(some 2), .mov (.cst (.int .i64 0)), none⟩,
    ⟨(some 3), .mov (.cst (.int .i64 6)), none⟩] [])
  .ret) (.seq (.seq (.region false [⟨(some 11), .bin .eql (.tmp 4) (.cst (.int .i64 10)), none⟩,
    ⟨(some 10), .own 11, none⟩] [])
  (.cond (.tmp 10) .skip (.region false [⟨(some 12), .bin .eql (.tmp 4) (.cst (.int .i64 19)), none⟩,
    ⟨(some 10), .own 12, none⟩] [])))
  (.cond (.tmp 10) (.seq (.region false [⟨(some 2), .mov (.cst (.int .i64 0)), none⟩,
    ⟨(some 3), .mov (.cst (.int .i64 8)), none⟩] [])
  .ret) .skip))))))))
  (.seq (.region false [⟨(some 2), .mov (.cst (.int .i64 0)), none⟩,
    ⟨(some 3), .mov (.cst (.int .i64 0)), none⟩] [])
  .ret)))
/-- custos/ast.formed -/
def x60 : XFn := XFn.mk 87 [.tmp 2] (.seq (.region false [⟨(some 1), .box (.tmp 0) 10, none⟩,
    ⟨(some 2), .mov (.cst (.bool false)), none⟩] [])
  (.seq (.region false [⟨(some 10), .faddr (.tmp 1) 0, none⟩,
    ⟨(some 11), .load (.tmp 10) 1 false, none⟩,
    ⟨(some 12), .callq 73 [.tmp 11], none⟩,
    ⟨(some 9), .mov (.tmp 12), none⟩,
    ⟨(some 13), .ext 9 0, none⟩,
    ⟨(some 14), .ext 9 1, none⟩,
    ⟨(some 15), .ext 9 2, none⟩,
    ⟨(some 16), .ext 9 3, none⟩,
    ⟨(some 17), .ext 9 4, none⟩,
    ⟨(some 3), .own 13, none⟩,
    ⟨(some 4), .own 14, none⟩,
    ⟨(some 5), .own 15, none⟩,
    ⟨(some 6), .own 16, none⟩,
    ⟨(some 7), .own 17, none⟩] [])
  (.seq (.seq (.region false [⟨(some 18), .faddr (.tmp 1) 3, none⟩,
    ⟨(some 19), .load (.tmp 18) 1 false, none⟩,
    ⟨(some 20), .lens false (.tmp 19), none⟩,
    ⟨(some 21), .mov (.tmp 4), none⟩,
    ⟨(some 22), .faddr (.tmp 1) 4, none⟩,
    ⟨(some 23), .load (.tmp 22) 1 false, none⟩,
    ⟨(some 24), .lens false (.tmp 23), none⟩,
    ⟨(some 25), .mov (.tmp 5), none⟩,
    ⟨(some 26), .faddr (.tmp 1) 8, none⟩,
    ⟨(some 27), .load (.tmp 26) 1 false, none⟩,
    ⟨(some 28), .lens false (.tmp 27), none⟩,
    ⟨(some 29), .mov (.tmp 6), none⟩,
    ⟨(some 30), .faddr (.tmp 1) 9, none⟩,
    ⟨(some 31), .load (.tmp 30) 1 false, none⟩,
    ⟨(some 32), .lens false (.tmp 31), none⟩,
    ⟨(some 33), .mov (.tmp 7), none⟩,
    ⟨(some 34), .bslice 1 [.int .i64 0, .int .i64 0, .int .i64 0, .int .i64 0, .int .i64 0, .int .i64 0, .int .i64 0, .int .i64 0] [(0, 1, .tmp 20), (1, 1, .tmp 21), (2, 1, .tmp 24), (3, 1, .tmp 25), (4, 1, .tmp 28), (5, 1, .tmp 29), (6, 1, .tmp 32), (7, 1, .tmp 33)], none⟩,
    ⟨(some 35), .callq 74 [.tmp 34], none⟩,
    ⟨(some 36), .not (.tmp 35), none⟩,
    ⟨(some 37), .mov (.tmp 36), none⟩,
    ⟨(some 38), .faddr (.tmp 1) 3, (some (37, false))⟩,
    ⟨(some 39), .load (.tmp 38) 1 false, (some (37, false))⟩,
    ⟨(some 40), .callw 75 [.tmp 39, .cst (.fn 76 [] [])], (some (37, false))⟩,
    ⟨(some 41), .pick (.tmp 37) (.cst (.bool true)) (.tmp 40), none⟩] [])
  (.cond (.tmp 41) (.seq (.region false [⟨(some 2), .mov (.cst (.bool false)), none⟩] [])
  .ret) .skip))
  (.seq (.region false [⟨(some 42), .faddr (.tmp 1) 1, none⟩,
    ⟨(some 43), .load (.tmp 42) 1 false, none⟩,
    ⟨(some 44), .bin .eql (.tmp 43) (.cst (.str [])), none⟩,
    ⟨(some 8), .own 44, none⟩] [])
  (.seq (.seq (.region false [⟨(some 45), .mov (.tmp 3), none⟩,
    ⟨(some 46), .bin .and (.tmp 45) (.cst (.int .i64 1)), none⟩,
    ⟨(some 47), .bin .neq (.tmp 46) (.cst (.int .i64 0)), none⟩] [])
  (.cond (.tmp 47) (.region false [⟨(some 48), .faddr (.tmp 1) 1, none⟩,
    ⟨(some 49), .load (.tmp 48) 1 false, none⟩,
    ⟨(some 50), .callq 10 [.tmp 49], none⟩,
    ⟨(some 8), .own 50, none⟩] []) .skip))
  (.seq (.seq (.region false [⟨(some 51), .mov (.tmp 3), none⟩,
    ⟨(some 52), .bin .and (.tmp 51) (.cst (.int .i64 2)), none⟩,
    ⟨(some 53), .bin .neq (.tmp 52) (.cst (.int .i64 0)), none⟩] [])
  (.cond (.tmp 53) (.region false [⟨(some 54), .mov (.tmp 8), none⟩,
    ⟨(some 55), .mov (.tmp 54), none⟩,
    ⟨(some 56), .faddr (.tmp 1) 2, (some (55, true))⟩,
    ⟨(some 57), .load (.tmp 56) 1 false, (some (55, true))⟩,
    ⟨(some 58), .bin .geq (.tmp 57) (.cst (.int .i64 1)), (some (55, true))⟩,
    ⟨(some 59), .pick (.tmp 55) (.tmp 58) (.cst (.bool false)), none⟩,
    ⟨(some 60), .mov (.tmp 59), none⟩,
    ⟨(some 61), .faddr (.tmp 1) 2, (some (60, true))⟩,
    ⟨(some 62), .load (.tmp 61) 1 false, (some (60, true))⟩,
    ⟨(some 63), .bin .leq (.tmp 62) (.cst (.int .i64 6)), (some (60, true))⟩,
    ⟨(some 64), .pick (.tmp 60) (.tmp 63) (.cst (.bool false)), none⟩,
    ⟨(some 8), .own 64, none⟩] []) (.region false [⟨(some 65), .mov (.tmp 8), none⟩,
    ⟨(some 66), .mov (.tmp 65), none⟩,
    ⟨(some 67), .faddr (.tmp 1) 2, (some (66, true))⟩,
    ⟨(some 68), .load (.tmp 67) 1 false, (some (66, true))⟩,
    ⟨(some 69), .bin .eql (.tmp 68) (.cst (.int .i64 0)), (some (66, true))⟩,
    ⟨(some 70), .pick (.tmp 66) (.tmp 69) (.cst (.bool false)), none⟩,
    ⟨(some 8), .own 70, none⟩] [])))
  (.seq (.seq (.region false [⟨(some 71), .mov (.tmp 3), none⟩,
    ⟨(some 72), .bin .and (.tmp 71) (.cst (.int .i64 4)), none⟩,
    ⟨(some 73), .bin .neq (.tmp 72) (.cst (.int .i64 0)), none⟩] [])
  (.cond (.tmp 73) (.seq (.region false [⟨(some 74), .mov (.tmp 8), none⟩,
    ⟨(some 75), .mov (.tmp 74), none⟩,
    ⟨(some 76), .faddr (.tmp 1) 5, (some (75, true))⟩,
    ⟨(some 77), .load (.tmp 76) 3 true, (some (75, true))⟩,
    ⟨(some 78), .callq 77 [.tmp 77], (some (75, true))⟩,
    ⟨(some 79), .pick (.tmp 75) (.tmp 78) (.cst (.bool false)), none⟩,
    ⟨(some 2), .own 79, none⟩] [])
  .ret) .skip))
  (.seq (.region false [⟨(some 80), .mov (.tmp 8), none⟩,
    ⟨(some 81), .mov (.tmp 80), none⟩,
    ⟨(some 82), .faddr (.tmp 1) 5, (some (81, true))⟩,
    ⟨(some 83), .load (.tmp 82) 3 true, (some (81, true))⟩,
    ⟨(some 84), .build [.int .i64 0, .int .i64 0, .bool false] [], (some (81, true))⟩,
    ⟨(some 85), .eqagg false [1, 1, 0] (.tmp 83) (.tmp 84), (some (81, true))⟩,
    ⟨(some 86), .pick (.tmp 81) (.tmp 85) (.cst (.bool false)), none⟩,
    ⟨(some 2), .own 86, none⟩] [])
  .ret))))))))
/-- custos/ast.twice -/
def x61 : XFn := XFn.mk 6 [.tmp 2] (.seq (.region false [⟨(some 1), .box (.tmp 0) 1, none⟩,
    ⟨(some 2), .mov (.cst (.bool false)), none⟩] [])
  (.seq (.region false [⟨(some 3), .load (.tmp 1) 1 false, none⟩,
    ⟨(some 4), .mkfn 78 [] [.tmp 1], none⟩,
    ⟨(some 5), .callw 75 [.tmp 3, .tmp 4], none⟩,
    ⟨(some 2), .own 5, none⟩] [])
  .ret))
def x62_l0 : XCode := .seq (.region false [⟨(some 11), .bin .lss (.tmp 10) (.tmp 9), none⟩] [])
  (.seq (.cond (.tmp 11) .skip (.exit 0))
  (.seq (.block 1 (.seq (.region false [⟨(some 12), .iaddr 7 (.tmp 8) (.tmp 10), none⟩,
    ⟨(some 13), .load (.tmp 12) 7 true, none⟩,
    ⟨(some 7), .alloc [.int .i64 0, .str [], .int .i64 0, .int .i64 0, .int .i64 0, .str [], .nilsl], none⟩,
    ⟨none, .store (.tmp 7) (.tmp 13) 7, none⟩] [])
  (.region false [⟨(some 14), .mov (.tmp 0), none⟩,
    ⟨(some 15), .load (.tmp 7) 7 true, none⟩,
    ⟨(some 16), .mov (.tmp 1), none⟩,
    ⟨(some 17), .calld (.tmp 14) [.tmp 15, .tmp 16], none⟩] [])))
  (.region false [⟨(some 18), .bin .add (.tmp 10) (.cst (.int .i64 1)), none⟩,
    ⟨(some 10), .mov (.tmp 18), none⟩] [])))
/-- custos/ast.all[custos/api.Term] -/
def x62 : XFn := XFn.mk 19 [] (.seq (.region false [⟨(some 8), .mov (.tmp 2), none⟩,
    ⟨(some 9), .lens false (.tmp 8), none⟩,
    ⟨(some 10), .mov (.cst (.int .i64 0)), none⟩] [])
  (.block 0 (.loop x62_l0)))
/-- (*custos/ast.walk).term -/
def x63 : XFn := XFn.mk 82 [] (.seq (.region false [⟨(some 4), .box (.tmp 1) 7, none⟩] [])
  (.seq (.seq (.region false [⟨(some 9), .mov (.tmp 0), none⟩,
    ⟨(some 10), .mov (.tmp 2), none⟩,
    ⟨(some 11), .callw 58 [.tmp 9, .tmp 10], none⟩,
    ⟨(some 12), .not (.tmp 11), none⟩,
    ⟨(some 13), .mov (.tmp 12), none⟩,
    ⟨(some 14), .mov (.tmp 0), (some (13, false))⟩,
    ⟨(some 15), .faddr (.tmp 4) 0, (some (13, false))⟩,
    ⟨(some 16), .load (.tmp 15) 1 false, (some (13, false))⟩,
    ⟨(some 17), .bin .geq (.tmp 16) (.cst (.int .i64 1)), (some (13, false))⟩,
    ⟨(some 18), .mov (.tmp 17), (some (13, false))⟩,
    ⟨(some 19), .faddr (.tmp 4) 0, (some (18, true))⟩,
    ⟨(some 20), .load (.tmp 19) 1 false, (some (18, true))⟩,
    ⟨(some 21), .bin .leq (.tmp 20) (.cst (.int .i64 5)), (some (18, true))⟩,
    ⟨(some 22), .pick (.tmp 18) (.tmp 21) (.cst (.bool false)), (some (13, false))⟩,
    ⟨(some 23), .callw 49 [.tmp 14, .tmp 22, .cst (.int .i64 20)], (some (13, false))⟩,
    ⟨(some 24), .not (.tmp 23), (some (13, false))⟩,
    ⟨(some 25), .pick (.tmp 13) (.cst (.bool true)) (.tmp 24), none⟩] [])
  (.cond (.tmp 25) .ret .skip))
  (.seq (.region false [⟨(some 6), .mov (.cst (.int .i64 0)), none⟩] [])
  (.seq (.seq (.region false [⟨(some 26), .faddr (.tmp 4) 0, none⟩,
    ⟨(some 27), .load (.tmp 26) 1 false, none⟩,
    ⟨(some 28), .bin .geq (.tmp 27) (.cst (.int .i64 3)), none⟩] [])
  (.cond (.tmp 28) (.region false [⟨(some 6), .mov (.cst (.int .i64 2)), none⟩] []) .skip))
  (.seq (.region false [⟨(some 29), .faddr (.tmp 4) 6, none⟩,
    ⟨(some 30), .load (.tmp 29) 1 false, none⟩,
    ⟨(some 31), .lens false (.tmp 30), none⟩,
    ⟨(some 32), .mov (.tmp 6), none⟩,
    ⟨(some 33), .bslice 1 [.int .i64 0, .int .i64 0] [(0, 1, .tmp 31), (1, 1, .tmp 32)], none⟩,
    ⟨(some 34), .callq 74 [.tmp 33], none⟩,
    ⟨(some 35), .mov (.tmp 34), none⟩,
    ⟨(some 36), .faddr (.tmp 4) 0, (some (35, true))⟩,
    ⟨(some 37), .load (.tmp 36) 1 false, (some (35, true))⟩,
    ⟨(some 38), .bin .eql (.tmp 37) (.cst (.int .i64 2)), (some (35, true))⟩,
    ⟨(some 39), .mov (.tmp 38), (some (35, true))⟩,
    ⟨(some 40), .faddr (.tmp 4) 2, (some (39, false))⟩,
    ⟨(some 41), .load (.tmp 40) 4 true, (some (39, false))⟩,
    ⟨(some 42), .build [.int .i64 0, .int .i64 0, .int .i64 0, .str []] [], (some (39, false))⟩,
    ⟨(some 43), .eqagg false [1, 1, 1, 2] (.tmp 41) (.tmp 42), (some (39, false))⟩,
    ⟨(some 44), .pick (.tmp 39) (.cst (.bool true)) (.tmp 43), (some (35, true))⟩,
    ⟨(some 45), .pick (.tmp 35) (.tmp 44) (.cst (.bool false)), none⟩,
    ⟨(some 7), .own 45, none⟩] [])
  (.seq (.seq (.region false [⟨(some 46), .faddr (.tmp 4) 0, none⟩,
    ⟨(some 47), .load (.tmp 46) 1 false, none⟩,
    ⟨(some 48), .bin .eql (.tmp 47) (.cst (.int .i64 1)), none⟩] [])
  (.cond (.tmp 48) (.region false [⟨(some 49), .mov (.tmp 7), none⟩,
    ⟨(some 50), .mov (.tmp 49), none⟩,
    ⟨(some 51), .faddr (.tmp 4) 1, (some (50, true))⟩,
    ⟨(some 52), .load (.tmp 51) 1 false, (some (50, true))⟩,
    ⟨(some 53), .callq 10 [.tmp 52], (some (50, true))⟩,
    ⟨(some 54), .pick (.tmp 50) (.tmp 53) (.cst (.bool false)), none⟩,
    ⟨(some 7), .own 54, none⟩] []) (.region false [⟨(some 55), .mov (.tmp 7), none⟩,
    ⟨(some 56), .mov (.tmp 55), none⟩,
    ⟨(some 57), .faddr (.tmp 4) 1, (some (56, true))⟩,
    ⟨(some 58), .load (.tmp 57) 1 false, (some (56, true))⟩,
    ⟨(some 59), .bin .eql (.tmp 58) (.cst (.str [])), (some (56, true))⟩,
    ⟨(some 60), .pick (.tmp 56) (.tmp 59) (.cst (.bool false)), none⟩,
    ⟨(some 7), .own 60, none⟩] [])))
  (.seq (.region false [⟨(some 61), .mov (.tmp 0), none⟩,
    ⟨(some 62), .mov (.tmp 7), none⟩,
    ⟨(some 63), .callw 49 [.tmp 61, .tmp 62, .cst (.int .i64 1)], none⟩] [])
  (.seq (.seq (.region false [⟨(some 64), .faddr (.tmp 4) 0, none⟩,
    ⟨(some 65), .load (.tmp 64) 1 false, none⟩,
    ⟨(some 66), .bin .eql (.tmp 65) (.cst (.int .i64 2)), none⟩] [])
  (.cond (.tmp 66) (.seq (.region false [⟨(some 67), .faddr (.tmp 4) 2, none⟩,
    ⟨(some 68), .load (.tmp 67) 4 true, none⟩,
    ⟨(some 69), .callq 80 [.tmp 68], none⟩,
    ⟨(some 8), .own 69, none⟩] [])
  (.region false [⟨(some 70), .mov (.tmp 0), none⟩,
    ⟨(some 71), .mov (.tmp 8), none⟩,
    ⟨(some 72), .bin .eql (.tmp 71) (.cst (.int .i64 0)), none⟩,
    ⟨(some 73), .mov (.tmp 8), none⟩,
    ⟨(some 74), .callw 49 [.tmp 70, .tmp 72, .tmp 73], none⟩] [])) .skip))
  (.region false [⟨(some 75), .mov (.tmp 0), none⟩,
    ⟨(some 76), .mkfn 63 [.tmp 75] [], none⟩,
    ⟨(some 77), .mov (.tmp 2), none⟩,
    ⟨(some 78), .bin .add (.tmp 77) (.cst (.int .i64 1)), none⟩,
    ⟨(some 79), .faddr (.tmp 4) 6, none⟩,
    ⟨(some 80), .load (.tmp 79) 1 false, none⟩,
    ⟨(some 81), .callw 62 [.tmp 76, .tmp 78, .tmp 80], none⟩] [])))))))))
def x64_l0 : XCode := .seq (.region false [⟨(some 11), .bin .lss (.tmp 10) (.tmp 9), none⟩] [])
  (.seq (.cond (.tmp 11) .skip (.exit 0))
  (.seq (.block 1 (.seq (.region false [⟨(some 12), .iaddr 3 (.tmp 8) (.tmp 10), none⟩,
    ⟨(some 13), .load (.tmp 12) 3 true, none⟩,
    ⟨(some 7), .alloc [.int .i64 0, .nilsl, .nilsl], none⟩,
    ⟨none, .store (.tmp 7) (.tmp 13) 3, none⟩] [])
  (.region false [⟨(some 14), .mov (.tmp 0), none⟩,
    ⟨(some 15), .load (.tmp 7) 3 true, none⟩,
    ⟨(some 16), .mov (.tmp 1), none⟩,
    ⟨(some 17), .calld (.tmp 14) [.tmp 15, .tmp 16], none⟩] [])))
  (.region false [⟨(some 18), .bin .add (.tmp 10) (.cst (.int .i64 1)), none⟩,
    ⟨(some 10), .mov (.tmp 18), none⟩] [])))
/-- custos/ast.all[custos/api.Regex] -/
def x64 : XFn := XFn.mk 19 [] (.seq (.region false [⟨(some 8), .mov (.tmp 2), none⟩,
    ⟨(some 9), .lens false (.tmp 8), none⟩,
    ⟨(some 10), .mov (.cst (.int .i64 0)), none⟩] [])
  (.block 0 (.loop x64_l0)))
/-- (*custos/ast.walk).regex -/
def x65 : XFn := XFn.mk 60 [] (.seq (.region false [⟨(some 4), .box (.tmp 1) 3, none⟩] [])
  (.seq (.seq (.region false [⟨(some 8), .mov (.tmp 0), none⟩,
    ⟨(some 9), .mov (.tmp 2), none⟩,
    ⟨(some 10), .callw 58 [.tmp 8, .tmp 9], none⟩,
    ⟨(some 11), .not (.tmp 10), none⟩,
    ⟨(some 12), .mov (.tmp 11), none⟩,
    ⟨(some 13), .mov (.tmp 0), (some (12, false))⟩,
    ⟨(some 14), .faddr (.tmp 4) 0, (some (12, false))⟩,
    ⟨(some 15), .load (.tmp 14) 1 false, (some (12, false))⟩,
    ⟨(some 16), .bin .geq (.tmp 15) (.cst (.int .i64 1)), (some (12, false))⟩,
    ⟨(some 17), .mov (.tmp 16), (some (12, false))⟩,
    ⟨(some 18), .faddr (.tmp 4) 0, (some (17, true))⟩,
    ⟨(some 19), .load (.tmp 18) 1 false, (some (17, true))⟩,
    ⟨(some 20), .bin .leq (.tmp 19) (.cst (.int .i64 5)), (some (17, true))⟩,
    ⟨(some 21), .pick (.tmp 17) (.tmp 20) (.cst (.bool false)), (some (12, false))⟩,
    ⟨(some 22), .callw 49 [.tmp 13, .tmp 21, .cst (.int .i64 20)], (some (12, false))⟩,
    ⟨(some 23), .not (.tmp 22), (some (12, false))⟩,
    ⟨(some 24), .pick (.tmp 12) (.cst (.bool true)) (.tmp 23), none⟩] [])
  (.cond (.tmp 24) .ret .skip))
  (.seq (.region false [⟨(some 6), .mov (.cst (.int .i64 0)), none⟩,
    ⟨(some 7), .mov (.cst (.int .i64 0)), none⟩] [])
  (.seq (.seq (.region false [⟨(some 25), .faddr (.tmp 4) 0, none⟩,
    ⟨(some 26), .load (.tmp 25) 1 false, none⟩] [])
  (.block 0 (.seq (.region false [⟨(some 28), .bin .eql (.tmp 26) (.cst (.int .i64 2)), none⟩,
    ⟨(some 27), .own 28, none⟩] [])
  (.cond (.tmp 27) (.region false [⟨(some 6), .mov (.cst (.int .i64 1)), none⟩] []) (.seq (.seq (.region false [⟨(some 30), .bin .eql (.tmp 26) (.cst (.int .i64 3)), none⟩,
    ⟨(some 29), .own 30, none⟩] [])
  (.cond (.tmp 29) .skip (.region false [⟨(some 31), .bin .eql (.tmp 26) (.cst (.int .i64 4)), none⟩,
    ⟨(some 29), .own 31, none⟩] [])))
  (.cond (.tmp 29) (.region false [⟨(some 7), .mov (.cst (.int .i64 2)), none⟩] []) (.seq (.region false [⟨(some 33), .bin .eql (.tmp 26) (.cst (.int .i64 5)), none⟩,
    ⟨(some 32), .own 33, none⟩] [])
  (.cond (.tmp 32) (.region false [⟨(some 7), .mov (.cst (.int .i64 1)), none⟩] []) .skip))))))))
  (.seq (.region false [⟨(some 34), .mov (.tmp 0), none⟩,
    ⟨(some 35), .faddr (.tmp 4) 1, none⟩,
    ⟨(some 36), .load (.tmp 35) 1 false, none⟩,
    ⟨(some 37), .lens false (.tmp 36), none⟩,
    ⟨(some 38), .mov (.tmp 6), none⟩,
    ⟨(some 39), .faddr (.tmp 4) 2, none⟩,
    ⟨(some 40), .load (.tmp 39) 1 false, none⟩,
    ⟨(some 41), .lens false (.tmp 40), none⟩,
    ⟨(some 42), .mov (.tmp 7), none⟩,
    ⟨(some 43), .bslice 1 [.int .i64 0, .int .i64 0, .int .i64 0, .int .i64 0] [(0, 1, .tmp 37), (1, 1, .tmp 38), (2, 1, .tmp 41), (3, 1, .tmp 42)], none⟩,
    ⟨(some 44), .callq 74 [.tmp 43], none⟩,
    ⟨(some 45), .callw 49 [.tmp 34, .tmp 44, .cst (.int .i64 1)], none⟩] [])
  (.cond (.tmp 45) (.seq (.region false [⟨(some 46), .mov (.tmp 0), none⟩,
    ⟨(some 47), .mkfn 48 [.tmp 46] [], none⟩,
    ⟨(some 48), .mov (.tmp 2), none⟩,
    ⟨(some 49), .bin .add (.tmp 48) (.cst (.int .i64 1)), none⟩,
    ⟨(some 50), .faddr (.tmp 4) 1, none⟩,
    ⟨(some 51), .load (.tmp 50) 1 false, none⟩,
    ⟨(some 52), .callw 66 [.tmp 47, .tmp 49, .tmp 51], none⟩] [])
  (.region false [⟨(some 53), .mov (.tmp 0), none⟩,
    ⟨(some 54), .mkfn 65 [.tmp 53] [], none⟩,
    ⟨(some 55), .mov (.tmp 2), none⟩,
    ⟨(some 56), .bin .add (.tmp 55) (.cst (.int .i64 1)), none⟩,
    ⟨(some 57), .faddr (.tmp 4) 2, none⟩,
    ⟨(some 58), .load (.tmp 57) 1 false, none⟩,
    ⟨(some 59), .callw 64 [.tmp 54, .tmp 56, .tmp 58], none⟩] [])) .skip))))))
def x66_l0 : XCode := .seq (.region false [⟨(some 11), .bin .lss (.tmp 10) (.tmp 9), none⟩] [])
  (.seq (.cond (.tmp 11) .skip (.exit 0))
  (.seq (.block 1 (.seq (.region false [⟨(some 12), .iaddr 10 (.tmp 8) (.tmp 10), none⟩,
    ⟨(some 13), .load (.tmp 12) 10 true, none⟩,
    ⟨(some 7), .alloc [.int .i64 0, .str [], .int .i64 0, .nilsl, .nilsl, .int .i64 0, .int .i64 0, .bool false, .nilsl, .nilsl], none⟩,
    ⟨none, .store (.tmp 7) (.tmp 13) 10, none⟩] [])
  (.region false [⟨(some 14), .mov (.tmp 0), none⟩,
    ⟨(some 15), .load (.tmp 7) 10 true, none⟩,
    ⟨(some 16), .mov (.tmp 1), none⟩,
    ⟨(some 17), .calld (.tmp 14) [.tmp 15, .tmp 16], none⟩] [])))
  (.region false [⟨(some 18), .bin .add (.tmp 10) (.cst (.int .i64 1)), none⟩,
    ⟨(some 10), .mov (.tmp 18), none⟩] [])))
/-- custos/ast.all[custos/api.Formula] -/
def x66 : XFn := XFn.mk 19 [] (.seq (.region false [⟨(some 8), .mov (.tmp 2), none⟩,
    ⟨(some 9), .lens false (.tmp 8), none⟩,
    ⟨(some 10), .mov (.cst (.int .i64 0)), none⟩] [])
  (.block 0 (.loop x66_l0)))
/-- custos/custosref02.Same -/
def x67 : XFn := XFn.mk 31 [.tmp 4] (.seq (.region false [⟨(some 2), .box (.tmp 0) 4, none⟩,
    ⟨(some 3), .box (.tmp 1) 4, none⟩,
    ⟨(some 4), .mov (.cst (.bool false)), none⟩] [])
  (.seq (.region false [⟨(some 5), .faddr (.tmp 2) 0, none⟩,
    ⟨(some 6), .load (.tmp 5) 1 false, none⟩,
    ⟨(some 7), .faddr (.tmp 3) 0, none⟩,
    ⟨(some 8), .load (.tmp 7) 1 false, none⟩,
    ⟨(some 9), .bin .eql (.tmp 6) (.tmp 8), none⟩,
    ⟨(some 10), .mov (.tmp 9), none⟩,
    ⟨(some 11), .faddr (.tmp 2) 1, (some (10, true))⟩,
    ⟨(some 12), .load (.tmp 11) 1 false, (some (10, true))⟩,
    ⟨(some 13), .faddr (.tmp 3) 1, (some (10, true))⟩,
    ⟨(some 14), .load (.tmp 13) 1 false, (some (10, true))⟩,
    ⟨(some 15), .bin .eql (.tmp 12) (.tmp 14), (some (10, true))⟩,
    ⟨(some 16), .pick (.tmp 10) (.tmp 15) (.cst (.bool false)), none⟩,
    ⟨(some 17), .mov (.tmp 16), none⟩,
    ⟨(some 18), .faddr (.tmp 2) 2, (some (17, true))⟩,
    ⟨(some 19), .load (.tmp 18) 1 false, (some (17, true))⟩,
    ⟨(some 20), .faddr (.tmp 3) 2, (some (17, true))⟩,
    ⟨(some 21), .load (.tmp 20) 1 false, (some (17, true))⟩,
    ⟨(some 22), .bin .eql (.tmp 19) (.tmp 21), (some (17, true))⟩,
    ⟨(some 23), .pick (.tmp 17) (.tmp 22) (.cst (.bool false)), none⟩,
    ⟨(some 24), .mov (.tmp 23), none⟩,
    ⟨(some 25), .faddr (.tmp 2) 3, (some (24, true))⟩,
    ⟨(some 26), .load (.tmp 25) 1 false, (some (24, true))⟩,
    ⟨(some 27), .faddr (.tmp 3) 3, (some (24, true))⟩,
    ⟨(some 28), .load (.tmp 27) 1 false, (some (24, true))⟩,
    ⟨(some 29), .bin .eql (.tmp 26) (.tmp 28), (some (24, true))⟩,
    ⟨(some 30), .pick (.tmp 24) (.tmp 29) (.cst (.bool false)), none⟩,
    ⟨(some 4), .own 30, none⟩] [])
  .ret))
def x68_l0 : XCode := .seq (.region false [⟨(some 9), .bin .lss (.tmp 8) (.tmp 7), none⟩] [])
  (.seq (.cond (.tmp 9) .skip (.exit 0))
  (.seq (.block 1 (.seq (.region false [⟨(some 10), .mov (.tmp 8), none⟩,
    ⟨(some 5), .own 10, none⟩] [])
  (.seq (.region false [⟨(some 11), .mov (.tmp 1), none⟩,
    ⟨(some 12), .mov (.tmp 0), none⟩,
    ⟨(some 13), .mov (.tmp 5), none⟩,
    ⟨(some 14), .iaddr 1 (.tmp 12) (.tmp 13), none⟩,
    ⟨(some 15), .load (.tmp 14) 1 false, none⟩,
    ⟨(some 16), .calld (.tmp 11) [.tmp 15], none⟩] [])
  (.cond (.tmp 16) (.seq (.region false [⟨(some 17), .mov (.tmp 5), none⟩,
    ⟨(some 4), .own 17, none⟩] [])
  .ret) .skip))))
  (.region false [⟨(some 18), .bin .add (.tmp 8) (.cst (.int .i64 1)), none⟩,
    ⟨(some 8), .mov (.tmp 18), none⟩] [])))
/-- slices.IndexFunc[[]string,string] -/
def x68 : XFn := XFn.mk 19 [.tmp 4] (.seq (.region false [⟨(some 4), .mov (.cst (.int .i64 0)), none⟩] [])
  (.seq (.seq (.region false [⟨(some 6), .mov (.tmp 0), none⟩,
    ⟨(some 7), .lens false (.tmp 6), none⟩,
    ⟨(some 8), .mov (.cst (.int .i64 0)), none⟩] [])
  (.block 0 (.loop x68_l0)))
  (.seq (.region false [⟨(some 4), .mov (.cst (.int .i64 (-1))), none⟩] [])
  .ret)))
def x69_l0 : XCode := .seq (.region false [⟨(some 9), .bin .lss (.tmp 8) (.tmp 7), none⟩] [])
  (.seq (.cond (.tmp 9) .skip (.exit 0))
  (.seq (.block 1 (.seq (.region false [⟨(some 10), .mov (.tmp 8), none⟩,
    ⟨(some 5), .own 10, none⟩] [])
  (.seq (.region false [⟨(some 11), .mov (.tmp 1), none⟩,
    ⟨(some 12), .mov (.tmp 0), none⟩,
    ⟨(some 13), .mov (.tmp 5), none⟩,
    ⟨(some 14), .iaddr 1 (.tmp 12) (.tmp 13), none⟩,
    ⟨(some 15), .load (.tmp 14) 1 false, none⟩,
    ⟨(some 16), .bin .eql (.tmp 11) (.tmp 15), none⟩] [])
  (.cond (.tmp 16) (.seq (.region false [⟨(some 17), .mov (.tmp 5), none⟩,
    ⟨(some 4), .own 17, none⟩] [])
  .ret) .skip))))
  (.region false [⟨(some 18), .bin .add (.tmp 8) (.cst (.int .i64 1)), none⟩,
    ⟨(some 8), .mov (.tmp 18), none⟩] [])))
/-- slices.Index[[]string,string] -/
def x69 : XFn := XFn.mk 19 [.tmp 4] (.seq (.region false [⟨(some 4), .mov (.cst (.int .i64 0)), none⟩] [])
  (.seq (.seq (.region false [⟨(some 6), .mov (.tmp 0), none⟩,
    ⟨(some 7), .lens false (.tmp 6), none⟩,
    ⟨(some 8), .mov (.cst (.int .i64 0)), none⟩] [])
  (.block 0 (.loop x69_l0)))
  (.seq (.region false [⟨(some 4), .mov (.cst (.int .i64 (-1))), none⟩] [])
  .ret)))
/-- slices.Clone[[]custos/api.Formula,custos/api.Formula] -/
def x72 : XFn := XFn.mk 8 [.tmp 2] (.seq (.region false [⟨(some 2), .mov (.cst .nilsl), none⟩] [])
  (.seq (.seq (.region false [⟨(some 3), .mov (.tmp 0), none⟩,
    ⟨(some 4), .eqnil 1 false (.tmp 3), none⟩] [])
  (.cond (.tmp 4) (.seq (.region false [⟨(some 2), .mov (.cst .nilsl), none⟩] [])
  .ret) .skip))
  (.seq (.region false [⟨(some 5), .bslice 10 [] [], none⟩,
    ⟨(some 6), .mov (.tmp 0), none⟩,
    ⟨(some 7), .app false 10 152 5 (.tmp 6), none⟩,
    ⟨(some 2), .own 7, none⟩] [])
  .ret)))
/-- custos/ast.form -/
def x73 : XFn := XFn.mk 39 [.tmp 2, .tmp 3, .tmp 4, .tmp 5, .tmp 6] (.seq (.region false [⟨(some 2), .mov (.cst (.int .i64 0)), none⟩,
    ⟨(some 3), .mov (.cst (.int .i64 0)), none⟩,
    ⟨(some 4), .mov (.cst (.int .i64 0)), none⟩,
    ⟨(some 5), .mov (.cst (.int .i64 0)), none⟩,
    ⟨(some 6), .mov (.cst (.int .i64 0)), none⟩] [])
  (.seq (.seq (.region false [⟨(some 7), .mov (.tmp 0), none⟩] [])
  (.block 0 (.seq (.region false [⟨(some 9), .bin .eql (.tmp 7) (.cst (.int .i64 3)), none⟩,
    ⟨(some 8), .own 9, none⟩] [])
  (.cond (.tmp 8) (.seq (.region false [⟨(some 2), .mov (.cst (.int .i64 1)), none⟩,
    ⟨(some 3), .mov (.cst (.int .i64 0)), none⟩,
    ⟨(some 4), .mov (.cst (.int .i64 (-2))), none⟩,
    ⟨(some 5), .mov (.cst (.int .i64 0)), none⟩,
    ⟨(some 6), .mov (.cst (.int .i64 0)), none⟩] [])
  .ret) (.seq (.seq (.region false [⟨(some 11), .bin .eql (.tmp 7) (.cst (.int .i64 4)), none⟩,
    ⟨(some 10), .own 11, none⟩] [])
  (.cond (.tmp 10) .skip (.seq (.region false [⟨(some 12), .bin .eql (.tmp 7) (.cst (.int .i64 5)), none⟩,
    ⟨(some 10), .own 12, none⟩] [])
  (.cond (.tmp 10) .skip (.region false [⟨(some 13), .bin .eql (.tmp 7) (.cst (.int .i64 6)), none⟩,
    ⟨(some 10), .own 13, none⟩] [])))))
  (.cond (.tmp 10) (.seq (.region false [⟨(some 2), .mov (.cst (.int .i64 0)), none⟩,
    ⟨(some 3), .mov (.cst (.int .i64 0)), none⟩,
    ⟨(some 4), .mov (.cst (.int .i64 2)), none⟩,
    ⟨(some 5), .mov (.cst (.int .i64 0)), none⟩,
    ⟨(some 6), .mov (.cst (.int .i64 0)), none⟩] [])
  .ret) (.seq (.region false [⟨(some 15), .bin .eql (.tmp 7) (.cst (.int .i64 7)), none⟩,
    ⟨(some 14), .own 15, none⟩] [])
  (.cond (.tmp 14) (.seq (.region false [⟨(some 2), .mov (.cst (.int .i64 0)), none⟩,
    ⟨(some 3), .mov (.cst (.int .i64 0)), none⟩,
    ⟨(some 4), .mov (.cst (.int .i64 0)), none⟩,
    ⟨(some 5), .mov (.cst (.int .i64 1)), none⟩,
    ⟨(some 6), .mov (.cst (.int .i64 0)), none⟩] [])
  .ret) (.seq (.seq (.region false [⟨(some 17), .bin .eql (.tmp 7) (.cst (.int .i64 8)), none⟩,
    ⟨(some 16), .own 17, none⟩] [])
  (.cond (.tmp 16) .skip (.region false [⟨(some 18), .bin .eql (.tmp 7) (.cst (.int .i64 9)), none⟩,
    ⟨(some 16), .own 18, none⟩] [])))
  (.cond (.tmp 16) (.seq (.region false [⟨(some 2), .mov (.cst (.int .i64 0)), none⟩,
    ⟨(some 3), .mov (.cst (.int .i64 0)), none⟩,
    ⟨(some 4), .mov (.cst (.int .i64 0)), none⟩,
    ⟨(some 5), .mov (.cst (.int .i64 2)), none⟩,
    ⟨(some 6), .mov (.cst (.int .i64 0)), none⟩] [])
  .ret) (.seq (.region false [⟨(some 20), .bin .eql (.tmp 7) (.cst (.int .i64 10)), none⟩,
    ⟨(some 19), .own 20, none⟩] [])
  (.cond (.tmp 19) (.seq (.region false [⟨(some 2), .mov (.cst (.int .i64 0)), none⟩,
    ⟨(some 3), .mov (.cst (.int .i64 (-1))), none⟩,
    ⟨(some 4), .mov (.cst (.int .i64 0)), none⟩,
    ⟨(some 5), .mov (.cst (.int .i64 1)), none⟩,
    ⟨(some 6), .mov (.cst (.int .i64 0)), none⟩] [])
  .ret) (.seq (.seq (.region false [⟨(some 22), .bin .eql (.tmp 7) (.cst (.int .i64 11)), none⟩,
    ⟨(some 21), .own 22, none⟩] [])
  (.cond (.tmp 21) .skip (.seq (.region false [⟨(some 23), .bin .eql (.tmp 7) (.cst (.int .i64 12)), none⟩,
    ⟨(some 21), .own 23, none⟩] [])
  (.cond (.tmp 21) .skip (.seq (.region false [⟨(some 24), .bin .eql (.tmp 7) (.cst (.int .i64 13)), none⟩,
    ⟨(some 21), .own 24, none⟩] [])
  (.cond (.tmp 21) .skip (.region false [⟨(some 25), .bin .eql (.tmp 7) (.cst (.int .i64 14)), none⟩,
    ⟨(some 21), .own 25, none⟩] [])))))))
  (.cond (.tmp 21) (.seq (.region false [⟨(some 2), .mov (.cst (.int .i64 4)), none⟩,
    ⟨(some 3), .mov (.cst (.int .i64 0)), none⟩,
    ⟨(some 4), .mov (.cst (.int .i64 0)), none⟩,
    ⟨(some 5), .mov (.cst (.int .i64 1)), none⟩,
    ⟨(some 6), .mov (.cst (.int .i64 0)), none⟩] [])
  .ret) (.seq (.seq (.region false [⟨(some 27), .bin .eql (.tmp 7) (.cst (.int .i64 15)), none⟩,
    ⟨(some 26), .own 27, none⟩] [])
  (.cond (.tmp 26) .skip (.region false [⟨(some 28), .bin .eql (.tmp 7) (.cst (.int .i64 16)), none⟩,
    ⟨(some 26), .own 28, none⟩] [])))
  (.cond (.tmp 26) (.seq (.region false [⟨(some 2), .mov (.cst (.int .i64 4)), none⟩,
    ⟨(some 3), .mov (.cst (.int .i64 0)), none⟩,
    ⟨(some 4), .mov (.cst (.int .i64 0)), none⟩,
    ⟨(some 5), .mov (.cst (.int .i64 2)), none⟩,
    ⟨(some 6), .mov (.cst (.int .i64 0)), none⟩] [])
  .ret) (.seq (.seq (.region false [⟨(some 30), .bin .eql (.tmp 7) (.cst (.int .i64 17)), none⟩,
    ⟨(some 29), .own 30, none⟩] [])
  (.cond (.tmp 29) .skip (.region false [⟨(some 31), .bin .eql (.tmp 7) (.cst (.int .i64 18)), none⟩,
    ⟨(some 29), .own 31, none⟩] [])))
  (.cond (.tmp 29) (.seq (.region false [⟨(some 2), .mov (.cst (.int .i64 4)), none⟩,
    ⟨(some 3), .mov (.cst (.int .i64 0)), none⟩,
    ⟨(some 4), .mov (.cst (.int .i64 0)), none⟩,
    ⟨(some 5), .mov (.cst (.int .i64 0)), none⟩,
    ⟨(some 6), .mov (.cst (.int .i64 1)), none⟩] [])
  .ret) (.seq (.region false [⟨(some 33), .bin .eql (.tmp 7) (.cst (.int .i64 19)), none⟩,
    ⟨(some 32), .own 33, none⟩] [])
  (.cond (.tmp 32) (.seq (.region false [⟨(some 2), .mov (.cst (.int .i64 3)), none⟩,
    ⟨(some 3), .mov (.cst (.int .i64 (-1))), none⟩,
    ⟨(some 4), .mov (.cst (.int .i64 0)), none⟩,
    ⟨(some 5), .mov (.cst (.int .i64 1)), none⟩,
    ⟨(some 6), .mov (.cst (.int .i64 0)), none⟩] [])
  .ret) (.seq (.seq (.region false [⟨(some 35), .bin .eql (.tmp 7) (.cst (.int .i64 20)), none⟩,
    ⟨(some 34), .own 35, none⟩] [])
  (.cond (.tmp 34) .skip (.region false [⟨(some 36), .bin .eql (.tmp 7) (.cst (.int .i64 21)), none⟩,
    ⟨(some 34), .own 36, none⟩] [])))
  (.cond (.tmp 34) (.seq (.region false [⟨(some 2), .mov (.cst (.int .i64 1)), none⟩,
    ⟨(some 3), .mov (.cst (.int .i64 (-2))), none⟩,
    ⟨(some 4), .mov (.cst (.int .i64 0)), none⟩,
    ⟨(some 5), .mov (.cst (.int .i64 2)), none⟩,
    ⟨(some 6), .mov (.cst (.int .i64 0)), none⟩] [])
  .ret) (.seq (.region false [⟨(some 38), .bin .eql (.tmp 7) (.cst (.int .i64 22)), none⟩,
    ⟨(some 37), .own 38, none⟩] [])
  (.cond (.tmp 37) (.seq (.region false [⟨(some 2), .mov (.cst (.int .i64 0)), none⟩,
    ⟨(some 3), .mov (.cst (.int .i64 0)), none⟩,
    ⟨(some 4), .mov (.cst (.int .i64 0)), none⟩,
    ⟨(some 5), .mov (.cst (.int .i64 (-1))), none⟩,
    ⟨(some 6), .mov (.cst (.int .i64 0)), none⟩] [])
  .ret) .skip))))))))))))))))))))))))
  (.seq (.region false [⟨(some 2), .mov (.cst (.int .i64 0)), none⟩,
    ⟨(some 3), .mov (.cst (.int .i64 0)), none⟩,
    ⟨(some 4), .mov (.cst (.int .i64 0)), none⟩,
    ⟨(some 5), .mov (.cst (.int .i64 0)), none⟩,
    ⟨(some 6), .mov (.cst (.int .i64 0)), none⟩] [])
  .ret)))
def x74_l0 : XCode := .seq (.seq (.region false [⟨(some 6), .mov (.tmp 3), none⟩,
    ⟨(some 7), .mov (.tmp 0), none⟩,
    ⟨(some 8), .lens false (.tmp 7), none⟩,
    ⟨(some 9), .bin .lss (.tmp 6) (.tmp 8), none⟩] [])
  (.cond (.tmp 9) .skip (.exit 0)))
  (.seq (.block 1 (.seq (.region true [⟨(some 12), .mov (.tmp 0), none⟩,
    ⟨(some 13), .mov (.tmp 3), none⟩,
    ⟨(some 14), .iaddr 1 (.tmp 12) (.tmp 13), none⟩,
    ⟨(some 15), .load (.tmp 14) 1 false, none⟩,
    ⟨(some 16), .mov (.tmp 0), none⟩,
    ⟨(some 17), .mov (.tmp 3), none⟩,
    ⟨(some 18), .bin .add (.tmp 17) (.cst (.int .i64 1)), none⟩,
    ⟨(some 19), .iaddr 1 (.tmp 16) (.tmp 18), none⟩,
    ⟨(some 20), .load (.tmp 19) 1 false, none⟩,
    ⟨(some 4), .own 15, none⟩,
    ⟨(some 5), .own 20, none⟩] [])
  (.seq (.region false [⟨(some 21), .mov (.tmp 5), none⟩,
    ⟨(some 22), .bin .geq (.tmp 21) (.cst (.int .i64 0)), none⟩,
    ⟨(some 23), .mov (.tmp 22), none⟩,
    ⟨(some 24), .mov (.tmp 4), (some (23, true))⟩,
    ⟨(some 25), .mov (.tmp 5), (some (23, true))⟩,
    ⟨(some 26), .bin .neq (.tmp 24) (.tmp 25), (some (23, true))⟩,
    ⟨(some 27), .pick (.tmp 23) (.tmp 26) (.cst (.bool false)), none⟩,
    ⟨(some 28), .mov (.tmp 27), none⟩,
    ⟨(some 29), .mov (.tmp 5), (some (28, false))⟩,
    ⟨(some 30), .bin .eql (.tmp 29) (.cst (.int .i64 (-1))), (some (28, false))⟩,
    ⟨(some 31), .mov (.tmp 30), (some (28, false))⟩,
    ⟨(some 32), .mov (.tmp 4), (some (31, true))⟩,
    ⟨(some 33), .bin .eql (.tmp 32) (.cst (.int .i64 0)), (some (31, true))⟩,
    ⟨(some 34), .pick (.tmp 31) (.tmp 33) (.cst (.bool false)), (some (28, false))⟩,
    ⟨(some 35), .pick (.tmp 28) (.cst (.bool true)) (.tmp 34), none⟩] [])
  (.cond (.tmp 35) (.seq (.region false [⟨(some 2), .mov (.cst (.bool false)), none⟩] [])
  .ret) .skip))))
  (.region false [⟨(some 10), .mov (.tmp 3), none⟩,
    ⟨(some 11), .bin .add (.tmp 10) (.cst (.int .i64 2)), none⟩,
    ⟨(some 3), .own 11, none⟩] []))
/-- custos/ast.count -/
def x74 : XFn := XFn.mk 36 [.tmp 2] (.seq (.region false [⟨(some 2), .mov (.cst (.bool false)), none⟩] [])
  (.seq (.seq (.region false [⟨(some 3), .mov (.cst (.int .i64 0)), none⟩] [])
  (.block 0 (.loop x74_l0)))
  (.seq (.region false [⟨(some 2), .mov (.cst (.bool true)), none⟩] [])
  .ret)))
/-- slices.ContainsFunc[[]string,string] -/
def x75 : XFn := XFn.mk 9 [.tmp 4] (.seq (.region false [⟨(some 4), .mov (.cst (.bool false)), none⟩] [])
  (.seq (.region false [⟨(some 5), .mov (.tmp 0), none⟩,
    ⟨(some 6), .mov (.tmp 1), none⟩,
    ⟨(some 7), .callw 68 [.tmp 5, .tmp 6], none⟩,
    ⟨(some 8), .bin .geq (.tmp 7) (.cst (.int .i64 0)), none⟩,
    ⟨(some 4), .own 8, none⟩] [])
  .ret))
/-- custos/ast.formed$1 -/
def x76 : XFn := XFn.mk 6 [.tmp 2] (.seq (.region false [⟨(some 2), .mov (.cst (.bool false)), none⟩] [])
  (.seq (.region false [⟨(some 3), .mov (.tmp 0), none⟩,
    ⟨(some 4), .callq 10 [.tmp 3], none⟩,
    ⟨(some 5), .not (.tmp 4), none⟩,
    ⟨(some 2), .own 5, none⟩] [])
  .ret))
/-- custos/ast.interval -/
def x77 : XFn := XFn.mk 33 [.tmp 2] (.seq (.region false [⟨(some 1), .box (.tmp 0) 3, none⟩,
    ⟨(some 2), .mov (.cst (.bool false)), none⟩] [])
  (.seq (.seq (.region false [⟨(some 3), .faddr (.tmp 1) 2, none⟩,
    ⟨(some 4), .load (.tmp 3) 1 false, none⟩] [])
  (.cond (.tmp 4) (.seq (.region false [⟨(some 5), .faddr (.tmp 1) 0, none⟩,
    ⟨(some 6), .load (.tmp 5) 1 false, none⟩,
    ⟨(some 7), .bin .geq (.tmp 6) (.cst (.int .i64 0)), none⟩,
    ⟨(some 8), .mov (.tmp 7), none⟩,
    ⟨(some 9), .faddr (.tmp 1) 0, (some (8, true))⟩,
    ⟨(some 10), .load (.tmp 9) 1 false, (some (8, true))⟩,
    ⟨(some 11), .bin .leq (.tmp 10) (.cst (.int .i64 1099511627776)), (some (8, true))⟩,
    ⟨(some 12), .pick (.tmp 8) (.tmp 11) (.cst (.bool false)), none⟩,
    ⟨(some 13), .mov (.tmp 12), none⟩,
    ⟨(some 14), .faddr (.tmp 1) 1, (some (13, true))⟩,
    ⟨(some 15), .load (.tmp 14) 1 false, (some (13, true))⟩,
    ⟨(some 16), .bin .eql (.tmp 15) (.cst (.int .i64 0)), (some (13, true))⟩,
    ⟨(some 17), .pick (.tmp 13) (.tmp 16) (.cst (.bool false)), none⟩,
    ⟨(some 2), .own 17, none⟩] [])
  .ret) .skip))
  (.seq (.region false [⟨(some 18), .faddr (.tmp 1) 0, none⟩,
    ⟨(some 19), .load (.tmp 18) 1 false, none⟩,
    ⟨(some 20), .bin .geq (.tmp 19) (.cst (.int .i64 0)), none⟩,
    ⟨(some 21), .mov (.tmp 20), none⟩,
    ⟨(some 22), .faddr (.tmp 1) 0, (some (21, true))⟩,
    ⟨(some 23), .load (.tmp 22) 1 false, (some (21, true))⟩,
    ⟨(some 24), .faddr (.tmp 1) 1, (some (21, true))⟩,
    ⟨(some 25), .load (.tmp 24) 1 false, (some (21, true))⟩,
    ⟨(some 26), .bin .leq (.tmp 23) (.tmp 25), (some (21, true))⟩,
    ⟨(some 27), .pick (.tmp 21) (.tmp 26) (.cst (.bool false)), none⟩,
    ⟨(some 28), .mov (.tmp 27), none⟩,
    ⟨(some 29), .faddr (.tmp 1) 1, (some (28, true))⟩,
    ⟨(some 30), .load (.tmp 29) 1 false, (some (28, true))⟩,
    ⟨(some 31), .bin .leq (.tmp 30) (.cst (.int .i64 1099511627776)), (some (28, true))⟩,
    ⟨(some 32), .pick (.tmp 28) (.tmp 31) (.cst (.bool false)), none⟩,
    ⟨(some 2), .own 32, none⟩] [])
  .ret)))
/-- custos/ast.twice$1 -/
def x78 : XFn := XFn.mk 11 [.tmp 3] (.seq (.region false [⟨(some 3), .mov (.cst (.bool false)), none⟩] [])
  (.seq (.region true [⟨(some 4), .load (.tmp 1) 1 false, none⟩,
    ⟨(some 5), .mov (.tmp 0), none⟩,
    ⟨(some 6), .callq 69 [.tmp 4, .tmp 5], none⟩,
    ⟨(some 7), .load (.tmp 1) 1 false, none⟩,
    ⟨(some 8), .mov (.tmp 0), none⟩,
    ⟨(some 9), .callq 79 [.tmp 7, .tmp 8], none⟩,
    ⟨(some 10), .bin .neq (.tmp 6) (.tmp 9), none⟩,
    ⟨(some 3), .own 10, none⟩] [])
  .ret))
def x79_l0 : XCode := .seq (.seq (.region false [⟨(some 9), .mov (.tmp 5), none⟩,
    ⟨(some 10), .bin .geq (.tmp 9) (.cst (.int .i64 0)), none⟩] [])
  (.cond (.tmp 10) .skip (.exit 0)))
  (.seq (.block 1 (.seq (.region false [⟨(some 13), .mov (.tmp 0), none⟩,
    ⟨(some 14), .mov (.tmp 5), none⟩,
    ⟨(some 15), .iaddr 1 (.tmp 13) (.tmp 14), none⟩,
    ⟨(some 16), .load (.tmp 15) 1 false, none⟩,
    ⟨(some 17), .mov (.tmp 1), none⟩,
    ⟨(some 18), .bin .eql (.tmp 16) (.tmp 17), none⟩] [])
  (.cond (.tmp 18) (.seq (.region false [⟨(some 19), .mov (.tmp 5), none⟩,
    ⟨(some 4), .own 19, none⟩] [])
  .ret) .skip)))
  (.region false [⟨(some 11), .mov (.tmp 5), none⟩,
    ⟨(some 12), .bin .sub (.tmp 11) (.cst (.int .i64 1)), none⟩,
    ⟨(some 5), .own 12, none⟩] []))
/-- custos/ast.lastIndex -/
def x79 : XFn := XFn.mk 20 [.tmp 4] (.seq (.region false [⟨(some 4), .mov (.cst (.int .i64 0)), none⟩] [])
  (.seq (.seq (.region false [⟨(some 6), .mov (.tmp 0), none⟩,
    ⟨(some 7), .lens false (.tmp 6), none⟩,
    ⟨(some 8), .bin .sub (.tmp 7) (.cst (.int .i64 1)), none⟩,
    ⟨(some 5), .own 8, none⟩] [])
  (.block 0 (.loop x79_l0)))
  (.seq (.region false [⟨(some 4), .mov (.cst (.int .i64 (-1))), none⟩] [])
  .ret)))
/-- custos/value.Check -/
def x80 : XFn := XFn.mk 58 [.tmp 2] (.seq (.region false [⟨(some 1), .box (.tmp 0) 4, none⟩,
    ⟨(some 2), .mov (.cst (.int .i64 0)), none⟩] [])
  (.seq (.region false [⟨(some 3), .mov (.cst (.bool false)), none⟩] [])
  (.seq (.seq (.region false [⟨(some 6), .faddr (.tmp 1) 0, none⟩,
    ⟨(some 7), .load (.tmp 6) 1 false, none⟩] [])
  (.block 0 (.seq (.region false [⟨(some 9), .bin .eql (.tmp 7) (.cst (.int .i64 1)), none⟩,
    ⟨(some 8), .own 9, none⟩] [])
  (.cond (.tmp 8) (.region false [⟨(some 10), .faddr (.tmp 1) 2, none⟩,
    ⟨(some 11), .load (.tmp 10) 1 false, none⟩,
    ⟨(some 12), .bin .neq (.tmp 11) (.cst (.int .i64 0)), none⟩,
    ⟨(some 13), .mov (.tmp 12), none⟩,
    ⟨(some 14), .faddr (.tmp 1) 3, (some (13, false))⟩,
    ⟨(some 15), .load (.tmp 14) 1 false, (some (13, false))⟩,
    ⟨(some 16), .bin .neq (.tmp 15) (.cst (.str [])), (some (13, false))⟩,
    ⟨(some 17), .pick (.tmp 13) (.cst (.bool true)) (.tmp 16), none⟩,
    ⟨(some 3), .own 17, none⟩] []) (.seq (.region false [⟨(some 19), .bin .eql (.tmp 7) (.cst (.int .i64 2)), none⟩,
    ⟨(some 18), .own 19, none⟩] [])
  (.cond (.tmp 18) (.seq (.region false [⟨(some 21), .faddr (.tmp 1) 1, none⟩,
    ⟨(some 22), .load (.tmp 21) 1 false, none⟩,
    ⟨(some 23), .faddr (.tmp 1) 2, none⟩,
    ⟨(some 24), .load (.tmp 23) 1 false, none⟩,
    ⟨(some 25), .callq 92 [.tmp 22, .tmp 24], none⟩,
    ⟨(some 20), .mov (.tmp 25), none⟩,
    ⟨(some 26), .ext 20 0, none⟩,
    ⟨(some 27), .ext 20 1, none⟩,
    ⟨(some 4), .alloc [.int .i64 0, .int .i64 0], none⟩,
    ⟨none, .store (.tmp 4) (.tmp 26) 2, none⟩,
    ⟨(some 5), .own 27, none⟩] [])
  (.region true [⟨(some 28), .faddr (.tmp 1) 3, none⟩,
    ⟨(some 29), .load (.tmp 28) 1 false, none⟩,
    ⟨(some 30), .bin .neq (.tmp 29) (.cst (.str [])), none⟩,
    ⟨(some 31), .mov (.tmp 30), none⟩,
    ⟨(some 32), .mov (.tmp 5), (some (31, false))⟩,
    ⟨(some 33), .bin .neq (.tmp 32) (.cst (.int .i64 0)), (some (31, false))⟩,
    ⟨(some 34), .pick (.tmp 31) (.cst (.bool true)) (.tmp 33), none⟩,
    ⟨(some 35), .mov (.tmp 34), none⟩,
    ⟨(some 36), .load (.tmp 4) 2 true, (some (35, false))⟩,
    ⟨(some 37), .load (.tmp 1) 4 true, (some (35, false))⟩,
    ⟨(some 38), .callq 93 [.tmp 37], (some (35, false))⟩,
    ⟨(some 39), .eqagg true [1, 1] (.tmp 36) (.tmp 38), (some (35, false))⟩,
    ⟨(some 40), .pick (.tmp 35) (.cst (.bool true)) (.tmp 39), none⟩,
    ⟨(some 3), .own 40, none⟩] [])) (.seq (.region false [⟨(some 42), .bin .eql (.tmp 7) (.cst (.int .i64 3)), none⟩,
    ⟨(some 41), .own 42, none⟩] [])
  (.cond (.tmp 41) (.region false [⟨(some 43), .faddr (.tmp 1) 1, none⟩,
    ⟨(some 44), .load (.tmp 43) 1 false, none⟩,
    ⟨(some 45), .bin .neq (.tmp 44) (.cst (.int .i64 0)), none⟩,
    ⟨(some 46), .mov (.tmp 45), none⟩,
    ⟨(some 47), .faddr (.tmp 1) 2, (some (46, false))⟩,
    ⟨(some 48), .load (.tmp 47) 1 false, (some (46, false))⟩,
    ⟨(some 49), .bin .neq (.tmp 48) (.cst (.int .i64 0)), (some (46, false))⟩,
    ⟨(some 50), .pick (.tmp 46) (.cst (.bool true)) (.tmp 49), none⟩,
    ⟨(some 3), .own 50, none⟩] []) (.region false [⟨(some 3), .mov (.cst (.bool true)), none⟩] [])))))))))
  (.seq (.block 1 (.seq (.region false [⟨(some 52), .mov (.tmp 3), none⟩,
    ⟨(some 51), .own 52, none⟩] [])
  (.cond (.tmp 51) (.seq (.region false [⟨(some 2), .mov (.cst (.int .i64 20)), none⟩] [])
  .ret) (.seq (.region false [⟨(some 54), .faddr (.tmp 1) 3, none⟩,
    ⟨(some 55), .load (.tmp 54) 1 false, none⟩,
    ⟨(some 56), .lens true (.tmp 55), none⟩,
    ⟨(some 57), .bin .gtr (.tmp 56) (.cst (.int .i64 64)), none⟩,
    ⟨(some 53), .own 57, none⟩] [])
  (.cond (.tmp 53) (.seq (.region false [⟨(some 2), .mov (.cst (.int .i64 2)), none⟩] [])
  .ret) .skip)))))
  (.seq (.region false [⟨(some 2), .mov (.cst (.int .i64 0)), none⟩] [])
  .ret)))))
/-- custos/rat.Of -/
def x92 : XFn := XFn.mk 64 [.cell 4 2 true, .tmp 5] (.seq (.region false [⟨(some 4), .alloc [.int .i64 0, .int .i64 0], none⟩,
    ⟨(some 5), .mov (.cst (.int .i64 0)), none⟩] [])
  (.seq (.seq (.region false [⟨(some 10), .mov (.tmp 1), none⟩,
    ⟨(some 11), .bin .eql (.tmp 10) (.cst (.int .i64 0)), none⟩] [])
  (.cond (.tmp 11) (.seq (.region false [⟨(some 12), .build [.int .i64 0, .int .i64 0] [], none⟩,
    ⟨none, .store (.tmp 4) (.tmp 12) 2, none⟩,
    ⟨(some 5), .mov (.cst (.int .i64 11)), none⟩] [])
  .ret) .skip))
  (.seq (.region false [⟨(some 13), .mov (.tmp 0), none⟩,
    ⟨(some 14), .callq 101 [.tmp 13], none⟩,
    ⟨(some 15), .mov (.tmp 1), none⟩,
    ⟨(some 16), .callq 101 [.tmp 15], none⟩,
    ⟨(some 17), .callq 100 [.tmp 14, .tmp 16], none⟩,
    ⟨(some 6), .own 17, none⟩] [])
  (.seq (.region true [⟨(some 18), .mov (.tmp 0), none⟩,
    ⟨(some 19), .callq 101 [.tmp 18], none⟩,
    ⟨(some 20), .mov (.tmp 6), none⟩,
    ⟨(some 21), .bin .quo (.tmp 19) (.tmp 20), none⟩,
    ⟨(some 22), .mov (.tmp 1), none⟩,
    ⟨(some 23), .callq 101 [.tmp 22], none⟩,
    ⟨(some 24), .mov (.tmp 6), none⟩,
    ⟨(some 25), .bin .quo (.tmp 23) (.tmp 24), none⟩,
    ⟨(some 7), .own 21, none⟩,
    ⟨(some 8), .own 25, none⟩] [])
  (.seq (.region false [⟨(some 26), .mov (.tmp 0), none⟩,
    ⟨(some 27), .bin .neq (.tmp 26) (.cst (.int .i64 0)), none⟩,
    ⟨(some 28), .mov (.tmp 27), none⟩,
    ⟨(some 29), .mov (.tmp 0), (some (28, true))⟩,
    ⟨(some 30), .bin .lss (.tmp 29) (.cst (.int .i64 0)), (some (28, true))⟩,
    ⟨(some 31), .mov (.tmp 1), (some (28, true))⟩,
    ⟨(some 32), .bin .lss (.tmp 31) (.cst (.int .i64 0)), (some (28, true))⟩,
    ⟨(some 33), .beq true (.tmp 30) (.tmp 32), (some (28, true))⟩,
    ⟨(some 34), .pick (.tmp 28) (.tmp 33) (.cst (.bool false)), none⟩,
    ⟨(some 9), .own 34, none⟩] [])
  (.seq (.seq (.region false [⟨(some 35), .mov (.tmp 8), none⟩,
    ⟨(some 36), .bin .gtr (.tmp 35) (.cst (.int .u64 9223372036854775807)), none⟩,
    ⟨(some 37), .mov (.tmp 36), none⟩,
    ⟨(some 38), .mov (.tmp 7), (some (37, false))⟩,
    ⟨(some 39), .bin .gtr (.tmp 38) (.cst (.int .u64 9223372036854775808)), (some (37, false))⟩,
    ⟨(some 40), .pick (.tmp 37) (.cst (.bool true)) (.tmp 39), none⟩,
    ⟨(some 41), .mov (.tmp 40), none⟩,
    ⟨(some 42), .mov (.tmp 7), (some (41, false))⟩,
    ⟨(some 43), .bin .eql (.tmp 42) (.cst (.int .u64 9223372036854775808)), (some (41, false))⟩,
    ⟨(some 44), .mov (.tmp 43), (some (41, false))⟩,
    ⟨(some 45), .mov (.tmp 9), (some (44, true))⟩,
    ⟨(some 46), .not (.tmp 45), (some (44, true))⟩,
    ⟨(some 47), .pick (.tmp 44) (.tmp 46) (.cst (.bool false)), (some (41, false))⟩,
    ⟨(some 48), .pick (.tmp 41) (.cst (.bool true)) (.tmp 47), none⟩] [])
  (.cond (.tmp 48) (.seq (.region false [⟨(some 49), .build [.int .i64 0, .int .i64 0] [], none⟩,
    ⟨none, .store (.tmp 4) (.tmp 49) 2, none⟩,
    ⟨(some 5), .mov (.cst (.int .i64 10)), none⟩] [])
  .ret) .skip))
  (.seq (.seq (.region false [⟨(some 50), .mov (.tmp 9), none⟩] [])
  (.cond (.tmp 50) (.seq (.region false [⟨(some 51), .mov (.tmp 7), none⟩,
    ⟨(some 52), .bin .sub (.tmp 51) (.cst (.int .u64 1)), none⟩,
    ⟨(some 53), .conv .i64 (.tmp 52), none⟩,
    ⟨(some 54), .neg (.tmp 53), none⟩,
    ⟨(some 55), .bin .sub (.tmp 54) (.cst (.int .i64 1)), none⟩,
    ⟨(some 56), .mov (.tmp 8), none⟩,
    ⟨(some 57), .conv .i64 (.tmp 56), none⟩,
    ⟨(some 58), .build [.int .i64 0, .int .i64 0] [(0, 1, .tmp 55), (1, 1, .tmp 57)], none⟩,
    ⟨none, .store (.tmp 4) (.tmp 58) 2, none⟩,
    ⟨(some 5), .mov (.cst (.int .i64 0)), none⟩] [])
  .ret) .skip))
  (.seq (.region false [⟨(some 59), .mov (.tmp 7), none⟩,
    ⟨(some 60), .conv .i64 (.tmp 59), none⟩,
    ⟨(some 61), .mov (.tmp 8), none⟩,
    ⟨(some 62), .conv .i64 (.tmp 61), none⟩,
    ⟨(some 63), .build [.int .i64 0, .int .i64 0] [(0, 1, .tmp 60), (1, 1, .tmp 62)], none⟩,
    ⟨none, .store (.tmp 4) (.tmp 63) 2, none⟩,
    ⟨(some 5), .mov (.cst (.int .i64 0)), none⟩] [])
  .ret))))))))
/-- custos/value.fraction -/
def x93 : XFn := XFn.mk 8 [.cell 2 2 true] (.seq (.region false [⟨(some 1), .box (.tmp 0) 4, none⟩,
    ⟨(some 2), .alloc [.int .i64 0, .int .i64 0], none⟩] [])
  (.seq (.region false [⟨(some 3), .faddr (.tmp 1) 1, none⟩,
    ⟨(some 4), .load (.tmp 3) 1 false, none⟩,
    ⟨(some 5), .faddr (.tmp 1) 2, none⟩,
    ⟨(some 6), .load (.tmp 5) 1 false, none⟩,
    ⟨(some 7), .build [.int .i64 0, .int .i64 0] [(0, 1, .tmp 4), (1, 1, .tmp 6)], none⟩,
    ⟨none, .store (.tmp 2) (.tmp 7) 2, none⟩] [])
  .ret))
def x100_l0 : XCode := .seq (.seq (.region false [⟨(some 5), .mov (.tmp 1), none⟩,
    ⟨(some 6), .bin .neq (.tmp 5) (.cst (.int .u64 0)), none⟩] [])
  (.cond (.tmp 6) .skip (.exit 0)))
  (.block 1 (.region true [⟨(some 7), .mov (.tmp 1), none⟩,
    ⟨(some 8), .mov (.tmp 0), none⟩,
    ⟨(some 9), .mov (.tmp 1), none⟩,
    ⟨(some 10), .bin .rem (.tmp 8) (.tmp 9), none⟩,
    ⟨(some 0), .own 7, none⟩,
    ⟨(some 1), .own 10, none⟩] []))
/-- custos/rat.gcd -/
def x100 : XFn := XFn.mk 12 [.tmp 4] (.seq (.region false [⟨(some 4), .mov (.cst (.int .u64 0)), none⟩] [])
  (.seq (.block 0 (.loop x100_l0))
  (.seq (.region false [⟨(some 11), .mov (.tmp 0), none⟩,
    ⟨(some 4), .own 11, none⟩] [])
  .ret)))
/-- custos/rat.size -/
def x101 : XFn := XFn.mk 10 [.tmp 2] (.seq (.region false [⟨(some 2), .mov (.cst (.int .u64 0)), none⟩] [])
  (.seq (.seq (.region false [⟨(some 3), .mov (.tmp 0), none⟩,
    ⟨(some 4), .bin .lss (.tmp 3) (.cst (.int .i64 0)), none⟩] [])
  (.cond (.tmp 4) (.seq (.region false [⟨(some 5), .mov (.tmp 0), none⟩,
    ⟨(some 6), .conv .u64 (.tmp 5), none⟩,
    ⟨(some 7), .neg (.tmp 6), none⟩,
    ⟨(some 2), .own 7, none⟩] [])
  .ret) .skip))
  (.seq (.region false [⟨(some 8), .mov (.tmp 0), none⟩,
    ⟨(some 9), .conv .u64 (.tmp 8), none⟩,
    ⟨(some 2), .own 9, none⟩] [])
  .ret)))
def X : List (Option XFn) := [none, none, none, some x3, some x4, some x5, none, none, some x8, some x9, some x10, some x11, some x12, some x13, some x14, some x15, some x16, some x17, none, some x19, some x20, some x21, some x22, some x23, some x24, some x25, some x26, some x27, some x28, some x29, some x30, some x31, some x32, some x33, some x34, some x35, some x36, some x37, some x38, some x39, some x40, some x41, some x42, some x43, some x44, some x45, none, some x47, some x48, some x49, some x50, some x51, none, some x53, some x54, none, none, some x57, some x58, some x59, some x60, some x61, some x62, some x63, some x64, some x65, some x66, some x67, some x68, some x69, none, none, some x72, some x73, some x74, some x75, some x76, some x77, some x78, some x79, some x80, none, none, none, none, none, none, none, none, none, none, none, some x92, some x93, none, none, none, none, none, none, some x100, some x101]
end Go.Proofs.Ytnmaahfipddkmaa.Sx.T
