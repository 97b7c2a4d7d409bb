/- The functions of this seat in the small language, printed by a program of ours. -/
import Derived.Test.YtnmaahfipddkmaaGreatSxA
set_option linter.unusedVariables false
set_option linter.unusedSimpArgs false
namespace Go.Proofs.YtnmaahfipddkmaaGreat.Sx.T
open Go Go.Proofs.YtnmaahfipddkmaaGreat.Sx
set_option maxRecDepth 10000
/-- custos/custoslaw06.AstSizes -/
def x6 : XFn := XFn.mk 22 [.tmp 2] (.seq (.region false [⟨some 1, .box (.tmp 0) 10, none⟩,
 ⟨some 2, .mov (.cst (.bool false)), none⟩] [])
 (.seq (.region false [⟨some 5, .load (.tmp 1) 10 true, none⟩,
 ⟨some 6, .callq 20 [.tmp 5], none⟩,
 ⟨some 3, .own 6, none⟩] [])
 (.seq (.region false [⟨some 7, .load (.tmp 1) 10 true, none⟩,
 ⟨some 8, .callq 21 [.tmp 7], none⟩,
 ⟨some 4, .own 8, none⟩] [])
 (.seq (.region false [⟨some 9, .callq 11 [], none⟩,
 ⟨some 10, .mov (.tmp 9), none⟩,
 ⟨some 11, .load (.tmp 1) 10 true, (some (10, true))⟩,
 ⟨some 12, .callq 22 [.tmp 11], (some (10, true))⟩,
 ⟨some 13, .mov (.tmp 3), (some (10, true))⟩,
 ⟨some 14, .bin .eql (.tmp 12) (.tmp 13), (some (10, true))⟩,
 ⟨some 15, .pick (.tmp 10) (.tmp 14) (.cst (.bool false)), none⟩,
 ⟨some 16, .mov (.tmp 15), none⟩,
 ⟨some 17, .load (.tmp 1) 10 true, (some (16, true))⟩,
 ⟨some 18, .callq 23 [.tmp 17], (some (16, true))⟩,
 ⟨some 19, .mov (.tmp 4), (some (16, true))⟩,
 ⟨some 20, .bin .eql (.tmp 18) (.tmp 19), (some (16, true))⟩,
 ⟨some 21, .pick (.tmp 16) (.tmp 20) (.cst (.bool false)), none⟩,
 ⟨some 2, .own 21, none⟩] [])
  .ret))))
/-- custos/ast.Clone -/
def x7 : XFn := XFn.mk 20 [.cell 2 10 true] (.seq (.region false [⟨some 1, .box (.tmp 0) 10, none⟩,
 ⟨some 2, .alloc [.int .i64 0, .str [], .int .i64 0, .nilsl, .nilsl, .int .i64 0, .int .i64 0, .bool false, .nilsl, .nilsl], none⟩] [])
 (.seq (.region false [⟨some 3, .faddr (.tmp 1) 3, none⟩,
 ⟨some 4, .load (.tmp 3) 1 false, none⟩,
 ⟨some 5, .callqd 24 [.tmp 4], none⟩,
 ⟨some 6, .faddr (.tmp 1) 3, none⟩,
 ⟨none, .store (.tmp 6) (.tmp 5) 1, none⟩] [])
 (.seq (.region false [⟨some 7, .faddr (.tmp 1) 4, none⟩,
 ⟨some 8, .load (.tmp 7) 1 false, none⟩,
 ⟨some 9, .callw 25 [.tmp 8, .cst (.fn 26 [] [])], none⟩,
 ⟨some 10, .faddr (.tmp 1) 4, none⟩,
 ⟨none, .store (.tmp 10) (.tmp 9) 1, none⟩] [])
 (.seq (.region false [⟨some 11, .faddr (.tmp 1) 9, none⟩,
 ⟨some 12, .load (.tmp 11) 1 false, none⟩,
 ⟨some 13, .callw 27 [.tmp 12, .cst (.fn 28 [] [])], none⟩,
 ⟨some 14, .faddr (.tmp 1) 9, none⟩,
 ⟨none, .store (.tmp 14) (.tmp 13) 1, none⟩] [])
 (.seq (.region false [⟨some 15, .faddr (.tmp 1) 8, none⟩,
 ⟨some 16, .load (.tmp 15) 1 false, none⟩,
 ⟨some 17, .callw 29 [.tmp 16, .cst (.fn 7 [] [])], none⟩,
 ⟨some 18, .faddr (.tmp 1) 8, none⟩,
 ⟨none, .store (.tmp 18) (.tmp 17) 1, none⟩] [])
 (.seq (.region false [⟨some 19, .load (.tmp 1) 10 true, none⟩,
 ⟨none, .store (.tmp 2) (.tmp 19) 10, none⟩] [])
  .ret))))))
/-- custos/ast.Check -/
def x8 : XFn := XFn.mk 8 [.tmp 2] (.seq (.region false [⟨some 1, .box (.tmp 0) 10, none⟩,
 ⟨some 2, .mov (.cst (.int .i64 0)), none⟩] [])
 (.seq (.region false [⟨some 3, .load (.tmp 1) 10 true, none⟩,
 ⟨some 4, .callq 30 [.tmp 3], none⟩,
 ⟨some 5, .nilck (.tmp 4), none⟩,
 ⟨some 6, .faddr (.tmp 5) 2, none⟩,
 ⟨some 7, .load (.tmp 6) 1 false, none⟩,
 ⟨some 2, .own 7, none⟩] [])
  .ret))
/-- custos/custosref06.Check -/
def x9 : XFn := XFn.mk 23 [.tmp 2] (.seq (.region false [⟨some 1, .box (.tmp 0) 10, none⟩,
 ⟨some 2, .mov (.cst (.int .i64 0)), none⟩] [])
 (.seq (.region false [⟨some 5, .build [.int .i64 0, .int .i64 0, .int .i64 0] [], none⟩,
 ⟨some 6, .box (.tmp 5) 3, none⟩,
 ⟨some 3, .own 6, none⟩] [])
 (.seq (.region false [⟨some 7, .mov (.tmp 3), none⟩,
 ⟨some 8, .load (.tmp 1) 10 true, none⟩,
 ⟨some 9, .callw 31 [.tmp 7, .tmp 8, .cst (.int .i64 1)], none⟩] [])
 (.seq (.seq (.region false [⟨some 10, .mov (.tmp 3), none⟩,
 ⟨some 11, .nilck (.tmp 10), none⟩,
 ⟨some 12, .faddr (.tmp 11) 2, none⟩,
 ⟨some 13, .load (.tmp 12) 1 false, none⟩,
 ⟨some 14, .bin .neq (.tmp 13) (.cst (.int .i64 0)), none⟩] [])
  (.cond (.tmp 14) (.seq (.region false [⟨some 15, .mov (.tmp 3), none⟩,
 ⟨some 16, .nilck (.tmp 15), none⟩,
 ⟨some 17, .faddr (.tmp 16) 2, none⟩,
 ⟨some 18, .load (.tmp 17) 1 false, none⟩,
 ⟨some 2, .own 18, none⟩] [])
  .ret) .skip))
 (.seq (.region false [⟨some 19, .load (.tmp 1) 10 true, none⟩,
 ⟨some 20, .callq 32 [.tmp 19], none⟩,
 ⟨some 4, .own 20, none⟩] [])
 (.seq (.seq (.region false [⟨some 21, .mov (.tmp 4), none⟩,
 ⟨some 22, .not (.tmp 21), none⟩] [])
  (.cond (.tmp 22) (.seq (.region false [⟨some 2, .mov (.cst (.int .i64 30)), none⟩] [])
  .ret) .skip))
 (.seq (.region false [⟨some 2, .mov (.cst (.int .i64 0)), none⟩] [])
  .ret)))))))
/-- custos/custoslaw06.live -/
def x11 : XFn := XFn.mk 94 [.tmp 0] (.seq (.region false [⟨some 0, .mov (.cst (.bool false)), none⟩] [])
 (.seq (.region false [⟨some 9, .bslice 1 [.str [], .str []] [(0, 1, .cst (.str [120])), (1, 1, .cst (.str [121]))], none⟩,
 ⟨some 10, .callq 38 [.tmp 9], none⟩,
 ⟨some 11, .callq 39 [.cst (.str [120])], none⟩,
 ⟨some 12, .build [.int .i64 0, .int .i64 0, .int .i64 0, .str []] [(0, 1, .cst (.int .i64 1)), (1, 1, .cst (.int .i64 3))], none⟩,
 ⟨some 13, .build [.int .i64 0, .str [], .int .i64 0, .int .i64 0, .int .i64 0, .str [], .nilsl] [(0, 1, .cst (.int .i64 2)), (2, 4, .tmp 12)], none⟩,
 ⟨some 14, .bslice 7 [.int .i64 0, .str [], .int .i64 0, .int .i64 0, .int .i64 0, .str [], .nilsl, .int .i64 0, .str [], .int .i64 0, .int .i64 0, .int .i64 0, .str [], .nilsl] [(0, 7, .tmp 11), (7, 7, .tmp 13)], none⟩,
 ⟨some 15, .build [.int .i64 0, .str [], .int .i64 0, .nilsl, .nilsl, .int .i64 0, .int .i64 0, .bool false, .nilsl, .nilsl] [(0, 1, .cst (.int .i64 5)), (4, 1, .tmp 14)], none⟩,
 ⟨some 16, .callq 37 [.tmp 10, .tmp 15], none⟩,
 ⟨some 1, .alloc [.int .i64 0, .str [], .int .i64 0, .nilsl, .nilsl, .int .i64 0, .int .i64 0, .bool false, .nilsl, .nilsl], none⟩,
 ⟨none, .store (.tmp 1) (.tmp 16) 10, none⟩] [])
 (.seq (.region false [⟨some 18, .load (.tmp 1) 10 true, none⟩,
 ⟨some 19, .bslice 1 [.int .i64 0] [(0, 1, .cst (.int .i64 0))], none⟩,
 ⟨some 20, .callq 17 [.tmp 18, .tmp 19], none⟩,
 ⟨some 17, .mov (.tmp 20), none⟩,
 ⟨some 21, .ext 17 0, none⟩,
 ⟨some 22, .ext 17 1, none⟩,
 ⟨some 2, .alloc [.int .i64 0, .str [], .int .i64 0, .nilsl, .nilsl, .int .i64 0, .int .i64 0, .bool false, .nilsl, .nilsl], none⟩,
 ⟨none, .store (.tmp 2) (.tmp 21) 10, none⟩,
 ⟨some 3, .own 22, none⟩] [])
 (.seq (.region false [⟨some 24, .load (.tmp 1) 10 true, none⟩,
 ⟨some 25, .bslice 1 [.int .i64 0] [(0, 1, .cst (.int .i64 2))], none⟩,
 ⟨some 26, .callq 17 [.tmp 24, .tmp 25], none⟩,
 ⟨some 23, .mov (.tmp 26), none⟩,
 ⟨some 27, .ext 23 0, none⟩,
 ⟨some 28, .ext 23 1, none⟩,
 ⟨some 4, .alloc [.int .i64 0, .str [], .int .i64 0, .nilsl, .nilsl, .int .i64 0, .int .i64 0, .bool false, .nilsl, .nilsl], none⟩,
 ⟨none, .store (.tmp 4) (.tmp 27) 10, none⟩,
 ⟨some 5, .own 28, none⟩] [])
 (.seq (.region false [⟨some 29, .load (.tmp 1) 10 true, none⟩,
 ⟨some 30, .bslice 10 [.int .i64 0, .str [], .int .i64 0, .nilsl, .nilsl, .int .i64 0, .int .i64 0, .bool false, .nilsl, .nilsl] [(0, 10, .tmp 29)], none⟩,
 ⟨some 31, .build [.int .i64 0, .str [], .int .i64 0, .nilsl, .nilsl, .int .i64 0, .int .i64 0, .bool false, .nilsl, .nilsl] [(0, 1, .cst (.int .i64 8)), (8, 1, .tmp 30)], none⟩,
 ⟨some 32, .callq 8 [.tmp 31], none⟩,
 ⟨some 6, .own 32, none⟩] [])
 (.seq (.region false [⟨some 33, .callq 39 [.cst (.str [98])], none⟩,
 ⟨some 34, .callq 39 [.cst (.str [97])], none⟩,
 ⟨some 35, .bslice 7 [.int .i64 0, .str [], .int .i64 0, .int .i64 0, .int .i64 0, .str [], .nilsl, .int .i64 0, .str [], .int .i64 0, .int .i64 0, .int .i64 0, .str [], .nilsl] [(0, 7, .tmp 33), (7, 7, .tmp 34)], none⟩,
 ⟨some 36, .build [.int .i64 0, .str [], .int .i64 0, .int .i64 0, .int .i64 0, .str [], .nilsl] [(0, 1, .cst (.int .i64 3)), (6, 1, .tmp 35)], none⟩,
 ⟨some 37, .callq 14 [.tmp 36], none⟩,
 ⟨some 7, .own 37, none⟩] [])
 (.seq (.region false [⟨some 38, .load (.tmp 1) 10 true, none⟩,
 ⟨some 39, .callq 8 [.tmp 38], none⟩,
 ⟨some 40, .bin .eql (.tmp 39) (.cst (.int .i64 0)), none⟩,
 ⟨some 41, .mov (.tmp 40), none⟩,
 ⟨some 42, .mov (.tmp 6), (some (41, true))⟩,
 ⟨some 43, .bin .eql (.tmp 42) (.cst (.int .i64 1)), (some (41, true))⟩,
 ⟨some 44, .pick (.tmp 41) (.tmp 43) (.cst (.bool false)), none⟩,
 ⟨some 45, .mov (.tmp 44), none⟩,
 ⟨some 46, .mov (.tmp 3), (some (45, true))⟩,
 ⟨some 47, .bin .eql (.tmp 46) (.cst (.int .i64 0)), (some (45, true))⟩,
 ⟨some 48, .pick (.tmp 45) (.tmp 47) (.cst (.bool false)), none⟩,
 ⟨some 49, .mov (.tmp 48), none⟩,
 ⟨some 50, .mov (.tmp 5), (some (49, true))⟩,
 ⟨some 51, .bin .eql (.tmp 50) (.cst (.int .i64 5)), (some (49, true))⟩,
 ⟨some 52, .pick (.tmp 49) (.tmp 51) (.cst (.bool false)), none⟩,
 ⟨some 53, .mov (.tmp 52), none⟩,
 ⟨some 54, .mov (.tmp 7), (some (53, true))⟩,
 ⟨some 55, .bslice 1 [.str [], .str []] [(0, 1, .cst (.str [97])), (1, 1, .cst (.str [98]))], (some (53, true))⟩,
 ⟨some 56, .callq 16 [.tmp 54, .tmp 55], (some (53, true))⟩,
 ⟨some 57, .pick (.tmp 53) (.tmp 56) (.cst (.bool false)), none⟩,
 ⟨some 8, .own 57, none⟩] [])
 (.seq (.region true [⟨some 58, .mov (.tmp 8), none⟩,
 ⟨some 59, .mov (.tmp 58), none⟩,
 ⟨some 60, .load (.tmp 1) 10 true, (some (59, true))⟩,
 ⟨some 61, .callq 12 [.tmp 60], (some (59, true))⟩,
 ⟨some 62, .bslice 1 [.str [], .str []] [(0, 1, .cst (.str [120])), (1, 1, .cst (.str [121]))], (some (59, true))⟩,
 ⟨some 63, .callq 16 [.tmp 61, .tmp 62], (some (59, true))⟩,
 ⟨some 64, .pick (.tmp 59) (.tmp 63) (.cst (.bool false)), none⟩,
 ⟨some 65, .mov (.tmp 64), none⟩,
 ⟨some 66, .load (.tmp 1) 10 true, (some (65, true))⟩,
 ⟨some 67, .callq 22 [.tmp 66], (some (65, true))⟩,
 ⟨some 68, .bin .eql (.tmp 67) (.cst (.int .i64 7)), (some (65, true))⟩,
 ⟨some 69, .pick (.tmp 65) (.tmp 68) (.cst (.bool false)), none⟩,
 ⟨some 70, .mov (.tmp 69), none⟩,
 ⟨some 71, .load (.tmp 1) 10 true, (some (70, true))⟩,
 ⟨some 72, .callq 23 [.tmp 71], (some (70, true))⟩,
 ⟨some 73, .bin .eql (.tmp 72) (.cst (.int .i64 3)), (some (70, true))⟩,
 ⟨some 74, .pick (.tmp 70) (.tmp 73) (.cst (.bool false)), none⟩,
 ⟨some 75, .mov (.tmp 74), none⟩,
 ⟨some 76, .load (.tmp 2) 10 true, (some (75, true))⟩,
 ⟨some 77, .bslice 1 [.str [], .str []] [(0, 1, .cst (.str [120])), (1, 1, .cst (.str [121]))], (some (75, true))⟩,
 ⟨some 78, .callq 38 [.tmp 77], (some (75, true))⟩,
 ⟨some 79, .callq 40 [.tmp 76, .tmp 78], (some (75, true))⟩,
 ⟨some 80, .pick (.tmp 75) (.tmp 79) (.cst (.bool false)), none⟩,
 ⟨some 81, .mov (.tmp 80), none⟩,
 ⟨some 82, .callq 41 [.cst (.str [97, 95, 57])], (some (81, true))⟩,
 ⟨some 83, .pick (.tmp 81) (.tmp 82) (.cst (.bool false)), none⟩,
 ⟨some 84, .mov (.tmp 83), none⟩,
 ⟨some 85, .callq 41 [.cst (.str [97, 110, 100])], (some (84, true))⟩,
 ⟨some 86, .not (.tmp 85), (some (84, true))⟩,
 ⟨some 87, .pick (.tmp 84) (.tmp 86) (.cst (.bool false)), none⟩,
 ⟨some 88, .mov (.tmp 87), none⟩,
 ⟨some 89, .load (.tmp 1) 10 true, (some (88, true))⟩,
 ⟨some 90, .callq 7 [.tmp 89], (some (88, true))⟩,
 ⟨some 91, .load (.tmp 1) 10 true, (some (88, true))⟩,
 ⟨some 92, .callq 40 [.tmp 90, .tmp 91], (some (88, true))⟩,
 ⟨some 93, .pick (.tmp 88) (.tmp 92) (.cst (.bool false)), none⟩,
 ⟨some 0, .own 93, none⟩] [])
  .ret))))))))
/-- custos/ast.Free -/
def x12 : XFn := XFn.mk 14 [.tmp 2] (.seq (.region false [⟨some 1, .box (.tmp 0) 10, none⟩,
 ⟨some 2, .mov (.cst .nilsl), none⟩] [])
 (.seq (.seq (.region false [⟨some 5, .load (.tmp 1) 10 true, none⟩,
 ⟨some 6, .callq 8 [.tmp 5], none⟩,
 ⟨some 7, .bin .neq (.tmp 6) (.cst (.int .i64 0)), none⟩] [])
  (.cond (.tmp 7) (.seq (.region false [⟨some 2, .mov (.cst .nilsl), none⟩] [])
  .ret) .skip))
 (.seq (.region false [⟨some 9, .load (.tmp 1) 10 true, none⟩,
 ⟨some 10, .callq 42 [.tmp 9], none⟩,
 ⟨some 8, .mov (.tmp 10), none⟩,
 ⟨some 11, .ext 8 0, none⟩,
 ⟨some 12, .ext 8 1, none⟩,
 ⟨some 3, .own 11, none⟩,
 ⟨some 4, .own 12, none⟩] [])
 (.seq (.region false [⟨some 13, .mov (.tmp 3), none⟩,
 ⟨some 2, .own 13, none⟩] [])
  .ret))))
def x14_r0 : XCode := .seq (.region false [⟨some 18, .bin .lss (.tmp 17) (.tmp 16), none⟩] [])
 (.seq (.cond (.tmp 18) .skip (.exit 0))
 (.seq (.block 1 (.seq (.region false [⟨some 19, .iaddr 7 (.tmp 15) (.tmp 17), none⟩,
 ⟨some 20, .load (.tmp 19) 7 true, none⟩,
 ⟨some 5, .alloc [.int .i64 0, .str [], .int .i64 0, .int .i64 0, .int .i64 0, .str [], .nilsl], none⟩,
 ⟨none, .store (.tmp 5) (.tmp 20) 7, none⟩] [])
  (.region false [⟨some 21, .own 3, none⟩,
 ⟨some 22, .load (.tmp 5) 7 true, none⟩,
 ⟨some 23, .callq 14 [.tmp 22], none⟩,
 ⟨some 24, .app true 1 16 21 (.tmp 23), none⟩,
 ⟨some 3, .own 24, none⟩] [])))
  (.region false [⟨some 25, .bin .add (.tmp 17) (.cst (.int .i64 1)), none⟩,
 ⟨some 17, .mov (.tmp 25), none⟩] [])))
def x14_l0 : XCode := x14_r0
/-- custos/ast.TermVars -/
def x14 : XFn := XFn.mk 28 [.tmp 2] (.seq (.region false [⟨some 1, .box (.tmp 0) 7, none⟩,
 ⟨some 2, .mov (.cst .nilsl), none⟩] [])
 (.seq (.region false [⟨some 3, .mov (.cst .nilsl), none⟩] [])
 (.seq (.seq (.region false [⟨some 6, .faddr (.tmp 1) 0, none⟩,
 ⟨some 7, .load (.tmp 6) 1 false, none⟩,
 ⟨some 8, .bin .eql (.tmp 7) (.cst (.int .i64 1)), none⟩] [])
  (.cond (.tmp 8) (.region false [⟨some 9, .own 3, none⟩,
 ⟨some 10, .faddr (.tmp 1) 1, none⟩,
 ⟨some 11, .load (.tmp 10) 1 false, none⟩,
 ⟨some 12, .bslice 1 [.str []] [(0, 1, .tmp 11)], none⟩,
 ⟨some 13, .app true 1 16 9 (.tmp 12), none⟩,
 ⟨some 3, .own 13, none⟩] []) .skip))
 (.seq (.seq (.region false [⟨some 14, .faddr (.tmp 1) 6, none⟩,
 ⟨some 15, .load (.tmp 14) 1 false, none⟩,
 ⟨some 16, .lens false (.tmp 15), none⟩,
 ⟨some 17, .mov (.cst (.int .i64 0)), none⟩] [])
  (.block 0 (.loop x14_l0)))
 (.seq (.region false [⟨some 26, .own 3, none⟩,
 ⟨some 27, .primm 100 44 26, none⟩,
 ⟨some 2, .ownd 27, none⟩] [])
  .ret)))))
def x15_r0 : XCode := .seq (.seq (.region false [⟨some 13, .mov (.tmp 4), none⟩,
 ⟨some 14, .faddr (.tmp 1) 6, none⟩,
 ⟨some 15, .load (.tmp 14) 1 false, none⟩,
 ⟨some 16, .lens false (.tmp 15), none⟩,
 ⟨some 17, .bin .lss (.tmp 13) (.tmp 16), none⟩] [])
  (.cond (.tmp 17) .skip (.exit 0)))
 (.seq (.block 1 (.seq (.region false [⟨some 20, .faddr (.tmp 1) 6, none⟩,
 ⟨some 21, .load (.tmp 20) 1 false, none⟩,
 ⟨some 22, .mov (.tmp 4), none⟩,
 ⟨some 23, .iaddr 7 (.tmp 21) (.tmp 22), none⟩,
 ⟨some 24, .load (.tmp 23) 7 true, none⟩,
 ⟨some 25, .callq 15 [.tmp 24], none⟩,
 ⟨some 5, .own 25, none⟩] [])
  (.region false [⟨some 26, .mov (.tmp 3), none⟩,
 ⟨some 27, .mov (.tmp 5), none⟩,
 ⟨some 28, .callq 46 [.tmp 26, .tmp 27], none⟩,
 ⟨some 3, .own 28, none⟩] [])))
  (.region false [⟨some 18, .mov (.tmp 4), none⟩,
 ⟨some 19, .bin .add (.tmp 18) (.cst (.int .i64 1)), none⟩,
 ⟨some 4, .own 19, none⟩] []))
def x15_l0 : XCode := x15_r0
/-- custos/custosref06.TermVars -/
def x15 : XFn := XFn.mk 30 [.tmp 2] (.seq (.region false [⟨some 1, .box (.tmp 0) 7, none⟩,
 ⟨some 2, .mov (.cst .nilsl), none⟩] [])
 (.seq (.region false [⟨some 3, .mov (.cst .nilsl), none⟩] [])
 (.seq (.seq (.region false [⟨some 6, .faddr (.tmp 1) 0, none⟩,
 ⟨some 7, .load (.tmp 6) 1 false, none⟩,
 ⟨some 8, .bin .eql (.tmp 7) (.cst (.int .i64 1)), none⟩] [])
  (.cond (.tmp 8) (.region false [⟨some 9, .mov (.tmp 3), none⟩,
 ⟨some 10, .faddr (.tmp 1) 1, none⟩,
 ⟨some 11, .load (.tmp 10) 1 false, none⟩,
 ⟨some 12, .callq 45 [.tmp 9, .tmp 11], none⟩,
 ⟨some 3, .own 12, none⟩] []) .skip))
 (.seq (.seq (.region false [⟨some 4, .mov (.cst (.int .i64 0)), none⟩] [])
  (.block 0 (.loop x15_l0)))
 (.seq (.region false [⟨some 29, .mov (.tmp 3), none⟩,
 ⟨some 2, .own 29, none⟩] [])
  .ret)))))
def x16_r0 : XCode := .seq (.seq (.region false [⟨some 11, .mov (.tmp 5), none⟩,
 ⟨some 12, .mov (.tmp 0), none⟩,
 ⟨some 13, .lens false (.tmp 12), none⟩,
 ⟨some 14, .bin .lss (.tmp 11) (.tmp 13), none⟩] [])
  (.cond (.tmp 14) .skip (.exit 0)))
 (.seq (.block 1 (.seq (.region true [⟨some 17, .mov (.tmp 0), none⟩,
 ⟨some 18, .mov (.tmp 5), none⟩,
 ⟨some 19, .iaddr 1 (.tmp 17) (.tmp 18), none⟩,
 ⟨some 20, .load (.tmp 19) 1 false, none⟩,
 ⟨some 21, .mov (.tmp 1), none⟩,
 ⟨some 22, .mov (.tmp 5), none⟩,
 ⟨some 23, .iaddr 1 (.tmp 21) (.tmp 22), none⟩,
 ⟨some 24, .load (.tmp 23) 1 false, none⟩,
 ⟨some 25, .bin .neq (.tmp 20) (.tmp 24), none⟩] [])
  (.cond (.tmp 25) (.seq (.region false [⟨some 4, .mov (.cst (.bool false)), none⟩] [])
  .ret) .skip)))
  (.region false [⟨some 15, .mov (.tmp 5), none⟩,
 ⟨some 16, .bin .add (.tmp 15) (.cst (.int .i64 1)), none⟩,
 ⟨some 5, .own 16, none⟩] []))
def x16_l0 : XCode := x16_r0
/-- custos/custoslaw06.same -/
def x16 : XFn := XFn.mk 26 [.tmp 4] (.seq (.region false [⟨some 4, .mov (.cst (.bool false)), none⟩] [])
 (.seq (.seq (.region false [⟨some 6, .mov (.tmp 0), none⟩,
 ⟨some 7, .lens false (.tmp 6), none⟩,
 ⟨some 8, .mov (.tmp 1), none⟩,
 ⟨some 9, .lens false (.tmp 8), none⟩,
 ⟨some 10, .bin .neq (.tmp 7) (.tmp 9), none⟩] [])
  (.cond (.tmp 10) (.seq (.region false [⟨some 4, .mov (.cst (.bool false)), none⟩] [])
  .ret) .skip))
 (.seq (.seq (.region false [⟨some 5, .mov (.cst (.int .i64 0)), none⟩] [])
  (.block 0 (.loop x16_l0)))
 (.seq (.region false [⟨some 4, .mov (.cst (.bool true)), none⟩] [])
  .ret))))
def x17_r0 : XCode := .seq (.region false [⟨some 19, .bin .lss (.tmp 18) (.tmp 17), none⟩] [])
 (.seq (.cond (.tmp 19) .skip (.exit 0))
 (.seq (.block 1 (.seq (.region false [⟨some 20, .iaddr 1 (.tmp 16) (.tmp 18), none⟩,
 ⟨some 21, .load (.tmp 20) 1 false, none⟩,
 ⟨some 8, .own 21, none⟩] [])
 (.seq (.region false [⟨some 22, .load (.tmp 2) 10 true, none⟩,
 ⟨some 23, .callq 47 [.tmp 22], none⟩,
 ⟨some 9, .own 23, none⟩] [])
 (.seq (.seq (.region false [⟨some 24, .mov (.tmp 8), none⟩,
 ⟨some 25, .bin .lss (.tmp 24) (.cst (.int .i64 0)), none⟩,
 ⟨some 26, .mov (.tmp 25), none⟩,
 ⟨some 27, .mov (.tmp 8), (some (26, false))⟩,
 ⟨some 28, .mov (.tmp 9), (some (26, false))⟩,
 ⟨some 29, .lens false (.tmp 28), (some (26, false))⟩,
 ⟨some 30, .bin .geq (.tmp 27) (.tmp 29), (some (26, false))⟩,
 ⟨some 31, .pick (.tmp 26) (.cst (.bool true)) (.tmp 30), none⟩] [])
  (.cond (.tmp 31) (.seq (.region false [⟨some 32, .build [.int .i64 0, .str [], .int .i64 0, .nilsl, .nilsl, .int .i64 0, .int .i64 0, .bool false, .nilsl, .nilsl] [], none⟩,
 ⟨none, .store (.tmp 4) (.tmp 32) 10, none⟩,
 ⟨some 5, .mov (.cst (.int .i64 5)), none⟩] [])
  .ret) .skip))
  (.region false [⟨some 33, .mov (.tmp 9), none⟩,
 ⟨some 34, .mov (.tmp 8), none⟩,
 ⟨some 35, .iaddr 10 (.tmp 33) (.tmp 34), none⟩,
 ⟨some 36, .load (.tmp 35) 10 true, none⟩,
 ⟨none, .store (.tmp 2) (.tmp 36) 10, none⟩] [])))))
  (.region false [⟨some 37, .bin .add (.tmp 18) (.cst (.int .i64 1)), none⟩,
 ⟨some 18, .mov (.tmp 37), none⟩] [])))
def x17_l0 : XCode := x17_r0
/-- custos/ast.Part -/
def x17 : XFn := XFn.mk 40 [.cell 4 10 true, .tmp 5] (.seq (.region false [⟨some 2, .box (.tmp 0) 10, none⟩,
 ⟨some 4, .alloc [.int .i64 0, .str [], .int .i64 0, .nilsl, .nilsl, .int .i64 0, .int .i64 0, .bool false, .nilsl, .nilsl], none⟩,
 ⟨some 5, .mov (.cst (.int .i64 0)), none⟩] [])
 (.seq (.seq (.region false [⟨some 10, .load (.tmp 2) 10 true, none⟩,
 ⟨some 11, .callq 8 [.tmp 10], none⟩,
 ⟨some 6, .own 11, none⟩] [])
 (.seq (.region false [⟨some 12, .mov (.tmp 6), none⟩,
 ⟨some 13, .bin .neq (.tmp 12) (.cst (.int .i64 0)), none⟩] [])
  (.cond (.tmp 13) (.seq (.region false [⟨some 14, .build [.int .i64 0, .str [], .int .i64 0, .nilsl, .nilsl, .int .i64 0, .int .i64 0, .bool false, .nilsl, .nilsl] [], none⟩,
 ⟨some 15, .mov (.tmp 6), none⟩,
 ⟨none, .store (.tmp 4) (.tmp 14) 10, none⟩,
 ⟨some 5, .own 15, none⟩] [])
  .ret) .skip)))
 (.seq (.seq (.region false [⟨some 16, .mov (.tmp 1), none⟩,
 ⟨some 17, .lens false (.tmp 16), none⟩,
 ⟨some 18, .mov (.cst (.int .i64 0)), none⟩] [])
  (.block 0 (.loop x17_l0)))
 (.seq (.region false [⟨some 38, .load (.tmp 2) 10 true, none⟩,
 ⟨some 39, .callq 7 [.tmp 38], none⟩,
 ⟨none, .store (.tmp 4) (.tmp 39) 10, none⟩,
 ⟨some 5, .mov (.cst (.int .i64 0)), none⟩] [])
  .ret))))
/-- custos/custosref06.Nodes -/
def x20 : XFn := XFn.mk 18 [.tmp 2] (.seq (.region false [⟨some 1, .box (.tmp 0) 10, none⟩,
 ⟨some 2, .mov (.cst (.int .i64 0)), none⟩] [])
 (.seq (.region false [⟨some 5, .load (.tmp 1) 10 true, none⟩,
 ⟨some 6, .callq 9 [.tmp 5], none⟩,
 ⟨some 3, .own 6, none⟩] [])
 (.seq (.seq (.region false [⟨some 7, .mov (.tmp 3), none⟩,
 ⟨some 8, .bin .neq (.tmp 7) (.cst (.int .i64 0)), none⟩] [])
  (.cond (.tmp 8) (.seq (.region false [⟨some 2, .mov (.cst (.int .i64 0)), none⟩] [])
  .ret) .skip))
 (.seq (.region false [⟨some 9, .build [.int .i64 0, .int .i64 0, .int .i64 0] [], none⟩,
 ⟨some 10, .box (.tmp 9) 3, none⟩,
 ⟨some 4, .own 10, none⟩] [])
 (.seq (.region false [⟨some 11, .mov (.tmp 4), none⟩,
 ⟨some 12, .load (.tmp 1) 10 true, none⟩,
 ⟨some 13, .callw 31 [.tmp 11, .tmp 12, .cst (.int .i64 1)], none⟩] [])
 (.seq (.region false [⟨some 14, .mov (.tmp 4), none⟩,
 ⟨some 15, .nilck (.tmp 14), none⟩,
 ⟨some 16, .faddr (.tmp 15) 0, none⟩,
 ⟨some 17, .load (.tmp 16) 1 false, none⟩,
 ⟨some 2, .own 17, none⟩] [])
  .ret))))))
/-- custos/custosref06.Depth -/
def x21 : XFn := XFn.mk 18 [.tmp 2] (.seq (.region false [⟨some 1, .box (.tmp 0) 10, none⟩,
 ⟨some 2, .mov (.cst (.int .i64 0)), none⟩] [])
 (.seq (.region false [⟨some 5, .load (.tmp 1) 10 true, none⟩,
 ⟨some 6, .callq 9 [.tmp 5], none⟩,
 ⟨some 3, .own 6, none⟩] [])
 (.seq (.seq (.region false [⟨some 7, .mov (.tmp 3), none⟩,
 ⟨some 8, .bin .neq (.tmp 7) (.cst (.int .i64 0)), none⟩] [])
  (.cond (.tmp 8) (.seq (.region false [⟨some 2, .mov (.cst (.int .i64 0)), none⟩] [])
  .ret) .skip))
 (.seq (.region false [⟨some 9, .build [.int .i64 0, .int .i64 0, .int .i64 0] [], none⟩,
 ⟨some 10, .box (.tmp 9) 3, none⟩,
 ⟨some 4, .own 10, none⟩] [])
 (.seq (.region false [⟨some 11, .mov (.tmp 4), none⟩,
 ⟨some 12, .load (.tmp 1) 10 true, none⟩,
 ⟨some 13, .callw 31 [.tmp 11, .tmp 12, .cst (.int .i64 1)], none⟩] [])
 (.seq (.region false [⟨some 14, .mov (.tmp 4), none⟩,
 ⟨some 15, .nilck (.tmp 14), none⟩,
 ⟨some 16, .faddr (.tmp 15) 1, none⟩,
 ⟨some 17, .load (.tmp 16) 1 false, none⟩,
 ⟨some 2, .own 17, none⟩] [])
  .ret))))))
/-- custos/ast.Nodes -/
def x22 : XFn := XFn.mk 15 [.tmp 2] (.seq (.region false [⟨some 1, .box (.tmp 0) 10, none⟩,
 ⟨some 2, .mov (.cst (.int .i64 0)), none⟩] [])
 (.seq (.seq (.region false [⟨some 4, .load (.tmp 1) 10 true, none⟩,
 ⟨some 5, .callq 30 [.tmp 4], none⟩,
 ⟨some 3, .own 5, none⟩] [])
 (.seq (.region false [⟨some 6, .mov (.tmp 3), none⟩,
 ⟨some 7, .nilck (.tmp 6), none⟩,
 ⟨some 8, .faddr (.tmp 7) 2, none⟩,
 ⟨some 9, .load (.tmp 8) 1 false, none⟩,
 ⟨some 10, .bin .eql (.tmp 9) (.cst (.int .i64 0)), none⟩] [])
  (.cond (.tmp 10) (.seq (.region false [⟨some 11, .mov (.tmp 3), none⟩,
 ⟨some 12, .nilck (.tmp 11), none⟩,
 ⟨some 13, .faddr (.tmp 12) 0, none⟩,
 ⟨some 14, .load (.tmp 13) 1 false, none⟩,
 ⟨some 2, .own 14, none⟩] [])
  .ret) .skip)))
 (.seq (.region false [⟨some 2, .mov (.cst (.int .i64 0)), none⟩] [])
  .ret)))
/-- custos/ast.Depth -/
def x23 : XFn := XFn.mk 15 [.tmp 2] (.seq (.region false [⟨some 1, .box (.tmp 0) 10, none⟩,
 ⟨some 2, .mov (.cst (.int .i64 0)), none⟩] [])
 (.seq (.seq (.region false [⟨some 4, .load (.tmp 1) 10 true, none⟩,
 ⟨some 5, .callq 30 [.tmp 4], none⟩,
 ⟨some 3, .own 5, none⟩] [])
 (.seq (.region false [⟨some 6, .mov (.tmp 3), none⟩,
 ⟨some 7, .nilck (.tmp 6), none⟩,
 ⟨some 8, .faddr (.tmp 7) 2, none⟩,
 ⟨some 9, .load (.tmp 8) 1 false, none⟩,
 ⟨some 10, .bin .eql (.tmp 9) (.cst (.int .i64 0)), none⟩] [])
  (.cond (.tmp 10) (.seq (.region false [⟨some 11, .mov (.tmp 3), none⟩,
 ⟨some 12, .nilck (.tmp 11), none⟩,
 ⟨some 13, .faddr (.tmp 12) 1, none⟩,
 ⟨some 14, .load (.tmp 13) 1 false, none⟩,
 ⟨some 2, .own 14, none⟩] [])
  .ret) .skip)))
 (.seq (.region false [⟨some 2, .mov (.cst (.int .i64 0)), none⟩] [])
  .ret)))
/-- slices.Clone[[]string,string] -/
def x24 : XFn := XFn.mk 8 [.tmp 2] (.seq (.region false [⟨some 2, .mov (.cst .nilsl), none⟩] [])
 (.seq (.seq (.region false [⟨some 3, .mov (.tmp 0), none⟩,
 ⟨some 4, .eqnil 1 false (.tmp 3), none⟩] [])
  (.cond (.tmp 4) (.seq (.region false [⟨some 2, .mov (.cst .nilsl), none⟩] [])
  .ret) .skip))
 (.seq (.region false [⟨some 5, .bslice 1 [] [], none⟩,
 ⟨some 6, .mov (.tmp 0), none⟩,
 ⟨some 7, .app true 1 16 5 (.tmp 6), none⟩,
 ⟨some 2, .own 7, none⟩] [])
  .ret)))
def x25_r0 : XCode := .seq (.region false [⟨some 11, .bin .lss (.tmp 10) (.tmp 9), none⟩] [])
 (.seq (.cond (.tmp 11) .skip (.exit 0))
 (.seq (.block 1 (.seq (.region false [⟨some 12, .iaddr 7 (.tmp 8) (.tmp 10), none⟩,
 ⟨some 13, .load (.tmp 12) 7 true, none⟩,
 ⟨some 7, .alloc [.int .i64 0, .str [], .int .i64 0, .int .i64 0, .int .i64 0, .str [], .nilsl], none⟩,
 ⟨none, .store (.tmp 7) (.tmp 13) 7, none⟩] [])
  (.region false [⟨some 14, .own 5, none⟩,
 ⟨some 15, .mov (.tmp 1), none⟩,
 ⟨some 16, .load (.tmp 7) 7 true, none⟩,
 ⟨some 17, .calld (.tmp 15) [.tmp 16], none⟩,
 ⟨some 18, .bslice 7 [.int .i64 0, .str [], .int .i64 0, .int .i64 0, .int .i64 0, .str [], .nilsl] [(0, 7, .tmp 17)], none⟩,
 ⟨some 19, .app false 7 88 14 (.tmp 18), none⟩,
 ⟨some 5, .own 19, none⟩] [])))
  (.region false [⟨some 20, .bin .add (.tmp 10) (.cst (.int .i64 1)), none⟩,
 ⟨some 10, .mov (.tmp 20), none⟩] [])))
def x25_l0 : XCode := x25_r0
/-- custos/ast.each[custos/api.Term] -/
def x25 : XFn := XFn.mk 22 [.tmp 4] (.seq (.region false [⟨some 4, .mov (.cst .nilsl), none⟩] [])
 (.seq (.region false [⟨some 5, .mov (.cst .nilsl), none⟩] [])
 (.seq (.seq (.region false [⟨some 8, .mov (.tmp 0), none⟩,
 ⟨some 9, .lens false (.tmp 8), none⟩,
 ⟨some 10, .mov (.cst (.int .i64 0)), none⟩] [])
  (.block 0 (.loop x25_l0)))
 (.seq (.region false [⟨some 21, .mov (.tmp 5), none⟩,
 ⟨some 4, .own 21, none⟩] [])
  .ret))))
/-- custos/ast.cloneTerm -/
def x26 : XFn := XFn.mk 8 [.cell 2 7 true] (.seq (.region false [⟨some 1, .box (.tmp 0) 7, none⟩,
 ⟨some 2, .alloc [.int .i64 0, .str [], .int .i64 0, .int .i64 0, .int .i64 0, .str [], .nilsl], none⟩] [])
 (.seq (.region false [⟨some 3, .faddr (.tmp 1) 6, none⟩,
 ⟨some 4, .load (.tmp 3) 1 false, none⟩,
 ⟨some 5, .callw 25 [.tmp 4, .cst (.fn 26 [] [])], none⟩,
 ⟨some 6, .faddr (.tmp 1) 6, none⟩,
 ⟨none, .store (.tmp 6) (.tmp 5) 1, none⟩] [])
 (.seq (.region false [⟨some 7, .load (.tmp 1) 7 true, none⟩,
 ⟨none, .store (.tmp 2) (.tmp 7) 7, none⟩] [])
  .ret)))
def x27_r0 : XCode := .seq (.region false [⟨some 11, .bin .lss (.tmp 10) (.tmp 9), none⟩] [])
 (.seq (.cond (.tmp 11) .skip (.exit 0))
 (.seq (.block 1 (.seq (.region false [⟨some 12, .iaddr 3 (.tmp 8) (.tmp 10), none⟩,
 ⟨some 13, .load (.tmp 12) 3 true, none⟩,
 ⟨some 7, .alloc [.int .i64 0, .nilsl, .nilsl], none⟩,
 ⟨none, .store (.tmp 7) (.tmp 13) 3, none⟩] [])
  (.region false [⟨some 14, .own 5, none⟩,
 ⟨some 15, .mov (.tmp 1), none⟩,
 ⟨some 16, .load (.tmp 7) 3 true, none⟩,
 ⟨some 17, .calld (.tmp 15) [.tmp 16], none⟩,
 ⟨some 18, .bslice 3 [.int .i64 0, .nilsl, .nilsl] [(0, 3, .tmp 17)], none⟩,
 ⟨some 19, .app false 3 56 14 (.tmp 18), none⟩,
 ⟨some 5, .own 19, none⟩] [])))
  (.region false [⟨some 20, .bin .add (.tmp 10) (.cst (.int .i64 1)), none⟩,
 ⟨some 10, .mov (.tmp 20), none⟩] [])))
def x27_l0 : XCode := x27_r0
/-- custos/ast.each[custos/api.Regex] -/
def x27 : XFn := XFn.mk 22 [.tmp 4] (.seq (.region false [⟨some 4, .mov (.cst .nilsl), none⟩] [])
 (.seq (.region false [⟨some 5, .mov (.cst .nilsl), none⟩] [])
 (.seq (.seq (.region false [⟨some 8, .mov (.tmp 0), none⟩,
 ⟨some 9, .lens false (.tmp 8), none⟩,
 ⟨some 10, .mov (.cst (.int .i64 0)), none⟩] [])
  (.block 0 (.loop x27_l0)))
 (.seq (.region false [⟨some 21, .mov (.tmp 5), none⟩,
 ⟨some 4, .own 21, none⟩] [])
  .ret))))
/-- custos/ast.cloneRegex -/
def x28 : XFn := XFn.mk 12 [.cell 2 3 true] (.seq (.region false [⟨some 1, .box (.tmp 0) 3, none⟩,
 ⟨some 2, .alloc [.int .i64 0, .nilsl, .nilsl], none⟩] [])
 (.seq (.region false [⟨some 3, .faddr (.tmp 1) 1, none⟩,
 ⟨some 4, .load (.tmp 3) 1 false, none⟩,
 ⟨some 5, .callw 29 [.tmp 4, .cst (.fn 7 [] [])], none⟩,
 ⟨some 6, .faddr (.tmp 1) 1, none⟩,
 ⟨none, .store (.tmp 6) (.tmp 5) 1, none⟩] [])
 (.seq (.region false [⟨some 7, .faddr (.tmp 1) 2, none⟩,
 ⟨some 8, .load (.tmp 7) 1 false, none⟩,
 ⟨some 9, .callw 27 [.tmp 8, .cst (.fn 28 [] [])], none⟩,
 ⟨some 10, .faddr (.tmp 1) 2, none⟩,
 ⟨none, .store (.tmp 10) (.tmp 9) 1, none⟩] [])
 (.seq (.region false [⟨some 11, .load (.tmp 1) 3 true, none⟩,
 ⟨none, .store (.tmp 2) (.tmp 11) 3, none⟩] [])
  .ret))))
def x29_r0 : XCode := .seq (.region false [⟨some 11, .bin .lss (.tmp 10) (.tmp 9), none⟩] [])
 (.seq (.cond (.tmp 11) .skip (.exit 0))
 (.seq (.block 1 (.seq (.region false [⟨some 12, .iaddr 10 (.tmp 8) (.tmp 10), none⟩,
 ⟨some 13, .load (.tmp 12) 10 true, none⟩,
 ⟨some 7, .alloc [.int .i64 0, .str [], .int .i64 0, .nilsl, .nilsl, .int .i64 0, .int .i64 0, .bool false, .nilsl, .nilsl], none⟩,
 ⟨none, .store (.tmp 7) (.tmp 13) 10, none⟩] [])
  (.region false [⟨some 14, .own 5, none⟩,
 ⟨some 15, .mov (.tmp 1), none⟩,
 ⟨some 16, .load (.tmp 7) 10 true, none⟩,
 ⟨some 17, .calld (.tmp 15) [.tmp 16], none⟩,
 ⟨some 18, .bslice 10 [.int .i64 0, .str [], .int .i64 0, .nilsl, .nilsl, .int .i64 0, .int .i64 0, .bool false, .nilsl, .nilsl] [(0, 10, .tmp 17)], none⟩,
 ⟨some 19, .app false 10 152 14 (.tmp 18), none⟩,
 ⟨some 5, .own 19, none⟩] [])))
  (.region false [⟨some 20, .bin .add (.tmp 10) (.cst (.int .i64 1)), none⟩,
 ⟨some 10, .mov (.tmp 20), none⟩] [])))
def x29_l0 : XCode := x29_r0
/-- custos/ast.each[custos/api.Formula] -/
def x29 : XFn := XFn.mk 22 [.tmp 4] (.seq (.region false [⟨some 4, .mov (.cst .nilsl), none⟩] [])
 (.seq (.region false [⟨some 5, .mov (.cst .nilsl), none⟩] [])
 (.seq (.seq (.region false [⟨some 8, .mov (.tmp 0), none⟩,
 ⟨some 9, .lens false (.tmp 8), none⟩,
 ⟨some 10, .mov (.cst (.int .i64 0)), none⟩] [])
  (.block 0 (.loop x29_l0)))
 (.seq (.region false [⟨some 21, .mov (.tmp 5), none⟩,
 ⟨some 4, .own 21, none⟩] [])
  .ret))))
/-- custos/ast.look -/
def x30 : XFn := XFn.mk 26 [.tmp 2] (.seq (.region false [⟨some 1, .box (.tmp 0) 10, none⟩,
 ⟨some 2, .mov (.cst .nilptr), none⟩] [])
 (.seq (.region false [⟨some 6, .build [.int .i64 0, .int .i64 0, .int .i64 0] [], none⟩,
 ⟨some 7, .box (.tmp 6) 3, none⟩,
 ⟨some 3, .own 7, none⟩] [])
 (.seq (.region false [⟨some 8, .mov (.tmp 3), none⟩,
 ⟨some 9, .load (.tmp 1) 10 true, none⟩,
 ⟨some 10, .callw 49 [.tmp 8, .tmp 9, .cst (.int .i64 1)], none⟩] [])
 (.seq (.seq (.region false [⟨some 11, .mov (.tmp 3), none⟩,
 ⟨some 12, .nilck (.tmp 11), none⟩,
 ⟨some 13, .faddr (.tmp 12) 2, none⟩,
 ⟨some 14, .load (.tmp 13) 1 false, none⟩,
 ⟨some 15, .bin .eql (.tmp 14) (.cst (.int .i64 0)), none⟩] [])
  (.cond (.tmp 15) (.seq (.region false [⟨some 17, .load (.tmp 1) 10 true, none⟩,
 ⟨some 18, .callq 42 [.tmp 17], none⟩,
 ⟨some 16, .mov (.tmp 18), none⟩,
 ⟨some 19, .ext 16 0, none⟩,
 ⟨some 20, .ext 16 1, none⟩,
 ⟨some 4, .own 19, none⟩,
 ⟨some 5, .own 20, none⟩] [])
  (.region false [⟨some 21, .mov (.tmp 3), none⟩,
 ⟨some 22, .mov (.tmp 5), none⟩,
 ⟨some 23, .bin .leq (.tmp 22) (.cst (.int .i64 8)), none⟩,
 ⟨some 24, .callw 50 [.tmp 21, .tmp 23, .cst (.int .i64 30)], none⟩] [])) .skip))
 (.seq (.region false [⟨some 25, .mov (.tmp 3), none⟩,
 ⟨some 2, .own 25, none⟩] [])
  .ret)))))
def x31_r0 : XCode := .seq (.seq (.region false [⟨some 76, .mov (.tmp 12), none⟩,
 ⟨some 77, .faddr (.tmp 4) 4, none⟩,
 ⟨some 78, .load (.tmp 77) 1 false, none⟩,
 ⟨some 79, .lens false (.tmp 78), none⟩,
 ⟨some 80, .bin .lss (.tmp 76) (.tmp 79), none⟩] [])
  (.cond (.tmp 80) .skip (.exit 0)))
 (.seq (.block 1 (.region false [⟨some 83, .mov (.tmp 0), none⟩,
 ⟨some 84, .faddr (.tmp 4) 4, none⟩,
 ⟨some 85, .load (.tmp 84) 1 false, none⟩,
 ⟨some 86, .mov (.tmp 12), none⟩,
 ⟨some 87, .iaddr 7 (.tmp 85) (.tmp 86), none⟩,
 ⟨some 88, .load (.tmp 87) 7 true, none⟩,
 ⟨some 89, .mov (.tmp 2), none⟩,
 ⟨some 90, .bin .add (.tmp 89) (.cst (.int .i64 1)), none⟩,
 ⟨some 91, .callw 58 [.tmp 83, .tmp 88, .tmp 90], none⟩] []))
  (.region false [⟨some 81, .mov (.tmp 12), none⟩,
 ⟨some 82, .bin .add (.tmp 81) (.cst (.int .i64 1)), none⟩,
 ⟨some 12, .own 82, none⟩] []))
def x31_l0 : XCode := x31_r0
def x31_r1 : XCode := .seq (.seq (.region false [⟨some 92, .mov (.tmp 13), none⟩,
 ⟨some 93, .faddr (.tmp 4) 9, none⟩,
 ⟨some 94, .load (.tmp 93) 1 false, none⟩,
 ⟨some 95, .lens false (.tmp 94), none⟩,
 ⟨some 96, .bin .lss (.tmp 92) (.tmp 95), none⟩] [])
  (.cond (.tmp 96) .skip (.exit 2)))
 (.seq (.block 3 (.region false [⟨some 99, .mov (.tmp 0), none⟩,
 ⟨some 100, .faddr (.tmp 4) 9, none⟩,
 ⟨some 101, .load (.tmp 100) 1 false, none⟩,
 ⟨some 102, .mov (.tmp 13), none⟩,
 ⟨some 103, .iaddr 3 (.tmp 101) (.tmp 102), none⟩,
 ⟨some 104, .load (.tmp 103) 3 true, none⟩,
 ⟨some 105, .mov (.tmp 2), none⟩,
 ⟨some 106, .bin .add (.tmp 105) (.cst (.int .i64 1)), none⟩,
 ⟨some 107, .callw 59 [.tmp 99, .tmp 104, .tmp 106], none⟩] []))
  (.region false [⟨some 97, .mov (.tmp 13), none⟩,
 ⟨some 98, .bin .add (.tmp 97) (.cst (.int .i64 1)), none⟩,
 ⟨some 13, .own 98, none⟩] []))
def x31_l1 : XCode := x31_r1
def x31_r2 : XCode := .seq (.seq (.region false [⟨some 108, .mov (.tmp 14), none⟩,
 ⟨some 109, .faddr (.tmp 4) 8, none⟩,
 ⟨some 110, .load (.tmp 109) 1 false, none⟩,
 ⟨some 111, .lens false (.tmp 110), none⟩,
 ⟨some 112, .bin .lss (.tmp 108) (.tmp 111), none⟩] [])
  (.cond (.tmp 112) .skip (.exit 4)))
 (.seq (.block 5 (.region false [⟨some 115, .mov (.tmp 0), none⟩,
 ⟨some 116, .faddr (.tmp 4) 8, none⟩,
 ⟨some 117, .load (.tmp 116) 1 false, none⟩,
 ⟨some 118, .mov (.tmp 14), none⟩,
 ⟨some 119, .iaddr 10 (.tmp 117) (.tmp 118), none⟩,
 ⟨some 120, .load (.tmp 119) 10 true, none⟩,
 ⟨some 121, .mov (.tmp 2), none⟩,
 ⟨some 122, .bin .add (.tmp 121) (.cst (.int .i64 1)), none⟩,
 ⟨some 123, .callw 31 [.tmp 115, .tmp 120, .tmp 122], none⟩] []))
  (.region false [⟨some 113, .mov (.tmp 14), none⟩,
 ⟨some 114, .bin .add (.tmp 113) (.cst (.int .i64 1)), none⟩,
 ⟨some 14, .own 114, none⟩] []))
def x31_l2 : XCode := x31_r2
/-- (*custos/custosref06.Walk).Formula -/
def x31 : XFn := XFn.mk 124 [] (.seq (.region false [⟨some 4, .box (.tmp 1) 10, none⟩] [])
 (.seq (.region false [⟨some 15, .mov (.tmp 0), none⟩,
 ⟨some 16, .mov (.tmp 2), none⟩,
 ⟨some 17, .callw 51 [.tmp 15, .tmp 16], none⟩,
 ⟨some 6, .own 17, none⟩] [])
 (.seq (.seq (.region false [⟨some 18, .mov (.tmp 6), none⟩,
 ⟨some 19, .not (.tmp 18), none⟩] [])
  (.cond (.tmp 19) .ret .skip))
 (.seq (.region false [⟨some 20, .mov (.tmp 0), none⟩,
 ⟨some 21, .faddr (.tmp 4) 0, none⟩,
 ⟨some 22, .load (.tmp 21) 1 false, none⟩,
 ⟨some 23, .bin .lss (.tmp 22) (.cst (.int .i64 1)), none⟩,
 ⟨some 24, .mov (.tmp 23), none⟩,
 ⟨some 25, .faddr (.tmp 4) 0, (some (24, false))⟩,
 ⟨some 26, .load (.tmp 25) 1 false, (some (24, false))⟩,
 ⟨some 27, .bin .gtr (.tmp 26) (.cst (.int .i64 22)), (some (24, false))⟩,
 ⟨some 28, .pick (.tmp 24) (.cst (.bool true)) (.tmp 27), none⟩,
 ⟨some 29, .callw 52 [.tmp 20, .tmp 28, .cst (.int .i64 20)], none⟩] [])
 (.seq (.region false [⟨some 30, .load (.tmp 4) 10 true, none⟩,
 ⟨some 31, .callq 53 [.tmp 30], none⟩,
 ⟨some 7, .own 31, none⟩] [])
 (.seq (.region false [⟨some 32, .mov (.tmp 0), none⟩,
 ⟨some 33, .mov (.tmp 7), none⟩,
 ⟨some 34, .callw 52 [.tmp 32, .tmp 33, .cst (.int .i64 3)], none⟩] [])
 (.seq (.region false [⟨some 35, .load (.tmp 4) 10 true, none⟩,
 ⟨some 36, .callq 54 [.tmp 35], none⟩,
 ⟨some 8, .own 36, none⟩] [])
 (.seq (.region false [⟨some 37, .load (.tmp 4) 10 true, none⟩,
 ⟨some 38, .callq 55 [.tmp 37], none⟩,
 ⟨some 9, .own 38, none⟩] [])
 (.seq (.region false [⟨some 39, .mov (.tmp 0), none⟩,
 ⟨some 40, .mov (.tmp 8), none⟩,
 ⟨some 41, .not (.tmp 40), none⟩,
 ⟨some 42, .mov (.tmp 41), none⟩,
 ⟨some 43, .mov (.tmp 9), (some (42, false))⟩,
 ⟨some 44, .not (.tmp 43), (some (42, false))⟩,
 ⟨some 45, .pick (.tmp 42) (.cst (.bool true)) (.tmp 44), none⟩,
 ⟨some 46, .callw 52 [.tmp 39, .tmp 45, .cst (.int .i64 1)], none⟩] [])
 (.seq (.region false [⟨some 47, .faddr (.tmp 4) 3, none⟩,
 ⟨some 48, .load (.tmp 47) 1 false, none⟩,
 ⟨some 49, .callq 56 [.tmp 48], none⟩,
 ⟨some 10, .own 49, none⟩] [])
 (.seq (.region false [⟨some 11, .mov (.cst (.bool false)), none⟩] [])
 (.seq (.seq (.region false [⟨some 50, .faddr (.tmp 4) 0, none⟩,
 ⟨some 51, .load (.tmp 50) 1 false, none⟩,
 ⟨some 52, .bin .eql (.tmp 51) (.cst (.int .i64 19)), none⟩,
 ⟨some 53, .mov (.tmp 52), none⟩,
 ⟨some 54, .faddr (.tmp 4) 3, (some (53, true))⟩,
 ⟨some 55, .load (.tmp 54) 1 false, (some (53, true))⟩,
 ⟨some 56, .lens false (.tmp 55), (some (53, true))⟩,
 ⟨some 57, .bin .gtr (.tmp 56) (.cst (.int .i64 0)), (some (53, true))⟩,
 ⟨some 58, .pick (.tmp 53) (.tmp 57) (.cst (.bool false)), none⟩] [])
  (.cond (.tmp 58) (.region true [⟨some 59, .faddr (.tmp 4) 3, none⟩,
 ⟨some 60, .load (.tmp 59) 1 false, none⟩,
 ⟨some 61, .ssl 1 (.tmp 60) (some (.cst (.int .i64 1))) none none, none⟩,
 ⟨some 62, .faddr (.tmp 4) 1, none⟩,
 ⟨some 63, .load (.tmp 62) 1 false, none⟩,
 ⟨some 64, .callq 57 [.tmp 61, .tmp 63], none⟩,
 ⟨some 11, .own 64, none⟩] []) .skip))
 (.seq (.region false [⟨some 65, .mov (.tmp 0), none⟩,
 ⟨some 66, .mov (.tmp 10), none⟩,
 ⟨some 67, .mov (.tmp 66), none⟩,
 ⟨some 68, .mov (.tmp 11), (some (67, false))⟩,
 ⟨some 69, .pick (.tmp 67) (.cst (.bool true)) (.tmp 68), none⟩,
 ⟨some 70, .callw 52 [.tmp 65, .tmp 69, .cst (.int .i64 30)], none⟩] [])
 (.seq (.seq (.region false [⟨some 71, .mov (.tmp 0), none⟩,
 ⟨some 72, .nilck (.tmp 71), none⟩,
 ⟨some 73, .faddr (.tmp 72) 2, none⟩,
 ⟨some 74, .load (.tmp 73) 1 false, none⟩,
 ⟨some 75, .bin .neq (.tmp 74) (.cst (.int .i64 0)), none⟩] [])
  (.cond (.tmp 75) .ret .skip))
 (.seq (.seq (.region false [⟨some 12, .mov (.cst (.int .i64 0)), none⟩] [])
  (.block 0 (.loop x31_l0)))
 (.seq (.seq (.region false [⟨some 13, .mov (.cst (.int .i64 0)), none⟩] [])
  (.block 2 (.loop x31_l1)))
 (.seq (.region false [⟨some 14, .mov (.cst (.int .i64 0)), none⟩] [])
  (.block 4 (.loop x31_l2)))))))))))))))))))
def x32_r0 : XCode := .seq (.seq (.region false [⟨some 14, .mov (.tmp 5), none⟩,
 ⟨some 15, .mov (.tmp 4), none⟩,
 ⟨some 16, .lens false (.tmp 15), none⟩,
 ⟨some 17, .bin .lss (.tmp 14) (.tmp 16), none⟩] [])
  (.cond (.tmp 17) .skip (.exit 0)))
 (.seq (.block 1 (.seq (.region false [⟨some 20, .mov (.tmp 4), none⟩,
 ⟨some 21, .mov (.tmp 5), none⟩,
 ⟨some 22, .iaddr 10 (.tmp 20) (.tmp 21), none⟩,
 ⟨some 23, .load (.tmp 22) 10 true, none⟩,
 ⟨some 24, .callq 32 [.tmp 23], none⟩,
 ⟨some 6, .own 24, none⟩] [])
 (.seq (.region false [⟨some 25, .mov (.tmp 6), none⟩,
 ⟨some 26, .not (.tmp 25), none⟩] [])
  (.cond (.tmp 26) (.seq (.region false [⟨some 2, .mov (.cst (.bool false)), none⟩] [])
  .ret) .skip))))
  (.region false [⟨some 18, .mov (.tmp 5), none⟩,
 ⟨some 19, .bin .add (.tmp 18) (.cst (.int .i64 1)), none⟩,
 ⟨some 5, .own 19, none⟩] []))
def x32_l0 : XCode := x32_r0
/-- custos/custosref06.few -/
def x32 : XFn := XFn.mk 27 [.tmp 2] (.seq (.region false [⟨some 1, .box (.tmp 0) 10, none⟩,
 ⟨some 2, .mov (.cst (.bool false)), none⟩] [])
 (.seq (.region false [⟨some 7, .load (.tmp 1) 10 true, none⟩,
 ⟨some 8, .callq 43 [.tmp 7], none⟩,
 ⟨some 3, .own 8, none⟩] [])
 (.seq (.seq (.region false [⟨some 9, .mov (.tmp 3), none⟩,
 ⟨some 10, .lens false (.tmp 9), none⟩,
 ⟨some 11, .bin .gtr (.tmp 10) (.cst (.int .i64 8)), none⟩] [])
  (.cond (.tmp 11) (.seq (.region false [⟨some 2, .mov (.cst (.bool false)), none⟩] [])
  .ret) .skip))
 (.seq (.region false [⟨some 12, .load (.tmp 1) 10 true, none⟩,
 ⟨some 13, .callq 48 [.tmp 12], none⟩,
 ⟨some 4, .own 13, none⟩] [])
 (.seq (.seq (.region false [⟨some 5, .mov (.cst (.int .i64 0)), none⟩] [])
  (.block 0 (.loop x32_l0)))
 (.seq (.region false [⟨some 2, .mov (.cst (.bool true)), none⟩] [])
  .ret))))))
/-- custos/custoslaw06.both -/
def x37 : XFn := XFn.mk 9 [.cell 4 10 true] (.seq (.region false [⟨some 2, .box (.tmp 0) 10, none⟩,
 ⟨some 3, .box (.tmp 1) 10, none⟩,
 ⟨some 4, .alloc [.int .i64 0, .str [], .int .i64 0, .nilsl, .nilsl, .int .i64 0, .int .i64 0, .bool false, .nilsl, .nilsl], none⟩] [])
 (.seq (.region false [⟨some 5, .load (.tmp 2) 10 true, none⟩,
 ⟨some 6, .load (.tmp 3) 10 true, none⟩,
 ⟨some 7, .bslice 10 [.int .i64 0, .str [], .int .i64 0, .nilsl, .nilsl, .int .i64 0, .int .i64 0, .bool false, .nilsl, .nilsl, .int .i64 0, .str [], .int .i64 0, .nilsl, .nilsl, .int .i64 0, .int .i64 0, .bool false, .nilsl, .nilsl] [(0, 10, .tmp 5), (10, 10, .tmp 6)], none⟩,
 ⟨some 8, .build [.int .i64 0, .str [], .int .i64 0, .nilsl, .nilsl, .int .i64 0, .int .i64 0, .bool false, .nilsl, .nilsl] [(0, 1, .cst (.int .i64 8)), (8, 1, .tmp 7)], none⟩,
 ⟨none, .store (.tmp 4) (.tmp 8) 10, none⟩] [])
  .ret))
def x38_r0 : XCode := .seq (.seq (.region false [⟨some 6, .mov (.tmp 4), none⟩,
 ⟨some 7, .mov (.tmp 0), none⟩,
 ⟨some 8, .lens false (.tmp 7), none⟩,
 ⟨some 9, .bin .lss (.tmp 6) (.tmp 8), none⟩] [])
  (.cond (.tmp 9) .skip (.exit 0)))
 (.seq (.block 1 (.region true [⟨some 12, .faddr (.tmp 3) 4, none⟩,
 ⟨some 13, .lown (.tmp 12), none⟩,
 ⟨some 14, .mov (.tmp 0), none⟩,
 ⟨some 15, .mov (.tmp 4), none⟩,
 ⟨some 16, .iaddr 1 (.tmp 14) (.tmp 15), none⟩,
 ⟨some 17, .load (.tmp 16) 1 false, none⟩,
 ⟨some 18, .callq 39 [.tmp 17], none⟩,
 ⟨some 19, .bslice 7 [.int .i64 0, .str [], .int .i64 0, .int .i64 0, .int .i64 0, .str [], .nilsl] [(0, 7, .tmp 18)], none⟩,
 ⟨some 20, .app false 7 88 13 (.tmp 19), none⟩,
 ⟨some 21, .faddr (.tmp 3) 4, none⟩,
 ⟨none, .store (.tmp 21) (.tmp 20) 1, none⟩] [(12, 16)]))
  (.region false [⟨some 10, .mov (.tmp 4), none⟩,
 ⟨some 11, .bin .add (.tmp 10) (.cst (.int .i64 1)), none⟩,
 ⟨some 4, .own 11, none⟩] []))
def x38_l0 : XCode := x38_r0
/-- custos/custoslaw06.p -/
def x38 : XFn := XFn.mk 23 [.cell 2 10 true] (.seq (.region false [⟨some 2, .alloc [.int .i64 0, .str [], .int .i64 0, .nilsl, .nilsl, .int .i64 0, .int .i64 0, .bool false, .nilsl, .nilsl], none⟩] [])
 (.seq (.region false [⟨some 5, .build [.int .i64 0, .str [], .int .i64 0, .nilsl, .nilsl, .int .i64 0, .int .i64 0, .bool false, .nilsl, .nilsl] [(0, 1, .cst (.int .i64 3)), (1, 1, .cst (.str [112]))], none⟩,
 ⟨some 3, .alloc [.int .i64 0, .str [], .int .i64 0, .nilsl, .nilsl, .int .i64 0, .int .i64 0, .bool false, .nilsl, .nilsl], none⟩,
 ⟨none, .store (.tmp 3) (.tmp 5) 10, none⟩] [])
 (.seq (.seq (.region false [⟨some 4, .mov (.cst (.int .i64 0)), none⟩] [])
  (.block 0 (.loop x38_l0)))
 (.seq (.region false [⟨some 22, .load (.tmp 3) 10 true, none⟩,
 ⟨none, .store (.tmp 2) (.tmp 22) 10, none⟩] [])
  .ret))))
/-- custos/custoslaw06.x -/
def x39 : XFn := XFn.mk 5 [.cell 2 7 true] (.seq (.region false [⟨some 2, .alloc [.int .i64 0, .str [], .int .i64 0, .int .i64 0, .int .i64 0, .str [], .nilsl], none⟩] [])
 (.seq (.region false [⟨some 3, .mov (.tmp 0), none⟩,
 ⟨some 4, .build [.int .i64 0, .str [], .int .i64 0, .int .i64 0, .int .i64 0, .str [], .nilsl] [(0, 1, .cst (.int .i64 1)), (1, 1, .tmp 3)], none⟩,
 ⟨none, .store (.tmp 2) (.tmp 4) 7, none⟩] [])
  .ret))
/-- custos/ast.Same -/
def x40 : XFn := XFn.mk 59 [.tmp 4] (.seq (.region false [⟨some 2, .box (.tmp 0) 10, none⟩,
 ⟨some 3, .box (.tmp 1) 10, none⟩,
 ⟨some 4, .mov (.cst (.bool false)), none⟩] [])
 (.seq (.region false [⟨some 5, .faddr (.tmp 2) 0, none⟩,
 ⟨some 6, .load (.tmp 5) 1 false, none⟩,
 ⟨some 7, .faddr (.tmp 3) 0, none⟩,
 ⟨some 8, .load (.tmp 7) 1 false, none⟩,
 ⟨some 9, .bin .eql (.tmp 6) (.tmp 8), none⟩,
 ⟨some 10, .mov (.tmp 9), none⟩,
 ⟨some 11, .faddr (.tmp 2) 1, (some (10, true))⟩,
 ⟨some 12, .load (.tmp 11) 1 false, (some (10, true))⟩,
 ⟨some 13, .faddr (.tmp 3) 1, (some (10, true))⟩,
 ⟨some 14, .load (.tmp 13) 1 false, (some (10, true))⟩,
 ⟨some 15, .bin .eql (.tmp 12) (.tmp 14), (some (10, true))⟩,
 ⟨some 16, .pick (.tmp 10) (.tmp 15) (.cst (.bool false)), none⟩,
 ⟨some 17, .mov (.tmp 16), none⟩,
 ⟨some 18, .faddr (.tmp 2) 2, (some (17, true))⟩,
 ⟨some 19, .load (.tmp 18) 1 false, (some (17, true))⟩,
 ⟨some 20, .faddr (.tmp 3) 2, (some (17, true))⟩,
 ⟨some 21, .load (.tmp 20) 1 false, (some (17, true))⟩,
 ⟨some 22, .bin .eql (.tmp 19) (.tmp 21), (some (17, true))⟩,
 ⟨some 23, .pick (.tmp 17) (.tmp 22) (.cst (.bool false)), none⟩,
 ⟨some 24, .mov (.tmp 23), none⟩,
 ⟨some 25, .faddr (.tmp 2) 5, (some (24, true))⟩,
 ⟨some 26, .load (.tmp 25) 3 true, (some (24, true))⟩,
 ⟨some 27, .faddr (.tmp 3) 5, (some (24, true))⟩,
 ⟨some 28, .load (.tmp 27) 3 true, (some (24, true))⟩,
 ⟨some 29, .eqagg false [1, 1, 0] (.tmp 26) (.tmp 28), (some (24, true))⟩,
 ⟨some 30, .pick (.tmp 24) (.tmp 29) (.cst (.bool false)), none⟩,
 ⟨some 31, .mov (.tmp 30), none⟩,
 ⟨some 32, .faddr (.tmp 2) 3, (some (31, true))⟩,
 ⟨some 33, .load (.tmp 32) 1 false, (some (31, true))⟩,
 ⟨some 34, .faddr (.tmp 3) 3, (some (31, true))⟩,
 ⟨some 35, .load (.tmp 34) 1 false, (some (31, true))⟩,
 ⟨some 36, .callq 61 [.tmp 33, .tmp 35], (some (31, true))⟩,
 ⟨some 37, .pick (.tmp 31) (.tmp 36) (.cst (.bool false)), none⟩,
 ⟨some 38, .mov (.tmp 37), none⟩,
 ⟨some 39, .faddr (.tmp 2) 4, (some (38, true))⟩,
 ⟨some 40, .load (.tmp 39) 1 false, (some (38, true))⟩,
 ⟨some 41, .faddr (.tmp 3) 4, (some (38, true))⟩,
 ⟨some 42, .load (.tmp 41) 1 false, (some (38, true))⟩,
 ⟨some 43, .callw 62 [.tmp 40, .tmp 42, .cst (.fn 63 [] [])], (some (38, true))⟩,
 ⟨some 44, .pick (.tmp 38) (.tmp 43) (.cst (.bool false)), none⟩,
 ⟨some 45, .mov (.tmp 44), none⟩,
 ⟨some 46, .faddr (.tmp 2) 9, (some (45, true))⟩,
 ⟨some 47, .load (.tmp 46) 1 false, (some (45, true))⟩,
 ⟨some 48, .faddr (.tmp 3) 9, (some (45, true))⟩,
 ⟨some 49, .load (.tmp 48) 1 false, (some (45, true))⟩,
 ⟨some 50, .callw 64 [.tmp 47, .tmp 49, .cst (.fn 65 [] [])], (some (45, true))⟩,
 ⟨some 51, .pick (.tmp 45) (.tmp 50) (.cst (.bool false)), none⟩,
 ⟨some 52, .mov (.tmp 51), none⟩,
 ⟨some 53, .faddr (.tmp 2) 8, (some (52, true))⟩,
 ⟨some 54, .load (.tmp 53) 1 false, (some (52, true))⟩,
 ⟨some 55, .faddr (.tmp 3) 8, (some (52, true))⟩,
 ⟨some 56, .load (.tmp 55) 1 false, (some (52, true))⟩,
 ⟨some 57, .callw 66 [.tmp 54, .tmp 56, .cst (.fn 40 [] [])], (some (52, true))⟩,
 ⟨some 58, .pick (.tmp 52) (.tmp 57) (.cst (.bool false)), none⟩,
 ⟨some 4, .own 58, none⟩] [])
  .ret))
def x41_r0 : XCode := .seq (.region false [⟨some 19, .nexts (.tmp 18), none⟩,
 ⟨some 20, .ext 19 0, none⟩] [])
 (.seq (.cond (.tmp 20) .skip (.exit 0))
  (.block 1 (.seq (.region false [⟨some 21, .ext 19 1, none⟩,
 ⟨some 22, .ext 19 2, none⟩,
 ⟨some 3, .own 21, none⟩,
 ⟨some 4, .own 22, none⟩] [])
 (.seq (.region false [⟨some 23, .mov (.tmp 4), none⟩,
 ⟨some 24, .bin .geq (.tmp 23) (.cst (.int .i32 97)), none⟩,
 ⟨some 25, .mov (.tmp 24), none⟩,
 ⟨some 26, .mov (.tmp 4), (some (25, true))⟩,
 ⟨some 27, .bin .leq (.tmp 26) (.cst (.int .i32 122)), (some (25, true))⟩,
 ⟨some 28, .pick (.tmp 25) (.tmp 27) (.cst (.bool false)), none⟩,
 ⟨some 5, .own 28, none⟩] [])
 (.seq (.region false [⟨some 29, .mov (.tmp 5), none⟩,
 ⟨some 30, .not (.tmp 29), none⟩,
 ⟨some 31, .mov (.tmp 30), none⟩,
 ⟨some 32, .mov (.tmp 3), (some (31, true))⟩,
 ⟨some 33, .bin .eql (.tmp 32) (.cst (.int .i64 0)), (some (31, true))⟩,
 ⟨some 34, .mov (.tmp 33), (some (31, true))⟩,
 ⟨some 35, .mov (.tmp 4), (some (34, false))⟩,
 ⟨some 36, .bin .neq (.tmp 35) (.cst (.int .i32 95)), (some (34, false))⟩,
 ⟨some 37, .mov (.tmp 36), (some (34, false))⟩,
 ⟨some 38, .mov (.tmp 4), (some (37, true))⟩,
 ⟨some 39, .bin .lss (.tmp 38) (.cst (.int .i32 48)), (some (37, true))⟩,
 ⟨some 40, .mov (.tmp 39), (some (37, true))⟩,
 ⟨some 41, .mov (.tmp 4), (some (40, false))⟩,
 ⟨some 42, .bin .gtr (.tmp 41) (.cst (.int .i32 57)), (some (40, false))⟩,
 ⟨some 43, .pick (.tmp 40) (.cst (.bool true)) (.tmp 42), (some (37, true))⟩,
 ⟨some 44, .pick (.tmp 37) (.tmp 43) (.cst (.bool false)), (some (34, false))⟩,
 ⟨some 45, .pick (.tmp 34) (.cst (.bool true)) (.tmp 44), (some (31, true))⟩,
 ⟨some 46, .pick (.tmp 31) (.tmp 45) (.cst (.bool false)), none⟩] [])
  (.cond (.tmp 46) (.seq (.region false [⟨some 2, .mov (.cst (.bool false)), none⟩] [])
  .ret) .skip))))))
def x41_l0 : XCode := x41_r0
/-- custos/ast.Name -/
def x41 : XFn := XFn.mk 47 [.tmp 2] (.seq (.region false [⟨some 2, .mov (.cst (.bool false)), none⟩] [])
 (.seq (.seq (.region false [⟨some 6, .mov (.tmp 0), none⟩,
 ⟨some 7, .bin .eql (.tmp 6) (.cst (.str [])), none⟩,
 ⟨some 8, .mov (.tmp 7), none⟩,
 ⟨some 9, .mov (.tmp 0), (some (8, false))⟩,
 ⟨some 10, .lens true (.tmp 9), (some (8, false))⟩,
 ⟨some 11, .bin .gtr (.tmp 10) (.cst (.int .i64 16)), (some (8, false))⟩,
 ⟨some 12, .pick (.tmp 8) (.cst (.bool true)) (.tmp 11), none⟩,
 ⟨some 13, .mov (.tmp 12), none⟩,
 ⟨some 14, .mov (.tmp 0), (some (13, false))⟩,
 ⟨some 15, .callq 67 [.tmp 14], (some (13, false))⟩,
 ⟨some 16, .pick (.tmp 13) (.cst (.bool true)) (.tmp 15), none⟩] [])
  (.cond (.tmp 16) (.seq (.region false [⟨some 2, .mov (.cst (.bool false)), none⟩] [])
  .ret) .skip))
 (.seq (.seq (.region false [⟨some 17, .mov (.tmp 0), none⟩,
 ⟨some 18, .rngs (.tmp 17), none⟩] [])
  (.block 0 (.loop x41_l0)))
 (.seq (.region false [⟨some 2, .mov (.cst (.bool true)), none⟩] [])
  .ret))))
def x42_r0 : XCode := .seq (.region false [⟨some 14, .bin .lss (.tmp 13) (.tmp 12), none⟩] [])
 (.seq (.cond (.tmp 14) .skip (.exit 0))
 (.seq (.block 1 (.seq (.region false [⟨some 15, .iaddr 7 (.tmp 11) (.tmp 13), none⟩,
 ⟨some 16, .load (.tmp 15) 7 true, none⟩,
 ⟨some 5, .alloc [.int .i64 0, .str [], .int .i64 0, .int .i64 0, .int .i64 0, .str [], .nilsl], none⟩,
 ⟨none, .store (.tmp 5) (.tmp 16) 7, none⟩] [])
  (.region false [⟨some 17, .own 2, none⟩,
 ⟨some 18, .load (.tmp 5) 7 true, none⟩,
 ⟨some 19, .callq 14 [.tmp 18], none⟩,
 ⟨some 20, .app true 1 16 17 (.tmp 19), none⟩,
 ⟨some 2, .own 20, none⟩] [])))
  (.region false [⟨some 21, .bin .add (.tmp 13) (.cst (.int .i64 1)), none⟩,
 ⟨some 13, .mov (.tmp 21), none⟩] [])))
def x42_l0 : XCode := x42_r0
def x42_r1 : XCode := .seq (.region false [⟨some 26, .bin .lss (.tmp 25) (.tmp 24), none⟩] [])
 (.seq (.cond (.tmp 26) .skip (.exit 2))
 (.seq (.block 3 (.seq (.region false [⟨some 27, .mov (.tmp 25), none⟩,
 ⟨some 28, .iaddr 10 (.tmp 23) (.tmp 25), none⟩,
 ⟨some 29, .load (.tmp 28) 10 true, none⟩,
 ⟨some 7, .alloc [.int .i64 0, .str [], .int .i64 0, .nilsl, .nilsl, .int .i64 0, .int .i64 0, .bool false, .nilsl, .nilsl], none⟩,
 ⟨some 6, .own 27, none⟩,
 ⟨none, .store (.tmp 7) (.tmp 29) 10, none⟩] [])
 (.seq (.region false [⟨some 31, .load (.tmp 7) 10 true, none⟩,
 ⟨some 32, .callq 42 [.tmp 31], none⟩,
 ⟨some 30, .mov (.tmp 32), none⟩,
 ⟨some 33, .ext 30 0, none⟩,
 ⟨some 34, .ext 30 1, none⟩,
 ⟨some 8, .own 33, none⟩,
 ⟨some 9, .own 34, none⟩] [])
 (.seq (.region false [⟨some 35, .mov (.tmp 3), none⟩,
 ⟨some 36, .mov (.tmp 9), none⟩,
 ⟨some 37, .mx (.tmp 35) (.tmp 36), none⟩,
 ⟨some 3, .own 37, none⟩] [])
 (.seq (.region false [⟨some 38, .faddr (.tmp 1) 0, none⟩,
 ⟨some 39, .load (.tmp 38) 1 false, none⟩,
 ⟨some 40, .bin .neq (.tmp 39) (.cst (.int .i64 19)), none⟩,
 ⟨some 41, .mov (.tmp 40), none⟩,
 ⟨some 42, .faddr (.tmp 1) 0, (some (41, true))⟩,
 ⟨some 43, .load (.tmp 42) 1 false, (some (41, true))⟩,
 ⟨some 44, .bin .neq (.tmp 43) (.cst (.int .i64 20)), (some (41, true))⟩,
 ⟨some 45, .mov (.tmp 44), (some (41, true))⟩,
 ⟨some 46, .faddr (.tmp 1) 0, (some (45, true))⟩,
 ⟨some 47, .load (.tmp 46) 1 false, (some (45, true))⟩,
 ⟨some 48, .bin .neq (.tmp 47) (.cst (.int .i64 21)), (some (45, true))⟩,
 ⟨some 49, .pick (.tmp 45) (.tmp 48) (.cst (.bool false)), (some (41, true))⟩,
 ⟨some 50, .mov (.tmp 49), (some (41, true))⟩,
 ⟨some 51, .mov (.tmp 6), (some (50, false))⟩,
 ⟨some 52, .bin .eql (.tmp 51) (.cst (.int .i64 1)), (some (50, false))⟩,
 ⟨some 53, .pick (.tmp 50) (.cst (.bool true)) (.tmp 52), (some (41, true))⟩,
 ⟨some 54, .pick (.tmp 41) (.tmp 53) (.cst (.bool false)), none⟩] [])
  (.cond (.tmp 54) (.region false [⟨some 55, .own 2, none⟩,
 ⟨some 56, .mov (.tmp 8), none⟩,
 ⟨some 57, .app true 1 16 55 (.tmp 56), none⟩,
 ⟨some 2, .own 57, none⟩] []) .skip))))))
  (.region false [⟨some 58, .bin .add (.tmp 25) (.cst (.int .i64 1)), none⟩,
 ⟨some 25, .mov (.tmp 58), none⟩] [])))
def x42_l1 : XCode := x42_r1
/-- custos/ast.free -/
def x42 : XFn := XFn.mk 83 [.tmp 2, .tmp 3] (.seq (.region false [⟨some 1, .box (.tmp 0) 10, none⟩,
 ⟨some 2, .mov (.cst .nilsl), none⟩,
 ⟨some 3, .mov (.cst (.int .i64 0)), none⟩] [])
 (.seq (.seq (.region false [⟨some 10, .faddr (.tmp 1) 4, none⟩,
 ⟨some 11, .load (.tmp 10) 1 false, none⟩,
 ⟨some 12, .lens false (.tmp 11), none⟩,
 ⟨some 13, .mov (.cst (.int .i64 0)), none⟩] [])
  (.block 0 (.loop x42_l0)))
 (.seq (.seq (.region false [⟨some 22, .load (.tmp 1) 10 true, none⟩,
 ⟨some 23, .callq 47 [.tmp 22], none⟩,
 ⟨some 24, .lens false (.tmp 23), none⟩,
 ⟨some 25, .mov (.cst (.int .i64 0)), none⟩] [])
  (.block 2 (.loop x42_l1)))
 (.seq (.seq (.region false [⟨some 59, .faddr (.tmp 1) 0, none⟩,
 ⟨some 60, .load (.tmp 59) 1 false, none⟩] [])
  (.block 4 (.seq (.region false [⟨some 62, .bin .eql (.tmp 60) (.cst (.int .i64 19)), none⟩,
 ⟨some 61, .own 62, none⟩] [])
  (.cond (.tmp 61) (.region true [⟨some 63, .faddr (.tmp 1) 3, none⟩,
 ⟨some 64, .load (.tmp 63) 1 false, none⟩,
 ⟨some 65, .ssl 1 (.tmp 64) (some (.cst (.int .i64 1))) none none, none⟩,
 ⟨some 66, .callq 24 [.tmp 65], none⟩,
 ⟨some 67, .faddr (.tmp 1) 1, none⟩,
 ⟨some 68, .load (.tmp 67) 1 false, none⟩,
 ⟨some 69, .bslice 1 [.str []] [(0, 1, .tmp 68)], none⟩,
 ⟨some 70, .app true 1 16 66 (.tmp 69), none⟩,
 ⟨some 2, .own 70, none⟩] []) (.seq (.region false [⟨some 72, .bin .eql (.tmp 60) (.cst (.int .i64 10)), none⟩,
 ⟨some 71, .own 72, none⟩] [])
  (.cond (.tmp 71) (.region false [⟨some 73, .own 2, none⟩,
 ⟨some 74, .mkfn 69 [] [.tmp 1], none⟩,
 ⟨some 75, .callm 68 73 [.tmp 74], none⟩,
 ⟨some 2, .own 75, none⟩] []) .skip))))))
 (.seq (.region false [⟨some 76, .own 2, none⟩,
 ⟨some 77, .primm 100 44 76, none⟩,
 ⟨some 2, .ownd 77, none⟩] [])
 (.seq (.region false [⟨some 78, .mov (.tmp 2), none⟩,
 ⟨some 79, .mov (.tmp 3), none⟩,
 ⟨some 80, .mov (.tmp 2), none⟩,
 ⟨some 81, .lens false (.tmp 80), none⟩,
 ⟨some 82, .mx (.tmp 79) (.tmp 81), none⟩,
 ⟨some 2, .own 78, none⟩,
 ⟨some 3, .own 82, none⟩] [])
  .ret))))))
def x43_r0 : XCode := .seq (.seq (.region false [⟨some 12, .mov (.tmp 4), none⟩,
 ⟨some 13, .faddr (.tmp 1) 4, none⟩,
 ⟨some 14, .load (.tmp 13) 1 false, none⟩,
 ⟨some 15, .lens false (.tmp 14), none⟩,
 ⟨some 16, .bin .lss (.tmp 12) (.tmp 15), none⟩] [])
  (.cond (.tmp 16) .skip (.exit 0)))
 (.seq (.block 1 (.seq (.region false [⟨some 19, .faddr (.tmp 1) 4, none⟩,
 ⟨some 20, .load (.tmp 19) 1 false, none⟩,
 ⟨some 21, .mov (.tmp 4), none⟩,
 ⟨some 22, .iaddr 7 (.tmp 20) (.tmp 21), none⟩,
 ⟨some 23, .load (.tmp 22) 7 true, none⟩,
 ⟨some 24, .callq 15 [.tmp 23], none⟩,
 ⟨some 5, .own 24, none⟩] [])
  (.region false [⟨some 25, .mov (.tmp 3), none⟩,
 ⟨some 26, .mov (.tmp 5), none⟩,
 ⟨some 27, .callq 46 [.tmp 25, .tmp 26], none⟩,
 ⟨some 3, .own 27, none⟩] [])))
  (.region false [⟨some 17, .mov (.tmp 4), none⟩,
 ⟨some 18, .bin .add (.tmp 17) (.cst (.int .i64 1)), none⟩,
 ⟨some 4, .own 18, none⟩] []))
def x43_l0 : XCode := x43_r0
def x43_r1 : XCode := .seq (.seq (.region false [⟨some 51, .mov (.tmp 7), none⟩,
 ⟨some 52, .mov (.tmp 6), none⟩,
 ⟨some 53, .lens false (.tmp 52), none⟩,
 ⟨some 54, .bin .lss (.tmp 51) (.tmp 53), none⟩] [])
  (.cond (.tmp 54) .skip (.exit 3)))
 (.seq (.block 4 (.seq (.region false [⟨some 57, .mov (.tmp 6), none⟩,
 ⟨some 58, .mov (.tmp 7), none⟩,
 ⟨some 59, .iaddr 10 (.tmp 57) (.tmp 58), none⟩,
 ⟨some 60, .load (.tmp 59) 10 true, none⟩,
 ⟨some 61, .callq 43 [.tmp 60], none⟩,
 ⟨some 8, .own 61, none⟩] [])
  (.region false [⟨some 62, .mov (.tmp 3), none⟩,
 ⟨some 63, .mov (.tmp 8), none⟩,
 ⟨some 64, .callq 46 [.tmp 62, .tmp 63], none⟩,
 ⟨some 3, .own 64, none⟩] [])))
  (.region false [⟨some 55, .mov (.tmp 7), none⟩,
 ⟨some 56, .bin .add (.tmp 55) (.cst (.int .i64 1)), none⟩,
 ⟨some 7, .own 56, none⟩] []))
def x43_l1 : XCode := x43_r1
def x43_r2 : XCode := .seq (.seq (.region false [⟨some 69, .mov (.tmp 10), none⟩,
 ⟨some 70, .mov (.tmp 3), none⟩,
 ⟨some 71, .lens false (.tmp 70), none⟩,
 ⟨some 72, .bin .lss (.tmp 69) (.tmp 71), none⟩] [])
  (.cond (.tmp 72) .skip (.exit 5)))
 (.seq (.block 6 (.seq (.region true [⟨some 75, .faddr (.tmp 1) 3, none⟩,
 ⟨some 76, .load (.tmp 75) 1 false, none⟩,
 ⟨some 77, .mov (.tmp 3), none⟩,
 ⟨some 78, .mov (.tmp 10), none⟩,
 ⟨some 79, .iaddr 1 (.tmp 77) (.tmp 78), none⟩,
 ⟨some 80, .load (.tmp 79) 1 false, none⟩,
 ⟨some 81, .callq 57 [.tmp 76, .tmp 80], none⟩,
 ⟨some 11, .own 81, none⟩] [])
 (.seq (.region false [⟨some 82, .mov (.tmp 11), none⟩,
 ⟨some 83, .not (.tmp 82), none⟩] [])
  (.cond (.tmp 83) (.region false [⟨some 84, .own 9, none⟩,
 ⟨some 85, .mov (.tmp 3), none⟩,
 ⟨some 86, .mov (.tmp 10), none⟩,
 ⟨some 87, .iaddr 1 (.tmp 85) (.tmp 86), none⟩,
 ⟨some 88, .load (.tmp 87) 1 false, none⟩,
 ⟨some 89, .bslice 1 [.str []] [(0, 1, .tmp 88)], none⟩,
 ⟨some 90, .app false 1 16 84 (.tmp 89), none⟩,
 ⟨some 9, .own 90, none⟩] []) .skip))))
  (.region false [⟨some 73, .mov (.tmp 10), none⟩,
 ⟨some 74, .bin .add (.tmp 73) (.cst (.int .i64 1)), none⟩,
 ⟨some 10, .own 74, none⟩] []))
def x43_l2 : XCode := x43_r2
/-- custos/custosref06.vars -/
def x43 : XFn := XFn.mk 92 [.tmp 2] (.seq (.region false [⟨some 1, .box (.tmp 0) 10, none⟩,
 ⟨some 2, .mov (.cst .nilsl), none⟩] [])
 (.seq (.region false [⟨some 3, .mov (.cst .nilsl), none⟩] [])
 (.seq (.seq (.region false [⟨some 4, .mov (.cst (.int .i64 0)), none⟩] [])
  (.block 0 (.loop x43_l0)))
 (.seq (.region false [⟨some 28, .load (.tmp 1) 10 true, none⟩,
 ⟨some 29, .callq 48 [.tmp 28], none⟩,
 ⟨some 6, .own 29, none⟩] [])
 (.seq (.seq (.region false [⟨some 30, .faddr (.tmp 1) 0, none⟩,
 ⟨some 31, .load (.tmp 30) 1 false, none⟩] [])
  (.block 2 (.seq (.region false [⟨some 33, .bin .eql (.tmp 31) (.cst (.int .i64 19)), none⟩,
 ⟨some 32, .own 33, none⟩] [])
  (.cond (.tmp 32) (.seq (.region false [⟨some 34, .mov (.tmp 3), none⟩,
 ⟨some 35, .faddr (.tmp 1) 1, none⟩,
 ⟨some 36, .load (.tmp 35) 1 false, none⟩,
 ⟨some 37, .callq 45 [.tmp 34, .tmp 36], none⟩,
 ⟨some 3, .own 37, none⟩] [])
 (.seq (.region false [⟨some 38, .mov (.tmp 3), none⟩,
 ⟨some 39, .faddr (.tmp 1) 3, none⟩,
 ⟨some 40, .load (.tmp 39) 1 false, none⟩,
 ⟨some 41, .ssl 1 (.tmp 40) (some (.cst (.int .i64 1))) none none, none⟩,
 ⟨some 42, .callq 46 [.tmp 38, .tmp 41], none⟩,
 ⟨some 2, .own 42, none⟩] [])
  .ret)) (.seq (.seq (.region false [⟨some 44, .bin .eql (.tmp 31) (.cst (.int .i64 20)), none⟩,
 ⟨some 43, .own 44, none⟩] [])
  (.cond (.tmp 43) .skip (.region false [⟨some 45, .bin .eql (.tmp 31) (.cst (.int .i64 21)), none⟩,
 ⟨some 43, .own 45, none⟩] [])))
  (.cond (.tmp 43) (.seq (.region false [⟨some 46, .faddr (.tmp 1) 8, none⟩,
 ⟨some 47, .load (.tmp 46) 1 false, none⟩,
 ⟨some 48, .iaddr 10 (.tmp 47) (.cst (.int .i64 1)), none⟩,
 ⟨some 49, .load (.tmp 48) 10 true, none⟩,
 ⟨some 50, .callq 43 [.tmp 49], none⟩,
 ⟨some 2, .own 50, none⟩] [])
  .ret) .skip))))))
 (.seq (.seq (.region false [⟨some 7, .mov (.cst (.int .i64 0)), none⟩] [])
  (.block 3 (.loop x43_l1)))
 (.seq (.seq (.region false [⟨some 65, .faddr (.tmp 1) 0, none⟩,
 ⟨some 66, .load (.tmp 65) 1 false, none⟩,
 ⟨some 67, .bin .neq (.tmp 66) (.cst (.int .i64 10)), none⟩] [])
  (.cond (.tmp 67) (.seq (.region false [⟨some 68, .mov (.tmp 3), none⟩,
 ⟨some 2, .own 68, none⟩] [])
  .ret) .skip))
 (.seq (.region false [⟨some 9, .mov (.cst .nilsl), none⟩] [])
 (.seq (.seq (.region false [⟨some 10, .mov (.cst (.int .i64 0)), none⟩] [])
  (.block 5 (.loop x43_l2)))
 (.seq (.region false [⟨some 91, .mov (.tmp 9), none⟩,
 ⟨some 2, .own 91, none⟩] [])
  .ret))))))))))
def x45_r0 : XCode := .seq (.seq (.region false [⟨some 7, .mov (.tmp 5), none⟩,
 ⟨some 8, .mov (.tmp 0), none⟩,
 ⟨some 9, .lens false (.tmp 8), none⟩,
 ⟨some 10, .bin .lss (.tmp 7) (.tmp 9), none⟩,
 ⟨some 11, .mov (.tmp 10), none⟩,
 ⟨some 12, .mov (.tmp 0), (some (11, true))⟩,
 ⟨some 13, .mov (.tmp 5), (some (11, true))⟩,
 ⟨some 14, .iaddr 1 (.tmp 12) (.tmp 13), (some (11, true))⟩,
 ⟨some 15, .load (.tmp 14) 1 false, (some (11, true))⟩,
 ⟨some 16, .mov (.tmp 1), (some (11, true))⟩,
 ⟨some 17, .bin .lss (.tmp 15) (.tmp 16), (some (11, true))⟩,
 ⟨some 18, .pick (.tmp 11) (.tmp 17) (.cst (.bool false)), none⟩] [])
  (.cond (.tmp 18) .skip (.exit 0)))
  (.block 1 (.region false [⟨some 19, .mov (.tmp 5), none⟩,
 ⟨some 20, .bin .add (.tmp 19) (.cst (.int .i64 1)), none⟩,
 ⟨some 5, .own 20, none⟩] []))
def x45_l0 : XCode := x45_r0
/-- custos/custosref06.put -/
def x45 : XFn := XFn.mk 48 [.tmp 4] (.seq (.region false [⟨some 4, .mov (.cst .nilsl), none⟩] [])
 (.seq (.region false [⟨some 5, .mov (.cst (.int .i64 0)), none⟩] [])
 (.seq (.block 0 (.loop x45_l0))
 (.seq (.seq (.region false [⟨some 21, .mov (.tmp 5), none⟩,
 ⟨some 22, .mov (.tmp 0), none⟩,
 ⟨some 23, .lens false (.tmp 22), none⟩,
 ⟨some 24, .bin .lss (.tmp 21) (.tmp 23), none⟩,
 ⟨some 25, .mov (.tmp 24), none⟩,
 ⟨some 26, .mov (.tmp 0), (some (25, true))⟩,
 ⟨some 27, .mov (.tmp 5), (some (25, true))⟩,
 ⟨some 28, .iaddr 1 (.tmp 26) (.tmp 27), (some (25, true))⟩,
 ⟨some 29, .load (.tmp 28) 1 false, (some (25, true))⟩,
 ⟨some 30, .mov (.tmp 1), (some (25, true))⟩,
 ⟨some 31, .bin .eql (.tmp 29) (.tmp 30), (some (25, true))⟩,
 ⟨some 32, .pick (.tmp 25) (.tmp 31) (.cst (.bool false)), none⟩] [])
  (.cond (.tmp 32) (.seq (.region false [⟨some 33, .mov (.tmp 0), none⟩,
 ⟨some 4, .own 33, none⟩] [])
  .ret) .skip))
 (.seq (.region false [⟨some 6, .mov (.cst .nilsl), none⟩] [])
 (.seq (.region false [⟨some 34, .own 6, none⟩,
 ⟨some 35, .mov (.tmp 0), none⟩,
 ⟨some 36, .mov (.tmp 5), none⟩,
 ⟨some 37, .ssl 1 (.tmp 35) none (some (.tmp 36)) none, none⟩,
 ⟨some 38, .app false 1 16 34 (.tmp 37), none⟩,
 ⟨some 6, .own 38, none⟩] [])
 (.seq (.region false [⟨some 39, .own 6, none⟩,
 ⟨some 40, .mov (.tmp 1), none⟩,
 ⟨some 41, .bslice 1 [.str []] [(0, 1, .tmp 40)], none⟩,
 ⟨some 42, .app false 1 16 39 (.tmp 41), none⟩,
 ⟨some 6, .own 42, none⟩] [])
 (.seq (.region false [⟨some 43, .own 6, none⟩,
 ⟨some 44, .mov (.tmp 0), none⟩,
 ⟨some 45, .mov (.tmp 5), none⟩,
 ⟨some 46, .ssl 1 (.tmp 44) (some (.tmp 45)) none none, none⟩,
 ⟨some 47, .app false 1 16 43 (.tmp 46), none⟩,
 ⟨some 4, .own 47, none⟩] [])
  .ret))))))))
def x46_r0 : XCode := .seq (.seq (.region false [⟨some 6, .mov (.tmp 5), none⟩,
 ⟨some 7, .mov (.tmp 1), none⟩,
 ⟨some 8, .lens false (.tmp 7), none⟩,
 ⟨some 9, .bin .lss (.tmp 6) (.tmp 8), none⟩] [])
  (.cond (.tmp 9) .skip (.exit 0)))
 (.seq (.block 1 (.region false [⟨some 12, .mov (.tmp 0), none⟩,
 ⟨some 13, .mov (.tmp 1), none⟩,
 ⟨some 14, .mov (.tmp 5), none⟩,
 ⟨some 15, .iaddr 1 (.tmp 13) (.tmp 14), none⟩,
 ⟨some 16, .load (.tmp 15) 1 false, none⟩,
 ⟨some 17, .callq 45 [.tmp 12, .tmp 16], none⟩,
 ⟨some 0, .own 17, none⟩] []))
  (.region false [⟨some 10, .mov (.tmp 5), none⟩,
 ⟨some 11, .bin .add (.tmp 10) (.cst (.int .i64 1)), none⟩,
 ⟨some 5, .own 11, none⟩] []))
def x46_l0 : XCode := x46_r0
/-- custos/custosref06.puts -/
def x46 : XFn := XFn.mk 19 [.tmp 4] (.seq (.region false [⟨some 4, .mov (.cst .nilsl), none⟩] [])
 (.seq (.seq (.region false [⟨some 5, .mov (.cst (.int .i64 0)), none⟩] [])
  (.block 0 (.loop x46_l0)))
 (.seq (.region false [⟨some 18, .mov (.tmp 0), none⟩,
 ⟨some 4, .own 18, none⟩] [])
  .ret)))
/-- custos/ast.parts -/
def x47 : XFn := XFn.mk 14 [.tmp 2] (.seq (.region false [⟨some 1, .box (.tmp 0) 10, none⟩,
 ⟨some 2, .mov (.cst .nilsl), none⟩] [])
 (.seq (.seq (.region false [⟨some 3, .faddr (.tmp 1) 9, none⟩,
 ⟨some 4, .load (.tmp 3) 1 false, none⟩,
 ⟨some 5, .lens false (.tmp 4), none⟩,
 ⟨some 6, .bin .gtr (.tmp 5) (.cst (.int .i64 0)), none⟩] [])
  (.cond (.tmp 6) (.seq (.region false [⟨some 7, .faddr (.tmp 1) 9, none⟩,
 ⟨some 8, .load (.tmp 7) 1 false, none⟩,
 ⟨some 9, .iaddr 3 (.tmp 8) (.cst (.int .i64 0)), none⟩,
 ⟨some 10, .load (.tmp 9) 3 true, none⟩,
 ⟨some 11, .callq 73 [.tmp 10], none⟩,
 ⟨some 2, .own 11, none⟩] [])
  .ret) .skip))
 (.seq (.region false [⟨some 12, .faddr (.tmp 1) 8, none⟩,
 ⟨some 13, .load (.tmp 12) 1 false, none⟩,
 ⟨some 2, .own 13, none⟩] [])
  .ret)))
def x48_r0 : XCode := .seq (.seq (.region false [⟨some 6, .mov (.tmp 4), none⟩,
 ⟨some 7, .faddr (.tmp 1) 9, none⟩,
 ⟨some 8, .load (.tmp 7) 1 false, none⟩,
 ⟨some 9, .lens false (.tmp 8), none⟩,
 ⟨some 10, .bin .lss (.tmp 6) (.tmp 9), none⟩] [])
  (.cond (.tmp 10) .skip (.exit 0)))
 (.seq (.block 1 (.seq (.region false [⟨some 13, .faddr (.tmp 1) 9, none⟩,
 ⟨some 14, .load (.tmp 13) 1 false, none⟩,
 ⟨some 15, .mov (.tmp 4), none⟩,
 ⟨some 16, .iaddr 3 (.tmp 14) (.tmp 15), none⟩,
 ⟨some 17, .load (.tmp 16) 3 true, none⟩,
 ⟨some 18, .callq 74 [.tmp 17], none⟩,
 ⟨some 5, .own 18, none⟩] [])
  (.region false [⟨some 19, .own 3, none⟩,
 ⟨some 20, .mov (.tmp 5), none⟩,
 ⟨some 21, .app false 10 152 19 (.tmp 20), none⟩,
 ⟨some 3, .own 21, none⟩] [])))
  (.region false [⟨some 11, .mov (.tmp 4), none⟩,
 ⟨some 12, .bin .add (.tmp 11) (.cst (.int .i64 1)), none⟩,
 ⟨some 4, .own 12, none⟩] []))
def x48_l0 : XCode := x48_r0
/-- custos/custosref06.Parts -/
def x48 : XFn := XFn.mk 26 [.tmp 2] (.seq (.region false [⟨some 1, .box (.tmp 0) 10, none⟩,
 ⟨some 2, .mov (.cst .nilsl), none⟩] [])
 (.seq (.region false [⟨some 3, .mov (.cst .nilsl), none⟩] [])
 (.seq (.seq (.region false [⟨some 4, .mov (.cst (.int .i64 0)), none⟩] [])
  (.block 0 (.loop x48_l0)))
 (.seq (.region false [⟨some 22, .own 3, none⟩,
 ⟨some 23, .faddr (.tmp 1) 8, none⟩,
 ⟨some 24, .load (.tmp 23) 1 false, none⟩,
 ⟨some 25, .app false 10 152 22 (.tmp 24), none⟩,
 ⟨some 2, .own 25, none⟩] [])
  .ret))))
/-- (*custos/ast.walk).formula -/
def x49 : XFn := XFn.mk 105 [] (.seq (.region false [⟨some 4, .box (.tmp 1) 10, none⟩] [])
 (.seq (.seq (.region false [⟨some 8, .mov (.tmp 0), none⟩,
 ⟨some 9, .mov (.tmp 2), none⟩,
 ⟨some 10, .callw 75 [.tmp 8, .tmp 9], none⟩,
 ⟨some 11, .not (.tmp 10), none⟩,
 ⟨some 12, .mov (.tmp 11), none⟩,
 ⟨some 13, .mov (.tmp 0), (some (12, false))⟩,
 ⟨some 14, .faddr (.tmp 4) 0, (some (12, false))⟩,
 ⟨some 15, .load (.tmp 14) 1 false, (some (12, false))⟩,
 ⟨some 16, .bin .geq (.tmp 15) (.cst (.int .i64 1)), (some (12, false))⟩,
 ⟨some 17, .mov (.tmp 16), (some (12, false))⟩,
 ⟨some 18, .faddr (.tmp 4) 0, (some (17, true))⟩,
 ⟨some 19, .load (.tmp 18) 1 false, (some (17, true))⟩,
 ⟨some 20, .bin .leq (.tmp 19) (.cst (.int .i64 22)), (some (17, true))⟩,
 ⟨some 21, .pick (.tmp 17) (.tmp 20) (.cst (.bool false)), (some (12, false))⟩,
 ⟨some 22, .callw 50 [.tmp 13, .tmp 21, .cst (.int .i64 20)], (some (12, false))⟩,
 ⟨some 23, .not (.tmp 22), (some (12, false))⟩,
 ⟨some 24, .pick (.tmp 12) (.cst (.bool true)) (.tmp 23), none⟩] [])
  (.cond (.tmp 24) .ret .skip))
 (.seq (.region false [⟨some 26, .faddr (.tmp 4) 0, none⟩,
 ⟨some 27, .load (.tmp 26) 1 false, none⟩,
 ⟨some 28, .callq 76 [.tmp 27], none⟩,
 ⟨some 25, .mov (.tmp 28), none⟩,
 ⟨some 29, .ext 25 0, none⟩,
 ⟨some 30, .ext 25 1, none⟩,
 ⟨some 6, .own 29, none⟩,
 ⟨some 7, .own 30, none⟩] [])
 (.seq (.region false [⟨some 31, .mov (.tmp 0), none⟩,
 ⟨some 32, .mov (.tmp 6), none⟩,
 ⟨some 33, .bin .eql (.tmp 32) (.cst (.int .i64 0)), none⟩,
 ⟨some 34, .mov (.tmp 33), none⟩,
 ⟨some 35, .faddr (.tmp 4) 4, (some (34, false))⟩,
 ⟨some 36, .load (.tmp 35) 1 false, (some (34, false))⟩,
 ⟨some 37, .lens false (.tmp 36), (some (34, false))⟩,
 ⟨some 38, .mov (.tmp 6), (some (34, false))⟩,
 ⟨some 39, .bin .leq (.tmp 37) (.tmp 38), (some (34, false))⟩,
 ⟨some 40, .pick (.tmp 34) (.cst (.bool true)) (.tmp 39), none⟩,
 ⟨some 41, .callw 50 [.tmp 31, .tmp 40, .cst (.int .i64 3)], none⟩] [])
 (.seq (.region false [⟨some 42, .mov (.tmp 0), none⟩,
 ⟨some 43, .mov (.tmp 7), none⟩,
 ⟨some 44, .bin .eql (.tmp 43) (.cst (.int .i64 0)), none⟩,
 ⟨some 45, .mov (.tmp 44), none⟩,
 ⟨some 46, .faddr (.tmp 4) 3, (some (45, false))⟩,
 ⟨some 47, .load (.tmp 46) 1 false, (some (45, false))⟩,
 ⟨some 48, .lens false (.tmp 47), (some (45, false))⟩,
 ⟨some 49, .mov (.tmp 7), (some (45, false))⟩,
 ⟨some 50, .bin .leq (.tmp 48) (.tmp 49), (some (45, false))⟩,
 ⟨some 51, .pick (.tmp 45) (.cst (.bool true)) (.tmp 50), none⟩,
 ⟨some 52, .callw 50 [.tmp 42, .tmp 51, .cst (.int .i64 3)], none⟩] [])
 (.seq (.region false [⟨some 53, .mov (.tmp 0), none⟩,
 ⟨some 54, .load (.tmp 4) 10 true, none⟩,
 ⟨some 55, .callq 77 [.tmp 54], none⟩,
 ⟨some 56, .callw 50 [.tmp 53, .tmp 55, .cst (.int .i64 1)], none⟩] [])
 (.seq (.region false [⟨some 57, .mov (.tmp 0), none⟩,
 ⟨some 58, .faddr (.tmp 4) 3, none⟩,
 ⟨some 59, .load (.tmp 58) 1 false, none⟩,
 ⟨some 60, .callq 78 [.tmp 59], none⟩,
 ⟨some 61, .not (.tmp 60), none⟩,
 ⟨some 62, .callw 50 [.tmp 57, .tmp 61, .cst (.int .i64 30)], none⟩] [])
 (.seq (.seq (.region true [⟨some 63, .mov (.tmp 0), none⟩,
 ⟨some 64, .faddr (.tmp 4) 0, none⟩,
 ⟨some 65, .load (.tmp 64) 1 false, none⟩,
 ⟨some 66, .bin .neq (.tmp 65) (.cst (.int .i64 19)), none⟩,
 ⟨some 67, .mov (.tmp 66), none⟩,
 ⟨some 68, .faddr (.tmp 4) 3, (some (67, false))⟩,
 ⟨some 69, .load (.tmp 68) 1 false, (some (67, false))⟩,
 ⟨some 70, .lens false (.tmp 69), (some (67, false))⟩,
 ⟨some 71, .bin .gtr (.tmp 70) (.cst (.int .i64 0)), (some (67, false))⟩,
 ⟨some 72, .mov (.tmp 71), (some (67, false))⟩,
 ⟨some 73, .faddr (.tmp 4) 3, (some (72, true))⟩,
 ⟨some 74, .load (.tmp 73) 1 false, (some (72, true))⟩,
 ⟨some 75, .ssl 1 (.tmp 74) (some (.cst (.int .i64 1))) none none, (some (72, true))⟩,
 ⟨some 76, .faddr (.tmp 4) 1, (some (72, true))⟩,
 ⟨some 77, .load (.tmp 76) 1 false, (some (72, true))⟩,
 ⟨some 78, .callq 70 [.tmp 75, .tmp 77], (some (72, true))⟩,
 ⟨some 79, .not (.tmp 78), (some (72, true))⟩,
 ⟨some 80, .pick (.tmp 72) (.tmp 79) (.cst (.bool false)), (some (67, false))⟩,
 ⟨some 81, .pick (.tmp 67) (.cst (.bool true)) (.tmp 80), none⟩,
 ⟨some 82, .callw 50 [.tmp 63, .tmp 81, .cst (.int .i64 30)], none⟩,
 ⟨some 83, .not (.tmp 82), none⟩] [])
  (.cond (.tmp 83) .ret .skip))
 (.seq (.region false [⟨some 84, .mov (.tmp 0), none⟩,
 ⟨some 85, .mkfn 80 [.tmp 84] [], none⟩,
 ⟨some 86, .mov (.tmp 2), none⟩,
 ⟨some 87, .bin .add (.tmp 86) (.cst (.int .i64 1)), none⟩,
 ⟨some 88, .faddr (.tmp 4) 4, none⟩,
 ⟨some 89, .load (.tmp 88) 1 false, none⟩,
 ⟨some 90, .callw 79 [.tmp 85, .tmp 87, .tmp 89], none⟩] [])
 (.seq (.region false [⟨some 91, .mov (.tmp 0), none⟩,
 ⟨some 92, .mkfn 82 [.tmp 91] [], none⟩,
 ⟨some 93, .mov (.tmp 2), none⟩,
 ⟨some 94, .bin .add (.tmp 93) (.cst (.int .i64 1)), none⟩,
 ⟨some 95, .faddr (.tmp 4) 9, none⟩,
 ⟨some 96, .load (.tmp 95) 1 false, none⟩,
 ⟨some 97, .callw 81 [.tmp 92, .tmp 94, .tmp 96], none⟩] [])
  (.region false [⟨some 98, .mov (.tmp 0), none⟩,
 ⟨some 99, .mkfn 49 [.tmp 98] [], none⟩,
 ⟨some 100, .mov (.tmp 2), none⟩,
 ⟨some 101, .bin .add (.tmp 100) (.cst (.int .i64 1)), none⟩,
 ⟨some 102, .faddr (.tmp 4) 8, none⟩,
 ⟨some 103, .load (.tmp 102) 1 false, none⟩,
 ⟨some 104, .callw 83 [.tmp 99, .tmp 101, .tmp 103], none⟩] [])))))))))))
/-- (*custos/ast.walk).must -/
def x50 : XFn := XFn.mk 25 [.tmp 6] (.seq (.region false [⟨some 6, .mov (.cst (.bool false)), none⟩] [])
 (.seq (.seq (.region false [⟨some 7, .mov (.tmp 1), none⟩,
 ⟨some 8, .not (.tmp 7), none⟩,
 ⟨some 9, .mov (.tmp 8), none⟩,
 ⟨some 10, .mov (.tmp 0), (some (9, true))⟩,
 ⟨some 11, .nilck (.tmp 10), (some (9, true))⟩,
 ⟨some 12, .faddr (.tmp 11) 2, (some (9, true))⟩,
 ⟨some 13, .load (.tmp 12) 1 false, (some (9, true))⟩,
 ⟨some 14, .bin .eql (.tmp 13) (.cst (.int .i64 0)), (some (9, true))⟩,
 ⟨some 15, .pick (.tmp 9) (.tmp 14) (.cst (.bool false)), none⟩] [])
  (.cond (.tmp 15) (.region false [⟨some 16, .mov (.tmp 0), none⟩,
 ⟨some 17, .mov (.tmp 2), none⟩,
 ⟨some 18, .nilck (.tmp 16), none⟩,
 ⟨some 19, .faddr (.tmp 18) 2, none⟩,
 ⟨none, .store (.tmp 19) (.tmp 17) 1, none⟩] []) .skip))
 (.seq (.region false [⟨some 20, .mov (.tmp 0), none⟩,
 ⟨some 21, .nilck (.tmp 20), none⟩,
 ⟨some 22, .faddr (.tmp 21) 2, none⟩,
 ⟨some 23, .load (.tmp 22) 1 false, none⟩,
 ⟨some 24, .bin .eql (.tmp 23) (.cst (.int .i64 0)), none⟩,
 ⟨some 6, .own 24, none⟩] [])
  .ret)))
/-- (*custos/custosref06.Walk).node -/
def x51 : XFn := XFn.mk 44 [.tmp 4] (.seq (.region false [⟨some 4, .mov (.cst (.bool false)), none⟩] [])
 (.seq (.seq (.region false [⟨some 5, .mov (.tmp 0), none⟩,
 ⟨some 6, .nilck (.tmp 5), none⟩,
 ⟨some 7, .faddr (.tmp 6) 2, none⟩,
 ⟨some 8, .load (.tmp 7) 1 false, none⟩,
 ⟨some 9, .bin .neq (.tmp 8) (.cst (.int .i64 0)), none⟩] [])
  (.cond (.tmp 9) (.seq (.region false [⟨some 4, .mov (.cst (.bool false)), none⟩] [])
  .ret) .skip))
 (.seq (.region false [⟨some 10, .mov (.tmp 0), none⟩,
 ⟨some 11, .mov (.tmp 1), none⟩,
 ⟨some 12, .bin .gtr (.tmp 11) (.cst (.int .i64 24)), none⟩,
 ⟨some 13, .callw 52 [.tmp 10, .tmp 12, .cst (.int .i64 71)], none⟩] [])
 (.seq (.region false [⟨some 14, .mov (.tmp 0), none⟩,
 ⟨some 15, .mov (.tmp 0), none⟩,
 ⟨some 16, .nilck (.tmp 15), none⟩,
 ⟨some 17, .faddr (.tmp 16) 0, none⟩,
 ⟨some 18, .load (.tmp 17) 1 false, none⟩,
 ⟨some 19, .bin .geq (.tmp 18) (.cst (.int .i64 256)), none⟩,
 ⟨some 20, .callw 52 [.tmp 14, .tmp 19, .cst (.int .i64 3)], none⟩] [])
 (.seq (.region false [⟨some 21, .mov (.tmp 0), none⟩,
 ⟨some 22, .mov (.tmp 0), none⟩,
 ⟨some 23, .nilck (.tmp 22), none⟩,
 ⟨some 24, .faddr (.tmp 23) 0, none⟩,
 ⟨some 25, .load (.tmp 24) 1 false, none⟩,
 ⟨some 26, .bin .add (.tmp 25) (.cst (.int .i64 1)), none⟩,
 ⟨some 27, .nilck (.tmp 21), none⟩,
 ⟨some 28, .faddr (.tmp 27) 0, none⟩,
 ⟨none, .store (.tmp 28) (.tmp 26) 1, none⟩] [])
 (.seq (.seq (.region false [⟨some 29, .mov (.tmp 1), none⟩,
 ⟨some 30, .mov (.tmp 0), none⟩,
 ⟨some 31, .nilck (.tmp 30), none⟩,
 ⟨some 32, .faddr (.tmp 31) 1, none⟩,
 ⟨some 33, .load (.tmp 32) 1 false, none⟩,
 ⟨some 34, .bin .gtr (.tmp 29) (.tmp 33), none⟩] [])
  (.cond (.tmp 34) (.region false [⟨some 35, .mov (.tmp 0), none⟩,
 ⟨some 36, .mov (.tmp 1), none⟩,
 ⟨some 37, .nilck (.tmp 35), none⟩,
 ⟨some 38, .faddr (.tmp 37) 1, none⟩,
 ⟨none, .store (.tmp 38) (.tmp 36) 1, none⟩] []) .skip))
 (.seq (.region false [⟨some 39, .mov (.tmp 0), none⟩,
 ⟨some 40, .nilck (.tmp 39), none⟩,
 ⟨some 41, .faddr (.tmp 40) 2, none⟩,
 ⟨some 42, .load (.tmp 41) 1 false, none⟩,
 ⟨some 43, .bin .eql (.tmp 42) (.cst (.int .i64 0)), none⟩,
 ⟨some 4, .own 43, none⟩] [])
  .ret)))))))
/-- (*custos/custosref06.Walk).wrong -/
def x52 : XFn := XFn.mk 18 [] (.seq (.region false [⟨some 6, .mov (.tmp 1), none⟩,
 ⟨some 7, .mov (.tmp 6), none⟩,
 ⟨some 8, .mov (.tmp 0), (some (7, true))⟩,
 ⟨some 9, .nilck (.tmp 8), (some (7, true))⟩,
 ⟨some 10, .faddr (.tmp 9) 2, (some (7, true))⟩,
 ⟨some 11, .load (.tmp 10) 1 false, (some (7, true))⟩,
 ⟨some 12, .bin .eql (.tmp 11) (.cst (.int .i64 0)), (some (7, true))⟩,
 ⟨some 13, .pick (.tmp 7) (.tmp 12) (.cst (.bool false)), none⟩] [])
  (.cond (.tmp 13) (.region false [⟨some 14, .mov (.tmp 0), none⟩,
 ⟨some 15, .mov (.tmp 2), none⟩,
 ⟨some 16, .nilck (.tmp 14), none⟩,
 ⟨some 17, .faddr (.tmp 16) 2, none⟩,
 ⟨none, .store (.tmp 17) (.tmp 15) 1, none⟩] []) .skip))
/-- custos/custosref06.many -/
def x53 : XFn := XFn.mk 25 [.tmp 2] (.seq (.region false [⟨some 1, .box (.tmp 0) 10, none⟩,
 ⟨some 2, .mov (.cst (.bool false)), none⟩] [])
 (.seq (.seq (.region false [⟨some 3, .faddr (.tmp 1) 0, none⟩,
 ⟨some 4, .load (.tmp 3) 1 false, none⟩] [])
  (.block 0 (.seq (.region false [⟨some 6, .bin .eql (.tmp 4) (.cst (.int .i64 3)), none⟩,
 ⟨some 5, .own 6, none⟩] [])
  (.cond (.tmp 5) (.seq (.region false [⟨some 7, .faddr (.tmp 1) 4, none⟩,
 ⟨some 8, .load (.tmp 7) 1 false, none⟩,
 ⟨some 9, .lens false (.tmp 8), none⟩,
 ⟨some 10, .bin .gtr (.tmp 9) (.cst (.int .i64 6)), none⟩,
 ⟨some 2, .own 10, none⟩] [])
  .ret) (.seq (.seq (.region false [⟨some 12, .bin .eql (.tmp 4) (.cst (.int .i64 20)), none⟩,
 ⟨some 11, .own 12, none⟩] [])
  (.cond (.tmp 11) .skip (.region false [⟨some 13, .bin .eql (.tmp 4) (.cst (.int .i64 21)), none⟩,
 ⟨some 11, .own 13, none⟩] [])))
  (.cond (.tmp 11) (.seq (.region false [⟨some 14, .faddr (.tmp 1) 3, none⟩,
 ⟨some 15, .load (.tmp 14) 1 false, none⟩,
 ⟨some 16, .lens false (.tmp 15), none⟩,
 ⟨some 17, .bin .gtr (.tmp 16) (.cst (.int .i64 6)), none⟩,
 ⟨some 2, .own 17, none⟩] [])
  .ret) (.seq (.seq (.region false [⟨some 19, .bin .eql (.tmp 4) (.cst (.int .i64 10)), none⟩,
 ⟨some 18, .own 19, none⟩] [])
  (.cond (.tmp 18) .skip (.region false [⟨some 20, .bin .eql (.tmp 4) (.cst (.int .i64 19)), none⟩,
 ⟨some 18, .own 20, none⟩] [])))
  (.cond (.tmp 18) (.seq (.region false [⟨some 21, .faddr (.tmp 1) 3, none⟩,
 ⟨some 22, .load (.tmp 21) 1 false, none⟩,
 ⟨some 23, .lens false (.tmp 22), none⟩,
 ⟨some 24, .bin .gtr (.tmp 23) (.cst (.int .i64 8)), none⟩,
 ⟨some 2, .own 24, none⟩] [])
  .ret) .skip))))))))
 (.seq (.region false [⟨some 2, .mov (.cst (.bool false)), none⟩] [])
  .ret)))
/-- custos/custosref06.form -/
def x54 : XFn := XFn.mk 88 [.tmp 2] (.seq (.region false [⟨some 1, .box (.tmp 0) 10, none⟩,
 ⟨some 2, .mov (.cst (.bool false)), none⟩] [])
 (.seq (.region false [⟨some 8, .faddr (.tmp 1) 0, none⟩,
 ⟨some 9, .load (.tmp 8) 1 false, none⟩,
 ⟨some 10, .callq 84 [.tmp 9], none⟩,
 ⟨some 3, .alloc [.bool false, .bool false, .bool false, .int .i64 0, .int .i64 0, .int .i64 0, .int .i64 0], none⟩,
 ⟨none, .store (.tmp 3) (.tmp 10) 7, none⟩] [])
 (.seq (.seq (.region false [⟨some 11, .faddr (.tmp 3) 0, none⟩,
 ⟨some 12, .load (.tmp 11) 1 false, none⟩,
 ⟨some 13, .not (.tmp 12), none⟩,
 ⟨some 14, .mov (.tmp 13), none⟩,
 ⟨some 15, .faddr (.tmp 1) 1, (some (14, true))⟩,
 ⟨some 16, .load (.tmp 15) 1 false, (some (14, true))⟩,
 ⟨some 17, .bin .neq (.tmp 16) (.cst (.str [])), (some (14, true))⟩,
 ⟨some 18, .pick (.tmp 14) (.tmp 17) (.cst (.bool false)), none⟩,
 ⟨some 19, .mov (.tmp 18), none⟩,
 ⟨some 20, .faddr (.tmp 3) 1, (some (19, false))⟩,
 ⟨some 21, .load (.tmp 20) 1 false, (some (19, false))⟩,
 ⟨some 22, .not (.tmp 21), (some (19, false))⟩,
 ⟨some 23, .mov (.tmp 22), (some (19, false))⟩,
 ⟨some 24, .faddr (.tmp 1) 2, (some (23, true))⟩,
 ⟨some 25, .load (.tmp 24) 1 false, (some (23, true))⟩,
 ⟨some 26, .bin .neq (.tmp 25) (.cst (.int .i64 0)), (some (23, true))⟩,
 ⟨some 27, .pick (.tmp 23) (.tmp 26) (.cst (.bool false)), (some (19, false))⟩,
 ⟨some 28, .pick (.tmp 19) (.cst (.bool true)) (.tmp 27), none⟩,
 ⟨some 29, .mov (.tmp 28), none⟩,
 ⟨some 30, .faddr (.tmp 3) 1, (some (29, false))⟩,
 ⟨some 31, .load (.tmp 30) 1 false, (some (29, false))⟩,
 ⟨some 32, .mov (.tmp 31), (some (29, false))⟩,
 ⟨some 33, .faddr (.tmp 1) 2, (some (32, true))⟩,
 ⟨some 34, .load (.tmp 33) 1 false, (some (32, true))⟩,
 ⟨some 35, .bin .lss (.tmp 34) (.cst (.int .i64 1)), (some (32, true))⟩,
 ⟨some 36, .mov (.tmp 35), (some (32, true))⟩,
 ⟨some 37, .faddr (.tmp 1) 2, (some (36, false))⟩,
 ⟨some 38, .load (.tmp 37) 1 false, (some (36, false))⟩,
 ⟨some 39, .bin .gtr (.tmp 38) (.cst (.int .i64 6)), (some (36, false))⟩,
 ⟨some 40, .pick (.tmp 36) (.cst (.bool true)) (.tmp 39), (some (32, true))⟩,
 ⟨some 41, .pick (.tmp 32) (.tmp 40) (.cst (.bool false)), (some (29, false))⟩,
 ⟨some 42, .pick (.tmp 29) (.cst (.bool true)) (.tmp 41), none⟩,
 ⟨some 43, .mov (.tmp 42), none⟩,
 ⟨some 44, .faddr (.tmp 3) 2, (some (43, false))⟩,
 ⟨some 45, .load (.tmp 44) 1 false, (some (43, false))⟩,
 ⟨some 46, .not (.tmp 45), (some (43, false))⟩,
 ⟨some 47, .mov (.tmp 46), (some (43, false))⟩,
 ⟨some 48, .faddr (.tmp 1) 5, (some (47, true))⟩,
 ⟨some 49, .load (.tmp 48) 3 true, (some (47, true))⟩,
 ⟨some 50, .build [.int .i64 0, .int .i64 0, .bool false] [], (some (47, true))⟩,
 ⟨some 51, .eqagg true [1, 1, 0] (.tmp 49) (.tmp 50), (some (47, true))⟩,
 ⟨some 52, .pick (.tmp 47) (.tmp 51) (.cst (.bool false)), (some (43, false))⟩,
 ⟨some 53, .pick (.tmp 43) (.cst (.bool true)) (.tmp 52), none⟩] [])
  (.cond (.tmp 53) (.seq (.region false [⟨some 2, .mov (.cst (.bool false)), none⟩] [])
  .ret) .skip))
 (.seq (.region false [⟨some 54, .faddr (.tmp 1) 3, none⟩,
 ⟨some 55, .load (.tmp 54) 1 false, none⟩,
 ⟨some 56, .lens false (.tmp 55), none⟩,
 ⟨some 57, .faddr (.tmp 3) 3, none⟩,
 ⟨some 58, .load (.tmp 57) 1 false, none⟩,
 ⟨some 59, .callq 85 [.tmp 56, .tmp 58], none⟩,
 ⟨some 4, .own 59, none⟩] [])
 (.seq (.region false [⟨some 60, .faddr (.tmp 1) 4, none⟩,
 ⟨some 61, .load (.tmp 60) 1 false, none⟩,
 ⟨some 62, .lens false (.tmp 61), none⟩,
 ⟨some 63, .faddr (.tmp 3) 4, none⟩,
 ⟨some 64, .load (.tmp 63) 1 false, none⟩,
 ⟨some 65, .callq 85 [.tmp 62, .tmp 64], none⟩,
 ⟨some 5, .own 65, none⟩] [])
 (.seq (.region false [⟨some 66, .faddr (.tmp 1) 8, none⟩,
 ⟨some 67, .load (.tmp 66) 1 false, none⟩,
 ⟨some 68, .lens false (.tmp 67), none⟩,
 ⟨some 69, .faddr (.tmp 3) 5, none⟩,
 ⟨some 70, .load (.tmp 69) 1 false, none⟩,
 ⟨some 71, .callq 85 [.tmp 68, .tmp 70], none⟩,
 ⟨some 6, .own 71, none⟩] [])
 (.seq (.region false [⟨some 72, .faddr (.tmp 1) 9, none⟩,
 ⟨some 73, .load (.tmp 72) 1 false, none⟩,
 ⟨some 74, .lens false (.tmp 73), none⟩,
 ⟨some 75, .faddr (.tmp 3) 6, none⟩,
 ⟨some 76, .load (.tmp 75) 1 false, none⟩,
 ⟨some 77, .callq 85 [.tmp 74, .tmp 76], none⟩,
 ⟨some 7, .own 77, none⟩] [])
 (.seq (.region false [⟨some 78, .mov (.tmp 4), none⟩,
 ⟨some 79, .mov (.tmp 78), none⟩,
 ⟨some 80, .mov (.tmp 5), (some (79, true))⟩,
 ⟨some 81, .pick (.tmp 79) (.tmp 80) (.cst (.bool false)), none⟩,
 ⟨some 82, .mov (.tmp 81), none⟩,
 ⟨some 83, .mov (.tmp 6), (some (82, true))⟩,
 ⟨some 84, .pick (.tmp 82) (.tmp 83) (.cst (.bool false)), none⟩,
 ⟨some 85, .mov (.tmp 84), none⟩,
 ⟨some 86, .mov (.tmp 7), (some (85, true))⟩,
 ⟨some 87, .pick (.tmp 85) (.tmp 86) (.cst (.bool false)), none⟩,
 ⟨some 2, .own 87, none⟩] [])
  .ret))))))))
/-- custos/custosref06.named -/
def x55 : XFn := XFn.mk 36 [.tmp 2] (.seq (.region false [⟨some 1, .box (.tmp 0) 10, none⟩,
 ⟨some 2, .mov (.cst (.bool false)), none⟩] [])
 (.seq (.region false [⟨some 7, .faddr (.tmp 1) 0, none⟩,
 ⟨some 8, .load (.tmp 7) 1 false, none⟩,
 ⟨some 9, .callq 84 [.tmp 8], none⟩,
 ⟨some 3, .alloc [.bool false, .bool false, .bool false, .int .i64 0, .int .i64 0, .int .i64 0, .int .i64 0], none⟩,
 ⟨none, .store (.tmp 3) (.tmp 9) 7, none⟩] [])
 (.seq (.region false [⟨some 10, .faddr (.tmp 1) 1, none⟩,
 ⟨some 11, .load (.tmp 10) 1 false, none⟩,
 ⟨some 12, .callq 86 [.tmp 11], none⟩,
 ⟨some 4, .own 12, none⟩] [])
 (.seq (.region false [⟨some 13, .faddr (.tmp 1) 3, none⟩,
 ⟨some 14, .load (.tmp 13) 1 false, none⟩,
 ⟨some 15, .callq 87 [.tmp 14], none⟩,
 ⟨some 5, .own 15, none⟩] [])
 (.seq (.region false [⟨some 16, .faddr (.tmp 1) 5, none⟩,
 ⟨some 17, .load (.tmp 16) 3 true, none⟩,
 ⟨some 18, .callq 88 [.tmp 17], none⟩,
 ⟨some 6, .own 18, none⟩] [])
 (.seq (.region false [⟨some 19, .faddr (.tmp 3) 0, none⟩,
 ⟨some 20, .load (.tmp 19) 1 false, none⟩,
 ⟨some 21, .not (.tmp 20), none⟩,
 ⟨some 22, .mov (.tmp 21), none⟩,
 ⟨some 23, .mov (.tmp 4), (some (22, false))⟩,
 ⟨some 24, .pick (.tmp 22) (.cst (.bool true)) (.tmp 23), none⟩,
 ⟨some 25, .mov (.tmp 24), none⟩,
 ⟨some 26, .mov (.tmp 5), (some (25, true))⟩,
 ⟨some 27, .pick (.tmp 25) (.tmp 26) (.cst (.bool false)), none⟩,
 ⟨some 28, .mov (.tmp 27), none⟩,
 ⟨some 29, .faddr (.tmp 3) 2, (some (28, true))⟩,
 ⟨some 30, .load (.tmp 29) 1 false, (some (28, true))⟩,
 ⟨some 31, .not (.tmp 30), (some (28, true))⟩,
 ⟨some 32, .mov (.tmp 31), (some (28, true))⟩,
 ⟨some 33, .mov (.tmp 6), (some (32, false))⟩,
 ⟨some 34, .pick (.tmp 32) (.cst (.bool true)) (.tmp 33), (some (28, true))⟩,
 ⟨some 35, .pick (.tmp 28) (.tmp 34) (.cst (.bool false)), none⟩,
 ⟨some 2, .own 35, none⟩] [])
  .ret))))))
def x56_r0 : XCode := .seq (.seq (.region false [⟨some 5, .mov (.tmp 3), none⟩,
 ⟨some 6, .mov (.tmp 0), none⟩,
 ⟨some 7, .lens false (.tmp 6), none⟩,
 ⟨some 8, .bin .lss (.tmp 5) (.tmp 7), none⟩] [])
  (.cond (.tmp 8) .skip (.exit 0)))
 (.seq (.block 1 (.seq (.region true [⟨some 11, .mov (.tmp 0), none⟩,
 ⟨some 12, .mov (.tmp 3), none⟩,
 ⟨some 13, .ssl 1 (.tmp 11) none (some (.tmp 12)) none, none⟩,
 ⟨some 14, .mov (.tmp 0), none⟩,
 ⟨some 15, .mov (.tmp 3), none⟩,
 ⟨some 16, .iaddr 1 (.tmp 14) (.tmp 15), none⟩,
 ⟨some 17, .load (.tmp 16) 1 false, none⟩,
 ⟨some 18, .callq 57 [.tmp 13, .tmp 17], none⟩,
 ⟨some 4, .own 18, none⟩] [])
 (.seq (.region false [⟨some 19, .mov (.tmp 4), none⟩] [])
  (.cond (.tmp 19) (.seq (.region false [⟨some 2, .mov (.cst (.bool true)), none⟩] [])
  .ret) .skip))))
  (.region false [⟨some 9, .mov (.tmp 3), none⟩,
 ⟨some 10, .bin .add (.tmp 9) (.cst (.int .i64 1)), none⟩,
 ⟨some 3, .own 10, none⟩] []))
def x56_l0 : XCode := x56_r0
/-- custos/custosref06.twice -/
def x56 : XFn := XFn.mk 20 [.tmp 2] (.seq (.region false [⟨some 2, .mov (.cst (.bool false)), none⟩] [])
 (.seq (.seq (.region false [⟨some 3, .mov (.cst (.int .i64 0)), none⟩] [])
  (.block 0 (.loop x56_l0)))
 (.seq (.region false [⟨some 2, .mov (.cst (.bool false)), none⟩] [])
  .ret)))
def x57_r0 : XCode := .seq (.seq (.region false [⟨some 6, .mov (.tmp 5), none⟩,
 ⟨some 7, .mov (.tmp 0), none⟩,
 ⟨some 8, .lens false (.tmp 7), none⟩,
 ⟨some 9, .bin .lss (.tmp 6) (.tmp 8), none⟩] [])
  (.cond (.tmp 9) .skip (.exit 0)))
 (.seq (.block 1 (.seq (.region false [⟨some 12, .mov (.tmp 0), none⟩,
 ⟨some 13, .mov (.tmp 5), none⟩,
 ⟨some 14, .iaddr 1 (.tmp 12) (.tmp 13), none⟩,
 ⟨some 15, .load (.tmp 14) 1 false, none⟩,
 ⟨some 16, .mov (.tmp 1), none⟩,
 ⟨some 17, .bin .eql (.tmp 15) (.tmp 16), none⟩] [])
  (.cond (.tmp 17) (.seq (.region false [⟨some 4, .mov (.cst (.bool true)), none⟩] [])
  .ret) .skip)))
  (.region false [⟨some 10, .mov (.tmp 5), none⟩,
 ⟨some 11, .bin .add (.tmp 10) (.cst (.int .i64 1)), none⟩,
 ⟨some 5, .own 11, none⟩] []))
def x57_l0 : XCode := x57_r0
/-- custos/custosref06.Has -/
def x57 : XFn := XFn.mk 18 [.tmp 4] (.seq (.region false [⟨some 4, .mov (.cst (.bool false)), none⟩] [])
 (.seq (.seq (.region false [⟨some 5, .mov (.cst (.int .i64 0)), none⟩] [])
  (.block 0 (.loop x57_l0)))
 (.seq (.region false [⟨some 4, .mov (.cst (.bool false)), none⟩] [])
  .ret)))
def x58_r0 : XCode := .seq (.seq (.region false [⟨some 98, .mov (.tmp 11), none⟩,
 ⟨some 99, .faddr (.tmp 4) 6, none⟩,
 ⟨some 100, .load (.tmp 99) 1 false, none⟩,
 ⟨some 101, .lens false (.tmp 100), none⟩,
 ⟨some 102, .bin .lss (.tmp 98) (.tmp 101), none⟩] [])
  (.cond (.tmp 102) .skip (.exit 0)))
 (.seq (.block 1 (.region false [⟨some 105, .mov (.tmp 0), none⟩,
 ⟨some 106, .faddr (.tmp 4) 6, none⟩,
 ⟨some 107, .load (.tmp 106) 1 false, none⟩,
 ⟨some 108, .mov (.tmp 11), none⟩,
 ⟨some 109, .iaddr 7 (.tmp 107) (.tmp 108), none⟩,
 ⟨some 110, .load (.tmp 109) 7 true, none⟩,
 ⟨some 111, .mov (.tmp 2), none⟩,
 ⟨some 112, .bin .add (.tmp 111) (.cst (.int .i64 1)), none⟩,
 ⟨some 113, .callw 58 [.tmp 105, .tmp 110, .tmp 112], none⟩] []))
  (.region false [⟨some 103, .mov (.tmp 11), none⟩,
 ⟨some 104, .bin .add (.tmp 103) (.cst (.int .i64 1)), none⟩,
 ⟨some 11, .own 104, none⟩] []))
def x58_l0 : XCode := x58_r0
/-- (*custos/custosref06.Walk).Term -/
def x58 : XFn := XFn.mk 114 [] (.seq (.region false [⟨some 4, .box (.tmp 1) 7, none⟩] [])
 (.seq (.region false [⟨some 12, .mov (.tmp 0), none⟩,
 ⟨some 13, .mov (.tmp 2), none⟩,
 ⟨some 14, .callw 51 [.tmp 12, .tmp 13], none⟩,
 ⟨some 6, .own 14, none⟩] [])
 (.seq (.seq (.region false [⟨some 15, .mov (.tmp 6), none⟩,
 ⟨some 16, .not (.tmp 15), none⟩] [])
  (.cond (.tmp 16) .ret .skip))
 (.seq (.region false [⟨some 17, .mov (.tmp 0), none⟩,
 ⟨some 18, .faddr (.tmp 4) 0, none⟩,
 ⟨some 19, .load (.tmp 18) 1 false, none⟩,
 ⟨some 20, .bin .lss (.tmp 19) (.cst (.int .i64 1)), none⟩,
 ⟨some 21, .mov (.tmp 20), none⟩,
 ⟨some 22, .faddr (.tmp 4) 0, (some (21, false))⟩,
 ⟨some 23, .load (.tmp 22) 1 false, (some (21, false))⟩,
 ⟨some 24, .bin .gtr (.tmp 23) (.cst (.int .i64 5)), (some (21, false))⟩,
 ⟨some 25, .pick (.tmp 21) (.cst (.bool true)) (.tmp 24), none⟩,
 ⟨some 26, .callw 52 [.tmp 17, .tmp 25, .cst (.int .i64 20)], none⟩] [])
 (.seq (.region false [⟨some 7, .mov (.cst (.int .i64 0)), none⟩] [])
 (.seq (.seq (.region false [⟨some 27, .faddr (.tmp 4) 0, none⟩,
 ⟨some 28, .load (.tmp 27) 1 false, none⟩,
 ⟨some 29, .bin .eql (.tmp 28) (.cst (.int .i64 3)), none⟩,
 ⟨some 30, .mov (.tmp 29), none⟩,
 ⟨some 31, .faddr (.tmp 4) 0, (some (30, false))⟩,
 ⟨some 32, .load (.tmp 31) 1 false, (some (30, false))⟩,
 ⟨some 33, .bin .eql (.tmp 32) (.cst (.int .i64 4)), (some (30, false))⟩,
 ⟨some 34, .pick (.tmp 30) (.cst (.bool true)) (.tmp 33), none⟩,
 ⟨some 35, .mov (.tmp 34), none⟩,
 ⟨some 36, .faddr (.tmp 4) 0, (some (35, false))⟩,
 ⟨some 37, .load (.tmp 36) 1 false, (some (35, false))⟩,
 ⟨some 38, .bin .eql (.tmp 37) (.cst (.int .i64 5)), (some (35, false))⟩,
 ⟨some 39, .pick (.tmp 35) (.cst (.bool true)) (.tmp 38), none⟩] [])
  (.cond (.tmp 39) (.region false [⟨some 7, .mov (.cst (.int .i64 2)), none⟩] []) .skip))
 (.seq (.region false [⟨some 40, .faddr (.tmp 4) 1, none⟩,
 ⟨some 41, .load (.tmp 40) 1 false, none⟩,
 ⟨some 42, .callq 86 [.tmp 41], none⟩,
 ⟨some 8, .own 42, none⟩] [])
 (.seq (.region false [⟨some 43, .faddr (.tmp 4) 2, none⟩,
 ⟨some 44, .load (.tmp 43) 4 true, none⟩,
 ⟨some 45, .build [.int .i64 0, .int .i64 0, .int .i64 0, .str []] [], none⟩,
 ⟨some 46, .callq 89 [.tmp 44, .tmp 45], none⟩,
 ⟨some 9, .own 46, none⟩] [])
 (.seq (.region false [⟨some 47, .mov (.tmp 0), none⟩,
 ⟨some 48, .faddr (.tmp 4) 0, none⟩,
 ⟨some 49, .load (.tmp 48) 1 false, none⟩,
 ⟨some 50, .bin .eql (.tmp 49) (.cst (.int .i64 1)), none⟩,
 ⟨some 51, .mov (.tmp 50), none⟩,
 ⟨some 52, .mov (.tmp 8), (some (51, true))⟩,
 ⟨some 53, .not (.tmp 52), (some (51, true))⟩,
 ⟨some 54, .pick (.tmp 51) (.tmp 53) (.cst (.bool false)), none⟩,
 ⟨some 55, .mov (.tmp 54), none⟩,
 ⟨some 56, .faddr (.tmp 4) 0, (some (55, false))⟩,
 ⟨some 57, .load (.tmp 56) 1 false, (some (55, false))⟩,
 ⟨some 58, .bin .neq (.tmp 57) (.cst (.int .i64 1)), (some (55, false))⟩,
 ⟨some 59, .mov (.tmp 58), (some (55, false))⟩,
 ⟨some 60, .faddr (.tmp 4) 1, (some (59, true))⟩,
 ⟨some 61, .load (.tmp 60) 1 false, (some (59, true))⟩,
 ⟨some 62, .bin .neq (.tmp 61) (.cst (.str [])), (some (59, true))⟩,
 ⟨some 63, .pick (.tmp 59) (.tmp 62) (.cst (.bool false)), (some (55, false))⟩,
 ⟨some 64, .pick (.tmp 55) (.cst (.bool true)) (.tmp 63), none⟩,
 ⟨some 65, .mov (.tmp 64), none⟩,
 ⟨some 66, .faddr (.tmp 4) 0, (some (65, false))⟩,
 ⟨some 67, .load (.tmp 66) 1 false, (some (65, false))⟩,
 ⟨some 68, .bin .neq (.tmp 67) (.cst (.int .i64 2)), (some (65, false))⟩,
 ⟨some 69, .mov (.tmp 68), (some (65, false))⟩,
 ⟨some 70, .mov (.tmp 9), (some (69, true))⟩,
 ⟨some 71, .not (.tmp 70), (some (69, true))⟩,
 ⟨some 72, .pick (.tmp 69) (.tmp 71) (.cst (.bool false)), (some (65, false))⟩,
 ⟨some 73, .pick (.tmp 65) (.cst (.bool true)) (.tmp 72), none⟩,
 ⟨some 74, .mov (.tmp 73), none⟩,
 ⟨some 75, .faddr (.tmp 4) 6, (some (74, false))⟩,
 ⟨some 76, .load (.tmp 75) 1 false, (some (74, false))⟩,
 ⟨some 77, .lens false (.tmp 76), (some (74, false))⟩,
 ⟨some 78, .mov (.tmp 7), (some (74, false))⟩,
 ⟨some 79, .bin .neq (.tmp 77) (.tmp 78), (some (74, false))⟩,
 ⟨some 80, .pick (.tmp 74) (.cst (.bool true)) (.tmp 79), none⟩,
 ⟨some 81, .callw 52 [.tmp 47, .tmp 80, .cst (.int .i64 1)], none⟩] [])
 (.seq (.seq (.region false [⟨some 82, .faddr (.tmp 4) 0, none⟩,
 ⟨some 83, .load (.tmp 82) 1 false, none⟩,
 ⟨some 84, .bin .eql (.tmp 83) (.cst (.int .i64 2)), none⟩] [])
  (.cond (.tmp 84) (.seq (.region false [⟨some 85, .faddr (.tmp 4) 2, none⟩,
 ⟨some 86, .load (.tmp 85) 4 true, none⟩,
 ⟨some 87, .callq 90 [.tmp 86], none⟩,
 ⟨some 10, .own 87, none⟩] [])
  (.region false [⟨some 88, .mov (.tmp 0), none⟩,
 ⟨some 89, .mov (.tmp 10), none⟩,
 ⟨some 90, .bin .neq (.tmp 89) (.cst (.int .i64 0)), none⟩,
 ⟨some 91, .mov (.tmp 10), none⟩,
 ⟨some 92, .callw 52 [.tmp 88, .tmp 90, .tmp 91], none⟩] [])) .skip))
 (.seq (.seq (.region false [⟨some 93, .mov (.tmp 0), none⟩,
 ⟨some 94, .nilck (.tmp 93), none⟩,
 ⟨some 95, .faddr (.tmp 94) 2, none⟩,
 ⟨some 96, .load (.tmp 95) 1 false, none⟩,
 ⟨some 97, .bin .neq (.tmp 96) (.cst (.int .i64 0)), none⟩] [])
  (.cond (.tmp 97) .ret .skip))
 (.seq (.region false [⟨some 11, .mov (.cst (.int .i64 0)), none⟩] [])
  (.block 0 (.loop x58_l0))))))))))))))
def x59_r0 : XCode := .seq (.seq (.region false [⟨some 54, .mov (.tmp 9), none⟩,
 ⟨some 55, .faddr (.tmp 4) 1, none⟩,
 ⟨some 56, .load (.tmp 55) 1 false, none⟩,
 ⟨some 57, .lens false (.tmp 56), none⟩,
 ⟨some 58, .bin .lss (.tmp 54) (.tmp 57), none⟩] [])
  (.cond (.tmp 58) .skip (.exit 1)))
 (.seq (.block 2 (.region false [⟨some 61, .mov (.tmp 0), none⟩,
 ⟨some 62, .faddr (.tmp 4) 1, none⟩,
 ⟨some 63, .load (.tmp 62) 1 false, none⟩,
 ⟨some 64, .mov (.tmp 9), none⟩,
 ⟨some 65, .iaddr 10 (.tmp 63) (.tmp 64), none⟩,
 ⟨some 66, .load (.tmp 65) 10 true, none⟩,
 ⟨some 67, .mov (.tmp 2), none⟩,
 ⟨some 68, .bin .add (.tmp 67) (.cst (.int .i64 1)), none⟩,
 ⟨some 69, .callw 31 [.tmp 61, .tmp 66, .tmp 68], none⟩] []))
  (.region false [⟨some 59, .mov (.tmp 9), none⟩,
 ⟨some 60, .bin .add (.tmp 59) (.cst (.int .i64 1)), none⟩,
 ⟨some 9, .own 60, none⟩] []))
def x59_l0 : XCode := x59_r0
def x59_r1 : XCode := .seq (.seq (.region false [⟨some 70, .mov (.tmp 10), none⟩,
 ⟨some 71, .faddr (.tmp 4) 2, none⟩,
 ⟨some 72, .load (.tmp 71) 1 false, none⟩,
 ⟨some 73, .lens false (.tmp 72), none⟩,
 ⟨some 74, .bin .lss (.tmp 70) (.tmp 73), none⟩] [])
  (.cond (.tmp 74) .skip (.exit 3)))
 (.seq (.block 4 (.region false [⟨some 77, .mov (.tmp 0), none⟩,
 ⟨some 78, .faddr (.tmp 4) 2, none⟩,
 ⟨some 79, .load (.tmp 78) 1 false, none⟩,
 ⟨some 80, .mov (.tmp 10), none⟩,
 ⟨some 81, .iaddr 3 (.tmp 79) (.tmp 80), none⟩,
 ⟨some 82, .load (.tmp 81) 3 true, none⟩,
 ⟨some 83, .mov (.tmp 2), none⟩,
 ⟨some 84, .bin .add (.tmp 83) (.cst (.int .i64 1)), none⟩,
 ⟨some 85, .callw 59 [.tmp 77, .tmp 82, .tmp 84], none⟩] []))
  (.region false [⟨some 75, .mov (.tmp 10), none⟩,
 ⟨some 76, .bin .add (.tmp 75) (.cst (.int .i64 1)), none⟩,
 ⟨some 10, .own 76, none⟩] []))
def x59_l1 : XCode := x59_r1
/-- (*custos/custosref06.Walk).Regex -/
def x59 : XFn := XFn.mk 86 [] (.seq (.region false [⟨some 4, .box (.tmp 1) 3, none⟩] [])
 (.seq (.region false [⟨some 11, .mov (.tmp 0), none⟩,
 ⟨some 12, .mov (.tmp 2), none⟩,
 ⟨some 13, .callw 51 [.tmp 11, .tmp 12], none⟩,
 ⟨some 6, .own 13, none⟩] [])
 (.seq (.seq (.region false [⟨some 14, .mov (.tmp 6), none⟩,
 ⟨some 15, .not (.tmp 14), none⟩] [])
  (.cond (.tmp 15) .ret .skip))
 (.seq (.region false [⟨some 16, .mov (.tmp 0), none⟩,
 ⟨some 17, .faddr (.tmp 4) 0, none⟩,
 ⟨some 18, .load (.tmp 17) 1 false, none⟩,
 ⟨some 19, .bin .lss (.tmp 18) (.cst (.int .i64 1)), none⟩,
 ⟨some 20, .mov (.tmp 19), none⟩,
 ⟨some 21, .faddr (.tmp 4) 0, (some (20, false))⟩,
 ⟨some 22, .load (.tmp 21) 1 false, (some (20, false))⟩,
 ⟨some 23, .bin .gtr (.tmp 22) (.cst (.int .i64 5)), (some (20, false))⟩,
 ⟨some 24, .pick (.tmp 20) (.cst (.bool true)) (.tmp 23), none⟩,
 ⟨some 25, .callw 52 [.tmp 16, .tmp 24, .cst (.int .i64 20)], none⟩] [])
 (.seq (.region false [⟨some 7, .mov (.cst (.int .i64 0)), none⟩] [])
 (.seq (.region false [⟨some 8, .mov (.cst (.int .i64 0)), none⟩] [])
 (.seq (.seq (.region false [⟨some 26, .faddr (.tmp 4) 0, none⟩,
 ⟨some 27, .load (.tmp 26) 1 false, none⟩] [])
  (.block 0 (.seq (.region false [⟨some 29, .bin .eql (.tmp 27) (.cst (.int .i64 2)), none⟩,
 ⟨some 28, .own 29, none⟩] [])
  (.cond (.tmp 28) (.region false [⟨some 7, .mov (.cst (.int .i64 1)), none⟩] []) (.seq (.seq (.region false [⟨some 31, .bin .eql (.tmp 27) (.cst (.int .i64 3)), none⟩,
 ⟨some 30, .own 31, none⟩] [])
  (.cond (.tmp 30) .skip (.region false [⟨some 32, .bin .eql (.tmp 27) (.cst (.int .i64 4)), none⟩,
 ⟨some 30, .own 32, none⟩] [])))
  (.cond (.tmp 30) (.region false [⟨some 8, .mov (.cst (.int .i64 2)), none⟩] []) (.seq (.region false [⟨some 34, .bin .eql (.tmp 27) (.cst (.int .i64 5)), none⟩,
 ⟨some 33, .own 34, none⟩] [])
  (.cond (.tmp 33) (.region false [⟨some 8, .mov (.cst (.int .i64 1)), none⟩] []) .skip))))))))
 (.seq (.region false [⟨some 35, .mov (.tmp 0), none⟩,
 ⟨some 36, .faddr (.tmp 4) 1, none⟩,
 ⟨some 37, .load (.tmp 36) 1 false, none⟩,
 ⟨some 38, .lens false (.tmp 37), none⟩,
 ⟨some 39, .mov (.tmp 7), none⟩,
 ⟨some 40, .bin .neq (.tmp 38) (.tmp 39), none⟩,
 ⟨some 41, .mov (.tmp 40), none⟩,
 ⟨some 42, .faddr (.tmp 4) 2, (some (41, false))⟩,
 ⟨some 43, .load (.tmp 42) 1 false, (some (41, false))⟩,
 ⟨some 44, .lens false (.tmp 43), (some (41, false))⟩,
 ⟨some 45, .mov (.tmp 8), (some (41, false))⟩,
 ⟨some 46, .bin .neq (.tmp 44) (.tmp 45), (some (41, false))⟩,
 ⟨some 47, .pick (.tmp 41) (.cst (.bool true)) (.tmp 46), none⟩,
 ⟨some 48, .callw 52 [.tmp 35, .tmp 47, .cst (.int .i64 1)], none⟩] [])
 (.seq (.seq (.region false [⟨some 49, .mov (.tmp 0), none⟩,
 ⟨some 50, .nilck (.tmp 49), none⟩,
 ⟨some 51, .faddr (.tmp 50) 2, none⟩,
 ⟨some 52, .load (.tmp 51) 1 false, none⟩,
 ⟨some 53, .bin .neq (.tmp 52) (.cst (.int .i64 0)), none⟩] [])
  (.cond (.tmp 53) .ret .skip))
 (.seq (.seq (.region false [⟨some 9, .mov (.cst (.int .i64 0)), none⟩] [])
  (.block 1 (.loop x59_l0)))
 (.seq (.region false [⟨some 10, .mov (.cst (.int .i64 0)), none⟩] [])
  (.block 3 (.loop x59_l1)))))))))))))
def x61_r0 : XCode := .seq (.region false [⟨some 14, .bin .lss (.tmp 13) (.tmp 12), none⟩] [])
 (.seq (.cond (.tmp 14) .skip (.exit 0))
 (.seq (.block 1 (.seq (.region false [⟨some 15, .mov (.tmp 13), none⟩,
 ⟨some 5, .own 15, none⟩] [])
 (.seq (.region true [⟨some 16, .mov (.tmp 0), none⟩,
 ⟨some 17, .mov (.tmp 5), none⟩,
 ⟨some 18, .iaddr 1 (.tmp 16) (.tmp 17), none⟩,
 ⟨some 19, .load (.tmp 18) 1 false, none⟩,
 ⟨some 20, .mov (.tmp 1), none⟩,
 ⟨some 21, .mov (.tmp 5), none⟩,
 ⟨some 22, .iaddr 1 (.tmp 20) (.tmp 21), none⟩,
 ⟨some 23, .load (.tmp 22) 1 false, none⟩,
 ⟨some 24, .bin .neq (.tmp 19) (.tmp 23), none⟩] [])
  (.cond (.tmp 24) (.seq (.region false [⟨some 4, .mov (.cst (.bool false)), none⟩] [])
  .ret) .skip))))
  (.region false [⟨some 25, .bin .add (.tmp 13) (.cst (.int .i64 1)), none⟩,
 ⟨some 13, .mov (.tmp 25), none⟩] [])))
def x61_l0 : XCode := x61_r0
/-- slices.Equal[[]string,string] -/
def x61 : XFn := XFn.mk 26 [.tmp 4] (.seq (.region false [⟨some 4, .mov (.cst (.bool false)), none⟩] [])
 (.seq (.seq (.region false [⟨some 6, .mov (.tmp 0), none⟩,
 ⟨some 7, .lens false (.tmp 6), none⟩,
 ⟨some 8, .mov (.tmp 1), none⟩,
 ⟨some 9, .lens false (.tmp 8), none⟩,
 ⟨some 10, .bin .neq (.tmp 7) (.tmp 9), none⟩] [])
  (.cond (.tmp 10) (.seq (.region false [⟨some 4, .mov (.cst (.bool false)), none⟩] [])
  .ret) .skip))
 (.seq (.seq (.region false [⟨some 11, .mov (.tmp 0), none⟩,
 ⟨some 12, .lens false (.tmp 11), none⟩,
 ⟨some 13, .mov (.cst (.int .i64 0)), none⟩] [])
  (.block 0 (.loop x61_l0)))
 (.seq (.region false [⟨some 4, .mov (.cst (.bool true)), none⟩] [])
  .ret))))
def x62_r0 : XCode := .seq (.region false [⟨some 18, .bin .lss (.tmp 17) (.tmp 16), none⟩] [])
 (.seq (.cond (.tmp 18) .skip (.exit 0))
 (.seq (.block 1 (.seq (.region false [⟨some 19, .mov (.tmp 17), none⟩,
 ⟨some 20, .iaddr 7 (.tmp 15) (.tmp 17), none⟩,
 ⟨some 21, .load (.tmp 20) 7 true, none⟩,
 ⟨some 8, .alloc [.int .i64 0, .str [], .int .i64 0, .int .i64 0, .int .i64 0, .str [], .nilsl], none⟩,
 ⟨some 7, .own 19, none⟩,
 ⟨none, .store (.tmp 8) (.tmp 21) 7, none⟩] [])
 (.seq (.region false [⟨some 22, .mov (.tmp 1), none⟩,
 ⟨some 23, .mov (.tmp 7), none⟩,
 ⟨some 24, .iaddr 7 (.tmp 22) (.tmp 23), none⟩,
 ⟨some 25, .load (.tmp 24) 7 true, none⟩,
 ⟨some 9, .alloc [.int .i64 0, .str [], .int .i64 0, .int .i64 0, .int .i64 0, .str [], .nilsl], none⟩,
 ⟨none, .store (.tmp 9) (.tmp 25) 7, none⟩] [])
 (.seq (.region false [⟨some 26, .mov (.tmp 2), none⟩,
 ⟨some 27, .load (.tmp 8) 7 true, none⟩,
 ⟨some 28, .load (.tmp 9) 7 true, none⟩,
 ⟨some 29, .calld (.tmp 26) [.tmp 27, .tmp 28], none⟩,
 ⟨some 30, .not (.tmp 29), none⟩] [])
  (.cond (.tmp 30) (.seq (.region false [⟨some 6, .mov (.cst (.bool false)), none⟩] [])
  .ret) .skip)))))
  (.region false [⟨some 31, .bin .add (.tmp 17) (.cst (.int .i64 1)), none⟩,
 ⟨some 17, .mov (.tmp 31), none⟩] [])))
def x62_l0 : XCode := x62_r0
/-- slices.EqualFunc[[]custos/api.Term,[]custos/api.Term,custos/api.Term,custos/api.Term] -/
def x62 : XFn := XFn.mk 32 [.tmp 6] (.seq (.region false [⟨some 6, .mov (.cst (.bool false)), none⟩] [])
 (.seq (.seq (.region false [⟨some 10, .mov (.tmp 0), none⟩,
 ⟨some 11, .lens false (.tmp 10), none⟩,
 ⟨some 12, .mov (.tmp 1), none⟩,
 ⟨some 13, .lens false (.tmp 12), none⟩,
 ⟨some 14, .bin .neq (.tmp 11) (.tmp 13), none⟩] [])
  (.cond (.tmp 14) (.seq (.region false [⟨some 6, .mov (.cst (.bool false)), none⟩] [])
  .ret) .skip))
 (.seq (.seq (.region false [⟨some 15, .mov (.tmp 0), none⟩,
 ⟨some 16, .lens false (.tmp 15), none⟩,
 ⟨some 17, .mov (.cst (.int .i64 0)), none⟩] [])
  (.block 0 (.loop x62_l0)))
 (.seq (.region false [⟨some 6, .mov (.cst (.bool true)), none⟩] [])
  .ret))))
/-- custos/ast.sameTerm -/
def x63 : XFn := XFn.mk 31 [.tmp 4] (.seq (.region false [⟨some 2, .box (.tmp 0) 7, none⟩,
 ⟨some 3, .box (.tmp 1) 7, none⟩,
 ⟨some 4, .mov (.cst (.bool false)), none⟩] [])
 (.seq (.region false [⟨some 5, .faddr (.tmp 2) 0, none⟩,
 ⟨some 6, .load (.tmp 5) 1 false, none⟩,
 ⟨some 7, .faddr (.tmp 3) 0, none⟩,
 ⟨some 8, .load (.tmp 7) 1 false, none⟩,
 ⟨some 9, .bin .eql (.tmp 6) (.tmp 8), none⟩,
 ⟨some 10, .mov (.tmp 9), none⟩,
 ⟨some 11, .faddr (.tmp 2) 1, (some (10, true))⟩,
 ⟨some 12, .load (.tmp 11) 1 false, (some (10, true))⟩,
 ⟨some 13, .faddr (.tmp 3) 1, (some (10, true))⟩,
 ⟨some 14, .load (.tmp 13) 1 false, (some (10, true))⟩,
 ⟨some 15, .bin .eql (.tmp 12) (.tmp 14), (some (10, true))⟩,
 ⟨some 16, .pick (.tmp 10) (.tmp 15) (.cst (.bool false)), none⟩,
 ⟨some 17, .mov (.tmp 16), none⟩,
 ⟨some 18, .faddr (.tmp 2) 2, (some (17, true))⟩,
 ⟨some 19, .load (.tmp 18) 4 true, (some (17, true))⟩,
 ⟨some 20, .faddr (.tmp 3) 2, (some (17, true))⟩,
 ⟨some 21, .load (.tmp 20) 4 true, (some (17, true))⟩,
 ⟨some 22, .callq 91 [.tmp 19, .tmp 21], (some (17, true))⟩,
 ⟨some 23, .pick (.tmp 17) (.tmp 22) (.cst (.bool false)), none⟩,
 ⟨some 24, .mov (.tmp 23), none⟩,
 ⟨some 25, .faddr (.tmp 2) 6, (some (24, true))⟩,
 ⟨some 26, .load (.tmp 25) 1 false, (some (24, true))⟩,
 ⟨some 27, .faddr (.tmp 3) 6, (some (24, true))⟩,
 ⟨some 28, .load (.tmp 27) 1 false, (some (24, true))⟩,
 ⟨some 29, .callw 62 [.tmp 26, .tmp 28, .cst (.fn 63 [] [])], (some (24, true))⟩,
 ⟨some 30, .pick (.tmp 24) (.tmp 29) (.cst (.bool false)), none⟩,
 ⟨some 4, .own 30, none⟩] [])
  .ret))
def x64_r0 : XCode := .seq (.region false [⟨some 18, .bin .lss (.tmp 17) (.tmp 16), none⟩] [])
 (.seq (.cond (.tmp 18) .skip (.exit 0))
 (.seq (.block 1 (.seq (.region false [⟨some 19, .mov (.tmp 17), none⟩,
 ⟨some 20, .iaddr 3 (.tmp 15) (.tmp 17), none⟩,
 ⟨some 21, .load (.tmp 20) 3 true, none⟩,
 ⟨some 8, .alloc [.int .i64 0, .nilsl, .nilsl], none⟩,
 ⟨some 7, .own 19, none⟩,
 ⟨none, .store (.tmp 8) (.tmp 21) 3, none⟩] [])
 (.seq (.region false [⟨some 22, .mov (.tmp 1), none⟩,
 ⟨some 23, .mov (.tmp 7), none⟩,
 ⟨some 24, .iaddr 3 (.tmp 22) (.tmp 23), none⟩,
 ⟨some 25, .load (.tmp 24) 3 true, none⟩,
 ⟨some 9, .alloc [.int .i64 0, .nilsl, .nilsl], none⟩,
 ⟨none, .store (.tmp 9) (.tmp 25) 3, none⟩] [])
 (.seq (.region false [⟨some 26, .mov (.tmp 2), none⟩,
 ⟨some 27, .load (.tmp 8) 3 true, none⟩,
 ⟨some 28, .load (.tmp 9) 3 true, none⟩,
 ⟨some 29, .calld (.tmp 26) [.tmp 27, .tmp 28], none⟩,
 ⟨some 30, .not (.tmp 29), none⟩] [])
  (.cond (.tmp 30) (.seq (.region false [⟨some 6, .mov (.cst (.bool false)), none⟩] [])
  .ret) .skip)))))
  (.region false [⟨some 31, .bin .add (.tmp 17) (.cst (.int .i64 1)), none⟩,
 ⟨some 17, .mov (.tmp 31), none⟩] [])))
def x64_l0 : XCode := x64_r0
/-- slices.EqualFunc[[]custos/api.Regex,[]custos/api.Regex,custos/api.Regex,custos/api.Regex] -/
def x64 : XFn := XFn.mk 32 [.tmp 6] (.seq (.region false [⟨some 6, .mov (.cst (.bool false)), none⟩] [])
 (.seq (.seq (.region false [⟨some 10, .mov (.tmp 0), none⟩,
 ⟨some 11, .lens false (.tmp 10), none⟩,
 ⟨some 12, .mov (.tmp 1), none⟩,
 ⟨some 13, .lens false (.tmp 12), none⟩,
 ⟨some 14, .bin .neq (.tmp 11) (.tmp 13), none⟩] [])
  (.cond (.tmp 14) (.seq (.region false [⟨some 6, .mov (.cst (.bool false)), none⟩] [])
  .ret) .skip))
 (.seq (.seq (.region false [⟨some 15, .mov (.tmp 0), none⟩,
 ⟨some 16, .lens false (.tmp 15), none⟩,
 ⟨some 17, .mov (.cst (.int .i64 0)), none⟩] [])
  (.block 0 (.loop x64_l0)))
 (.seq (.region false [⟨some 6, .mov (.cst (.bool true)), none⟩] [])
  .ret))))
/-- custos/ast.sameRegex -/
def x65 : XFn := XFn.mk 24 [.tmp 4] (.seq (.region false [⟨some 2, .box (.tmp 0) 3, none⟩,
 ⟨some 3, .box (.tmp 1) 3, none⟩,
 ⟨some 4, .mov (.cst (.bool false)), none⟩] [])
 (.seq (.region false [⟨some 5, .faddr (.tmp 2) 0, none⟩,
 ⟨some 6, .load (.tmp 5) 1 false, none⟩,
 ⟨some 7, .faddr (.tmp 3) 0, none⟩,
 ⟨some 8, .load (.tmp 7) 1 false, none⟩,
 ⟨some 9, .bin .eql (.tmp 6) (.tmp 8), none⟩,
 ⟨some 10, .mov (.tmp 9), none⟩,
 ⟨some 11, .faddr (.tmp 2) 1, (some (10, true))⟩,
 ⟨some 12, .load (.tmp 11) 1 false, (some (10, true))⟩,
 ⟨some 13, .faddr (.tmp 3) 1, (some (10, true))⟩,
 ⟨some 14, .load (.tmp 13) 1 false, (some (10, true))⟩,
 ⟨some 15, .callw 66 [.tmp 12, .tmp 14, .cst (.fn 40 [] [])], (some (10, true))⟩,
 ⟨some 16, .pick (.tmp 10) (.tmp 15) (.cst (.bool false)), none⟩,
 ⟨some 17, .mov (.tmp 16), none⟩,
 ⟨some 18, .faddr (.tmp 2) 2, (some (17, true))⟩,
 ⟨some 19, .load (.tmp 18) 1 false, (some (17, true))⟩,
 ⟨some 20, .faddr (.tmp 3) 2, (some (17, true))⟩,
 ⟨some 21, .load (.tmp 20) 1 false, (some (17, true))⟩,
 ⟨some 22, .callw 64 [.tmp 19, .tmp 21, .cst (.fn 65 [] [])], (some (17, true))⟩,
 ⟨some 23, .pick (.tmp 17) (.tmp 22) (.cst (.bool false)), none⟩,
 ⟨some 4, .own 23, none⟩] [])
  .ret))
def x66_r0 : XCode := .seq (.region false [⟨some 18, .bin .lss (.tmp 17) (.tmp 16), none⟩] [])
 (.seq (.cond (.tmp 18) .skip (.exit 0))
 (.seq (.block 1 (.seq (.region false [⟨some 19, .mov (.tmp 17), none⟩,
 ⟨some 20, .iaddr 10 (.tmp 15) (.tmp 17), none⟩,
 ⟨some 21, .load (.tmp 20) 10 true, none⟩,
 ⟨some 8, .alloc [.int .i64 0, .str [], .int .i64 0, .nilsl, .nilsl, .int .i64 0, .int .i64 0, .bool false, .nilsl, .nilsl], none⟩,
 ⟨some 7, .own 19, none⟩,
 ⟨none, .store (.tmp 8) (.tmp 21) 10, none⟩] [])
 (.seq (.region false [⟨some 22, .mov (.tmp 1), none⟩,
 ⟨some 23, .mov (.tmp 7), none⟩,
 ⟨some 24, .iaddr 10 (.tmp 22) (.tmp 23), none⟩,
 ⟨some 25, .load (.tmp 24) 10 true, none⟩,
 ⟨some 9, .alloc [.int .i64 0, .str [], .int .i64 0, .nilsl, .nilsl, .int .i64 0, .int .i64 0, .bool false, .nilsl, .nilsl], none⟩,
 ⟨none, .store (.tmp 9) (.tmp 25) 10, none⟩] [])
 (.seq (.region false [⟨some 26, .mov (.tmp 2), none⟩,
 ⟨some 27, .load (.tmp 8) 10 true, none⟩,
 ⟨some 28, .load (.tmp 9) 10 true, none⟩,
 ⟨some 29, .calld (.tmp 26) [.tmp 27, .tmp 28], none⟩,
 ⟨some 30, .not (.tmp 29), none⟩] [])
  (.cond (.tmp 30) (.seq (.region false [⟨some 6, .mov (.cst (.bool false)), none⟩] [])
  .ret) .skip)))))
  (.region false [⟨some 31, .bin .add (.tmp 17) (.cst (.int .i64 1)), none⟩,
 ⟨some 17, .mov (.tmp 31), none⟩] [])))
def x66_l0 : XCode := x66_r0
/-- slices.EqualFunc[[]custos/api.Formula,[]custos/api.Formula,custos/api.Formula,custos/api.Formula] -/
def x66 : XFn := XFn.mk 32 [.tmp 6] (.seq (.region false [⟨some 6, .mov (.cst (.bool false)), none⟩] [])
 (.seq (.seq (.region false [⟨some 10, .mov (.tmp 0), none⟩,
 ⟨some 11, .lens false (.tmp 10), none⟩,
 ⟨some 12, .mov (.tmp 1), none⟩,
 ⟨some 13, .lens false (.tmp 12), none⟩,
 ⟨some 14, .bin .neq (.tmp 11) (.tmp 13), none⟩] [])
  (.cond (.tmp 14) (.seq (.region false [⟨some 6, .mov (.cst (.bool false)), none⟩] [])
  .ret) .skip))
 (.seq (.seq (.region false [⟨some 15, .mov (.tmp 0), none⟩,
 ⟨some 16, .lens false (.tmp 15), none⟩,
 ⟨some 17, .mov (.cst (.int .i64 0)), none⟩] [])
  (.block 0 (.loop x66_l0)))
 (.seq (.region false [⟨some 6, .mov (.cst (.bool true)), none⟩] [])
  .ret))))
/-- custos/ast.keyword -/
def x67 : XFn := XFn.mk 28 [.tmp 2] (.seq (.region false [⟨some 2, .mov (.cst (.bool false)), none⟩] [])
 (.seq (.seq (.region false [⟨some 3, .mov (.tmp 0), none⟩] [])
  (.block 0 (.seq (.seq (.region false [⟨some 5, .bin .eql (.tmp 3) (.cst (.str [116, 114, 117, 101])), none⟩,
 ⟨some 4, .own 5, none⟩] [])
  (.cond (.tmp 4) .skip (.seq (.region false [⟨some 6, .bin .eql (.tmp 3) (.cst (.str [102, 97, 108, 115, 101])), none⟩,
 ⟨some 4, .own 6, none⟩] [])
  (.cond (.tmp 4) .skip (.seq (.region false [⟨some 7, .bin .eql (.tmp 3) (.cst (.str [110, 111, 116])), none⟩,
 ⟨some 4, .own 7, none⟩] [])
  (.cond (.tmp 4) .skip (.seq (.region false [⟨some 8, .bin .eql (.tmp 3) (.cst (.str [97, 110, 100])), none⟩,
 ⟨some 4, .own 8, none⟩] [])
  (.cond (.tmp 4) .skip (.seq (.region false [⟨some 9, .bin .eql (.tmp 3) (.cst (.str [111, 114])), none⟩,
 ⟨some 4, .own 9, none⟩] [])
  (.cond (.tmp 4) .skip (.seq (.region false [⟨some 10, .bin .eql (.tmp 3) (.cst (.str [101, 120, 105, 115, 116, 115])), none⟩,
 ⟨some 4, .own 10, none⟩] [])
  (.cond (.tmp 4) .skip (.seq (.region false [⟨some 11, .bin .eql (.tmp 3) (.cst (.str [112, 114, 101, 118])), none⟩,
 ⟨some 4, .own 11, none⟩] [])
  (.cond (.tmp 4) .skip (.seq (.region false [⟨some 12, .bin .eql (.tmp 3) (.cst (.str [110, 101, 120, 116])), none⟩,
 ⟨some 4, .own 12, none⟩] [])
  (.cond (.tmp 4) .skip (.seq (.region false [⟨some 13, .bin .eql (.tmp 3) (.cst (.str [111, 110, 99, 101])), none⟩,
 ⟨some 4, .own 13, none⟩] [])
  (.cond (.tmp 4) .skip (.seq (.region false [⟨some 14, .bin .eql (.tmp 3) (.cst (.str [115, 111, 111, 110])), none⟩,
 ⟨some 4, .own 14, none⟩] [])
  (.cond (.tmp 4) .skip (.seq (.region false [⟨some 15, .bin .eql (.tmp 3) (.cst (.str [115, 105, 110, 99, 101])), none⟩,
 ⟨some 4, .own 15, none⟩] [])
  (.cond (.tmp 4) .skip (.seq (.region false [⟨some 16, .bin .eql (.tmp 3) (.cst (.str [117, 110, 116, 105, 108])), none⟩,
 ⟨some 4, .own 16, none⟩] [])
  (.cond (.tmp 4) .skip (.seq (.region false [⟨some 17, .bin .eql (.tmp 3) (.cst (.str [98, 101, 102, 111, 114, 101])), none⟩,
 ⟨some 4, .own 17, none⟩] [])
  (.cond (.tmp 4) .skip (.seq (.region false [⟨some 18, .bin .eql (.tmp 3) (.cst (.str [97, 102, 116, 101, 114])), none⟩,
 ⟨some 4, .own 18, none⟩] [])
  (.cond (.tmp 4) .skip (.seq (.region false [⟨some 19, .bin .eql (.tmp 3) (.cst (.str [97, 103, 103])), none⟩,
 ⟨some 4, .own 19, none⟩] [])
  (.cond (.tmp 4) .skip (.seq (.region false [⟨some 20, .bin .eql (.tmp 3) (.cst (.str [108, 101, 116])), none⟩,
 ⟨some 4, .own 20, none⟩] [])
  (.cond (.tmp 4) .skip (.seq (.region false [⟨some 21, .bin .eql (.tmp 3) (.cst (.str [108, 101, 116, 112, 97, 115, 116])), none⟩,
 ⟨some 4, .own 21, none⟩] [])
  (.cond (.tmp 4) .skip (.seq (.region false [⟨some 22, .bin .eql (.tmp 3) (.cst (.str [106, 111, 105, 110])), none⟩,
 ⟨some 4, .own 22, none⟩] [])
  (.cond (.tmp 4) .skip (.seq (.region false [⟨some 23, .bin .eql (.tmp 3) (.cst (.str [97, 110, 121])), none⟩,
 ⟨some 4, .own 23, none⟩] [])
  (.cond (.tmp 4) .skip (.seq (.region false [⟨some 24, .bin .eql (.tmp 3) (.cst (.str [116, 101, 115, 116])), none⟩,
 ⟨some 4, .own 24, none⟩] [])
  (.cond (.tmp 4) .skip (.seq (.region false [⟨some 25, .bin .eql (.tmp 3) (.cst (.str [97, 108, 116])), none⟩,
 ⟨some 4, .own 25, none⟩] [])
  (.cond (.tmp 4) .skip (.seq (.region false [⟨some 26, .bin .eql (.tmp 3) (.cst (.str [115, 101, 113])), none⟩,
 ⟨some 4, .own 26, none⟩] [])
  (.cond (.tmp 4) .skip (.region false [⟨some 27, .bin .eql (.tmp 3) (.cst (.str [115, 116, 97, 114])), none⟩,
 ⟨some 4, .own 27, none⟩] [])))))))))))))))))))))))))))))))))))))))))))))
  (.cond (.tmp 4) (.seq (.region false [⟨some 2, .mov (.cst (.bool true)), none⟩] [])
  .ret) .skip))))
 (.seq (.region false [⟨some 2, .mov (.cst (.bool false)), none⟩] [])
  .ret)))
def x68_r0 : XCode := .seq (.seq (.region false [⟨some 16, .mov (.tmp 6), none⟩,
 ⟨some 17, .thw 0, none⟩,
 ⟨some 18, .lens false (.tmp 17), none⟩,
 ⟨some 19, .bin .lss (.tmp 16) (.tmp 18), none⟩] [])
  (.cond (.tmp 19) .skip (.exit 0)))
 (.seq (.block 1 (.seq (.region false [⟨some 22, .thw 0, none⟩,
 ⟨some 23, .mov (.tmp 6), none⟩,
 ⟨some 24, .iaddr 1 (.tmp 22) (.tmp 23), none⟩,
 ⟨some 25, .load (.tmp 24) 1 false, none⟩,
 ⟨some 7, .own 25, none⟩] [])
 (.seq (.region false [⟨some 26, .mov (.tmp 1), none⟩,
 ⟨some 27, .mov (.tmp 7), none⟩,
 ⟨some 28, .calld (.tmp 26) [.tmp 27], none⟩,
 ⟨some 29, .not (.tmp 28), none⟩] [])
  (.cond (.tmp 29) (.seq (.region false [⟨some 30, .thw 0, none⟩,
 ⟨some 31, .mov (.tmp 5), none⟩,
 ⟨some 32, .mov (.tmp 7), none⟩,
 ⟨some 33, .iaddr 1 (.tmp 30) (.tmp 31), none⟩,
 ⟨none, .store (.tmp 33) (.tmp 32) 1, none⟩] [])
  (.region false [⟨some 34, .mov (.tmp 5), none⟩,
 ⟨some 35, .bin .add (.tmp 34) (.cst (.int .i64 1)), none⟩,
 ⟨some 5, .own 35, none⟩] [])) .skip))))
  (.region false [⟨some 20, .mov (.tmp 6), none⟩,
 ⟨some 21, .bin .add (.tmp 20) (.cst (.int .i64 1)), none⟩,
 ⟨some 6, .own 21, none⟩] []))
def x68_l0 : XCode := x68_r0
/-- slices.DeleteFunc[[]string,string] -/
def x68 : XFn := XFn.mk 42 [.tmp 4] (.seq (.region false [⟨some 4, .mov (.cst .nilsl), none⟩] [])
 (.seq (.region false [⟨some 8, .thw 0, none⟩,
 ⟨some 9, .mov (.tmp 1), none⟩,
 ⟨some 10, .callw 92 [.tmp 8, .tmp 9], none⟩,
 ⟨some 5, .own 10, none⟩] [])
 (.seq (.seq (.region false [⟨some 11, .mov (.tmp 5), none⟩,
 ⟨some 12, .bin .eql (.tmp 11) (.cst (.int .i64 (-1))), none⟩] [])
  (.cond (.tmp 12) (.seq (.region false [⟨some 13, .thw 0, none⟩,
 ⟨some 4, .own 13, none⟩] [])
  .ret) .skip))
 (.seq (.seq (.region false [⟨some 14, .mov (.tmp 5), none⟩,
 ⟨some 15, .bin .add (.tmp 14) (.cst (.int .i64 1)), none⟩,
 ⟨some 6, .own 15, none⟩] [])
  (.block 0 (.loop x68_l0)))
 (.seq (.region false [⟨some 36, .thw 0, none⟩,
 ⟨some 37, .mov (.tmp 5), none⟩,
 ⟨some 38, .ssl 1 (.tmp 36) (some (.tmp 37)) none none, none⟩,
 ⟨none, .clr 1 [.str []] (.tmp 38), none⟩] [])
 (.seq (.region false [⟨some 39, .thw 0, none⟩,
 ⟨some 40, .mov (.tmp 5), none⟩,
 ⟨some 41, .ssl 1 (.tmp 39) none (some (.tmp 40)) none, none⟩,
 ⟨some 4, .own 41, none⟩] [])
  .ret))))))
/-- custos/ast.free$1 -/
def x69 : XFn := XFn.mk 8 [.tmp 3] (.seq (.region false [⟨some 3, .mov (.cst (.bool false)), none⟩] [])
 (.seq (.region false [⟨some 4, .faddr (.tmp 1) 3, none⟩,
 ⟨some 5, .load (.tmp 4) 1 false, none⟩,
 ⟨some 6, .mov (.tmp 0), none⟩,
 ⟨some 7, .callq 70 [.tmp 5, .tmp 6], none⟩,
 ⟨some 3, .own 7, none⟩] [])
  .ret))
/-- slices.Contains[[]string,string] -/
def x70 : XFn := XFn.mk 9 [.tmp 4] (.seq (.region false [⟨some 4, .mov (.cst (.bool false)), none⟩] [])
 (.seq (.region false [⟨some 5, .mov (.tmp 0), none⟩,
 ⟨some 6, .mov (.tmp 1), none⟩,
 ⟨some 7, .callq 93 [.tmp 5, .tmp 6], none⟩,
 ⟨some 8, .bin .geq (.tmp 7) (.cst (.int .i64 0)), none⟩,
 ⟨some 4, .own 8, none⟩] [])
  .ret))
def x73_r0 : XCode := .seq (.region false [⟨some 13, .bin .lss (.tmp 12) (.tmp 11), none⟩] [])
 (.seq (.cond (.tmp 13) .skip (.exit 0))
 (.seq (.block 1 (.seq (.region false [⟨some 14, .iaddr 3 (.tmp 10) (.tmp 12), none⟩,
 ⟨some 15, .load (.tmp 14) 3 true, none⟩,
 ⟨some 5, .alloc [.int .i64 0, .nilsl, .nilsl], none⟩,
 ⟨none, .store (.tmp 5) (.tmp 15) 3, none⟩] [])
  (.region false [⟨some 16, .own 3, none⟩,
 ⟨some 17, .load (.tmp 5) 3 true, none⟩,
 ⟨some 18, .callq 73 [.tmp 17], none⟩,
 ⟨some 19, .app false 10 152 16 (.tmp 18), none⟩,
 ⟨some 3, .own 19, none⟩] [])))
  (.region false [⟨some 20, .bin .add (.tmp 12) (.cst (.int .i64 1)), none⟩,
 ⟨some 12, .mov (.tmp 20), none⟩] [])))
def x73_l0 : XCode := x73_r0
/-- custos/ast.tests -/
def x73 : XFn := XFn.mk 22 [.tmp 2] (.seq (.region false [⟨some 1, .box (.tmp 0) 3, none⟩,
 ⟨some 2, .mov (.cst .nilsl), none⟩] [])
 (.seq (.region false [⟨some 6, .faddr (.tmp 1) 1, none⟩,
 ⟨some 7, .load (.tmp 6) 1 false, none⟩,
 ⟨some 8, .callq 96 [.tmp 7], none⟩,
 ⟨some 3, .own 8, none⟩] [])
 (.seq (.seq (.region false [⟨some 9, .faddr (.tmp 1) 2, none⟩,
 ⟨some 10, .load (.tmp 9) 1 false, none⟩,
 ⟨some 11, .lens false (.tmp 10), none⟩,
 ⟨some 12, .mov (.cst (.int .i64 0)), none⟩] [])
  (.block 0 (.loop x73_l0)))
 (.seq (.region false [⟨some 21, .mov (.tmp 3), none⟩,
 ⟨some 2, .own 21, none⟩] [])
  .ret))))
def x74_r0 : XCode := .seq (.seq (.region false [⟨some 10, .mov (.tmp 4), none⟩,
 ⟨some 11, .faddr (.tmp 1) 2, none⟩,
 ⟨some 12, .load (.tmp 11) 1 false, none⟩,
 ⟨some 13, .lens false (.tmp 12), none⟩,
 ⟨some 14, .bin .lss (.tmp 10) (.tmp 13), none⟩] [])
  (.cond (.tmp 14) .skip (.exit 0)))
 (.seq (.block 1 (.seq (.region false [⟨some 17, .faddr (.tmp 1) 2, none⟩,
 ⟨some 18, .load (.tmp 17) 1 false, none⟩,
 ⟨some 19, .mov (.tmp 4), none⟩,
 ⟨some 20, .iaddr 3 (.tmp 18) (.tmp 19), none⟩,
 ⟨some 21, .load (.tmp 20) 3 true, none⟩,
 ⟨some 22, .callq 74 [.tmp 21], none⟩,
 ⟨some 5, .own 22, none⟩] [])
  (.region false [⟨some 23, .own 3, none⟩,
 ⟨some 24, .mov (.tmp 5), none⟩,
 ⟨some 25, .app false 10 152 23 (.tmp 24), none⟩,
 ⟨some 3, .own 25, none⟩] [])))
  (.region false [⟨some 15, .mov (.tmp 4), none⟩,
 ⟨some 16, .bin .add (.tmp 15) (.cst (.int .i64 1)), none⟩,
 ⟨some 4, .own 16, none⟩] []))
def x74_l0 : XCode := x74_r0
/-- custos/custosref06.Tests -/
def x74 : XFn := XFn.mk 27 [.tmp 2] (.seq (.region false [⟨some 1, .box (.tmp 0) 3, none⟩,
 ⟨some 2, .mov (.cst .nilsl), none⟩] [])
 (.seq (.region false [⟨some 3, .mov (.cst .nilsl), none⟩] [])
 (.seq (.region false [⟨some 6, .own 3, none⟩,
 ⟨some 7, .faddr (.tmp 1) 1, none⟩,
 ⟨some 8, .load (.tmp 7) 1 false, none⟩,
 ⟨some 9, .app false 10 152 6 (.tmp 8), none⟩,
 ⟨some 3, .own 9, none⟩] [])
 (.seq (.seq (.region false [⟨some 4, .mov (.cst (.int .i64 0)), none⟩] [])
  (.block 0 (.loop x74_l0)))
 (.seq (.region false [⟨some 26, .mov (.tmp 3), none⟩,
 ⟨some 2, .own 26, none⟩] [])
  .ret)))))
/-- (*custos/ast.walk).enter -/
def x75 : XFn := XFn.mk 43 [.tmp 4] (.seq (.region false [⟨some 4, .mov (.cst (.bool false)), none⟩] [])
 (.seq (.seq (.region false [⟨some 5, .mov (.tmp 0), none⟩,
 ⟨some 6, .nilck (.tmp 5), none⟩,
 ⟨some 7, .faddr (.tmp 6) 2, none⟩,
 ⟨some 8, .load (.tmp 7) 1 false, none⟩,
 ⟨some 9, .bin .neq (.tmp 8) (.cst (.int .i64 0)), none⟩,
 ⟨some 10, .mov (.tmp 9), none⟩,
 ⟨some 11, .mov (.tmp 0), (some (10, false))⟩,
 ⟨some 12, .mov (.tmp 1), (some (10, false))⟩,
 ⟨some 13, .bin .leq (.tmp 12) (.cst (.int .i64 24)), (some (10, false))⟩,
 ⟨some 14, .callw 50 [.tmp 11, .tmp 13, .cst (.int .i64 71)], (some (10, false))⟩,
 ⟨some 15, .not (.tmp 14), (some (10, false))⟩,
 ⟨some 16, .pick (.tmp 10) (.cst (.bool true)) (.tmp 15), none⟩,
 ⟨some 17, .mov (.tmp 16), none⟩,
 ⟨some 18, .mov (.tmp 0), (some (17, false))⟩,
 ⟨some 19, .mov (.tmp 0), (some (17, false))⟩,
 ⟨some 20, .nilck (.tmp 19), (some (17, false))⟩,
 ⟨some 21, .faddr (.tmp 20) 0, (some (17, false))⟩,
 ⟨some 22, .load (.tmp 21) 1 false, (some (17, false))⟩,
 ⟨some 23, .bin .lss (.tmp 22) (.cst (.int .i64 256)), (some (17, false))⟩,
 ⟨some 24, .callw 50 [.tmp 18, .tmp 23, .cst (.int .i64 3)], (some (17, false))⟩,
 ⟨some 25, .not (.tmp 24), (some (17, false))⟩,
 ⟨some 26, .pick (.tmp 17) (.cst (.bool true)) (.tmp 25), none⟩] [])
  (.cond (.tmp 26) (.seq (.region false [⟨some 4, .mov (.cst (.bool false)), none⟩] [])
  .ret) .skip))
 (.seq (.region false [⟨some 27, .mov (.tmp 0), none⟩,
 ⟨some 28, .nilck (.tmp 27), none⟩,
 ⟨some 29, .faddr (.tmp 28) 0, none⟩,
 ⟨some 30, .load (.tmp 29) 1 false, none⟩,
 ⟨some 31, .bin .add (.tmp 30) (.cst (.int .i64 1)), none⟩,
 ⟨some 32, .nilck (.tmp 27), none⟩,
 ⟨some 33, .faddr (.tmp 32) 0, none⟩,
 ⟨none, .store (.tmp 33) (.tmp 31) 1, none⟩] [])
 (.seq (.region false [⟨some 34, .mov (.tmp 0), none⟩,
 ⟨some 35, .mov (.tmp 0), none⟩,
 ⟨some 36, .nilck (.tmp 35), none⟩,
 ⟨some 37, .faddr (.tmp 36) 1, none⟩,
 ⟨some 38, .load (.tmp 37) 1 false, none⟩,
 ⟨some 39, .mov (.tmp 1), none⟩,
 ⟨some 40, .mx (.tmp 38) (.tmp 39), none⟩,
 ⟨some 41, .nilck (.tmp 34), none⟩,
 ⟨some 42, .faddr (.tmp 41) 1, none⟩,
 ⟨none, .store (.tmp 42) (.tmp 40) 1, none⟩] [])
 (.seq (.region false [⟨some 4, .mov (.cst (.bool true)), none⟩] [])
  .ret)))))
/-- custos/ast.most -/
def x76 : XFn := XFn.mk 13 [.tmp 2, .tmp 3] (.seq (.region false [⟨some 2, .mov (.cst (.int .i64 0)), none⟩,
 ⟨some 3, .mov (.cst (.int .i64 0)), none⟩] [])
 (.seq (.seq (.region false [⟨some 4, .mov (.tmp 0), none⟩] [])
  (.block 0 (.seq (.region false [⟨some 6, .bin .eql (.tmp 4) (.cst (.int .i64 3)), none⟩,
 ⟨some 5, .own 6, none⟩] [])
  (.cond (.tmp 5) (.seq (.region false [⟨some 2, .mov (.cst (.int .i64 6)), none⟩,
 ⟨some 3, .mov (.cst (.int .i64 0)), none⟩] [])
  .ret) (.seq (.seq (.region false [⟨some 8, .bin .eql (.tmp 4) (.cst (.int .i64 20)), none⟩,
 ⟨some 7, .own 8, none⟩] [])
  (.cond (.tmp 7) .skip (.region false [⟨some 9, .bin .eql (.tmp 4) (.cst (.int .i64 21)), none⟩,
 ⟨some 7, .own 9, none⟩] [])))
  (.cond (.tmp 7) (.seq (.region false [⟨some 2, .mov (.cst (.int .i64 0)), none⟩,
 ⟨some 3, .mov (.cst (.int .i64 6)), none⟩] [])
  .ret) (.seq (.seq (.region false [⟨some 11, .bin .eql (.tmp 4) (.cst (.int .i64 10)), none⟩,
 ⟨some 10, .own 11, none⟩] [])
  (.cond (.tmp 10) .skip (.region false [⟨some 12, .bin .eql (.tmp 4) (.cst (.int .i64 19)), none⟩,
 ⟨some 10, .own 12, none⟩] [])))
  (.cond (.tmp 10) (.seq (.region false [⟨some 2, .mov (.cst (.int .i64 0)), none⟩,
 ⟨some 3, .mov (.cst (.int .i64 8)), none⟩] [])
  .ret) .skip))))))))
 (.seq (.region false [⟨some 2, .mov (.cst (.int .i64 0)), none⟩,
 ⟨some 3, .mov (.cst (.int .i64 0)), none⟩] [])
  .ret)))
/-- custos/ast.formed -/
def x77 : XFn := XFn.mk 87 [.tmp 2] (.seq (.region false [⟨some 1, .box (.tmp 0) 10, none⟩,
 ⟨some 2, .mov (.cst (.bool false)), none⟩] [])
 (.seq (.region false [⟨some 10, .faddr (.tmp 1) 0, none⟩,
 ⟨some 11, .load (.tmp 10) 1 false, none⟩,
 ⟨some 12, .callq 97 [.tmp 11], none⟩,
 ⟨some 9, .mov (.tmp 12), none⟩,
 ⟨some 13, .ext 9 0, none⟩,
 ⟨some 14, .ext 9 1, none⟩,
 ⟨some 15, .ext 9 2, none⟩,
 ⟨some 16, .ext 9 3, none⟩,
 ⟨some 17, .ext 9 4, none⟩,
 ⟨some 3, .own 13, none⟩,
 ⟨some 4, .own 14, none⟩,
 ⟨some 5, .own 15, none⟩,
 ⟨some 6, .own 16, none⟩,
 ⟨some 7, .own 17, none⟩] [])
 (.seq (.seq (.region false [⟨some 18, .faddr (.tmp 1) 3, none⟩,
 ⟨some 19, .load (.tmp 18) 1 false, none⟩,
 ⟨some 20, .lens false (.tmp 19), none⟩,
 ⟨some 21, .mov (.tmp 4), none⟩,
 ⟨some 22, .faddr (.tmp 1) 4, none⟩,
 ⟨some 23, .load (.tmp 22) 1 false, none⟩,
 ⟨some 24, .lens false (.tmp 23), none⟩,
 ⟨some 25, .mov (.tmp 5), none⟩,
 ⟨some 26, .faddr (.tmp 1) 8, none⟩,
 ⟨some 27, .load (.tmp 26) 1 false, none⟩,
 ⟨some 28, .lens false (.tmp 27), none⟩,
 ⟨some 29, .mov (.tmp 6), none⟩,
 ⟨some 30, .faddr (.tmp 1) 9, none⟩,
 ⟨some 31, .load (.tmp 30) 1 false, none⟩,
 ⟨some 32, .lens false (.tmp 31), none⟩,
 ⟨some 33, .mov (.tmp 7), none⟩,
 ⟨some 34, .bslice 1 [.int .i64 0, .int .i64 0, .int .i64 0, .int .i64 0, .int .i64 0, .int .i64 0, .int .i64 0, .int .i64 0] [(0, 1, .tmp 20), (1, 1, .tmp 21), (2, 1, .tmp 24), (3, 1, .tmp 25), (4, 1, .tmp 28), (5, 1, .tmp 29), (6, 1, .tmp 32), (7, 1, .tmp 33)], none⟩,
 ⟨some 35, .callq 98 [.tmp 34], none⟩,
 ⟨some 36, .not (.tmp 35), none⟩,
 ⟨some 37, .mov (.tmp 36), none⟩,
 ⟨some 38, .faddr (.tmp 1) 3, (some (37, false))⟩,
 ⟨some 39, .load (.tmp 38) 1 false, (some (37, false))⟩,
 ⟨some 40, .callw 99 [.tmp 39, .cst (.fn 100 [] [])], (some (37, false))⟩,
 ⟨some 41, .pick (.tmp 37) (.cst (.bool true)) (.tmp 40), none⟩] [])
  (.cond (.tmp 41) (.seq (.region false [⟨some 2, .mov (.cst (.bool false)), none⟩] [])
  .ret) .skip))
 (.seq (.region false [⟨some 42, .faddr (.tmp 1) 1, none⟩,
 ⟨some 43, .load (.tmp 42) 1 false, none⟩,
 ⟨some 44, .bin .eql (.tmp 43) (.cst (.str [])), none⟩,
 ⟨some 8, .own 44, none⟩] [])
 (.seq (.seq (.region false [⟨some 45, .mov (.tmp 3), none⟩,
 ⟨some 46, .bin .and (.tmp 45) (.cst (.int .i64 1)), none⟩,
 ⟨some 47, .bin .neq (.tmp 46) (.cst (.int .i64 0)), none⟩] [])
  (.cond (.tmp 47) (.region false [⟨some 48, .faddr (.tmp 1) 1, none⟩,
 ⟨some 49, .load (.tmp 48) 1 false, none⟩,
 ⟨some 50, .callq 41 [.tmp 49], none⟩,
 ⟨some 8, .own 50, none⟩] []) .skip))
 (.seq (.seq (.region false [⟨some 51, .mov (.tmp 3), none⟩,
 ⟨some 52, .bin .and (.tmp 51) (.cst (.int .i64 2)), none⟩,
 ⟨some 53, .bin .neq (.tmp 52) (.cst (.int .i64 0)), none⟩] [])
  (.cond (.tmp 53) (.region false [⟨some 54, .mov (.tmp 8), none⟩,
 ⟨some 55, .mov (.tmp 54), none⟩,
 ⟨some 56, .faddr (.tmp 1) 2, (some (55, true))⟩,
 ⟨some 57, .load (.tmp 56) 1 false, (some (55, true))⟩,
 ⟨some 58, .bin .geq (.tmp 57) (.cst (.int .i64 1)), (some (55, true))⟩,
 ⟨some 59, .pick (.tmp 55) (.tmp 58) (.cst (.bool false)), none⟩,
 ⟨some 60, .mov (.tmp 59), none⟩,
 ⟨some 61, .faddr (.tmp 1) 2, (some (60, true))⟩,
 ⟨some 62, .load (.tmp 61) 1 false, (some (60, true))⟩,
 ⟨some 63, .bin .leq (.tmp 62) (.cst (.int .i64 6)), (some (60, true))⟩,
 ⟨some 64, .pick (.tmp 60) (.tmp 63) (.cst (.bool false)), none⟩,
 ⟨some 8, .own 64, none⟩] []) (.region false [⟨some 65, .mov (.tmp 8), none⟩,
 ⟨some 66, .mov (.tmp 65), none⟩,
 ⟨some 67, .faddr (.tmp 1) 2, (some (66, true))⟩,
 ⟨some 68, .load (.tmp 67) 1 false, (some (66, true))⟩,
 ⟨some 69, .bin .eql (.tmp 68) (.cst (.int .i64 0)), (some (66, true))⟩,
 ⟨some 70, .pick (.tmp 66) (.tmp 69) (.cst (.bool false)), none⟩,
 ⟨some 8, .own 70, none⟩] [])))
 (.seq (.seq (.region false [⟨some 71, .mov (.tmp 3), none⟩,
 ⟨some 72, .bin .and (.tmp 71) (.cst (.int .i64 4)), none⟩,
 ⟨some 73, .bin .neq (.tmp 72) (.cst (.int .i64 0)), none⟩] [])
  (.cond (.tmp 73) (.seq (.region false [⟨some 74, .mov (.tmp 8), none⟩,
 ⟨some 75, .mov (.tmp 74), none⟩,
 ⟨some 76, .faddr (.tmp 1) 5, (some (75, true))⟩,
 ⟨some 77, .load (.tmp 76) 3 true, (some (75, true))⟩,
 ⟨some 78, .callq 101 [.tmp 77], (some (75, true))⟩,
 ⟨some 79, .pick (.tmp 75) (.tmp 78) (.cst (.bool false)), none⟩,
 ⟨some 2, .own 79, none⟩] [])
  .ret) .skip))
 (.seq (.region false [⟨some 80, .mov (.tmp 8), none⟩,
 ⟨some 81, .mov (.tmp 80), none⟩,
 ⟨some 82, .faddr (.tmp 1) 5, (some (81, true))⟩,
 ⟨some 83, .load (.tmp 82) 3 true, (some (81, true))⟩,
 ⟨some 84, .build [.int .i64 0, .int .i64 0, .bool false] [], (some (81, true))⟩,
 ⟨some 85, .eqagg false [1, 1, 0] (.tmp 83) (.tmp 84), (some (81, true))⟩,
 ⟨some 86, .pick (.tmp 81) (.tmp 85) (.cst (.bool false)), none⟩,
 ⟨some 2, .own 86, none⟩] [])
  .ret))))))))
/-- custos/ast.twice -/
def x78 : XFn := XFn.mk 6 [.tmp 2] (.seq (.region false [⟨some 1, .box (.tmp 0) 1, none⟩,
 ⟨some 2, .mov (.cst (.bool false)), none⟩] [])
 (.seq (.region false [⟨some 3, .load (.tmp 1) 1 false, none⟩,
 ⟨some 4, .mkfn 102 [] [.tmp 1], none⟩,
 ⟨some 5, .callw 99 [.tmp 3, .tmp 4], none⟩,
 ⟨some 2, .own 5, none⟩] [])
  .ret))
def x79_r0 : XCode := .seq (.region false [⟨some 11, .bin .lss (.tmp 10) (.tmp 9), none⟩] [])
 (.seq (.cond (.tmp 11) .skip (.exit 0))
 (.seq (.block 1 (.seq (.region false [⟨some 12, .iaddr 7 (.tmp 8) (.tmp 10), none⟩,
 ⟨some 13, .load (.tmp 12) 7 true, none⟩,
 ⟨some 7, .alloc [.int .i64 0, .str [], .int .i64 0, .int .i64 0, .int .i64 0, .str [], .nilsl], none⟩,
 ⟨none, .store (.tmp 7) (.tmp 13) 7, none⟩] [])
  (.region false [⟨some 14, .mov (.tmp 0), none⟩,
 ⟨some 15, .load (.tmp 7) 7 true, none⟩,
 ⟨some 16, .mov (.tmp 1), none⟩,
 ⟨some 17, .calld (.tmp 14) [.tmp 15, .tmp 16], none⟩] [])))
  (.region false [⟨some 18, .bin .add (.tmp 10) (.cst (.int .i64 1)), none⟩,
 ⟨some 10, .mov (.tmp 18), none⟩] [])))
def x79_l0 : XCode := x79_r0
/-- custos/ast.all[custos/api.Term] -/
def x79 : XFn := XFn.mk 19 [] (.seq (.region false [⟨some 8, .mov (.tmp 2), none⟩,
 ⟨some 9, .lens false (.tmp 8), none⟩,
 ⟨some 10, .mov (.cst (.int .i64 0)), none⟩] [])
  (.block 0 (.loop x79_l0)))
/-- (*custos/ast.walk).term -/
def x80 : XFn := XFn.mk 82 [] (.seq (.region false [⟨some 4, .box (.tmp 1) 7, none⟩] [])
 (.seq (.seq (.region false [⟨some 9, .mov (.tmp 0), none⟩,
 ⟨some 10, .mov (.tmp 2), none⟩,
 ⟨some 11, .callw 75 [.tmp 9, .tmp 10], none⟩,
 ⟨some 12, .not (.tmp 11), none⟩,
 ⟨some 13, .mov (.tmp 12), none⟩,
 ⟨some 14, .mov (.tmp 0), (some (13, false))⟩,
 ⟨some 15, .faddr (.tmp 4) 0, (some (13, false))⟩,
 ⟨some 16, .load (.tmp 15) 1 false, (some (13, false))⟩,
 ⟨some 17, .bin .geq (.tmp 16) (.cst (.int .i64 1)), (some (13, false))⟩,
 ⟨some 18, .mov (.tmp 17), (some (13, false))⟩,
 ⟨some 19, .faddr (.tmp 4) 0, (some (18, true))⟩,
 ⟨some 20, .load (.tmp 19) 1 false, (some (18, true))⟩,
 ⟨some 21, .bin .leq (.tmp 20) (.cst (.int .i64 5)), (some (18, true))⟩,
 ⟨some 22, .pick (.tmp 18) (.tmp 21) (.cst (.bool false)), (some (13, false))⟩,
 ⟨some 23, .callw 50 [.tmp 14, .tmp 22, .cst (.int .i64 20)], (some (13, false))⟩,
 ⟨some 24, .not (.tmp 23), (some (13, false))⟩,
 ⟨some 25, .pick (.tmp 13) (.cst (.bool true)) (.tmp 24), none⟩] [])
  (.cond (.tmp 25) .ret .skip))
 (.seq (.region false [⟨some 6, .mov (.cst (.int .i64 0)), none⟩] [])
 (.seq (.seq (.region false [⟨some 26, .faddr (.tmp 4) 0, none⟩,
 ⟨some 27, .load (.tmp 26) 1 false, none⟩,
 ⟨some 28, .bin .geq (.tmp 27) (.cst (.int .i64 3)), none⟩] [])
  (.cond (.tmp 28) (.region false [⟨some 6, .mov (.cst (.int .i64 2)), none⟩] []) .skip))
 (.seq (.region false [⟨some 29, .faddr (.tmp 4) 6, none⟩,
 ⟨some 30, .load (.tmp 29) 1 false, none⟩,
 ⟨some 31, .lens false (.tmp 30), none⟩,
 ⟨some 32, .mov (.tmp 6), none⟩,
 ⟨some 33, .bslice 1 [.int .i64 0, .int .i64 0] [(0, 1, .tmp 31), (1, 1, .tmp 32)], none⟩,
 ⟨some 34, .callq 98 [.tmp 33], none⟩,
 ⟨some 35, .mov (.tmp 34), none⟩,
 ⟨some 36, .faddr (.tmp 4) 0, (some (35, true))⟩,
 ⟨some 37, .load (.tmp 36) 1 false, (some (35, true))⟩,
 ⟨some 38, .bin .eql (.tmp 37) (.cst (.int .i64 2)), (some (35, true))⟩,
 ⟨some 39, .mov (.tmp 38), (some (35, true))⟩,
 ⟨some 40, .faddr (.tmp 4) 2, (some (39, false))⟩,
 ⟨some 41, .load (.tmp 40) 4 true, (some (39, false))⟩,
 ⟨some 42, .build [.int .i64 0, .int .i64 0, .int .i64 0, .str []] [], (some (39, false))⟩,
 ⟨some 43, .eqagg false [1, 1, 1, 2] (.tmp 41) (.tmp 42), (some (39, false))⟩,
 ⟨some 44, .pick (.tmp 39) (.cst (.bool true)) (.tmp 43), (some (35, true))⟩,
 ⟨some 45, .pick (.tmp 35) (.tmp 44) (.cst (.bool false)), none⟩,
 ⟨some 7, .own 45, none⟩] [])
 (.seq (.seq (.region false [⟨some 46, .faddr (.tmp 4) 0, none⟩,
 ⟨some 47, .load (.tmp 46) 1 false, none⟩,
 ⟨some 48, .bin .eql (.tmp 47) (.cst (.int .i64 1)), none⟩] [])
  (.cond (.tmp 48) (.region false [⟨some 49, .mov (.tmp 7), none⟩,
 ⟨some 50, .mov (.tmp 49), none⟩,
 ⟨some 51, .faddr (.tmp 4) 1, (some (50, true))⟩,
 ⟨some 52, .load (.tmp 51) 1 false, (some (50, true))⟩,
 ⟨some 53, .callq 41 [.tmp 52], (some (50, true))⟩,
 ⟨some 54, .pick (.tmp 50) (.tmp 53) (.cst (.bool false)), none⟩,
 ⟨some 7, .own 54, none⟩] []) (.region false [⟨some 55, .mov (.tmp 7), none⟩,
 ⟨some 56, .mov (.tmp 55), none⟩,
 ⟨some 57, .faddr (.tmp 4) 1, (some (56, true))⟩,
 ⟨some 58, .load (.tmp 57) 1 false, (some (56, true))⟩,
 ⟨some 59, .bin .eql (.tmp 58) (.cst (.str [])), (some (56, true))⟩,
 ⟨some 60, .pick (.tmp 56) (.tmp 59) (.cst (.bool false)), none⟩,
 ⟨some 7, .own 60, none⟩] [])))
 (.seq (.region false [⟨some 61, .mov (.tmp 0), none⟩,
 ⟨some 62, .mov (.tmp 7), none⟩,
 ⟨some 63, .callw 50 [.tmp 61, .tmp 62, .cst (.int .i64 1)], none⟩] [])
 (.seq (.seq (.region false [⟨some 64, .faddr (.tmp 4) 0, none⟩,
 ⟨some 65, .load (.tmp 64) 1 false, none⟩,
 ⟨some 66, .bin .eql (.tmp 65) (.cst (.int .i64 2)), none⟩] [])
  (.cond (.tmp 66) (.seq (.region false [⟨some 67, .faddr (.tmp 4) 2, none⟩,
 ⟨some 68, .load (.tmp 67) 4 true, none⟩,
 ⟨some 69, .callq 104 [.tmp 68], none⟩,
 ⟨some 8, .own 69, none⟩] [])
  (.region false [⟨some 70, .mov (.tmp 0), none⟩,
 ⟨some 71, .mov (.tmp 8), none⟩,
 ⟨some 72, .bin .eql (.tmp 71) (.cst (.int .i64 0)), none⟩,
 ⟨some 73, .mov (.tmp 8), none⟩,
 ⟨some 74, .callw 50 [.tmp 70, .tmp 72, .tmp 73], none⟩] [])) .skip))
  (.region false [⟨some 75, .mov (.tmp 0), none⟩,
 ⟨some 76, .mkfn 80 [.tmp 75] [], none⟩,
 ⟨some 77, .mov (.tmp 2), none⟩,
 ⟨some 78, .bin .add (.tmp 77) (.cst (.int .i64 1)), none⟩,
 ⟨some 79, .faddr (.tmp 4) 6, none⟩,
 ⟨some 80, .load (.tmp 79) 1 false, none⟩,
 ⟨some 81, .callw 79 [.tmp 76, .tmp 78, .tmp 80], none⟩] [])))))))))
def x81_r0 : XCode := .seq (.region false [⟨some 11, .bin .lss (.tmp 10) (.tmp 9), none⟩] [])
 (.seq (.cond (.tmp 11) .skip (.exit 0))
 (.seq (.block 1 (.seq (.region false [⟨some 12, .iaddr 3 (.tmp 8) (.tmp 10), none⟩,
 ⟨some 13, .load (.tmp 12) 3 true, none⟩,
 ⟨some 7, .alloc [.int .i64 0, .nilsl, .nilsl], none⟩,
 ⟨none, .store (.tmp 7) (.tmp 13) 3, none⟩] [])
  (.region false [⟨some 14, .mov (.tmp 0), none⟩,
 ⟨some 15, .load (.tmp 7) 3 true, none⟩,
 ⟨some 16, .mov (.tmp 1), none⟩,
 ⟨some 17, .calld (.tmp 14) [.tmp 15, .tmp 16], none⟩] [])))
  (.region false [⟨some 18, .bin .add (.tmp 10) (.cst (.int .i64 1)), none⟩,
 ⟨some 10, .mov (.tmp 18), none⟩] [])))
def x81_l0 : XCode := x81_r0
/-- custos/ast.all[custos/api.Regex] -/
def x81 : XFn := XFn.mk 19 [] (.seq (.region false [⟨some 8, .mov (.tmp 2), none⟩,
 ⟨some 9, .lens false (.tmp 8), none⟩,
 ⟨some 10, .mov (.cst (.int .i64 0)), none⟩] [])
  (.block 0 (.loop x81_l0)))
/-- (*custos/ast.walk).regex -/
def x82 : XFn := XFn.mk 60 [] (.seq (.region false [⟨some 4, .box (.tmp 1) 3, none⟩] [])
 (.seq (.seq (.region false [⟨some 8, .mov (.tmp 0), none⟩,
 ⟨some 9, .mov (.tmp 2), none⟩,
 ⟨some 10, .callw 75 [.tmp 8, .tmp 9], none⟩,
 ⟨some 11, .not (.tmp 10), none⟩,
 ⟨some 12, .mov (.tmp 11), none⟩,
 ⟨some 13, .mov (.tmp 0), (some (12, false))⟩,
 ⟨some 14, .faddr (.tmp 4) 0, (some (12, false))⟩,
 ⟨some 15, .load (.tmp 14) 1 false, (some (12, false))⟩,
 ⟨some 16, .bin .geq (.tmp 15) (.cst (.int .i64 1)), (some (12, false))⟩,
 ⟨some 17, .mov (.tmp 16), (some (12, false))⟩,
 ⟨some 18, .faddr (.tmp 4) 0, (some (17, true))⟩,
 ⟨some 19, .load (.tmp 18) 1 false, (some (17, true))⟩,
 ⟨some 20, .bin .leq (.tmp 19) (.cst (.int .i64 5)), (some (17, true))⟩,
 ⟨some 21, .pick (.tmp 17) (.tmp 20) (.cst (.bool false)), (some (12, false))⟩,
 ⟨some 22, .callw 50 [.tmp 13, .tmp 21, .cst (.int .i64 20)], (some (12, false))⟩,
 ⟨some 23, .not (.tmp 22), (some (12, false))⟩,
 ⟨some 24, .pick (.tmp 12) (.cst (.bool true)) (.tmp 23), none⟩] [])
  (.cond (.tmp 24) .ret .skip))
 (.seq (.region false [⟨some 6, .mov (.cst (.int .i64 0)), none⟩,
 ⟨some 7, .mov (.cst (.int .i64 0)), none⟩] [])
 (.seq (.seq (.region false [⟨some 25, .faddr (.tmp 4) 0, none⟩,
 ⟨some 26, .load (.tmp 25) 1 false, none⟩] [])
  (.block 0 (.seq (.region false [⟨some 28, .bin .eql (.tmp 26) (.cst (.int .i64 2)), none⟩,
 ⟨some 27, .own 28, none⟩] [])
  (.cond (.tmp 27) (.region false [⟨some 6, .mov (.cst (.int .i64 1)), none⟩] []) (.seq (.seq (.region false [⟨some 30, .bin .eql (.tmp 26) (.cst (.int .i64 3)), none⟩,
 ⟨some 29, .own 30, none⟩] [])
  (.cond (.tmp 29) .skip (.region false [⟨some 31, .bin .eql (.tmp 26) (.cst (.int .i64 4)), none⟩,
 ⟨some 29, .own 31, none⟩] [])))
  (.cond (.tmp 29) (.region false [⟨some 7, .mov (.cst (.int .i64 2)), none⟩] []) (.seq (.region false [⟨some 33, .bin .eql (.tmp 26) (.cst (.int .i64 5)), none⟩,
 ⟨some 32, .own 33, none⟩] [])
  (.cond (.tmp 32) (.region false [⟨some 7, .mov (.cst (.int .i64 1)), none⟩] []) .skip))))))))
 (.seq (.region false [⟨some 34, .mov (.tmp 0), none⟩,
 ⟨some 35, .faddr (.tmp 4) 1, none⟩,
 ⟨some 36, .load (.tmp 35) 1 false, none⟩,
 ⟨some 37, .lens false (.tmp 36), none⟩,
 ⟨some 38, .mov (.tmp 6), none⟩,
 ⟨some 39, .faddr (.tmp 4) 2, none⟩,
 ⟨some 40, .load (.tmp 39) 1 false, none⟩,
 ⟨some 41, .lens false (.tmp 40), none⟩,
 ⟨some 42, .mov (.tmp 7), none⟩,
 ⟨some 43, .bslice 1 [.int .i64 0, .int .i64 0, .int .i64 0, .int .i64 0] [(0, 1, .tmp 37), (1, 1, .tmp 38), (2, 1, .tmp 41), (3, 1, .tmp 42)], none⟩,
 ⟨some 44, .callq 98 [.tmp 43], none⟩,
 ⟨some 45, .callw 50 [.tmp 34, .tmp 44, .cst (.int .i64 1)], none⟩] [])
  (.cond (.tmp 45) (.seq (.region false [⟨some 46, .mov (.tmp 0), none⟩,
 ⟨some 47, .mkfn 49 [.tmp 46] [], none⟩,
 ⟨some 48, .mov (.tmp 2), none⟩,
 ⟨some 49, .bin .add (.tmp 48) (.cst (.int .i64 1)), none⟩,
 ⟨some 50, .faddr (.tmp 4) 1, none⟩,
 ⟨some 51, .load (.tmp 50) 1 false, none⟩,
 ⟨some 52, .callw 83 [.tmp 47, .tmp 49, .tmp 51], none⟩] [])
  (.region false [⟨some 53, .mov (.tmp 0), none⟩,
 ⟨some 54, .mkfn 82 [.tmp 53] [], none⟩,
 ⟨some 55, .mov (.tmp 2), none⟩,
 ⟨some 56, .bin .add (.tmp 55) (.cst (.int .i64 1)), none⟩,
 ⟨some 57, .faddr (.tmp 4) 2, none⟩,
 ⟨some 58, .load (.tmp 57) 1 false, none⟩,
 ⟨some 59, .callw 81 [.tmp 54, .tmp 56, .tmp 58], none⟩] [])) .skip))))))
def x83_r0 : XCode := .seq (.region false [⟨some 11, .bin .lss (.tmp 10) (.tmp 9), none⟩] [])
 (.seq (.cond (.tmp 11) .skip (.exit 0))
 (.seq (.block 1 (.seq (.region false [⟨some 12, .iaddr 10 (.tmp 8) (.tmp 10), none⟩,
 ⟨some 13, .load (.tmp 12) 10 true, none⟩,
 ⟨some 7, .alloc [.int .i64 0, .str [], .int .i64 0, .nilsl, .nilsl, .int .i64 0, .int .i64 0, .bool false, .nilsl, .nilsl], none⟩,
 ⟨none, .store (.tmp 7) (.tmp 13) 10, none⟩] [])
  (.region false [⟨some 14, .mov (.tmp 0), none⟩,
 ⟨some 15, .load (.tmp 7) 10 true, none⟩,
 ⟨some 16, .mov (.tmp 1), none⟩,
 ⟨some 17, .calld (.tmp 14) [.tmp 15, .tmp 16], none⟩] [])))
  (.region false [⟨some 18, .bin .add (.tmp 10) (.cst (.int .i64 1)), none⟩,
 ⟨some 10, .mov (.tmp 18), none⟩] [])))
def x83_l0 : XCode := x83_r0
/-- custos/ast.all[custos/api.Formula] -/
def x83 : XFn := XFn.mk 19 [] (.seq (.region false [⟨some 8, .mov (.tmp 2), none⟩,
 ⟨some 9, .lens false (.tmp 8), none⟩,
 ⟨some 10, .mov (.cst (.int .i64 0)), none⟩] [])
  (.block 0 (.loop x83_l0)))
/-- custos/custosref06.usesOf -/
def x84 : XFn := XFn.mk 47 [.cell 2 7 true] (.seq (.region false [⟨some 2, .alloc [.bool false, .bool false, .bool false, .int .i64 0, .int .i64 0, .int .i64 0, .int .i64 0], none⟩] [])
 (.seq (.seq (.region false [⟨some 3, .mov (.tmp 0), none⟩] [])
  (.block 0 (.seq (.region false [⟨some 5, .bin .eql (.tmp 3) (.cst (.int .i64 3)), none⟩,
 ⟨some 4, .own 5, none⟩] [])
  (.cond (.tmp 4) (.seq (.region false [⟨some 6, .build [.bool false, .bool false, .bool false, .int .i64 0, .int .i64 0, .int .i64 0, .int .i64 0] [(0, 1, .cst (.bool true)), (4, 1, .cst (.int .i64 (-2)))], none⟩,
 ⟨none, .store (.tmp 2) (.tmp 6) 7, none⟩] [])
  .ret) (.seq (.seq (.region false [⟨some 8, .bin .eql (.tmp 3) (.cst (.int .i64 4)), none⟩,
 ⟨some 7, .own 8, none⟩] [])
  (.cond (.tmp 7) .skip (.seq (.region false [⟨some 9, .bin .eql (.tmp 3) (.cst (.int .i64 5)), none⟩,
 ⟨some 7, .own 9, none⟩] [])
  (.cond (.tmp 7) .skip (.region false [⟨some 10, .bin .eql (.tmp 3) (.cst (.int .i64 6)), none⟩,
 ⟨some 7, .own 10, none⟩] [])))))
  (.cond (.tmp 7) (.seq (.region false [⟨some 11, .build [.bool false, .bool false, .bool false, .int .i64 0, .int .i64 0, .int .i64 0, .int .i64 0] [(4, 1, .cst (.int .i64 2))], none⟩,
 ⟨none, .store (.tmp 2) (.tmp 11) 7, none⟩] [])
  .ret) (.seq (.region false [⟨some 13, .bin .eql (.tmp 3) (.cst (.int .i64 7)), none⟩,
 ⟨some 12, .own 13, none⟩] [])
  (.cond (.tmp 12) (.seq (.region false [⟨some 14, .build [.bool false, .bool false, .bool false, .int .i64 0, .int .i64 0, .int .i64 0, .int .i64 0] [(5, 1, .cst (.int .i64 1))], none⟩,
 ⟨none, .store (.tmp 2) (.tmp 14) 7, none⟩] [])
  .ret) (.seq (.seq (.region false [⟨some 16, .bin .eql (.tmp 3) (.cst (.int .i64 8)), none⟩,
 ⟨some 15, .own 16, none⟩] [])
  (.cond (.tmp 15) .skip (.region false [⟨some 17, .bin .eql (.tmp 3) (.cst (.int .i64 9)), none⟩,
 ⟨some 15, .own 17, none⟩] [])))
  (.cond (.tmp 15) (.seq (.region false [⟨some 18, .build [.bool false, .bool false, .bool false, .int .i64 0, .int .i64 0, .int .i64 0, .int .i64 0] [(5, 1, .cst (.int .i64 2))], none⟩,
 ⟨none, .store (.tmp 2) (.tmp 18) 7, none⟩] [])
  .ret) (.seq (.region false [⟨some 20, .bin .eql (.tmp 3) (.cst (.int .i64 10)), none⟩,
 ⟨some 19, .own 20, none⟩] [])
  (.cond (.tmp 19) (.seq (.region false [⟨some 21, .build [.bool false, .bool false, .bool false, .int .i64 0, .int .i64 0, .int .i64 0, .int .i64 0] [(3, 1, .cst (.int .i64 (-1))), (5, 1, .cst (.int .i64 1))], none⟩,
 ⟨none, .store (.tmp 2) (.tmp 21) 7, none⟩] [])
  .ret) (.seq (.seq (.region false [⟨some 23, .bin .eql (.tmp 3) (.cst (.int .i64 11)), none⟩,
 ⟨some 22, .own 23, none⟩] [])
  (.cond (.tmp 22) .skip (.seq (.region false [⟨some 24, .bin .eql (.tmp 3) (.cst (.int .i64 12)), none⟩,
 ⟨some 22, .own 24, none⟩] [])
  (.cond (.tmp 22) .skip (.seq (.region false [⟨some 25, .bin .eql (.tmp 3) (.cst (.int .i64 13)), none⟩,
 ⟨some 22, .own 25, none⟩] [])
  (.cond (.tmp 22) .skip (.region false [⟨some 26, .bin .eql (.tmp 3) (.cst (.int .i64 14)), none⟩,
 ⟨some 22, .own 26, none⟩] [])))))))
  (.cond (.tmp 22) (.seq (.region false [⟨some 27, .build [.bool false, .bool false, .bool false, .int .i64 0, .int .i64 0, .int .i64 0, .int .i64 0] [(2, 1, .cst (.bool true)), (5, 1, .cst (.int .i64 1))], none⟩,
 ⟨none, .store (.tmp 2) (.tmp 27) 7, none⟩] [])
  .ret) (.seq (.seq (.region false [⟨some 29, .bin .eql (.tmp 3) (.cst (.int .i64 15)), none⟩,
 ⟨some 28, .own 29, none⟩] [])
  (.cond (.tmp 28) .skip (.region false [⟨some 30, .bin .eql (.tmp 3) (.cst (.int .i64 16)), none⟩,
 ⟨some 28, .own 30, none⟩] [])))
  (.cond (.tmp 28) (.seq (.region false [⟨some 31, .build [.bool false, .bool false, .bool false, .int .i64 0, .int .i64 0, .int .i64 0, .int .i64 0] [(2, 1, .cst (.bool true)), (5, 1, .cst (.int .i64 2))], none⟩,
 ⟨none, .store (.tmp 2) (.tmp 31) 7, none⟩] [])
  .ret) (.seq (.seq (.region false [⟨some 33, .bin .eql (.tmp 3) (.cst (.int .i64 17)), none⟩,
 ⟨some 32, .own 33, none⟩] [])
  (.cond (.tmp 32) .skip (.region false [⟨some 34, .bin .eql (.tmp 3) (.cst (.int .i64 18)), none⟩,
 ⟨some 32, .own 34, none⟩] [])))
  (.cond (.tmp 32) (.seq (.region false [⟨some 35, .build [.bool false, .bool false, .bool false, .int .i64 0, .int .i64 0, .int .i64 0, .int .i64 0] [(2, 1, .cst (.bool true)), (6, 1, .cst (.int .i64 1))], none⟩,
 ⟨none, .store (.tmp 2) (.tmp 35) 7, none⟩] [])
  .ret) (.seq (.region false [⟨some 37, .bin .eql (.tmp 3) (.cst (.int .i64 19)), none⟩,
 ⟨some 36, .own 37, none⟩] [])
  (.cond (.tmp 36) (.seq (.region false [⟨some 38, .build [.bool false, .bool false, .bool false, .int .i64 0, .int .i64 0, .int .i64 0, .int .i64 0] [(0, 1, .cst (.bool true)), (1, 1, .cst (.bool true)), (3, 1, .cst (.int .i64 (-1))), (5, 1, .cst (.int .i64 1))], none⟩,
 ⟨none, .store (.tmp 2) (.tmp 38) 7, none⟩] [])
  .ret) (.seq (.seq (.region false [⟨some 40, .bin .eql (.tmp 3) (.cst (.int .i64 20)), none⟩,
 ⟨some 39, .own 40, none⟩] [])
  (.cond (.tmp 39) .skip (.region false [⟨some 41, .bin .eql (.tmp 3) (.cst (.int .i64 21)), none⟩,
 ⟨some 39, .own 41, none⟩] [])))
  (.cond (.tmp 39) (.seq (.region false [⟨some 42, .build [.bool false, .bool false, .bool false, .int .i64 0, .int .i64 0, .int .i64 0, .int .i64 0] [(0, 1, .cst (.bool true)), (3, 1, .cst (.int .i64 (-2))), (5, 1, .cst (.int .i64 2))], none⟩,
 ⟨none, .store (.tmp 2) (.tmp 42) 7, none⟩] [])
  .ret) (.seq (.region false [⟨some 44, .bin .eql (.tmp 3) (.cst (.int .i64 22)), none⟩,
 ⟨some 43, .own 44, none⟩] [])
  (.cond (.tmp 43) (.seq (.region false [⟨some 45, .build [.bool false, .bool false, .bool false, .int .i64 0, .int .i64 0, .int .i64 0, .int .i64 0] [(5, 1, .cst (.int .i64 (-1)))], none⟩,
 ⟨none, .store (.tmp 2) (.tmp 45) 7, none⟩] [])
  .ret) .skip))))))))))))))))))))))))
 (.seq (.region false [⟨some 46, .build [.bool false, .bool false, .bool false, .int .i64 0, .int .i64 0, .int .i64 0, .int .i64 0] [], none⟩,
 ⟨none, .store (.tmp 2) (.tmp 46) 7, none⟩] [])
  .ret)))
/-- custos/custosref06.so -/
def x85 : XFn := XFn.mk 14 [.tmp 4] (.seq (.region false [⟨some 4, .mov (.cst (.bool false)), none⟩] [])
 (.seq (.seq (.region false [⟨some 5, .mov (.tmp 1), none⟩,
 ⟨some 6, .bin .eql (.tmp 5) (.cst (.int .i64 (-2))), none⟩] [])
  (.cond (.tmp 6) (.seq (.region false [⟨some 4, .mov (.cst (.bool true)), none⟩] [])
  .ret) .skip))
 (.seq (.seq (.region false [⟨some 7, .mov (.tmp 1), none⟩,
 ⟨some 8, .bin .eql (.tmp 7) (.cst (.int .i64 (-1))), none⟩] [])
  (.cond (.tmp 8) (.seq (.region false [⟨some 9, .mov (.tmp 0), none⟩,
 ⟨some 10, .bin .gtr (.tmp 9) (.cst (.int .i64 0)), none⟩,
 ⟨some 4, .own 10, none⟩] [])
  .ret) .skip))
 (.seq (.region false [⟨some 11, .mov (.tmp 0), none⟩,
 ⟨some 12, .mov (.tmp 1), none⟩,
 ⟨some 13, .bin .eql (.tmp 11) (.tmp 12), none⟩,
 ⟨some 4, .own 13, none⟩] [])
  .ret))))
def x86_r0 : XCode := .seq (.seq (.region false [⟨some 25, .mov (.tmp 3), none⟩,
 ⟨some 26, .mov (.tmp 0), none⟩,
 ⟨some 27, .lens true (.tmp 26), none⟩,
 ⟨some 28, .bin .lss (.tmp 25) (.tmp 27), none⟩] [])
  (.cond (.tmp 28) .skip (.exit 0)))
 (.seq (.block 1 (.seq (.region false [⟨some 31, .mov (.tmp 0), none⟩,
 ⟨some 32, .mov (.tmp 3), none⟩,
 ⟨some 33, .idxs (.tmp 31) (.tmp 32), none⟩,
 ⟨some 4, .own 33, none⟩] [])
 (.seq (.region false [⟨some 34, .mov (.tmp 4), none⟩,
 ⟨some 35, .bin .lss (.tmp 34) (.cst (.int .u8 97)), none⟩,
 ⟨some 36, .mov (.tmp 35), none⟩,
 ⟨some 37, .mov (.tmp 4), (some (36, false))⟩,
 ⟨some 38, .bin .gtr (.tmp 37) (.cst (.int .u8 122)), (some (36, false))⟩,
 ⟨some 39, .pick (.tmp 36) (.cst (.bool true)) (.tmp 38), none⟩,
 ⟨some 40, .mov (.tmp 39), none⟩,
 ⟨some 41, .mov (.tmp 4), (some (40, true))⟩,
 ⟨some 42, .bin .lss (.tmp 41) (.cst (.int .u8 48)), (some (40, true))⟩,
 ⟨some 43, .mov (.tmp 42), (some (40, true))⟩,
 ⟨some 44, .mov (.tmp 4), (some (43, false))⟩,
 ⟨some 45, .bin .gtr (.tmp 44) (.cst (.int .u8 57)), (some (43, false))⟩,
 ⟨some 46, .pick (.tmp 43) (.cst (.bool true)) (.tmp 45), (some (40, true))⟩,
 ⟨some 47, .pick (.tmp 40) (.tmp 46) (.cst (.bool false)), none⟩,
 ⟨some 48, .mov (.tmp 47), none⟩,
 ⟨some 49, .mov (.tmp 4), (some (48, true))⟩,
 ⟨some 50, .bin .neq (.tmp 49) (.cst (.int .u8 95)), (some (48, true))⟩,
 ⟨some 51, .pick (.tmp 48) (.tmp 50) (.cst (.bool false)), none⟩] [])
  (.cond (.tmp 51) (.seq (.region false [⟨some 2, .mov (.cst (.bool false)), none⟩] [])
  .ret) .skip))))
  (.region false [⟨some 29, .mov (.tmp 3), none⟩,
 ⟨some 30, .bin .add (.tmp 29) (.cst (.int .i64 1)), none⟩,
 ⟨some 3, .own 30, none⟩] []))
def x86_l0 : XCode := x86_r0
/-- custos/custosref06.Name -/
def x86 : XFn := XFn.mk 58 [.tmp 2] (.seq (.region false [⟨some 2, .mov (.cst (.bool false)), none⟩] [])
 (.seq (.seq (.region false [⟨some 7, .mov (.tmp 0), none⟩,
 ⟨some 8, .lens true (.tmp 7), none⟩,
 ⟨some 9, .bin .lss (.tmp 8) (.cst (.int .i64 1)), none⟩,
 ⟨some 10, .mov (.tmp 9), none⟩,
 ⟨some 11, .mov (.tmp 0), (some (10, false))⟩,
 ⟨some 12, .lens true (.tmp 11), (some (10, false))⟩,
 ⟨some 13, .bin .gtr (.tmp 12) (.cst (.int .i64 16)), (some (10, false))⟩,
 ⟨some 14, .pick (.tmp 10) (.cst (.bool true)) (.tmp 13), none⟩,
 ⟨some 15, .mov (.tmp 14), none⟩,
 ⟨some 16, .mov (.tmp 0), (some (15, false))⟩,
 ⟨some 17, .idxs (.tmp 16) (.cst (.int .i64 0)), (some (15, false))⟩,
 ⟨some 18, .bin .lss (.tmp 17) (.cst (.int .u8 97)), (some (15, false))⟩,
 ⟨some 19, .pick (.tmp 15) (.cst (.bool true)) (.tmp 18), none⟩,
 ⟨some 20, .mov (.tmp 19), none⟩,
 ⟨some 21, .mov (.tmp 0), (some (20, false))⟩,
 ⟨some 22, .idxs (.tmp 21) (.cst (.int .i64 0)), (some (20, false))⟩,
 ⟨some 23, .bin .gtr (.tmp 22) (.cst (.int .u8 122)), (some (20, false))⟩,
 ⟨some 24, .pick (.tmp 20) (.cst (.bool true)) (.tmp 23), none⟩] [])
  (.cond (.tmp 24) (.seq (.region false [⟨some 2, .mov (.cst (.bool false)), none⟩] [])
  .ret) .skip))
 (.seq (.seq (.region false [⟨some 3, .mov (.cst (.int .i64 0)), none⟩] [])
  (.block 0 (.loop x86_l0)))
 (.seq (.region false [⟨some 52, .callq 105 [], none⟩,
 ⟨some 5, .own 52, none⟩] [])
 (.seq (.region false [⟨some 53, .mov (.tmp 5), none⟩,
 ⟨some 54, .mov (.tmp 0), none⟩,
 ⟨some 55, .callq 57 [.tmp 53, .tmp 54], none⟩,
 ⟨some 6, .own 55, none⟩] [])
 (.seq (.region false [⟨some 56, .mov (.tmp 6), none⟩,
 ⟨some 57, .not (.tmp 56), none⟩,
 ⟨some 2, .own 57, none⟩] [])
  .ret))))))
def x87_r0 : XCode := .seq (.seq (.region false [⟨some 5, .mov (.tmp 3), none⟩,
 ⟨some 6, .mov (.tmp 0), none⟩,
 ⟨some 7, .lens false (.tmp 6), none⟩,
 ⟨some 8, .bin .lss (.tmp 5) (.tmp 7), none⟩] [])
  (.cond (.tmp 8) .skip (.exit 0)))
 (.seq (.block 1 (.seq (.region false [⟨some 11, .mov (.tmp 0), none⟩,
 ⟨some 12, .mov (.tmp 3), none⟩,
 ⟨some 13, .iaddr 1 (.tmp 11) (.tmp 12), none⟩,
 ⟨some 14, .load (.tmp 13) 1 false, none⟩,
 ⟨some 15, .callq 86 [.tmp 14], none⟩,
 ⟨some 4, .own 15, none⟩] [])
 (.seq (.region false [⟨some 16, .mov (.tmp 4), none⟩,
 ⟨some 17, .not (.tmp 16), none⟩] [])
  (.cond (.tmp 17) (.seq (.region false [⟨some 2, .mov (.cst (.bool false)), none⟩] [])
  .ret) .skip))))
  (.region false [⟨some 9, .mov (.tmp 3), none⟩,
 ⟨some 10, .bin .add (.tmp 9) (.cst (.int .i64 1)), none⟩,
 ⟨some 3, .own 10, none⟩] []))
def x87_l0 : XCode := x87_r0
/-- custos/custosref06.names -/
def x87 : XFn := XFn.mk 18 [.tmp 2] (.seq (.region false [⟨some 2, .mov (.cst (.bool false)), none⟩] [])
 (.seq (.seq (.region false [⟨some 3, .mov (.cst (.int .i64 0)), none⟩] [])
  (.block 0 (.loop x87_l0)))
 (.seq (.region false [⟨some 2, .mov (.cst (.bool true)), none⟩] [])
  .ret)))
/-- custos/custosref06.interval -/
def x88 : XFn := XFn.mk 26 [.tmp 2] (.seq (.region false [⟨some 1, .box (.tmp 0) 3, none⟩,
 ⟨some 2, .mov (.cst (.bool false)), none⟩] [])
 (.seq (.seq (.region false [⟨some 3, .faddr (.tmp 1) 0, none⟩,
 ⟨some 4, .load (.tmp 3) 1 false, none⟩,
 ⟨some 5, .bin .lss (.tmp 4) (.cst (.int .i64 0)), none⟩,
 ⟨some 6, .mov (.tmp 5), none⟩,
 ⟨some 7, .faddr (.tmp 1) 0, (some (6, false))⟩,
 ⟨some 8, .load (.tmp 7) 1 false, (some (6, false))⟩,
 ⟨some 9, .bin .gtr (.tmp 8) (.cst (.int .i64 1099511627776)), (some (6, false))⟩,
 ⟨some 10, .pick (.tmp 6) (.cst (.bool true)) (.tmp 9), none⟩] [])
  (.cond (.tmp 10) (.seq (.region false [⟨some 2, .mov (.cst (.bool false)), none⟩] [])
  .ret) .skip))
 (.seq (.seq (.region false [⟨some 11, .faddr (.tmp 1) 2, none⟩,
 ⟨some 12, .load (.tmp 11) 1 false, none⟩] [])
  (.cond (.tmp 12) (.seq (.region false [⟨some 13, .faddr (.tmp 1) 1, none⟩,
 ⟨some 14, .load (.tmp 13) 1 false, none⟩,
 ⟨some 15, .bin .eql (.tmp 14) (.cst (.int .i64 0)), none⟩,
 ⟨some 2, .own 15, none⟩] [])
  .ret) .skip))
 (.seq (.region false [⟨some 16, .faddr (.tmp 1) 1, none⟩,
 ⟨some 17, .load (.tmp 16) 1 false, none⟩,
 ⟨some 18, .faddr (.tmp 1) 0, none⟩,
 ⟨some 19, .load (.tmp 18) 1 false, none⟩,
 ⟨some 20, .bin .geq (.tmp 17) (.tmp 19), none⟩,
 ⟨some 21, .mov (.tmp 20), none⟩,
 ⟨some 22, .faddr (.tmp 1) 1, (some (21, true))⟩,
 ⟨some 23, .load (.tmp 22) 1 false, (some (21, true))⟩,
 ⟨some 24, .bin .leq (.tmp 23) (.cst (.int .i64 1099511627776)), (some (21, true))⟩,
 ⟨some 25, .pick (.tmp 21) (.tmp 24) (.cst (.bool false)), none⟩,
 ⟨some 2, .own 25, none⟩] [])
  .ret))))
/-- custos/custosref02.Same -/
def x89 : XFn := XFn.mk 31 [.tmp 4] (.seq (.region false [⟨some 2, .box (.tmp 0) 4, none⟩,
 ⟨some 3, .box (.tmp 1) 4, none⟩,
 ⟨some 4, .mov (.cst (.bool false)), none⟩] [])
 (.seq (.region false [⟨some 5, .faddr (.tmp 2) 0, none⟩,
 ⟨some 6, .load (.tmp 5) 1 false, none⟩,
 ⟨some 7, .faddr (.tmp 3) 0, none⟩,
 ⟨some 8, .load (.tmp 7) 1 false, none⟩,
 ⟨some 9, .bin .eql (.tmp 6) (.tmp 8), none⟩,
 ⟨some 10, .mov (.tmp 9), none⟩,
 ⟨some 11, .faddr (.tmp 2) 1, (some (10, true))⟩,
 ⟨some 12, .load (.tmp 11) 1 false, (some (10, true))⟩,
 ⟨some 13, .faddr (.tmp 3) 1, (some (10, true))⟩,
 ⟨some 14, .load (.tmp 13) 1 false, (some (10, true))⟩,
 ⟨some 15, .bin .eql (.tmp 12) (.tmp 14), (some (10, true))⟩,
 ⟨some 16, .pick (.tmp 10) (.tmp 15) (.cst (.bool false)), none⟩,
 ⟨some 17, .mov (.tmp 16), none⟩,
 ⟨some 18, .faddr (.tmp 2) 2, (some (17, true))⟩,
 ⟨some 19, .load (.tmp 18) 1 false, (some (17, true))⟩,
 ⟨some 20, .faddr (.tmp 3) 2, (some (17, true))⟩,
 ⟨some 21, .load (.tmp 20) 1 false, (some (17, true))⟩,
 ⟨some 22, .bin .eql (.tmp 19) (.tmp 21), (some (17, true))⟩,
 ⟨some 23, .pick (.tmp 17) (.tmp 22) (.cst (.bool false)), none⟩,
 ⟨some 24, .mov (.tmp 23), none⟩,
 ⟨some 25, .faddr (.tmp 2) 3, (some (24, true))⟩,
 ⟨some 26, .load (.tmp 25) 1 false, (some (24, true))⟩,
 ⟨some 27, .faddr (.tmp 3) 3, (some (24, true))⟩,
 ⟨some 28, .load (.tmp 27) 1 false, (some (24, true))⟩,
 ⟨some 29, .bin .eql (.tmp 26) (.tmp 28), (some (24, true))⟩,
 ⟨some 30, .pick (.tmp 24) (.tmp 29) (.cst (.bool false)), none⟩,
 ⟨some 4, .own 30, none⟩] [])
  .ret))
/-- custos/custosref02.Check -/
def x90 : XFn := XFn.mk 42 [.tmp 2] (.seq (.region false [⟨some 1, .box (.tmp 0) 4, none⟩,
 ⟨some 2, .mov (.cst (.int .i64 0)), none⟩] [])
 (.seq (.seq (.region false [⟨some 4, .faddr (.tmp 1) 0, none⟩,
 ⟨some 5, .load (.tmp 4) 1 false, none⟩] [])
  (.block 0 (.seq (.region false [⟨some 7, .bin .eql (.tmp 5) (.cst (.int .i64 1)), none⟩,
 ⟨some 6, .own 7, none⟩] [])
  (.cond (.tmp 6) (.seq (.region false [⟨some 8, .faddr (.tmp 1) 2, none⟩,
 ⟨some 9, .load (.tmp 8) 1 false, none⟩,
 ⟨some 10, .bin .neq (.tmp 9) (.cst (.int .i64 0)), none⟩,
 ⟨some 11, .mov (.tmp 10), none⟩,
 ⟨some 12, .faddr (.tmp 1) 3, (some (11, false))⟩,
 ⟨some 13, .load (.tmp 12) 1 false, (some (11, false))⟩,
 ⟨some 14, .bin .neq (.tmp 13) (.cst (.str [])), (some (11, false))⟩,
 ⟨some 15, .pick (.tmp 11) (.cst (.bool true)) (.tmp 14), none⟩] [])
  (.cond (.tmp 15) (.seq (.region false [⟨some 2, .mov (.cst (.int .i64 20)), none⟩] [])
  .ret) .skip)) (.seq (.region false [⟨some 17, .bin .eql (.tmp 5) (.cst (.int .i64 2)), none⟩,
 ⟨some 16, .own 17, none⟩] [])
  (.cond (.tmp 16) (.seq (.region false [⟨some 18, .load (.tmp 1) 4 true, none⟩,
 ⟨some 19, .callq 107 [.tmp 18], none⟩,
 ⟨some 20, .callq 106 [.tmp 19], none⟩,
 ⟨some 3, .own 20, none⟩] [])
 (.seq (.region false [⟨some 21, .faddr (.tmp 1) 3, none⟩,
 ⟨some 22, .load (.tmp 21) 1 false, none⟩,
 ⟨some 23, .bin .neq (.tmp 22) (.cst (.str [])), none⟩,
 ⟨some 24, .mov (.tmp 23), none⟩,
 ⟨some 25, .mov (.tmp 3), (some (24, false))⟩,
 ⟨some 26, .not (.tmp 25), (some (24, false))⟩,
 ⟨some 27, .pick (.tmp 24) (.cst (.bool true)) (.tmp 26), none⟩] [])
  (.cond (.tmp 27) (.seq (.region false [⟨some 2, .mov (.cst (.int .i64 20)), none⟩] [])
  .ret) .skip))) (.seq (.region false [⟨some 29, .bin .eql (.tmp 5) (.cst (.int .i64 3)), none⟩,
 ⟨some 28, .own 29, none⟩] [])
  (.cond (.tmp 28) (.seq (.seq (.region false [⟨some 30, .faddr (.tmp 1) 1, none⟩,
 ⟨some 31, .load (.tmp 30) 1 false, none⟩,
 ⟨some 32, .bin .neq (.tmp 31) (.cst (.int .i64 0)), none⟩,
 ⟨some 33, .mov (.tmp 32), none⟩,
 ⟨some 34, .faddr (.tmp 1) 2, (some (33, false))⟩,
 ⟨some 35, .load (.tmp 34) 1 false, (some (33, false))⟩,
 ⟨some 36, .bin .neq (.tmp 35) (.cst (.int .i64 0)), (some (33, false))⟩,
 ⟨some 37, .pick (.tmp 33) (.cst (.bool true)) (.tmp 36), none⟩] [])
  (.cond (.tmp 37) (.seq (.region false [⟨some 2, .mov (.cst (.int .i64 20)), none⟩] [])
  .ret) .skip))
 (.seq (.region false [⟨some 38, .faddr (.tmp 1) 3, none⟩,
 ⟨some 39, .load (.tmp 38) 1 false, none⟩,
 ⟨some 40, .lens true (.tmp 39), none⟩,
 ⟨some 41, .bin .gtr (.tmp 40) (.cst (.int .i64 64)), none⟩] [])
  (.cond (.tmp 41) (.seq (.region false [⟨some 2, .mov (.cst (.int .i64 2)), none⟩] [])
  .ret) .skip))) (.seq (.region false [⟨some 2, .mov (.cst (.int .i64 20)), none⟩] [])
  .ret)))))))))
 (.seq (.region false [⟨some 2, .mov (.cst (.int .i64 0)), none⟩] [])
  .ret)))
/-- custos/value.Same -/
def x91 : XFn := XFn.mk 8 [.tmp 4] (.seq (.region false [⟨some 2, .box (.tmp 0) 4, none⟩,
 ⟨some 3, .box (.tmp 1) 4, none⟩,
 ⟨some 4, .mov (.cst (.bool false)), none⟩] [])
 (.seq (.region false [⟨some 5, .load (.tmp 2) 4 true, none⟩,
 ⟨some 6, .load (.tmp 3) 4 true, none⟩,
 ⟨some 7, .eqagg false [1, 1, 1, 2] (.tmp 5) (.tmp 6), none⟩,
 ⟨some 4, .own 7, none⟩] [])
  .ret))
def x92_r0 : XCode := .seq (.region false [⟨some 9, .bin .lss (.tmp 8) (.tmp 7), none⟩] [])
 (.seq (.cond (.tmp 9) .skip (.exit 0))
 (.seq (.block 1 (.seq (.region false [⟨some 10, .mov (.tmp 8), none⟩,
 ⟨some 5, .own 10, none⟩] [])
 (.seq (.region false [⟨some 11, .mov (.tmp 1), none⟩,
 ⟨some 12, .mov (.tmp 0), none⟩,
 ⟨some 13, .mov (.tmp 5), none⟩,
 ⟨some 14, .iaddr 1 (.tmp 12) (.tmp 13), none⟩,
 ⟨some 15, .load (.tmp 14) 1 false, none⟩,
 ⟨some 16, .calld (.tmp 11) [.tmp 15], none⟩] [])
  (.cond (.tmp 16) (.seq (.region false [⟨some 17, .mov (.tmp 5), none⟩,
 ⟨some 4, .own 17, none⟩] [])
  .ret) .skip))))
  (.region false [⟨some 18, .bin .add (.tmp 8) (.cst (.int .i64 1)), none⟩,
 ⟨some 8, .mov (.tmp 18), none⟩] [])))
def x92_l0 : XCode := x92_r0
/-- slices.IndexFunc[[]string,string] -/
def x92 : XFn := XFn.mk 19 [.tmp 4] (.seq (.region false [⟨some 4, .mov (.cst (.int .i64 0)), none⟩] [])
 (.seq (.seq (.region false [⟨some 6, .mov (.tmp 0), none⟩,
 ⟨some 7, .lens false (.tmp 6), none⟩,
 ⟨some 8, .mov (.cst (.int .i64 0)), none⟩] [])
  (.block 0 (.loop x92_l0)))
 (.seq (.region false [⟨some 4, .mov (.cst (.int .i64 (-1))), none⟩] [])
  .ret)))
def x93_r0 : XCode := .seq (.region false [⟨some 9, .bin .lss (.tmp 8) (.tmp 7), none⟩] [])
 (.seq (.cond (.tmp 9) .skip (.exit 0))
 (.seq (.block 1 (.seq (.region false [⟨some 10, .mov (.tmp 8), none⟩,
 ⟨some 5, .own 10, none⟩] [])
 (.seq (.region false [⟨some 11, .mov (.tmp 1), none⟩,
 ⟨some 12, .mov (.tmp 0), none⟩,
 ⟨some 13, .mov (.tmp 5), none⟩,
 ⟨some 14, .iaddr 1 (.tmp 12) (.tmp 13), none⟩,
 ⟨some 15, .load (.tmp 14) 1 false, none⟩,
 ⟨some 16, .bin .eql (.tmp 11) (.tmp 15), none⟩] [])
  (.cond (.tmp 16) (.seq (.region false [⟨some 17, .mov (.tmp 5), none⟩,
 ⟨some 4, .own 17, none⟩] [])
  .ret) .skip))))
  (.region false [⟨some 18, .bin .add (.tmp 8) (.cst (.int .i64 1)), none⟩,
 ⟨some 8, .mov (.tmp 18), none⟩] [])))
def x93_l0 : XCode := x93_r0
/-- slices.Index[[]string,string] -/
def x93 : XFn := XFn.mk 19 [.tmp 4] (.seq (.region false [⟨some 4, .mov (.cst (.int .i64 0)), none⟩] [])
 (.seq (.seq (.region false [⟨some 6, .mov (.tmp 0), none⟩,
 ⟨some 7, .lens false (.tmp 6), none⟩,
 ⟨some 8, .mov (.cst (.int .i64 0)), none⟩] [])
  (.block 0 (.loop x93_l0)))
 (.seq (.region false [⟨some 4, .mov (.cst (.int .i64 (-1))), none⟩] [])
  .ret)))
/-- slices.Clone[[]custos/api.Formula,custos/api.Formula] -/
def x96 : XFn := XFn.mk 8 [.tmp 2] (.seq (.region false [⟨some 2, .mov (.cst .nilsl), none⟩] [])
 (.seq (.seq (.region false [⟨some 3, .mov (.tmp 0), none⟩,
 ⟨some 4, .eqnil 1 false (.tmp 3), none⟩] [])
  (.cond (.tmp 4) (.seq (.region false [⟨some 2, .mov (.cst .nilsl), none⟩] [])
  .ret) .skip))
 (.seq (.region false [⟨some 5, .bslice 10 [] [], none⟩,
 ⟨some 6, .mov (.tmp 0), none⟩,
 ⟨some 7, .app false 10 152 5 (.tmp 6), none⟩,
 ⟨some 2, .own 7, none⟩] [])
  .ret)))
/-- custos/ast.form -/
def x97 : XFn := XFn.mk 39 [.tmp 2, .tmp 3, .tmp 4, .tmp 5, .tmp 6] (.seq (.region false [⟨some 2, .mov (.cst (.int .i64 0)), none⟩,
 ⟨some 3, .mov (.cst (.int .i64 0)), none⟩,
 ⟨some 4, .mov (.cst (.int .i64 0)), none⟩,
 ⟨some 5, .mov (.cst (.int .i64 0)), none⟩,
 ⟨some 6, .mov (.cst (.int .i64 0)), none⟩] [])
 (.seq (.seq (.region false [⟨some 7, .mov (.tmp 0), none⟩] [])
  (.block 0 (.seq (.region false [⟨some 9, .bin .eql (.tmp 7) (.cst (.int .i64 3)), none⟩,
 ⟨some 8, .own 9, none⟩] [])
  (.cond (.tmp 8) (.seq (.region false [⟨some 2, .mov (.cst (.int .i64 1)), none⟩,
 ⟨some 3, .mov (.cst (.int .i64 0)), none⟩,
 ⟨some 4, .mov (.cst (.int .i64 (-2))), none⟩,
 ⟨some 5, .mov (.cst (.int .i64 0)), none⟩,
 ⟨some 6, .mov (.cst (.int .i64 0)), none⟩] [])
  .ret) (.seq (.seq (.region false [⟨some 11, .bin .eql (.tmp 7) (.cst (.int .i64 4)), none⟩,
 ⟨some 10, .own 11, none⟩] [])
  (.cond (.tmp 10) .skip (.seq (.region false [⟨some 12, .bin .eql (.tmp 7) (.cst (.int .i64 5)), none⟩,
 ⟨some 10, .own 12, none⟩] [])
  (.cond (.tmp 10) .skip (.region false [⟨some 13, .bin .eql (.tmp 7) (.cst (.int .i64 6)), none⟩,
 ⟨some 10, .own 13, none⟩] [])))))
  (.cond (.tmp 10) (.seq (.region false [⟨some 2, .mov (.cst (.int .i64 0)), none⟩,
 ⟨some 3, .mov (.cst (.int .i64 0)), none⟩,
 ⟨some 4, .mov (.cst (.int .i64 2)), none⟩,
 ⟨some 5, .mov (.cst (.int .i64 0)), none⟩,
 ⟨some 6, .mov (.cst (.int .i64 0)), none⟩] [])
  .ret) (.seq (.region false [⟨some 15, .bin .eql (.tmp 7) (.cst (.int .i64 7)), none⟩,
 ⟨some 14, .own 15, none⟩] [])
  (.cond (.tmp 14) (.seq (.region false [⟨some 2, .mov (.cst (.int .i64 0)), none⟩,
 ⟨some 3, .mov (.cst (.int .i64 0)), none⟩,
 ⟨some 4, .mov (.cst (.int .i64 0)), none⟩,
 ⟨some 5, .mov (.cst (.int .i64 1)), none⟩,
 ⟨some 6, .mov (.cst (.int .i64 0)), none⟩] [])
  .ret) (.seq (.seq (.region false [⟨some 17, .bin .eql (.tmp 7) (.cst (.int .i64 8)), none⟩,
 ⟨some 16, .own 17, none⟩] [])
  (.cond (.tmp 16) .skip (.region false [⟨some 18, .bin .eql (.tmp 7) (.cst (.int .i64 9)), none⟩,
 ⟨some 16, .own 18, none⟩] [])))
  (.cond (.tmp 16) (.seq (.region false [⟨some 2, .mov (.cst (.int .i64 0)), none⟩,
 ⟨some 3, .mov (.cst (.int .i64 0)), none⟩,
 ⟨some 4, .mov (.cst (.int .i64 0)), none⟩,
 ⟨some 5, .mov (.cst (.int .i64 2)), none⟩,
 ⟨some 6, .mov (.cst (.int .i64 0)), none⟩] [])
  .ret) (.seq (.region false [⟨some 20, .bin .eql (.tmp 7) (.cst (.int .i64 10)), none⟩,
 ⟨some 19, .own 20, none⟩] [])
  (.cond (.tmp 19) (.seq (.region false [⟨some 2, .mov (.cst (.int .i64 0)), none⟩,
 ⟨some 3, .mov (.cst (.int .i64 (-1))), none⟩,
 ⟨some 4, .mov (.cst (.int .i64 0)), none⟩,
 ⟨some 5, .mov (.cst (.int .i64 1)), none⟩,
 ⟨some 6, .mov (.cst (.int .i64 0)), none⟩] [])
  .ret) (.seq (.seq (.region false [⟨some 22, .bin .eql (.tmp 7) (.cst (.int .i64 11)), none⟩,
 ⟨some 21, .own 22, none⟩] [])
  (.cond (.tmp 21) .skip (.seq (.region false [⟨some 23, .bin .eql (.tmp 7) (.cst (.int .i64 12)), none⟩,
 ⟨some 21, .own 23, none⟩] [])
  (.cond (.tmp 21) .skip (.seq (.region false [⟨some 24, .bin .eql (.tmp 7) (.cst (.int .i64 13)), none⟩,
 ⟨some 21, .own 24, none⟩] [])
  (.cond (.tmp 21) .skip (.region false [⟨some 25, .bin .eql (.tmp 7) (.cst (.int .i64 14)), none⟩,
 ⟨some 21, .own 25, none⟩] [])))))))
  (.cond (.tmp 21) (.seq (.region false [⟨some 2, .mov (.cst (.int .i64 4)), none⟩,
 ⟨some 3, .mov (.cst (.int .i64 0)), none⟩,
 ⟨some 4, .mov (.cst (.int .i64 0)), none⟩,
 ⟨some 5, .mov (.cst (.int .i64 1)), none⟩,
 ⟨some 6, .mov (.cst (.int .i64 0)), none⟩] [])
  .ret) (.seq (.seq (.region false [⟨some 27, .bin .eql (.tmp 7) (.cst (.int .i64 15)), none⟩,
 ⟨some 26, .own 27, none⟩] [])
  (.cond (.tmp 26) .skip (.region false [⟨some 28, .bin .eql (.tmp 7) (.cst (.int .i64 16)), none⟩,
 ⟨some 26, .own 28, none⟩] [])))
  (.cond (.tmp 26) (.seq (.region false [⟨some 2, .mov (.cst (.int .i64 4)), none⟩,
 ⟨some 3, .mov (.cst (.int .i64 0)), none⟩,
 ⟨some 4, .mov (.cst (.int .i64 0)), none⟩,
 ⟨some 5, .mov (.cst (.int .i64 2)), none⟩,
 ⟨some 6, .mov (.cst (.int .i64 0)), none⟩] [])
  .ret) (.seq (.seq (.region false [⟨some 30, .bin .eql (.tmp 7) (.cst (.int .i64 17)), none⟩,
 ⟨some 29, .own 30, none⟩] [])
  (.cond (.tmp 29) .skip (.region false [⟨some 31, .bin .eql (.tmp 7) (.cst (.int .i64 18)), none⟩,
 ⟨some 29, .own 31, none⟩] [])))
  (.cond (.tmp 29) (.seq (.region false [⟨some 2, .mov (.cst (.int .i64 4)), none⟩,
 ⟨some 3, .mov (.cst (.int .i64 0)), none⟩,
 ⟨some 4, .mov (.cst (.int .i64 0)), none⟩,
 ⟨some 5, .mov (.cst (.int .i64 0)), none⟩,
 ⟨some 6, .mov (.cst (.int .i64 1)), none⟩] [])
  .ret) (.seq (.region false [⟨some 33, .bin .eql (.tmp 7) (.cst (.int .i64 19)), none⟩,
 ⟨some 32, .own 33, none⟩] [])
  (.cond (.tmp 32) (.seq (.region false [⟨some 2, .mov (.cst (.int .i64 3)), none⟩,
 ⟨some 3, .mov (.cst (.int .i64 (-1))), none⟩,
 ⟨some 4, .mov (.cst (.int .i64 0)), none⟩,
 ⟨some 5, .mov (.cst (.int .i64 1)), none⟩,
 ⟨some 6, .mov (.cst (.int .i64 0)), none⟩] [])
  .ret) (.seq (.seq (.region false [⟨some 35, .bin .eql (.tmp 7) (.cst (.int .i64 20)), none⟩,
 ⟨some 34, .own 35, none⟩] [])
  (.cond (.tmp 34) .skip (.region false [⟨some 36, .bin .eql (.tmp 7) (.cst (.int .i64 21)), none⟩,
 ⟨some 34, .own 36, none⟩] [])))
  (.cond (.tmp 34) (.seq (.region false [⟨some 2, .mov (.cst (.int .i64 1)), none⟩,
 ⟨some 3, .mov (.cst (.int .i64 (-2))), none⟩,
 ⟨some 4, .mov (.cst (.int .i64 0)), none⟩,
 ⟨some 5, .mov (.cst (.int .i64 2)), none⟩,
 ⟨some 6, .mov (.cst (.int .i64 0)), none⟩] [])
  .ret) (.seq (.region false [⟨some 38, .bin .eql (.tmp 7) (.cst (.int .i64 22)), none⟩,
 ⟨some 37, .own 38, none⟩] [])
  (.cond (.tmp 37) (.seq (.region false [⟨some 2, .mov (.cst (.int .i64 0)), none⟩,
 ⟨some 3, .mov (.cst (.int .i64 0)), none⟩,
 ⟨some 4, .mov (.cst (.int .i64 0)), none⟩,
 ⟨some 5, .mov (.cst (.int .i64 (-1))), none⟩,
 ⟨some 6, .mov (.cst (.int .i64 0)), none⟩] [])
  .ret) .skip))))))))))))))))))))))))
 (.seq (.region false [⟨some 2, .mov (.cst (.int .i64 0)), none⟩,
 ⟨some 3, .mov (.cst (.int .i64 0)), none⟩,
 ⟨some 4, .mov (.cst (.int .i64 0)), none⟩,
 ⟨some 5, .mov (.cst (.int .i64 0)), none⟩,
 ⟨some 6, .mov (.cst (.int .i64 0)), none⟩] [])
  .ret)))
def x98_r0 : XCode := .seq (.seq (.region false [⟨some 6, .mov (.tmp 3), none⟩,
 ⟨some 7, .mov (.tmp 0), none⟩,
 ⟨some 8, .lens false (.tmp 7), none⟩,
 ⟨some 9, .bin .lss (.tmp 6) (.tmp 8), none⟩] [])
  (.cond (.tmp 9) .skip (.exit 0)))
 (.seq (.block 1 (.seq (.region true [⟨some 12, .mov (.tmp 0), none⟩,
 ⟨some 13, .mov (.tmp 3), none⟩,
 ⟨some 14, .iaddr 1 (.tmp 12) (.tmp 13), none⟩,
 ⟨some 15, .load (.tmp 14) 1 false, none⟩,
 ⟨some 16, .mov (.tmp 0), none⟩,
 ⟨some 17, .mov (.tmp 3), none⟩,
 ⟨some 18, .bin .add (.tmp 17) (.cst (.int .i64 1)), none⟩,
 ⟨some 19, .iaddr 1 (.tmp 16) (.tmp 18), none⟩,
 ⟨some 20, .load (.tmp 19) 1 false, none⟩,
 ⟨some 4, .own 15, none⟩,
 ⟨some 5, .own 20, none⟩] [])
 (.seq (.region false [⟨some 21, .mov (.tmp 5), none⟩,
 ⟨some 22, .bin .geq (.tmp 21) (.cst (.int .i64 0)), none⟩,
 ⟨some 23, .mov (.tmp 22), none⟩,
 ⟨some 24, .mov (.tmp 4), (some (23, true))⟩,
 ⟨some 25, .mov (.tmp 5), (some (23, true))⟩,
 ⟨some 26, .bin .neq (.tmp 24) (.tmp 25), (some (23, true))⟩,
 ⟨some 27, .pick (.tmp 23) (.tmp 26) (.cst (.bool false)), none⟩,
 ⟨some 28, .mov (.tmp 27), none⟩,
 ⟨some 29, .mov (.tmp 5), (some (28, false))⟩,
 ⟨some 30, .bin .eql (.tmp 29) (.cst (.int .i64 (-1))), (some (28, false))⟩,
 ⟨some 31, .mov (.tmp 30), (some (28, false))⟩,
 ⟨some 32, .mov (.tmp 4), (some (31, true))⟩,
 ⟨some 33, .bin .eql (.tmp 32) (.cst (.int .i64 0)), (some (31, true))⟩,
 ⟨some 34, .pick (.tmp 31) (.tmp 33) (.cst (.bool false)), (some (28, false))⟩,
 ⟨some 35, .pick (.tmp 28) (.cst (.bool true)) (.tmp 34), none⟩] [])
  (.cond (.tmp 35) (.seq (.region false [⟨some 2, .mov (.cst (.bool false)), none⟩] [])
  .ret) .skip))))
  (.region false [⟨some 10, .mov (.tmp 3), none⟩,
 ⟨some 11, .bin .add (.tmp 10) (.cst (.int .i64 2)), none⟩,
 ⟨some 3, .own 11, none⟩] []))
def x98_l0 : XCode := x98_r0
/-- custos/ast.count -/
def x98 : XFn := XFn.mk 36 [.tmp 2] (.seq (.region false [⟨some 2, .mov (.cst (.bool false)), none⟩] [])
 (.seq (.seq (.region false [⟨some 3, .mov (.cst (.int .i64 0)), none⟩] [])
  (.block 0 (.loop x98_l0)))
 (.seq (.region false [⟨some 2, .mov (.cst (.bool true)), none⟩] [])
  .ret)))
/-- slices.ContainsFunc[[]string,string] -/
def x99 : XFn := XFn.mk 9 [.tmp 4] (.seq (.region false [⟨some 4, .mov (.cst (.bool false)), none⟩] [])
 (.seq (.region false [⟨some 5, .mov (.tmp 0), none⟩,
 ⟨some 6, .mov (.tmp 1), none⟩,
 ⟨some 7, .callw 92 [.tmp 5, .tmp 6], none⟩,
 ⟨some 8, .bin .geq (.tmp 7) (.cst (.int .i64 0)), none⟩,
 ⟨some 4, .own 8, none⟩] [])
  .ret))
/-- custos/ast.formed$1 -/
def x100 : XFn := XFn.mk 6 [.tmp 2] (.seq (.region false [⟨some 2, .mov (.cst (.bool false)), none⟩] [])
 (.seq (.region false [⟨some 3, .mov (.tmp 0), none⟩,
 ⟨some 4, .callq 41 [.tmp 3], none⟩,
 ⟨some 5, .not (.tmp 4), none⟩,
 ⟨some 2, .own 5, none⟩] [])
  .ret))
/-- custos/ast.interval -/
def x101 : XFn := XFn.mk 33 [.tmp 2] (.seq (.region false [⟨some 1, .box (.tmp 0) 3, none⟩,
 ⟨some 2, .mov (.cst (.bool false)), none⟩] [])
 (.seq (.seq (.region false [⟨some 3, .faddr (.tmp 1) 2, none⟩,
 ⟨some 4, .load (.tmp 3) 1 false, none⟩] [])
  (.cond (.tmp 4) (.seq (.region false [⟨some 5, .faddr (.tmp 1) 0, none⟩,
 ⟨some 6, .load (.tmp 5) 1 false, none⟩,
 ⟨some 7, .bin .geq (.tmp 6) (.cst (.int .i64 0)), none⟩,
 ⟨some 8, .mov (.tmp 7), none⟩,
 ⟨some 9, .faddr (.tmp 1) 0, (some (8, true))⟩,
 ⟨some 10, .load (.tmp 9) 1 false, (some (8, true))⟩,
 ⟨some 11, .bin .leq (.tmp 10) (.cst (.int .i64 1099511627776)), (some (8, true))⟩,
 ⟨some 12, .pick (.tmp 8) (.tmp 11) (.cst (.bool false)), none⟩,
 ⟨some 13, .mov (.tmp 12), none⟩,
 ⟨some 14, .faddr (.tmp 1) 1, (some (13, true))⟩,
 ⟨some 15, .load (.tmp 14) 1 false, (some (13, true))⟩,
 ⟨some 16, .bin .eql (.tmp 15) (.cst (.int .i64 0)), (some (13, true))⟩,
 ⟨some 17, .pick (.tmp 13) (.tmp 16) (.cst (.bool false)), none⟩,
 ⟨some 2, .own 17, none⟩] [])
  .ret) .skip))
 (.seq (.region false [⟨some 18, .faddr (.tmp 1) 0, none⟩,
 ⟨some 19, .load (.tmp 18) 1 false, none⟩,
 ⟨some 20, .bin .geq (.tmp 19) (.cst (.int .i64 0)), none⟩,
 ⟨some 21, .mov (.tmp 20), none⟩,
 ⟨some 22, .faddr (.tmp 1) 0, (some (21, true))⟩,
 ⟨some 23, .load (.tmp 22) 1 false, (some (21, true))⟩,
 ⟨some 24, .faddr (.tmp 1) 1, (some (21, true))⟩,
 ⟨some 25, .load (.tmp 24) 1 false, (some (21, true))⟩,
 ⟨some 26, .bin .leq (.tmp 23) (.tmp 25), (some (21, true))⟩,
 ⟨some 27, .pick (.tmp 21) (.tmp 26) (.cst (.bool false)), none⟩,
 ⟨some 28, .mov (.tmp 27), none⟩,
 ⟨some 29, .faddr (.tmp 1) 1, (some (28, true))⟩,
 ⟨some 30, .load (.tmp 29) 1 false, (some (28, true))⟩,
 ⟨some 31, .bin .leq (.tmp 30) (.cst (.int .i64 1099511627776)), (some (28, true))⟩,
 ⟨some 32, .pick (.tmp 28) (.tmp 31) (.cst (.bool false)), none⟩,
 ⟨some 2, .own 32, none⟩] [])
  .ret)))
/-- custos/ast.twice$1 -/
def x102 : XFn := XFn.mk 11 [.tmp 3] (.seq (.region false [⟨some 3, .mov (.cst (.bool false)), none⟩] [])
 (.seq (.region true [⟨some 4, .load (.tmp 1) 1 false, none⟩,
 ⟨some 5, .mov (.tmp 0), none⟩,
 ⟨some 6, .callq 93 [.tmp 4, .tmp 5], none⟩,
 ⟨some 7, .load (.tmp 1) 1 false, none⟩,
 ⟨some 8, .mov (.tmp 0), none⟩,
 ⟨some 9, .callq 103 [.tmp 7, .tmp 8], none⟩,
 ⟨some 10, .bin .neq (.tmp 6) (.tmp 9), none⟩,
 ⟨some 3, .own 10, none⟩] [])
  .ret))
def x103_r0 : XCode := .seq (.seq (.region false [⟨some 9, .mov (.tmp 5), none⟩,
 ⟨some 10, .bin .geq (.tmp 9) (.cst (.int .i64 0)), none⟩] [])
  (.cond (.tmp 10) .skip (.exit 0)))
 (.seq (.block 1 (.seq (.region false [⟨some 13, .mov (.tmp 0), none⟩,
 ⟨some 14, .mov (.tmp 5), none⟩,
 ⟨some 15, .iaddr 1 (.tmp 13) (.tmp 14), none⟩,
 ⟨some 16, .load (.tmp 15) 1 false, none⟩,
 ⟨some 17, .mov (.tmp 1), none⟩,
 ⟨some 18, .bin .eql (.tmp 16) (.tmp 17), none⟩] [])
  (.cond (.tmp 18) (.seq (.region false [⟨some 19, .mov (.tmp 5), none⟩,
 ⟨some 4, .own 19, none⟩] [])
  .ret) .skip)))
  (.region false [⟨some 11, .mov (.tmp 5), none⟩,
 ⟨some 12, .bin .sub (.tmp 11) (.cst (.int .i64 1)), none⟩,
 ⟨some 5, .own 12, none⟩] []))
def x103_l0 : XCode := x103_r0
/-- custos/ast.lastIndex -/
def x103 : XFn := XFn.mk 20 [.tmp 4] (.seq (.region false [⟨some 4, .mov (.cst (.int .i64 0)), none⟩] [])
 (.seq (.seq (.region false [⟨some 6, .mov (.tmp 0), none⟩,
 ⟨some 7, .lens false (.tmp 6), none⟩,
 ⟨some 8, .bin .sub (.tmp 7) (.cst (.int .i64 1)), none⟩,
 ⟨some 5, .own 8, none⟩] [])
  (.block 0 (.loop x103_l0)))
 (.seq (.region false [⟨some 4, .mov (.cst (.int .i64 (-1))), none⟩] [])
  .ret)))
/-- custos/value.Check -/
def x104 : XFn := XFn.mk 58 [.tmp 2] (.seq (.region false [⟨some 1, .box (.tmp 0) 4, none⟩,
 ⟨some 2, .mov (.cst (.int .i64 0)), none⟩] [])
 (.seq (.region false [⟨some 3, .mov (.cst (.bool false)), none⟩] [])
 (.seq (.seq (.region false [⟨some 6, .faddr (.tmp 1) 0, none⟩,
 ⟨some 7, .load (.tmp 6) 1 false, none⟩] [])
  (.block 0 (.seq (.region false [⟨some 9, .bin .eql (.tmp 7) (.cst (.int .i64 1)), none⟩,
 ⟨some 8, .own 9, none⟩] [])
  (.cond (.tmp 8) (.region false [⟨some 10, .faddr (.tmp 1) 2, none⟩,
 ⟨some 11, .load (.tmp 10) 1 false, none⟩,
 ⟨some 12, .bin .neq (.tmp 11) (.cst (.int .i64 0)), none⟩,
 ⟨some 13, .mov (.tmp 12), none⟩,
 ⟨some 14, .faddr (.tmp 1) 3, (some (13, false))⟩,
 ⟨some 15, .load (.tmp 14) 1 false, (some (13, false))⟩,
 ⟨some 16, .bin .neq (.tmp 15) (.cst (.str [])), (some (13, false))⟩,
 ⟨some 17, .pick (.tmp 13) (.cst (.bool true)) (.tmp 16), none⟩,
 ⟨some 3, .own 17, none⟩] []) (.seq (.region false [⟨some 19, .bin .eql (.tmp 7) (.cst (.int .i64 2)), none⟩,
 ⟨some 18, .own 19, none⟩] [])
  (.cond (.tmp 18) (.seq (.region false [⟨some 21, .faddr (.tmp 1) 1, none⟩,
 ⟨some 22, .load (.tmp 21) 1 false, none⟩,
 ⟨some 23, .faddr (.tmp 1) 2, none⟩,
 ⟨some 24, .load (.tmp 23) 1 false, none⟩,
 ⟨some 25, .callq 119 [.tmp 22, .tmp 24], none⟩,
 ⟨some 20, .mov (.tmp 25), none⟩,
 ⟨some 26, .ext 20 0, none⟩,
 ⟨some 27, .ext 20 1, none⟩,
 ⟨some 4, .alloc [.int .i64 0, .int .i64 0], none⟩,
 ⟨none, .store (.tmp 4) (.tmp 26) 2, none⟩,
 ⟨some 5, .own 27, none⟩] [])
  (.region true [⟨some 28, .faddr (.tmp 1) 3, none⟩,
 ⟨some 29, .load (.tmp 28) 1 false, none⟩,
 ⟨some 30, .bin .neq (.tmp 29) (.cst (.str [])), none⟩,
 ⟨some 31, .mov (.tmp 30), none⟩,
 ⟨some 32, .mov (.tmp 5), (some (31, false))⟩,
 ⟨some 33, .bin .neq (.tmp 32) (.cst (.int .i64 0)), (some (31, false))⟩,
 ⟨some 34, .pick (.tmp 31) (.cst (.bool true)) (.tmp 33), none⟩,
 ⟨some 35, .mov (.tmp 34), none⟩,
 ⟨some 36, .load (.tmp 4) 2 true, (some (35, false))⟩,
 ⟨some 37, .load (.tmp 1) 4 true, (some (35, false))⟩,
 ⟨some 38, .callq 120 [.tmp 37], (some (35, false))⟩,
 ⟨some 39, .eqagg true [1, 1] (.tmp 36) (.tmp 38), (some (35, false))⟩,
 ⟨some 40, .pick (.tmp 35) (.cst (.bool true)) (.tmp 39), none⟩,
 ⟨some 3, .own 40, none⟩] [])) (.seq (.region false [⟨some 42, .bin .eql (.tmp 7) (.cst (.int .i64 3)), none⟩,
 ⟨some 41, .own 42, none⟩] [])
  (.cond (.tmp 41) (.region false [⟨some 43, .faddr (.tmp 1) 1, none⟩,
 ⟨some 44, .load (.tmp 43) 1 false, none⟩,
 ⟨some 45, .bin .neq (.tmp 44) (.cst (.int .i64 0)), none⟩,
 ⟨some 46, .mov (.tmp 45), none⟩,
 ⟨some 47, .faddr (.tmp 1) 2, (some (46, false))⟩,
 ⟨some 48, .load (.tmp 47) 1 false, (some (46, false))⟩,
 ⟨some 49, .bin .neq (.tmp 48) (.cst (.int .i64 0)), (some (46, false))⟩,
 ⟨some 50, .pick (.tmp 46) (.cst (.bool true)) (.tmp 49), none⟩,
 ⟨some 3, .own 50, none⟩] []) (.region false [⟨some 3, .mov (.cst (.bool true)), none⟩] [])))))))))
 (.seq (.block 1 (.seq (.region false [⟨some 52, .mov (.tmp 3), none⟩,
 ⟨some 51, .own 52, none⟩] [])
  (.cond (.tmp 51) (.seq (.region false [⟨some 2, .mov (.cst (.int .i64 20)), none⟩] [])
  .ret) (.seq (.region false [⟨some 54, .faddr (.tmp 1) 3, none⟩,
 ⟨some 55, .load (.tmp 54) 1 false, none⟩,
 ⟨some 56, .lens true (.tmp 55), none⟩,
 ⟨some 57, .bin .gtr (.tmp 56) (.cst (.int .i64 64)), none⟩,
 ⟨some 53, .own 57, none⟩] [])
  (.cond (.tmp 53) (.seq (.region false [⟨some 2, .mov (.cst (.int .i64 2)), none⟩] [])
  .ret) .skip)))))
 (.seq (.region false [⟨some 2, .mov (.cst (.int .i64 0)), none⟩] [])
  .ret)))))
/-- custos/custosref06.words -/
def x105 : XFn := XFn.mk 2 [.tmp 0] (.seq (.region false [⟨some 0, .mov (.cst .nilsl), none⟩] [])
 (.seq (.region false [⟨some 1, .bslice 1 [.str [], .str [], .str [], .str [], .str [], .str [], .str [], .str [], .str [], .str [], .str [], .str [], .str [], .str [], .str [], .str [], .str [], .str [], .str [], .str [], .str [], .str [], .str []] [(0, 1, .cst (.str [116, 114, 117, 101])), (1, 1, .cst (.str [102, 97, 108, 115, 101])), (2, 1, .cst (.str [110, 111, 116])), (3, 1, .cst (.str [97, 110, 100])), (4, 1, .cst (.str [111, 114])), (5, 1, .cst (.str [101, 120, 105, 115, 116, 115])), (6, 1, .cst (.str [112, 114, 101, 118])), (7, 1, .cst (.str [110, 101, 120, 116])), (8, 1, .cst (.str [111, 110, 99, 101])), (9, 1, .cst (.str [115, 111, 111, 110])), (10, 1, .cst (.str [115, 105, 110, 99, 101])), (11, 1, .cst (.str [117, 110, 116, 105, 108])), (12, 1, .cst (.str [98, 101, 102, 111, 114, 101])), (13, 1, .cst (.str [97, 102, 116, 101, 114])), (14, 1, .cst (.str [97, 103, 103])), (15, 1, .cst (.str [108, 101, 116])), (16, 1, .cst (.str [108, 101, 116, 112, 97, 115, 116])), (17, 1, .cst (.str [106, 111, 105, 110])), (18, 1, .cst (.str [97, 110, 121])), (19, 1, .cst (.str [116, 101, 115, 116])), (20, 1, .cst (.str [97, 108, 116])), (21, 1, .cst (.str [115, 101, 113])), (22, 1, .cst (.str [115, 116, 97, 114]))], none⟩,
 ⟨some 0, .own 1, none⟩] [])
  .ret))
/-- custos/custosref01.MayBe -/
def x106 : XFn := XFn.mk 23 [.tmp 2] (.seq (.region false [⟨some 1, .box (.tmp 0) 2, none⟩,
 ⟨some 2, .mov (.cst (.bool false)), none⟩] [])
 (.seq (.seq (.region false [⟨some 5, .faddr (.tmp 1) 1, none⟩,
 ⟨some 6, .load (.tmp 5) 1 false, none⟩,
 ⟨some 7, .bin .leq (.tmp 6) (.cst (.int .i64 0)), none⟩] [])
  (.cond (.tmp 7) (.seq (.region false [⟨some 2, .mov (.cst (.bool false)), none⟩] [])
  .ret) .skip))
 (.seq (.region false [⟨some 9, .faddr (.tmp 1) 0, none⟩,
 ⟨some 10, .load (.tmp 9) 1 false, none⟩,
 ⟨some 11, .faddr (.tmp 1) 1, none⟩,
 ⟨some 12, .load (.tmp 11) 1 false, none⟩,
 ⟨some 13, .callq 121 [.tmp 10, .tmp 12], none⟩,
 ⟨some 8, .mov (.tmp 13), none⟩,
 ⟨some 14, .ext 8 0, none⟩,
 ⟨some 15, .ext 8 1, none⟩,
 ⟨some 3, .alloc [.int .i64 0, .int .i64 0], none⟩,
 ⟨none, .store (.tmp 3) (.tmp 14) 2, none⟩,
 ⟨some 4, .own 15, none⟩] [])
 (.seq (.region false [⟨some 16, .mov (.tmp 4), none⟩,
 ⟨some 17, .bin .eql (.tmp 16) (.cst (.int .i64 0)), none⟩,
 ⟨some 18, .mov (.tmp 17), none⟩,
 ⟨some 19, .load (.tmp 3) 2 true, (some (18, true))⟩,
 ⟨some 20, .load (.tmp 1) 2 true, (some (18, true))⟩,
 ⟨some 21, .eqagg false [1, 1] (.tmp 19) (.tmp 20), (some (18, true))⟩,
 ⟨some 22, .pick (.tmp 18) (.tmp 21) (.cst (.bool false)), none⟩,
 ⟨some 2, .own 22, none⟩] [])
  .ret))))
/-- custos/custosref02.fraction -/
def x107 : XFn := XFn.mk 8 [.cell 2 2 true] (.seq (.region false [⟨some 1, .box (.tmp 0) 4, none⟩,
 ⟨some 2, .alloc [.int .i64 0, .int .i64 0], none⟩] [])
 (.seq (.region false [⟨some 3, .faddr (.tmp 1) 1, none⟩,
 ⟨some 4, .load (.tmp 3) 1 false, none⟩,
 ⟨some 5, .faddr (.tmp 1) 2, none⟩,
 ⟨some 6, .load (.tmp 5) 1 false, none⟩,
 ⟨some 7, .build [.int .i64 0, .int .i64 0] [(0, 1, .tmp 4), (1, 1, .tmp 6)], none⟩,
 ⟨none, .store (.tmp 2) (.tmp 7) 2, none⟩] [])
  .ret))
/-- custos/rat.Of -/
def x119 : XFn := XFn.mk 64 [.cell 4 2 true, .tmp 5] (.seq (.region false [⟨some 4, .alloc [.int .i64 0, .int .i64 0], none⟩,
 ⟨some 5, .mov (.cst (.int .i64 0)), none⟩] [])
 (.seq (.seq (.region false [⟨some 10, .mov (.tmp 1), none⟩,
 ⟨some 11, .bin .eql (.tmp 10) (.cst (.int .i64 0)), none⟩] [])
  (.cond (.tmp 11) (.seq (.region false [⟨some 12, .build [.int .i64 0, .int .i64 0] [], none⟩,
 ⟨none, .store (.tmp 4) (.tmp 12) 2, none⟩,
 ⟨some 5, .mov (.cst (.int .i64 11)), none⟩] [])
  .ret) .skip))
 (.seq (.region false [⟨some 13, .mov (.tmp 0), none⟩,
 ⟨some 14, .callq 129 [.tmp 13], none⟩,
 ⟨some 15, .mov (.tmp 1), none⟩,
 ⟨some 16, .callq 129 [.tmp 15], none⟩,
 ⟨some 17, .callq 128 [.tmp 14, .tmp 16], none⟩,
 ⟨some 6, .own 17, none⟩] [])
 (.seq (.region true [⟨some 18, .mov (.tmp 0), none⟩,
 ⟨some 19, .callq 129 [.tmp 18], none⟩,
 ⟨some 20, .mov (.tmp 6), none⟩,
 ⟨some 21, .bin .quo (.tmp 19) (.tmp 20), none⟩,
 ⟨some 22, .mov (.tmp 1), none⟩,
 ⟨some 23, .callq 129 [.tmp 22], none⟩,
 ⟨some 24, .mov (.tmp 6), none⟩,
 ⟨some 25, .bin .quo (.tmp 23) (.tmp 24), none⟩,
 ⟨some 7, .own 21, none⟩,
 ⟨some 8, .own 25, none⟩] [])
 (.seq (.region false [⟨some 26, .mov (.tmp 0), none⟩,
 ⟨some 27, .bin .neq (.tmp 26) (.cst (.int .i64 0)), none⟩,
 ⟨some 28, .mov (.tmp 27), none⟩,
 ⟨some 29, .mov (.tmp 0), (some (28, true))⟩,
 ⟨some 30, .bin .lss (.tmp 29) (.cst (.int .i64 0)), (some (28, true))⟩,
 ⟨some 31, .mov (.tmp 1), (some (28, true))⟩,
 ⟨some 32, .bin .lss (.tmp 31) (.cst (.int .i64 0)), (some (28, true))⟩,
 ⟨some 33, .beq true (.tmp 30) (.tmp 32), (some (28, true))⟩,
 ⟨some 34, .pick (.tmp 28) (.tmp 33) (.cst (.bool false)), none⟩,
 ⟨some 9, .own 34, none⟩] [])
 (.seq (.seq (.region false [⟨some 35, .mov (.tmp 8), none⟩,
 ⟨some 36, .bin .gtr (.tmp 35) (.cst (.int .u64 9223372036854775807)), none⟩,
 ⟨some 37, .mov (.tmp 36), none⟩,
 ⟨some 38, .mov (.tmp 7), (some (37, false))⟩,
 ⟨some 39, .bin .gtr (.tmp 38) (.cst (.int .u64 9223372036854775808)), (some (37, false))⟩,
 ⟨some 40, .pick (.tmp 37) (.cst (.bool true)) (.tmp 39), none⟩,
 ⟨some 41, .mov (.tmp 40), none⟩,
 ⟨some 42, .mov (.tmp 7), (some (41, false))⟩,
 ⟨some 43, .bin .eql (.tmp 42) (.cst (.int .u64 9223372036854775808)), (some (41, false))⟩,
 ⟨some 44, .mov (.tmp 43), (some (41, false))⟩,
 ⟨some 45, .mov (.tmp 9), (some (44, true))⟩,
 ⟨some 46, .not (.tmp 45), (some (44, true))⟩,
 ⟨some 47, .pick (.tmp 44) (.tmp 46) (.cst (.bool false)), (some (41, false))⟩,
 ⟨some 48, .pick (.tmp 41) (.cst (.bool true)) (.tmp 47), none⟩] [])
  (.cond (.tmp 48) (.seq (.region false [⟨some 49, .build [.int .i64 0, .int .i64 0] [], none⟩,
 ⟨none, .store (.tmp 4) (.tmp 49) 2, none⟩,
 ⟨some 5, .mov (.cst (.int .i64 10)), none⟩] [])
  .ret) .skip))
 (.seq (.seq (.region false [⟨some 50, .mov (.tmp 9), none⟩] [])
  (.cond (.tmp 50) (.seq (.region false [⟨some 51, .mov (.tmp 7), none⟩,
 ⟨some 52, .bin .sub (.tmp 51) (.cst (.int .u64 1)), none⟩,
 ⟨some 53, .conv .i64 (.tmp 52), none⟩,
 ⟨some 54, .neg (.tmp 53), none⟩,
 ⟨some 55, .bin .sub (.tmp 54) (.cst (.int .i64 1)), none⟩,
 ⟨some 56, .mov (.tmp 8), none⟩,
 ⟨some 57, .conv .i64 (.tmp 56), none⟩,
 ⟨some 58, .build [.int .i64 0, .int .i64 0] [(0, 1, .tmp 55), (1, 1, .tmp 57)], none⟩,
 ⟨none, .store (.tmp 4) (.tmp 58) 2, none⟩,
 ⟨some 5, .mov (.cst (.int .i64 0)), none⟩] [])
  .ret) .skip))
 (.seq (.region false [⟨some 59, .mov (.tmp 7), none⟩,
 ⟨some 60, .conv .i64 (.tmp 59), none⟩,
 ⟨some 61, .mov (.tmp 8), none⟩,
 ⟨some 62, .conv .i64 (.tmp 61), none⟩,
 ⟨some 63, .build [.int .i64 0, .int .i64 0] [(0, 1, .tmp 60), (1, 1, .tmp 62)], none⟩,
 ⟨none, .store (.tmp 4) (.tmp 63) 2, none⟩,
 ⟨some 5, .mov (.cst (.int .i64 0)), none⟩] [])
  .ret))))))))
/-- custos/value.fraction -/
def x120 : XFn := XFn.mk 8 [.cell 2 2 true] (.seq (.region false [⟨some 1, .box (.tmp 0) 4, none⟩,
 ⟨some 2, .alloc [.int .i64 0, .int .i64 0], none⟩] [])
 (.seq (.region false [⟨some 3, .faddr (.tmp 1) 1, none⟩,
 ⟨some 4, .load (.tmp 3) 1 false, none⟩,
 ⟨some 5, .faddr (.tmp 1) 2, none⟩,
 ⟨some 6, .load (.tmp 5) 1 false, none⟩,
 ⟨some 7, .build [.int .i64 0, .int .i64 0] [(0, 1, .tmp 4), (1, 1, .tmp 6)], none⟩,
 ⟨none, .store (.tmp 2) (.tmp 7) 2, none⟩] [])
  .ret))
/-- custos/custosref01.Of -/
def x121 : XFn := XFn.mk 31 [.cell 4 2 true, .tmp 5] (.seq (.region false [⟨some 4, .alloc [.int .i64 0, .int .i64 0], none⟩,
 ⟨some 5, .mov (.cst (.int .i64 0)), none⟩] [])
 (.seq (.seq (.region false [⟨some 8, .mov (.tmp 1), none⟩,
 ⟨some 9, .bin .eql (.tmp 8) (.cst (.int .i64 0)), none⟩] [])
  (.cond (.tmp 9) (.seq (.region false [⟨some 10, .build [.int .i64 0, .int .i64 0] [], none⟩,
 ⟨none, .store (.tmp 4) (.tmp 10) 2, none⟩,
 ⟨some 5, .mov (.cst (.int .i64 11)), none⟩] [])
  .ret) .skip))
 (.seq (.region false [⟨some 11, .mov (.tmp 0), none⟩,
 ⟨some 12, .callq 131 [.tmp 11], none⟩,
 ⟨some 13, .callq 130 [.tmp 12], none⟩,
 ⟨some 6, .alloc [.int .u64 0, .int .u64 0, .int .u64 0, .int .u64 0], none⟩,
 ⟨none, .store (.tmp 6) (.tmp 13) 4, none⟩] [])
 (.seq (.region false [⟨some 14, .mov (.tmp 1), none⟩,
 ⟨some 15, .callq 131 [.tmp 14], none⟩,
 ⟨some 16, .callq 130 [.tmp 15], none⟩,
 ⟨some 7, .alloc [.int .u64 0, .int .u64 0, .int .u64 0, .int .u64 0], none⟩,
 ⟨none, .store (.tmp 7) (.tmp 16) 4, none⟩] [])
 (.seq (.region false [⟨some 17, .mov (.tmp 0), none⟩,
 ⟨some 18, .bin .neq (.tmp 17) (.cst (.int .i64 0)), none⟩,
 ⟨some 19, .mov (.tmp 18), none⟩,
 ⟨some 20, .mov (.tmp 0), (some (19, true))⟩,
 ⟨some 21, .bin .lss (.tmp 20) (.cst (.int .i64 0)), (some (19, true))⟩,
 ⟨some 22, .mov (.tmp 1), (some (19, true))⟩,
 ⟨some 23, .bin .lss (.tmp 22) (.cst (.int .i64 0)), (some (19, true))⟩,
 ⟨some 24, .beq true (.tmp 21) (.tmp 23), (some (19, true))⟩,
 ⟨some 25, .pick (.tmp 19) (.tmp 24) (.cst (.bool false)), none⟩,
 ⟨some 26, .load (.tmp 6) 4 true, none⟩,
 ⟨some 27, .load (.tmp 7) 4 true, none⟩,
 ⟨some 28, .callq 132 [.tmp 25, .tmp 26, .tmp 27], none⟩,
 ⟨some 29, .ext 28 0, none⟩,
 ⟨some 30, .ext 28 1, none⟩,
 ⟨none, .store (.tmp 4) (.tmp 29) 2, none⟩,
 ⟨some 5, .own 30, none⟩] [])
  .ret)))))
def x128_r0 : XCode := .seq (.seq (.region false [⟨some 5, .mov (.tmp 1), none⟩,
 ⟨some 6, .bin .neq (.tmp 5) (.cst (.int .u64 0)), none⟩] [])
  (.cond (.tmp 6) .skip (.exit 0)))
  (.block 1 (.region true [⟨some 7, .mov (.tmp 1), none⟩,
 ⟨some 8, .mov (.tmp 0), none⟩,
 ⟨some 9, .mov (.tmp 1), none⟩,
 ⟨some 10, .bin .rem (.tmp 8) (.tmp 9), none⟩,
 ⟨some 0, .own 7, none⟩,
 ⟨some 1, .own 10, none⟩] []))
def x128_l0 : XCode := x128_r0
/-- custos/rat.gcd -/
def x128 : XFn := XFn.mk 12 [.tmp 4] (.seq (.region false [⟨some 4, .mov (.cst (.int .u64 0)), none⟩] [])
 (.seq (.block 0 (.loop x128_l0))
 (.seq (.region false [⟨some 11, .mov (.tmp 0), none⟩,
 ⟨some 4, .own 11, none⟩] [])
  .ret)))
/-- custos/rat.size -/
def x129 : XFn := XFn.mk 10 [.tmp 2] (.seq (.region false [⟨some 2, .mov (.cst (.int .u64 0)), none⟩] [])
 (.seq (.seq (.region false [⟨some 3, .mov (.tmp 0), none⟩,
 ⟨some 4, .bin .lss (.tmp 3) (.cst (.int .i64 0)), none⟩] [])
  (.cond (.tmp 4) (.seq (.region false [⟨some 5, .mov (.tmp 0), none⟩,
 ⟨some 6, .conv .u64 (.tmp 5), none⟩,
 ⟨some 7, .neg (.tmp 6), none⟩,
 ⟨some 2, .own 7, none⟩] [])
  .ret) .skip))
 (.seq (.region false [⟨some 8, .mov (.tmp 0), none⟩,
 ⟨some 9, .conv .u64 (.tmp 8), none⟩,
 ⟨some 2, .own 9, none⟩] [])
  .ret)))
/-- custos/custosref01.of -/
def x130 : XFn := XFn.mk 13 [.cell 2 4 true] (.seq (.region false [⟨some 2, .alloc [.int .u64 0, .int .u64 0, .int .u64 0, .int .u64 0], none⟩] [])
 (.seq (.region false [⟨some 3, .alloc [.int .u64 0, .int .u64 0, .int .u64 0, .int .u64 0], none⟩] [])
 (.seq (.region false [⟨some 4, .mov (.tmp 0), none⟩,
 ⟨some 5, .bin .rem (.tmp 4) (.cst (.int .u64 4294967296)), none⟩,
 ⟨some 6, .faddr (.tmp 3) 0, none⟩,
 ⟨some 7, .iarr 4 1 (.tmp 6) (.cst (.int .i64 0)), none⟩,
 ⟨none, .store (.tmp 7) (.tmp 5) 1, none⟩] [])
 (.seq (.region false [⟨some 8, .mov (.tmp 0), none⟩,
 ⟨some 9, .bin .quo (.tmp 8) (.cst (.int .u64 4294967296)), none⟩,
 ⟨some 10, .faddr (.tmp 3) 0, none⟩,
 ⟨some 11, .iarr 4 1 (.tmp 10) (.cst (.int .i64 1)), none⟩,
 ⟨none, .store (.tmp 11) (.tmp 9) 1, none⟩] [])
 (.seq (.region false [⟨some 12, .load (.tmp 3) 4 true, none⟩,
 ⟨none, .store (.tmp 2) (.tmp 12) 4, none⟩] [])
  .ret)))))
/-- custos/custosref01.size -/
def x131 : XFn := XFn.mk 12 [.tmp 2] (.seq (.region false [⟨some 2, .mov (.cst (.int .u64 0)), none⟩] [])
 (.seq (.seq (.region false [⟨some 3, .mov (.tmp 0), none⟩,
 ⟨some 4, .bin .lss (.tmp 3) (.cst (.int .i64 0)), none⟩] [])
  (.cond (.tmp 4) (.seq (.region false [⟨some 5, .mov (.tmp 0), none⟩,
 ⟨some 6, .bin .add (.tmp 5) (.cst (.int .i64 1)), none⟩,
 ⟨some 7, .neg (.tmp 6), none⟩,
 ⟨some 8, .conv .u64 (.tmp 7), none⟩,
 ⟨some 9, .bin .add (.tmp 8) (.cst (.int .u64 1)), none⟩,
 ⟨some 2, .own 9, none⟩] [])
  .ret) .skip))
 (.seq (.region false [⟨some 10, .mov (.tmp 0), none⟩,
 ⟨some 11, .conv .u64 (.tmp 10), none⟩,
 ⟨some 2, .own 11, none⟩] [])
  .ret)))
/-- custos/custosref01.made -/
def x132 : XFn := XFn.mk 84 [.cell 6 2 true, .tmp 7] (.seq (.region false [⟨some 4, .box (.tmp 1) 4, none⟩,
 ⟨some 5, .box (.tmp 2) 4, none⟩,
 ⟨some 6, .alloc [.int .i64 0, .int .i64 0], none⟩,
 ⟨some 7, .mov (.cst (.int .i64 0)), none⟩] [])
 (.seq (.region false [⟨some 18, .load (.tmp 4) 4 true, none⟩,
 ⟨some 19, .load (.tmp 5) 4 true, none⟩,
 ⟨some 20, .callq 134 [.tmp 18, .tmp 19], none⟩,
 ⟨some 8, .alloc [.int .u64 0, .int .u64 0, .int .u64 0, .int .u64 0], none⟩,
 ⟨none, .store (.tmp 8) (.tmp 20) 4, none⟩] [])
 (.seq (.region false [⟨some 22, .load (.tmp 4) 4 true, none⟩,
 ⟨some 23, .load (.tmp 8) 4 true, none⟩,
 ⟨some 24, .callq 135 [.tmp 22, .tmp 23], none⟩,
 ⟨some 21, .mov (.tmp 24), none⟩,
 ⟨some 25, .ext 21 0, none⟩,
 ⟨some 26, .ext 21 1, none⟩,
 ⟨some 9, .alloc [.int .u64 0, .int .u64 0, .int .u64 0, .int .u64 0], none⟩,
 ⟨some 10, .alloc [.int .u64 0, .int .u64 0, .int .u64 0, .int .u64 0], none⟩,
 ⟨none, .store (.tmp 9) (.tmp 25) 4, none⟩,
 ⟨none, .store (.tmp 10) (.tmp 26) 4, none⟩] [])
 (.seq (.region false [⟨some 28, .load (.tmp 5) 4 true, none⟩,
 ⟨some 29, .load (.tmp 8) 4 true, none⟩,
 ⟨some 30, .callq 135 [.tmp 28, .tmp 29], none⟩,
 ⟨some 27, .mov (.tmp 30), none⟩,
 ⟨some 31, .ext 27 0, none⟩,
 ⟨some 32, .ext 27 1, none⟩,
 ⟨some 11, .alloc [.int .u64 0, .int .u64 0, .int .u64 0, .int .u64 0], none⟩,
 ⟨some 12, .alloc [.int .u64 0, .int .u64 0, .int .u64 0, .int .u64 0], none⟩,
 ⟨none, .store (.tmp 11) (.tmp 31) 4, none⟩,
 ⟨none, .store (.tmp 12) (.tmp 32) 4, none⟩] [])
 (.seq (.region false [⟨some 33, .callq 130 [.cst (.int .u64 9223372036854775808)], none⟩,
 ⟨some 13, .alloc [.int .u64 0, .int .u64 0, .int .u64 0, .int .u64 0], none⟩,
 ⟨none, .store (.tmp 13) (.tmp 33) 4, none⟩] [])
 (.seq (.region false [⟨some 34, .load (.tmp 9) 4 true, none⟩,
 ⟨some 35, .load (.tmp 13) 4 true, none⟩,
 ⟨some 36, .callq 136 [.tmp 34, .tmp 35], none⟩,
 ⟨some 14, .own 36, none⟩] [])
 (.seq (.region false [⟨some 37, .load (.tmp 11) 4 true, none⟩,
 ⟨some 38, .load (.tmp 13) 4 true, none⟩,
 ⟨some 39, .callq 136 [.tmp 37, .tmp 38], none⟩,
 ⟨some 15, .own 39, none⟩] [])
 (.seq (.seq (.region false [⟨some 40, .mov (.tmp 15), none⟩,
 ⟨some 41, .bin .geq (.tmp 40) (.cst (.int .i64 0)), none⟩,
 ⟨some 42, .mov (.tmp 41), none⟩,
 ⟨some 43, .mov (.tmp 14), (some (42, false))⟩,
 ⟨some 44, .bin .gtr (.tmp 43) (.cst (.int .i64 0)), (some (42, false))⟩,
 ⟨some 45, .pick (.tmp 42) (.cst (.bool true)) (.tmp 44), none⟩,
 ⟨some 46, .mov (.tmp 45), none⟩,
 ⟨some 47, .mov (.tmp 14), (some (46, false))⟩,
 ⟨some 48, .bin .eql (.tmp 47) (.cst (.int .i64 0)), (some (46, false))⟩,
 ⟨some 49, .mov (.tmp 48), (some (46, false))⟩,
 ⟨some 50, .mov (.tmp 0), (some (49, true))⟩,
 ⟨some 51, .not (.tmp 50), (some (49, true))⟩,
 ⟨some 52, .pick (.tmp 49) (.tmp 51) (.cst (.bool false)), (some (46, false))⟩,
 ⟨some 53, .pick (.tmp 46) (.cst (.bool true)) (.tmp 52), none⟩] [])
  (.cond (.tmp 53) (.seq (.region false [⟨some 54, .build [.int .i64 0, .int .i64 0] [], none⟩,
 ⟨none, .store (.tmp 6) (.tmp 54) 2, none⟩,
 ⟨some 7, .mov (.cst (.int .i64 10)), none⟩] [])
  .ret) .skip))
 (.seq (.region false [⟨some 55, .faddr (.tmp 9) 0, none⟩,
 ⟨some 56, .iarr 4 1 (.tmp 55) (.cst (.int .i64 1)), none⟩,
 ⟨some 57, .load (.tmp 56) 1 false, none⟩,
 ⟨some 58, .bin .mul (.tmp 57) (.cst (.int .u64 4294967296)), none⟩,
 ⟨some 59, .faddr (.tmp 9) 0, none⟩,
 ⟨some 60, .iarr 4 1 (.tmp 59) (.cst (.int .i64 0)), none⟩,
 ⟨some 61, .load (.tmp 60) 1 false, none⟩,
 ⟨some 62, .bin .add (.tmp 58) (.tmp 61), none⟩,
 ⟨some 16, .own 62, none⟩] [])
 (.seq (.region false [⟨some 63, .faddr (.tmp 11) 0, none⟩,
 ⟨some 64, .iarr 4 1 (.tmp 63) (.cst (.int .i64 1)), none⟩,
 ⟨some 65, .load (.tmp 64) 1 false, none⟩,
 ⟨some 66, .bin .mul (.tmp 65) (.cst (.int .u64 4294967296)), none⟩,
 ⟨some 67, .faddr (.tmp 11) 0, none⟩,
 ⟨some 68, .iarr 4 1 (.tmp 67) (.cst (.int .i64 0)), none⟩,
 ⟨some 69, .load (.tmp 68) 1 false, none⟩,
 ⟨some 70, .bin .add (.tmp 66) (.tmp 69), none⟩,
 ⟨some 71, .conv .i64 (.tmp 70), none⟩,
 ⟨some 17, .own 71, none⟩] [])
 (.seq (.seq (.region false [⟨some 72, .mov (.tmp 0), none⟩] [])
  (.cond (.tmp 72) (.seq (.region false [⟨some 73, .mov (.tmp 16), none⟩,
 ⟨some 74, .bin .sub (.tmp 73) (.cst (.int .u64 1)), none⟩,
 ⟨some 75, .conv .i64 (.tmp 74), none⟩,
 ⟨some 76, .neg (.tmp 75), none⟩,
 ⟨some 77, .bin .sub (.tmp 76) (.cst (.int .i64 1)), none⟩,
 ⟨some 78, .mov (.tmp 17), none⟩,
 ⟨some 79, .build [.int .i64 0, .int .i64 0] [(0, 1, .tmp 77), (1, 1, .tmp 78)], none⟩,
 ⟨none, .store (.tmp 6) (.tmp 79) 2, none⟩,
 ⟨some 7, .mov (.cst (.int .i64 0)), none⟩] [])
  .ret) .skip))
 (.seq (.region false [⟨some 80, .mov (.tmp 16), none⟩,
 ⟨some 81, .conv .i64 (.tmp 80), none⟩,
 ⟨some 82, .mov (.tmp 17), none⟩,
 ⟨some 83, .build [.int .i64 0, .int .i64 0] [(0, 1, .tmp 81), (1, 1, .tmp 82)], none⟩,
 ⟨none, .store (.tmp 6) (.tmp 83) 2, none⟩,
 ⟨some 7, .mov (.cst (.int .i64 0)), none⟩] [])
  .ret))))))))))))
def x134_r0 : XCode := .seq (.seq (.region false [⟨some 9, .load (.tmp 3) 4 true, none⟩,
 ⟨some 10, .load (.tmp 5) 4 true, none⟩,
 ⟨some 11, .eqagg true [1, 1, 1, 1] (.tmp 9) (.tmp 10), none⟩] [])
  (.cond (.tmp 11) .skip (.exit 0)))
  (.block 1 (.seq (.region false [⟨some 13, .load (.tmp 2) 4 true, none⟩,
 ⟨some 14, .load (.tmp 3) 4 true, none⟩,
 ⟨some 15, .callq 135 [.tmp 13, .tmp 14], none⟩,
 ⟨some 12, .mov (.tmp 15), none⟩,
 ⟨some 16, .ext 12 0, none⟩,
 ⟨some 17, .ext 12 1, none⟩,
 ⟨some 6, .alloc [.int .u64 0, .int .u64 0, .int .u64 0, .int .u64 0], none⟩,
 ⟨some 7, .alloc [.int .u64 0, .int .u64 0, .int .u64 0, .int .u64 0], none⟩,
 ⟨none, .store (.tmp 6) (.tmp 16) 4, none⟩,
 ⟨none, .store (.tmp 7) (.tmp 17) 4, none⟩] [])
 (.seq (.region false [⟨some 18, .load (.tmp 3) 4 true, none⟩,
 ⟨none, .store (.tmp 2) (.tmp 18) 4, none⟩] [])
  (.region false [⟨some 19, .load (.tmp 7) 4 true, none⟩,
 ⟨none, .store (.tmp 3) (.tmp 19) 4, none⟩] []))))
def x134_l0 : XCode := x134_r0
/-- custos/custosref01.common -/
def x134 : XFn := XFn.mk 21 [.cell 4 4 true] (.seq (.region false [⟨some 2, .box (.tmp 0) 4, none⟩,
 ⟨some 3, .box (.tmp 1) 4, none⟩,
 ⟨some 4, .alloc [.int .u64 0, .int .u64 0, .int .u64 0, .int .u64 0], none⟩] [])
 (.seq (.region false [⟨some 8, .build [.int .u64 0, .int .u64 0, .int .u64 0, .int .u64 0] [], none⟩,
 ⟨some 5, .alloc [.int .u64 0, .int .u64 0, .int .u64 0, .int .u64 0], none⟩,
 ⟨none, .store (.tmp 5) (.tmp 8) 4, none⟩] [])
 (.seq (.block 0 (.loop x134_l0))
 (.seq (.region false [⟨some 20, .load (.tmp 2) 4 true, none⟩,
 ⟨none, .store (.tmp 4) (.tmp 20) 4, none⟩] [])
  .ret))))
def x135_r0 : XCode := .seq (.seq (.region false [⟨some 10, .mov (.tmp 8), none⟩,
 ⟨some 11, .bin .geq (.tmp 10) (.cst (.int .i64 0)), none⟩] [])
  (.cond (.tmp 11) .skip (.exit 0)))
 (.seq (.block 1 (.seq (.region false [⟨some 14, .load (.tmp 7) 4 true, none⟩,
 ⟨some 15, .load (.tmp 7) 4 true, none⟩,
 ⟨some 16, .callq 137 [.tmp 14, .tmp 15], none⟩,
 ⟨none, .store (.tmp 7) (.tmp 16) 4, none⟩] [])
 (.seq (.region true [⟨some 17, .faddr (.tmp 7) 0, none⟩,
 ⟨some 18, .iarr 4 1 (.tmp 17) (.cst (.int .i64 0)), none⟩,
 ⟨some 19, .load (.tmp 18) 1 false, none⟩,
 ⟨some 20, .mov (.tmp 8), none⟩,
 ⟨some 21, .bin .quo (.tmp 20) (.cst (.int .i64 32)), none⟩,
 ⟨some 22, .faddr (.tmp 2) 0, none⟩,
 ⟨some 23, .iarr 4 1 (.tmp 22) (.tmp 21), none⟩,
 ⟨some 24, .load (.tmp 23) 1 false, none⟩,
 ⟨some 25, .mov (.tmp 8), none⟩,
 ⟨some 26, .bin .rem (.tmp 25) (.cst (.int .i64 32)), none⟩,
 ⟨some 27, .conv .u64 (.tmp 26), none⟩,
 ⟨some 28, .bin .shr (.tmp 24) (.tmp 27), none⟩,
 ⟨some 29, .bin .rem (.tmp 28) (.cst (.int .u64 2)), none⟩,
 ⟨some 30, .bin .add (.tmp 19) (.tmp 29), none⟩,
 ⟨some 31, .faddr (.tmp 7) 0, none⟩,
 ⟨some 32, .iarr 4 1 (.tmp 31) (.cst (.int .i64 0)), none⟩,
 ⟨none, .store (.tmp 32) (.tmp 30) 1, none⟩] [])
 (.seq (.region false [⟨some 33, .load (.tmp 7) 4 true, none⟩,
 ⟨some 34, .load (.tmp 3) 4 true, none⟩,
 ⟨some 35, .callq 136 [.tmp 33, .tmp 34], none⟩,
 ⟨some 9, .own 35, none⟩] [])
 (.seq (.region false [⟨some 36, .mov (.tmp 9), none⟩,
 ⟨some 37, .bin .geq (.tmp 36) (.cst (.int .i64 0)), none⟩] [])
  (.cond (.tmp 37) (.seq (.region false [⟨some 38, .load (.tmp 7) 4 true, none⟩,
 ⟨some 39, .load (.tmp 3) 4 true, none⟩,
 ⟨some 40, .callq 138 [.tmp 38, .tmp 39], none⟩,
 ⟨none, .store (.tmp 7) (.tmp 40) 4, none⟩] [])
  (.region false [⟨some 41, .mov (.tmp 8), none⟩,
 ⟨some 42, .bin .quo (.tmp 41) (.cst (.int .i64 32)), none⟩,
 ⟨some 43, .mov (.tmp 8), none⟩,
 ⟨some 44, .bin .quo (.tmp 43) (.cst (.int .i64 32)), none⟩,
 ⟨some 45, .faddr (.tmp 6) 0, none⟩,
 ⟨some 46, .iarr 4 1 (.tmp 45) (.tmp 44), none⟩,
 ⟨some 47, .load (.tmp 46) 1 false, none⟩,
 ⟨some 48, .mov (.tmp 8), none⟩,
 ⟨some 49, .bin .rem (.tmp 48) (.cst (.int .i64 32)), none⟩,
 ⟨some 50, .conv .u64 (.tmp 49), none⟩,
 ⟨some 51, .bin .shl (.cst (.int .u64 1)) (.tmp 50), none⟩,
 ⟨some 52, .bin .add (.tmp 47) (.tmp 51), none⟩,
 ⟨some 53, .faddr (.tmp 6) 0, none⟩,
 ⟨some 54, .iarr 4 1 (.tmp 53) (.tmp 42), none⟩,
 ⟨none, .store (.tmp 54) (.tmp 52) 1, none⟩] [])) .skip))))))
  (.region false [⟨some 12, .mov (.tmp 8), none⟩,
 ⟨some 13, .bin .sub (.tmp 12) (.cst (.int .i64 1)), none⟩,
 ⟨some 8, .own 13, none⟩] []))
def x135_l0 : XCode := x135_r0
/-- custos/custosref01.divided -/
def x135 : XFn := XFn.mk 57 [.cell 4 4 true, .cell 5 4 true] (.seq (.region false [⟨some 2, .box (.tmp 0) 4, none⟩,
 ⟨some 3, .box (.tmp 1) 4, none⟩,
 ⟨some 4, .alloc [.int .u64 0, .int .u64 0, .int .u64 0, .int .u64 0], none⟩,
 ⟨some 5, .alloc [.int .u64 0, .int .u64 0, .int .u64 0, .int .u64 0], none⟩] [])
 (.seq (.region false [⟨some 6, .alloc [.int .u64 0, .int .u64 0, .int .u64 0, .int .u64 0], none⟩] [])
 (.seq (.region false [⟨some 7, .alloc [.int .u64 0, .int .u64 0, .int .u64 0, .int .u64 0], none⟩] [])
 (.seq (.seq (.region false [⟨some 8, .mov (.cst (.int .i64 127)), none⟩] [])
  (.block 0 (.loop x135_l0)))
 (.seq (.region true [⟨some 55, .load (.tmp 6) 4 true, none⟩,
 ⟨some 56, .load (.tmp 7) 4 true, none⟩,
 ⟨none, .store (.tmp 4) (.tmp 55) 4, none⟩,
 ⟨none, .store (.tmp 5) (.tmp 56) 4, none⟩] [(7, 4)])
  .ret)))))
def x136_r0 : XCode := .seq (.seq (.region false [⟨some 6, .mov (.tmp 5), none⟩,
 ⟨some 7, .bin .geq (.tmp 6) (.cst (.int .i64 0)), none⟩] [])
  (.cond (.tmp 7) .skip (.exit 0)))
 (.seq (.block 1 (.seq (.seq (.region true [⟨some 10, .mov (.tmp 5), none⟩,
 ⟨some 11, .faddr (.tmp 2) 0, none⟩,
 ⟨some 12, .iarr 4 1 (.tmp 11) (.tmp 10), none⟩,
 ⟨some 13, .load (.tmp 12) 1 false, none⟩,
 ⟨some 14, .mov (.tmp 5), none⟩,
 ⟨some 15, .faddr (.tmp 3) 0, none⟩,
 ⟨some 16, .iarr 4 1 (.tmp 15) (.tmp 14), none⟩,
 ⟨some 17, .load (.tmp 16) 1 false, none⟩,
 ⟨some 18, .bin .lss (.tmp 13) (.tmp 17), none⟩] [])
  (.cond (.tmp 18) (.seq (.region false [⟨some 4, .mov (.cst (.int .i64 (-1))), none⟩] [])
  .ret) .skip))
 (.seq (.region true [⟨some 19, .mov (.tmp 5), none⟩,
 ⟨some 20, .faddr (.tmp 2) 0, none⟩,
 ⟨some 21, .iarr 4 1 (.tmp 20) (.tmp 19), none⟩,
 ⟨some 22, .load (.tmp 21) 1 false, none⟩,
 ⟨some 23, .mov (.tmp 5), none⟩,
 ⟨some 24, .faddr (.tmp 3) 0, none⟩,
 ⟨some 25, .iarr 4 1 (.tmp 24) (.tmp 23), none⟩,
 ⟨some 26, .load (.tmp 25) 1 false, none⟩,
 ⟨some 27, .bin .gtr (.tmp 22) (.tmp 26), none⟩] [])
  (.cond (.tmp 27) (.seq (.region false [⟨some 4, .mov (.cst (.int .i64 1)), none⟩] [])
  .ret) .skip))))
  (.region false [⟨some 8, .mov (.tmp 5), none⟩,
 ⟨some 9, .bin .sub (.tmp 8) (.cst (.int .i64 1)), none⟩,
 ⟨some 5, .own 9, none⟩] []))
def x136_l0 : XCode := x136_r0
/-- custos/custosref01.compare -/
def x136 : XFn := XFn.mk 28 [.tmp 4] (.seq (.region false [⟨some 2, .box (.tmp 0) 4, none⟩,
 ⟨some 3, .box (.tmp 1) 4, none⟩,
 ⟨some 4, .mov (.cst (.int .i64 0)), none⟩] [])
 (.seq (.seq (.region false [⟨some 5, .mov (.cst (.int .i64 3)), none⟩] [])
  (.block 0 (.loop x136_l0)))
 (.seq (.region false [⟨some 4, .mov (.cst (.int .i64 0)), none⟩] [])
  .ret)))
def x137_r0 : XCode := .seq (.seq (.region false [⟨some 9, .mov (.tmp 7), none⟩,
 ⟨some 10, .bin .lss (.tmp 9) (.cst (.int .i64 4)), none⟩] [])
  (.cond (.tmp 10) .skip (.exit 0)))
 (.seq (.block 1 (.seq (.region true [⟨some 13, .mov (.tmp 7), none⟩,
 ⟨some 14, .faddr (.tmp 2) 0, none⟩,
 ⟨some 15, .iarr 4 1 (.tmp 14) (.tmp 13), none⟩,
 ⟨some 16, .load (.tmp 15) 1 false, none⟩,
 ⟨some 17, .mov (.tmp 7), none⟩,
 ⟨some 18, .faddr (.tmp 3) 0, none⟩,
 ⟨some 19, .iarr 4 1 (.tmp 18) (.tmp 17), none⟩,
 ⟨some 20, .load (.tmp 19) 1 false, none⟩,
 ⟨some 21, .bin .add (.tmp 16) (.tmp 20), none⟩,
 ⟨some 22, .mov (.tmp 6), none⟩,
 ⟨some 23, .bin .add (.tmp 21) (.tmp 22), none⟩,
 ⟨some 8, .own 23, none⟩] [])
 (.seq (.region false [⟨some 24, .mov (.tmp 7), none⟩,
 ⟨some 25, .mov (.tmp 8), none⟩,
 ⟨some 26, .bin .rem (.tmp 25) (.cst (.int .u64 4294967296)), none⟩,
 ⟨some 27, .faddr (.tmp 5) 0, none⟩,
 ⟨some 28, .iarr 4 1 (.tmp 27) (.tmp 24), none⟩,
 ⟨none, .store (.tmp 28) (.tmp 26) 1, none⟩] [])
  (.region false [⟨some 29, .mov (.tmp 8), none⟩,
 ⟨some 30, .bin .quo (.tmp 29) (.cst (.int .u64 4294967296)), none⟩,
 ⟨some 6, .own 30, none⟩] []))))
  (.region false [⟨some 11, .mov (.tmp 7), none⟩,
 ⟨some 12, .bin .add (.tmp 11) (.cst (.int .i64 1)), none⟩,
 ⟨some 7, .own 12, none⟩] []))
def x137_l0 : XCode := x137_r0
/-- custos/custosref01.plus -/
def x137 : XFn := XFn.mk 32 [.cell 4 4 true] (.seq (.region false [⟨some 2, .box (.tmp 0) 4, none⟩,
 ⟨some 3, .box (.tmp 1) 4, none⟩,
 ⟨some 4, .alloc [.int .u64 0, .int .u64 0, .int .u64 0, .int .u64 0], none⟩] [])
 (.seq (.region false [⟨some 5, .alloc [.int .u64 0, .int .u64 0, .int .u64 0, .int .u64 0], none⟩] [])
 (.seq (.region false [⟨some 6, .mov (.cst (.int .u64 0)), none⟩] [])
 (.seq (.seq (.region false [⟨some 7, .mov (.cst (.int .i64 0)), none⟩] [])
  (.block 0 (.loop x137_l0)))
 (.seq (.region false [⟨some 31, .load (.tmp 5) 4 true, none⟩,
 ⟨none, .store (.tmp 4) (.tmp 31) 4, none⟩] [])
  .ret)))))
def x138_r0 : XCode := .seq (.seq (.region false [⟨some 9, .mov (.tmp 7), none⟩,
 ⟨some 10, .bin .lss (.tmp 9) (.cst (.int .i64 4)), none⟩] [])
  (.cond (.tmp 10) .skip (.exit 0)))
 (.seq (.block 1 (.seq (.region true [⟨some 13, .mov (.tmp 7), none⟩,
 ⟨some 14, .faddr (.tmp 2) 0, none⟩,
 ⟨some 15, .iarr 4 1 (.tmp 14) (.tmp 13), none⟩,
 ⟨some 16, .load (.tmp 15) 1 false, none⟩,
 ⟨some 17, .bin .add (.tmp 16) (.cst (.int .u64 4294967296)), none⟩,
 ⟨some 18, .mov (.tmp 7), none⟩,
 ⟨some 19, .faddr (.tmp 3) 0, none⟩,
 ⟨some 20, .iarr 4 1 (.tmp 19) (.tmp 18), none⟩,
 ⟨some 21, .load (.tmp 20) 1 false, none⟩,
 ⟨some 22, .bin .sub (.tmp 17) (.tmp 21), none⟩,
 ⟨some 23, .mov (.tmp 6), none⟩,
 ⟨some 24, .bin .sub (.tmp 22) (.tmp 23), none⟩,
 ⟨some 8, .own 24, none⟩] [])
 (.seq (.region false [⟨some 25, .mov (.tmp 7), none⟩,
 ⟨some 26, .mov (.tmp 8), none⟩,
 ⟨some 27, .bin .rem (.tmp 26) (.cst (.int .u64 4294967296)), none⟩,
 ⟨some 28, .faddr (.tmp 5) 0, none⟩,
 ⟨some 29, .iarr 4 1 (.tmp 28) (.tmp 25), none⟩,
 ⟨none, .store (.tmp 29) (.tmp 27) 1, none⟩] [])
  (.region false [⟨some 30, .mov (.tmp 8), none⟩,
 ⟨some 31, .bin .quo (.tmp 30) (.cst (.int .u64 4294967296)), none⟩,
 ⟨some 32, .bin .sub (.cst (.int .u64 1)) (.tmp 31), none⟩,
 ⟨some 6, .own 32, none⟩] []))))
  (.region false [⟨some 11, .mov (.tmp 7), none⟩,
 ⟨some 12, .bin .add (.tmp 11) (.cst (.int .i64 1)), none⟩,
 ⟨some 7, .own 12, none⟩] []))
def x138_l0 : XCode := x138_r0
/-- custos/custosref01.less -/
def x138 : XFn := XFn.mk 34 [.cell 4 4 true] (.seq (.region false [⟨some 2, .box (.tmp 0) 4, none⟩,
 ⟨some 3, .box (.tmp 1) 4, none⟩,
 ⟨some 4, .alloc [.int .u64 0, .int .u64 0, .int .u64 0, .int .u64 0], none⟩] [])
 (.seq (.region false [⟨some 5, .alloc [.int .u64 0, .int .u64 0, .int .u64 0, .int .u64 0], none⟩] [])
 (.seq (.region false [⟨some 6, .mov (.cst (.int .u64 0)), none⟩] [])
 (.seq (.seq (.region false [⟨some 7, .mov (.cst (.int .i64 0)), none⟩] [])
  (.block 0 (.loop x138_l0)))
 (.seq (.region false [⟨some 33, .load (.tmp 5) 4 true, none⟩,
 ⟨none, .store (.tmp 4) (.tmp 33) 4, none⟩] [])
  .ret)))))
def X : List (Option XFn) := [none, none, none, none, none, none, some x6, some x7, some x8, some x9, none, some x11, some x12, none, some x14, some x15, some x16, some x17, none, none, some x20, some x21, some x22, some x23, some x24, some x25, some x26, some x27, some x28, some x29, some x30, some x31, some x32, none, none, none, none, some x37, some x38, some x39, some x40, some x41, some x42, some x43, none, some x45, some x46, some x47, some x48, some x49, some x50, some x51, some x52, some x53, some x54, some x55, some x56, some x57, some x58, some x59, none, some x61, some x62, some x63, some x64, some x65, some x66, some x67, some x68, some x69, some x70, none, none, some x73, some x74, some x75, some x76, some x77, some x78, some x79, some x80, some x81, some x82, some x83, some x84, some x85, some x86, some x87, some x88, some x89, some x90, some x91, some x92, some x93, none, none, some x96, some x97, some x98, some x99, some x100, some x101, some x102, some x103, some x104, some x105, some x106, some x107, none, none, none, none, none, none, none, none, none, none, none, some x119, some x120, some x121, none, none, none, none, none, none, some x128, some x129, some x130, some x131, some x132, none, some x134, some x135, some x136, some x137, some x138]
end Go.Proofs.YtnmaahfipddkmaaGreat.Sx.T
