/- The functions of this seat in the small language, printed by a program of ours. -/
import Derived.Test.YtnmaahfipddkmaaGreatSxA
set_option linter.unusedVariables false
set_option linter.unusedSimpArgs false
namespace Go.Proofs.YtnmaahfipddkmaaGreat.Sx.T
open Go Go.Proofs.YtnmaahfipddkmaaGreat.Sx
set_option maxRecDepth 10000
def zo (d : Nat) (o : XOp) : XO := ⟨some d, o, none⟩
def zg (d g : Nat) (b : Bool) (o : XOp) : XO := ⟨some d, o, some (g, b)⟩
def x4_r0 : XCode := .seq (.seq (.region false [zo 28 (.mov (.tmp 10)),
 zo 29 (.mov (.tmp 5)),
 zo 30 (.lens false (.tmp 29)),
 zo 31 (.bin .lss (.tmp 28) (.tmp 30))] [])
  (.cond (.tmp 31) .skip (.exit 0)))
 (.seq (.block 1 (.region false [zo 34 (.mov (.tmp 5)),
 zo 35 (.mov (.tmp 10)),
 zo 36 (.iaddr 1 (.tmp 34) (.tmp 35)),
 ⟨none, .store (.tmp 36) (.cst (.str [64])) 1, none⟩] []))
  (.region false [zo 32 (.mov (.tmp 10)),
 zo 33 (.bin .add (.tmp 32) (.cst (.int .i64 1))),
 zo 10 (.own 33)] []))
def x4_l0 : XCode := x4_r0
def x4_r1 : XCode := .seq (.seq (.region false [zo 37 (.mov (.tmp 11)),
 zo 38 (.mov (.tmp 7)),
 zo 39 (.lens false (.tmp 38)),
 zo 40 (.bin .lss (.tmp 37) (.tmp 39))] [])
  (.cond (.tmp 40) .skip (.exit 2)))
 (.seq (.block 3 (.region false [zo 43 (.mov (.tmp 7)),
 zo 44 (.mov (.tmp 11)),
 zo 45 (.iaddr 1 (.tmp 43) (.tmp 44)),
 ⟨none, .store (.tmp 45) (.cst (.str [64])) 1, none⟩] []))
  (.region false [zo 41 (.mov (.tmp 11)),
 zo 42 (.bin .add (.tmp 41) (.cst (.int .i64 1))),
 zo 11 (.own 42)] []))
def x4_l1 : XCode := x4_r1
/-- custos/custoslaw06.AstFrees -/
def x4 : XFn := XFn.mk 62 [.tmp 4] (.seq (.region false [zo 2 (.box (.tmp 0) 10),
 zo 3 (.box (.tmp 1) 7),
 zo 4 (.mov (.cst (.bool false)))] [])
 (.seq (.region false [zo 12 (.load (.tmp 2) 10 true),
 zo 13 (.callq 12 [.tmp 12]),
 zo 5 (.thw 13)] [])
 (.seq (.region false [zo 14 (.load (.tmp 2) 10 true),
 zo 15 (.callq 13 [.tmp 14]),
 zo 6 (.own 15)] [])
 (.seq (.region false [zo 16 (.load (.tmp 3) 7 true),
 zo 17 (.callq 14 [.tmp 16]),
 zo 7 (.thw 17)] [])
 (.seq (.region false [zo 18 (.load (.tmp 3) 7 true),
 zo 19 (.callq 15 [.tmp 18]),
 zo 8 (.own 19)] [])
 (.seq (.region false [zo 20 (.mov (.tmp 5)),
 zo 21 (.mov (.tmp 6)),
 zo 22 (.callw 16 [.tmp 20, .tmp 21]),
 zo 23 (.mov (.tmp 22)),
 zg 24 23 true (.mov (.tmp 7)),
 zg 25 23 true (.mov (.tmp 8)),
 zg 26 23 true (.callw 16 [.tmp 24, .tmp 25]),
 zo 27 (.pick (.tmp 23) (.tmp 26) (.cst (.bool false))),
 zo 9 (.own 27)] [])
 (.seq (.seq (.region false [zo 10 (.mov (.cst (.int .i64 0)))] [])
  (.block 0 (.loop x4_l0)))
 (.seq (.seq (.region false [zo 11 (.mov (.cst (.int .i64 0)))] [])
  (.block 2 (.loop x4_l1)))
 (.seq (.region false [zo 46 (.callq 11 []),
 zo 47 (.mov (.tmp 46)),
 zg 48 47 true (.mov (.tmp 9)),
 zo 49 (.pick (.tmp 47) (.tmp 48) (.cst (.bool false))),
 zo 50 (.mov (.tmp 49)),
 zg 51 50 true (.load (.tmp 2) 10 true),
 zg 52 50 true (.callqd 12 [.tmp 51]),
 zg 53 50 true (.mov (.tmp 6)),
 zg 54 50 true (.callq 16 [.tmp 52, .tmp 53]),
 zo 55 (.pick (.tmp 50) (.tmp 54) (.cst (.bool false))),
 zo 56 (.mov (.tmp 55)),
 zg 57 56 true (.load (.tmp 3) 7 true),
 zg 58 56 true (.callqd 14 [.tmp 57]),
 zg 59 56 true (.mov (.tmp 8)),
 zg 60 56 true (.callq 16 [.tmp 58, .tmp 59]),
 zo 61 (.pick (.tmp 56) (.tmp 60) (.cst (.bool false))),
 zo 4 (.own 61)] [])
  .ret)))))))))
/-- custos/ast.Clone -/
def x7 : XFn := XFn.mk 20 [.cell 2 10 true] (.seq (.region false [zo 1 (.box (.tmp 0) 10),
 zo 2 (.alloc [.int .i64 0, .str [], .int .i64 0, .nilsl, .nilsl, .int .i64 0, .int .i64 0, .bool false, .nilsl, .nilsl])] [])
 (.seq (.region false [zo 3 (.faddr (.tmp 1) 3),
 zo 4 (.load (.tmp 3) 1 false),
 zo 5 (.callqd 24 [.tmp 4]),
 zo 6 (.faddr (.tmp 1) 3),
 ⟨none, .store (.tmp 6) (.tmp 5) 1, none⟩] [])
 (.seq (.region false [zo 7 (.faddr (.tmp 1) 4),
 zo 8 (.load (.tmp 7) 1 false),
 zo 9 (.callw 25 [.tmp 8, .cst (.fn 26 [] [])]),
 zo 10 (.faddr (.tmp 1) 4),
 ⟨none, .store (.tmp 10) (.tmp 9) 1, none⟩] [])
 (.seq (.region false [zo 11 (.faddr (.tmp 1) 9),
 zo 12 (.load (.tmp 11) 1 false),
 zo 13 (.callw 27 [.tmp 12, .cst (.fn 28 [] [])]),
 zo 14 (.faddr (.tmp 1) 9),
 ⟨none, .store (.tmp 14) (.tmp 13) 1, none⟩] [])
 (.seq (.region false [zo 15 (.faddr (.tmp 1) 8),
 zo 16 (.load (.tmp 15) 1 false),
 zo 17 (.callw 29 [.tmp 16, .cst (.fn 7 [] [])]),
 zo 18 (.faddr (.tmp 1) 8),
 ⟨none, .store (.tmp 18) (.tmp 17) 1, none⟩] [])
 (.seq (.region false [zo 19 (.load (.tmp 1) 10 true),
 ⟨none, .store (.tmp 2) (.tmp 19) 10, none⟩] [])
  .ret))))))
/-- custos/ast.Check -/
def x8 : XFn := XFn.mk 8 [.tmp 2] (.seq (.region false [zo 1 (.box (.tmp 0) 10),
 zo 2 (.mov (.cst (.int .i64 0)))] [])
 (.seq (.region false [zo 3 (.load (.tmp 1) 10 true),
 zo 4 (.callq 30 [.tmp 3]),
 zo 5 (.nilck (.tmp 4)),
 zo 6 (.faddr (.tmp 5) 2),
 zo 7 (.load (.tmp 6) 1 false),
 zo 2 (.own 7)] [])
  .ret))
/-- custos/custosref06.Check -/
def x9 : XFn := XFn.mk 23 [.tmp 2] (.seq (.region false [zo 1 (.box (.tmp 0) 10),
 zo 2 (.mov (.cst (.int .i64 0)))] [])
 (.seq (.region false [zo 5 (.build [.int .i64 0, .int .i64 0, .int .i64 0] []),
 zo 6 (.box (.tmp 5) 3),
 zo 3 (.own 6)] [])
 (.seq (.region false [zo 7 (.mov (.tmp 3)),
 zo 8 (.load (.tmp 1) 10 true),
 zo 9 (.callw 31 [.tmp 7, .tmp 8, .cst (.int .i64 1)])] [])
 (.seq (.seq (.region false [zo 10 (.mov (.tmp 3)),
 zo 11 (.nilck (.tmp 10)),
 zo 12 (.faddr (.tmp 11) 2),
 zo 13 (.load (.tmp 12) 1 false),
 zo 14 (.bin .neq (.tmp 13) (.cst (.int .i64 0)))] [])
  (.cond (.tmp 14) (.seq (.region false [zo 15 (.mov (.tmp 3)),
 zo 16 (.nilck (.tmp 15)),
 zo 17 (.faddr (.tmp 16) 2),
 zo 18 (.load (.tmp 17) 1 false),
 zo 2 (.own 18)] [])
  .ret) .skip))
 (.seq (.region false [zo 19 (.load (.tmp 1) 10 true),
 zo 20 (.callq 32 [.tmp 19]),
 zo 4 (.own 20)] [])
 (.seq (.seq (.region false [zo 21 (.mov (.tmp 4)),
 zo 22 (.not (.tmp 21))] [])
  (.cond (.tmp 22) (.seq (.region false [zo 2 (.mov (.cst (.int .i64 30)))] [])
  .ret) .skip))
 (.seq (.region false [zo 2 (.mov (.cst (.int .i64 0)))] [])
  .ret)))))))
/-- custos/custoslaw06.live -/
def x11 : XFn := XFn.mk 94 [.tmp 0] (.seq (.region false [zo 0 (.mov (.cst (.bool false)))] [])
 (.seq (.region false [zo 9 (.bslice 1 [.str [], .str []] [(0, 1, .cst (.str [120])), (1, 1, .cst (.str [121]))]),
 zo 10 (.callq 38 [.tmp 9]),
 zo 11 (.callq 39 [.cst (.str [120])]),
 zo 12 (.build [.int .i64 0, .int .i64 0, .int .i64 0, .str []] [(0, 1, .cst (.int .i64 1)), (1, 1, .cst (.int .i64 3))]),
 zo 13 (.build [.int .i64 0, .str [], .int .i64 0, .int .i64 0, .int .i64 0, .str [], .nilsl] [(0, 1, .cst (.int .i64 2)), (2, 4, .tmp 12)]),
 zo 14 (.bslice 7 [.int .i64 0, .str [], .int .i64 0, .int .i64 0, .int .i64 0, .str [], .nilsl, .int .i64 0, .str [], .int .i64 0, .int .i64 0, .int .i64 0, .str [], .nilsl] [(0, 7, .tmp 11), (7, 7, .tmp 13)]),
 zo 15 (.build [.int .i64 0, .str [], .int .i64 0, .nilsl, .nilsl, .int .i64 0, .int .i64 0, .bool false, .nilsl, .nilsl] [(0, 1, .cst (.int .i64 5)), (4, 1, .tmp 14)]),
 zo 16 (.callq 37 [.tmp 10, .tmp 15]),
 zo 1 (.alloc [.int .i64 0, .str [], .int .i64 0, .nilsl, .nilsl, .int .i64 0, .int .i64 0, .bool false, .nilsl, .nilsl]),
 ⟨none, .store (.tmp 1) (.tmp 16) 10, none⟩] [])
 (.seq (.region false [zo 18 (.load (.tmp 1) 10 true),
 zo 19 (.bslice 1 [.int .i64 0] [(0, 1, .cst (.int .i64 0))]),
 zo 20 (.callq 17 [.tmp 18, .tmp 19]),
 zo 17 (.mov (.tmp 20)),
 zo 21 (.ext 17 0),
 zo 22 (.ext 17 1),
 zo 2 (.alloc [.int .i64 0, .str [], .int .i64 0, .nilsl, .nilsl, .int .i64 0, .int .i64 0, .bool false, .nilsl, .nilsl]),
 ⟨none, .store (.tmp 2) (.tmp 21) 10, none⟩,
 zo 3 (.own 22)] [])
 (.seq (.region false [zo 24 (.load (.tmp 1) 10 true),
 zo 25 (.bslice 1 [.int .i64 0] [(0, 1, .cst (.int .i64 2))]),
 zo 26 (.callq 17 [.tmp 24, .tmp 25]),
 zo 23 (.mov (.tmp 26)),
 zo 27 (.ext 23 0),
 zo 28 (.ext 23 1),
 zo 4 (.alloc [.int .i64 0, .str [], .int .i64 0, .nilsl, .nilsl, .int .i64 0, .int .i64 0, .bool false, .nilsl, .nilsl]),
 ⟨none, .store (.tmp 4) (.tmp 27) 10, none⟩,
 zo 5 (.own 28)] [])
 (.seq (.region false [zo 29 (.load (.tmp 1) 10 true),
 zo 30 (.bslice 10 [.int .i64 0, .str [], .int .i64 0, .nilsl, .nilsl, .int .i64 0, .int .i64 0, .bool false, .nilsl, .nilsl] [(0, 10, .tmp 29)]),
 zo 31 (.build [.int .i64 0, .str [], .int .i64 0, .nilsl, .nilsl, .int .i64 0, .int .i64 0, .bool false, .nilsl, .nilsl] [(0, 1, .cst (.int .i64 8)), (8, 1, .tmp 30)]),
 zo 32 (.callq 8 [.tmp 31]),
 zo 6 (.own 32)] [])
 (.seq (.region false [zo 33 (.callq 39 [.cst (.str [98])]),
 zo 34 (.callq 39 [.cst (.str [97])]),
 zo 35 (.bslice 7 [.int .i64 0, .str [], .int .i64 0, .int .i64 0, .int .i64 0, .str [], .nilsl, .int .i64 0, .str [], .int .i64 0, .int .i64 0, .int .i64 0, .str [], .nilsl] [(0, 7, .tmp 33), (7, 7, .tmp 34)]),
 zo 36 (.build [.int .i64 0, .str [], .int .i64 0, .int .i64 0, .int .i64 0, .str [], .nilsl] [(0, 1, .cst (.int .i64 3)), (6, 1, .tmp 35)]),
 zo 37 (.callq 14 [.tmp 36]),
 zo 7 (.ownd 37)] [])
 (.seq (.region false [zo 38 (.load (.tmp 1) 10 true),
 zo 39 (.callq 8 [.tmp 38]),
 zo 40 (.bin .eql (.tmp 39) (.cst (.int .i64 0))),
 zo 41 (.mov (.tmp 40)),
 zg 42 41 true (.mov (.tmp 6)),
 zg 43 41 true (.bin .eql (.tmp 42) (.cst (.int .i64 1))),
 zo 44 (.pick (.tmp 41) (.tmp 43) (.cst (.bool false))),
 zo 45 (.mov (.tmp 44)),
 zg 46 45 true (.mov (.tmp 3)),
 zg 47 45 true (.bin .eql (.tmp 46) (.cst (.int .i64 0))),
 zo 48 (.pick (.tmp 45) (.tmp 47) (.cst (.bool false))),
 zo 49 (.mov (.tmp 48)),
 zg 50 49 true (.mov (.tmp 5)),
 zg 51 49 true (.bin .eql (.tmp 50) (.cst (.int .i64 5))),
 zo 52 (.pick (.tmp 49) (.tmp 51) (.cst (.bool false))),
 zo 53 (.mov (.tmp 52)),
 zg 54 53 true (.mov (.tmp 7)),
 zg 55 53 true (.bslice 1 [.str [], .str []] [(0, 1, .cst (.str [97])), (1, 1, .cst (.str [98]))]),
 zg 56 53 true (.callq 16 [.tmp 54, .tmp 55]),
 zo 57 (.pick (.tmp 53) (.tmp 56) (.cst (.bool false))),
 zo 8 (.own 57)] [])
 (.seq (.region true [zo 58 (.mov (.tmp 8)),
 zo 59 (.mov (.tmp 58)),
 zg 60 59 true (.load (.tmp 1) 10 true),
 zg 61 59 true (.callqd 12 [.tmp 60]),
 zg 62 59 true (.bslice 1 [.str [], .str []] [(0, 1, .cst (.str [120])), (1, 1, .cst (.str [121]))]),
 zg 63 59 true (.callq 16 [.tmp 61, .tmp 62]),
 zo 64 (.pick (.tmp 59) (.tmp 63) (.cst (.bool false))),
 zo 65 (.mov (.tmp 64)),
 zg 66 65 true (.load (.tmp 1) 10 true),
 zg 67 65 true (.callq 22 [.tmp 66]),
 zg 68 65 true (.bin .eql (.tmp 67) (.cst (.int .i64 7))),
 zo 69 (.pick (.tmp 65) (.tmp 68) (.cst (.bool false))),
 zo 70 (.mov (.tmp 69)),
 zg 71 70 true (.load (.tmp 1) 10 true),
 zg 72 70 true (.callq 23 [.tmp 71]),
 zg 73 70 true (.bin .eql (.tmp 72) (.cst (.int .i64 3))),
 zo 74 (.pick (.tmp 70) (.tmp 73) (.cst (.bool false))),
 zo 75 (.mov (.tmp 74)),
 zg 76 75 true (.load (.tmp 2) 10 true),
 zg 77 75 true (.bslice 1 [.str [], .str []] [(0, 1, .cst (.str [120])), (1, 1, .cst (.str [121]))]),
 zg 78 75 true (.callq 38 [.tmp 77]),
 zg 79 75 true (.callq 40 [.tmp 76, .tmp 78]),
 zo 80 (.pick (.tmp 75) (.tmp 79) (.cst (.bool false))),
 zo 81 (.mov (.tmp 80)),
 zg 82 81 true (.callq 41 [.cst (.str [97, 95, 57])]),
 zo 83 (.pick (.tmp 81) (.tmp 82) (.cst (.bool false))),
 zo 84 (.mov (.tmp 83)),
 zg 85 84 true (.callq 41 [.cst (.str [97, 110, 100])]),
 zg 86 84 true (.not (.tmp 85)),
 zo 87 (.pick (.tmp 84) (.tmp 86) (.cst (.bool false))),
 zo 88 (.mov (.tmp 87)),
 zg 89 88 true (.load (.tmp 1) 10 true),
 zg 90 88 true (.callq 7 [.tmp 89]),
 zg 91 88 true (.load (.tmp 1) 10 true),
 zg 92 88 true (.callq 40 [.tmp 90, .tmp 91]),
 zo 93 (.pick (.tmp 88) (.tmp 92) (.cst (.bool false))),
 zo 0 (.own 93)] [])
  .ret))))))))
/-- custos/ast.Free -/
def x12 : XFn := XFn.mk 14 [.tmp 2] (.seq (.region false [zo 1 (.box (.tmp 0) 10),
 zo 2 (.mov (.cst .nilsl))] [])
 (.seq (.seq (.region false [zo 5 (.load (.tmp 1) 10 true),
 zo 6 (.callq 8 [.tmp 5]),
 zo 7 (.bin .neq (.tmp 6) (.cst (.int .i64 0)))] [])
  (.cond (.tmp 7) (.seq (.region false [zo 2 (.mov (.cst .nilsl))] [])
  .ret) .skip))
 (.seq (.region false [zo 9 (.load (.tmp 1) 10 true),
 zo 10 (.callq 42 [.tmp 9]),
 zo 8 (.own 10),
 zo 11 (.extm 8),
 zo 12 (.ext 8 1),
 zo 3 (.own 11),
 zo 4 (.own 12)] [])
 (.seq (.region false [zo 13 (.own 3),
 zo 2 (.own 13)] [])
  .ret))))
/-- custos/custosref06.Free -/
def x13 : XFn := XFn.mk 10 [.tmp 2] (.seq (.region false [zo 1 (.box (.tmp 0) 10),
 zo 2 (.mov (.cst .nilsl))] [])
 (.seq (.region false [zo 4 (.load (.tmp 1) 10 true),
 zo 5 (.callq 9 [.tmp 4]),
 zo 3 (.own 5)] [])
 (.seq (.seq (.region false [zo 6 (.mov (.tmp 3)),
 zo 7 (.bin .neq (.tmp 6) (.cst (.int .i64 0)))] [])
  (.cond (.tmp 7) (.seq (.region false [zo 2 (.mov (.cst .nilsl))] [])
  .ret) .skip))
 (.seq (.region false [zo 8 (.load (.tmp 1) 10 true),
 zo 9 (.callq 43 [.tmp 8]),
 zo 2 (.own 9)] [])
  .ret))))
def x14_r0 : XCode := .seq (.region false [zo 18 (.bin .lss (.tmp 17) (.tmp 16))] [])
 (.seq (.cond (.tmp 18) .skip (.exit 0))
 (.seq (.block 1 (.seq (.region false [zo 19 (.iaddr 7 (.tmp 15) (.tmp 17)),
 zo 20 (.load (.tmp 19) 7 true),
 zo 5 (.alloc [.int .i64 0, .str [], .int .i64 0, .int .i64 0, .int .i64 0, .str [], .nilsl]),
 ⟨none, .store (.tmp 5) (.tmp 20) 7, none⟩] [])
  (.region false [zo 21 (.own 3),
 zo 22 (.load (.tmp 5) 7 true),
 zo 23 (.callqd 14 [.tmp 22]),
 zo 24 (.app true 1 16 21 (.tmp 23)),
 zo 3 (.own 24)] [])))
  (.region false [zo 25 (.bin .add (.tmp 17) (.cst (.int .i64 1))),
 zo 17 (.mov (.tmp 25))] [])))
def x14_l0 : XCode := x14_r0
/-- custos/ast.TermVars -/
def x14 : XFn := XFn.mk 28 [.tmp 2] (.seq (.region false [zo 1 (.box (.tmp 0) 7),
 zo 2 (.mov (.cst .nilsl))] [])
 (.seq (.region false [zo 3 (.mov (.cst .nilsl))] [])
 (.seq (.seq (.region false [zo 6 (.faddr (.tmp 1) 0),
 zo 7 (.load (.tmp 6) 1 false),
 zo 8 (.bin .eql (.tmp 7) (.cst (.int .i64 1)))] [])
  (.cond (.tmp 8) (.region false [zo 9 (.own 3),
 zo 10 (.faddr (.tmp 1) 1),
 zo 11 (.load (.tmp 10) 1 false),
 zo 12 (.bslice 1 [.str []] [(0, 1, .tmp 11)]),
 zo 13 (.app true 1 16 9 (.tmp 12)),
 zo 3 (.own 13)] []) .skip))
 (.seq (.seq (.region false [zo 14 (.faddr (.tmp 1) 6),
 zo 15 (.load (.tmp 14) 1 false),
 zo 16 (.lens false (.tmp 15)),
 zo 17 (.mov (.cst (.int .i64 0)))] [])
  (.block 0 (.loop x14_l0)))
 (.seq (.region false [zo 26 (.own 3),
 zo 27 (.primm 100 44 26),
 zo 2 (.own 27)] [])
  .ret)))))
def x15_r0 : XCode := .seq (.seq (.region false [zo 13 (.mov (.tmp 4)),
 zo 14 (.faddr (.tmp 1) 6),
 zo 15 (.load (.tmp 14) 1 false),
 zo 16 (.lens false (.tmp 15)),
 zo 17 (.bin .lss (.tmp 13) (.tmp 16))] [])
  (.cond (.tmp 17) .skip (.exit 0)))
 (.seq (.block 1 (.seq (.region false [zo 20 (.faddr (.tmp 1) 6),
 zo 21 (.load (.tmp 20) 1 false),
 zo 22 (.mov (.tmp 4)),
 zo 23 (.iaddr 7 (.tmp 21) (.tmp 22)),
 zo 24 (.load (.tmp 23) 7 true),
 zo 25 (.callq 15 [.tmp 24]),
 zo 5 (.own 25)] [])
  (.region false [zo 26 (.mov (.tmp 3)),
 zo 27 (.mov (.tmp 5)),
 zo 28 (.callq 46 [.tmp 26, .tmp 27]),
 zo 3 (.own 28)] [])))
  (.region false [zo 18 (.mov (.tmp 4)),
 zo 19 (.bin .add (.tmp 18) (.cst (.int .i64 1))),
 zo 4 (.own 19)] []))
def x15_l0 : XCode := x15_r0
/-- custos/custosref06.TermVars -/
def x15 : XFn := XFn.mk 30 [.tmp 2] (.seq (.region false [zo 1 (.box (.tmp 0) 7),
 zo 2 (.mov (.cst .nilsl))] [])
 (.seq (.region false [zo 3 (.mov (.cst .nilsl))] [])
 (.seq (.seq (.region false [zo 6 (.faddr (.tmp 1) 0),
 zo 7 (.load (.tmp 6) 1 false),
 zo 8 (.bin .eql (.tmp 7) (.cst (.int .i64 1)))] [])
  (.cond (.tmp 8) (.region false [zo 9 (.mov (.tmp 3)),
 zo 10 (.faddr (.tmp 1) 1),
 zo 11 (.load (.tmp 10) 1 false),
 zo 12 (.callq 45 [.tmp 9, .tmp 11]),
 zo 3 (.own 12)] []) .skip))
 (.seq (.seq (.region false [zo 4 (.mov (.cst (.int .i64 0)))] [])
  (.block 0 (.loop x15_l0)))
 (.seq (.region false [zo 29 (.mov (.tmp 3)),
 zo 2 (.own 29)] [])
  .ret)))))
def x16_r0 : XCode := .seq (.seq (.region false [zo 11 (.mov (.tmp 5)),
 zo 12 (.mov (.tmp 0)),
 zo 13 (.lens false (.tmp 12)),
 zo 14 (.bin .lss (.tmp 11) (.tmp 13))] [])
  (.cond (.tmp 14) .skip (.exit 0)))
 (.seq (.block 1 (.seq (.region true [zo 17 (.mov (.tmp 0)),
 zo 18 (.mov (.tmp 5)),
 zo 19 (.iaddr 1 (.tmp 17) (.tmp 18)),
 zo 20 (.load (.tmp 19) 1 false),
 zo 21 (.mov (.tmp 1)),
 zo 22 (.mov (.tmp 5)),
 zo 23 (.iaddr 1 (.tmp 21) (.tmp 22)),
 zo 24 (.load (.tmp 23) 1 false),
 zo 25 (.bin .neq (.tmp 20) (.tmp 24))] [])
  (.cond (.tmp 25) (.seq (.region false [zo 4 (.mov (.cst (.bool false)))] [])
  .ret) .skip)))
  (.region false [zo 15 (.mov (.tmp 5)),
 zo 16 (.bin .add (.tmp 15) (.cst (.int .i64 1))),
 zo 5 (.own 16)] []))
def x16_l0 : XCode := x16_r0
/-- custos/custoslaw06.same -/
def x16 : XFn := XFn.mk 26 [.tmp 4] (.seq (.region false [zo 4 (.mov (.cst (.bool false)))] [])
 (.seq (.seq (.region false [zo 6 (.mov (.tmp 0)),
 zo 7 (.lens false (.tmp 6)),
 zo 8 (.mov (.tmp 1)),
 zo 9 (.lens false (.tmp 8)),
 zo 10 (.bin .neq (.tmp 7) (.tmp 9))] [])
  (.cond (.tmp 10) (.seq (.region false [zo 4 (.mov (.cst (.bool false)))] [])
  .ret) .skip))
 (.seq (.seq (.region false [zo 5 (.mov (.cst (.int .i64 0)))] [])
  (.block 0 (.loop x16_l0)))
 (.seq (.region false [zo 4 (.mov (.cst (.bool true)))] [])
  .ret))))
def x17_r0 : XCode := .seq (.region false [zo 19 (.bin .lss (.tmp 18) (.tmp 17))] [])
 (.seq (.cond (.tmp 19) .skip (.exit 0))
 (.seq (.block 1 (.seq (.region false [zo 20 (.iaddr 1 (.tmp 16) (.tmp 18)),
 zo 21 (.load (.tmp 20) 1 false),
 zo 8 (.own 21)] [])
 (.seq (.region false [zo 22 (.load (.tmp 2) 10 true),
 zo 23 (.callq 47 [.tmp 22]),
 zo 9 (.own 23)] [])
 (.seq (.seq (.region false [zo 24 (.mov (.tmp 8)),
 zo 25 (.bin .lss (.tmp 24) (.cst (.int .i64 0))),
 zo 26 (.mov (.tmp 25)),
 zg 27 26 false (.mov (.tmp 8)),
 zg 28 26 false (.mov (.tmp 9)),
 zg 29 26 false (.lens false (.tmp 28)),
 zg 30 26 false (.bin .geq (.tmp 27) (.tmp 29)),
 zo 31 (.pick (.tmp 26) (.cst (.bool true)) (.tmp 30))] [])
  (.cond (.tmp 31) (.seq (.region false [zo 32 (.build [.int .i64 0, .str [], .int .i64 0, .nilsl, .nilsl, .int .i64 0, .int .i64 0, .bool false, .nilsl, .nilsl] []),
 ⟨none, .store (.tmp 4) (.tmp 32) 10, none⟩,
 zo 5 (.mov (.cst (.int .i64 5)))] [])
  .ret) .skip))
  (.region false [zo 33 (.mov (.tmp 9)),
 zo 34 (.mov (.tmp 8)),
 zo 35 (.iaddr 10 (.tmp 33) (.tmp 34)),
 zo 36 (.load (.tmp 35) 10 true),
 ⟨none, .store (.tmp 2) (.tmp 36) 10, none⟩] [])))))
  (.region false [zo 37 (.bin .add (.tmp 18) (.cst (.int .i64 1))),
 zo 18 (.mov (.tmp 37))] [])))
def x17_l0 : XCode := x17_r0
/-- custos/ast.Part -/
def x17 : XFn := XFn.mk 40 [.cell 4 10 true, .tmp 5] (.seq (.region false [zo 2 (.box (.tmp 0) 10),
 zo 4 (.alloc [.int .i64 0, .str [], .int .i64 0, .nilsl, .nilsl, .int .i64 0, .int .i64 0, .bool false, .nilsl, .nilsl]),
 zo 5 (.mov (.cst (.int .i64 0)))] [])
 (.seq (.seq (.region false [zo 10 (.load (.tmp 2) 10 true),
 zo 11 (.callq 8 [.tmp 10]),
 zo 6 (.own 11)] [])
 (.seq (.region false [zo 12 (.mov (.tmp 6)),
 zo 13 (.bin .neq (.tmp 12) (.cst (.int .i64 0)))] [])
  (.cond (.tmp 13) (.seq (.region false [zo 14 (.build [.int .i64 0, .str [], .int .i64 0, .nilsl, .nilsl, .int .i64 0, .int .i64 0, .bool false, .nilsl, .nilsl] []),
 zo 15 (.mov (.tmp 6)),
 ⟨none, .store (.tmp 4) (.tmp 14) 10, none⟩,
 zo 5 (.own 15)] [])
  .ret) .skip)))
 (.seq (.seq (.region false [zo 16 (.mov (.tmp 1)),
 zo 17 (.lens false (.tmp 16)),
 zo 18 (.mov (.cst (.int .i64 0)))] [])
  (.block 0 (.loop x17_l0)))
 (.seq (.region false [zo 38 (.load (.tmp 2) 10 true),
 zo 39 (.callq 7 [.tmp 38]),
 ⟨none, .store (.tmp 4) (.tmp 39) 10, none⟩,
 zo 5 (.mov (.cst (.int .i64 0)))] [])
  .ret))))
/-- custos/ast.Nodes -/
def x22 : XFn := XFn.mk 15 [.tmp 2] (.seq (.region false [zo 1 (.box (.tmp 0) 10),
 zo 2 (.mov (.cst (.int .i64 0)))] [])
 (.seq (.seq (.region false [zo 4 (.load (.tmp 1) 10 true),
 zo 5 (.callq 30 [.tmp 4]),
 zo 3 (.own 5)] [])
 (.seq (.region false [zo 6 (.mov (.tmp 3)),
 zo 7 (.nilck (.tmp 6)),
 zo 8 (.faddr (.tmp 7) 2),
 zo 9 (.load (.tmp 8) 1 false),
 zo 10 (.bin .eql (.tmp 9) (.cst (.int .i64 0)))] [])
  (.cond (.tmp 10) (.seq (.region false [zo 11 (.mov (.tmp 3)),
 zo 12 (.nilck (.tmp 11)),
 zo 13 (.faddr (.tmp 12) 0),
 zo 14 (.load (.tmp 13) 1 false),
 zo 2 (.own 14)] [])
  .ret) .skip)))
 (.seq (.region false [zo 2 (.mov (.cst (.int .i64 0)))] [])
  .ret)))
/-- custos/ast.Depth -/
def x23 : XFn := XFn.mk 15 [.tmp 2] (.seq (.region false [zo 1 (.box (.tmp 0) 10),
 zo 2 (.mov (.cst (.int .i64 0)))] [])
 (.seq (.seq (.region false [zo 4 (.load (.tmp 1) 10 true),
 zo 5 (.callq 30 [.tmp 4]),
 zo 3 (.own 5)] [])
 (.seq (.region false [zo 6 (.mov (.tmp 3)),
 zo 7 (.nilck (.tmp 6)),
 zo 8 (.faddr (.tmp 7) 2),
 zo 9 (.load (.tmp 8) 1 false),
 zo 10 (.bin .eql (.tmp 9) (.cst (.int .i64 0)))] [])
  (.cond (.tmp 10) (.seq (.region false [zo 11 (.mov (.tmp 3)),
 zo 12 (.nilck (.tmp 11)),
 zo 13 (.faddr (.tmp 12) 1),
 zo 14 (.load (.tmp 13) 1 false),
 zo 2 (.own 14)] [])
  .ret) .skip)))
 (.seq (.region false [zo 2 (.mov (.cst (.int .i64 0)))] [])
  .ret)))
/-- slices.Clone[[]string,string] -/
def x24 : XFn := XFn.mk 8 [.tmp 2] (.seq (.region false [zo 2 (.mov (.cst .nilsl))] [])
 (.seq (.seq (.region false [zo 3 (.mov (.tmp 0)),
 zo 4 (.eqnil 1 false (.tmp 3))] [])
  (.cond (.tmp 4) (.seq (.region false [zo 2 (.mov (.cst .nilsl))] [])
  .ret) .skip))
 (.seq (.region false [zo 5 (.bslice 1 [] []),
 zo 6 (.mov (.tmp 0)),
 zo 7 (.app true 1 16 5 (.tmp 6)),
 zo 2 (.own 7)] [])
  .ret)))
def x25_r0 : XCode := .seq (.region false [zo 11 (.bin .lss (.tmp 10) (.tmp 9))] [])
 (.seq (.cond (.tmp 11) .skip (.exit 0))
 (.seq (.block 1 (.seq (.region false [zo 12 (.iaddr 7 (.tmp 8) (.tmp 10)),
 zo 13 (.load (.tmp 12) 7 true),
 zo 7 (.alloc [.int .i64 0, .str [], .int .i64 0, .int .i64 0, .int .i64 0, .str [], .nilsl]),
 ⟨none, .store (.tmp 7) (.tmp 13) 7, none⟩] [])
  (.region false [zo 14 (.own 5),
 zo 15 (.mov (.tmp 1)),
 zo 16 (.load (.tmp 7) 7 true),
 zo 17 (.calld (.tmp 15) [.tmp 16]),
 zo 18 (.bslice 7 [.int .i64 0, .str [], .int .i64 0, .int .i64 0, .int .i64 0, .str [], .nilsl] [(0, 7, .tmp 17)]),
 zo 19 (.app false 7 88 14 (.tmp 18)),
 zo 5 (.own 19)] [])))
  (.region false [zo 20 (.bin .add (.tmp 10) (.cst (.int .i64 1))),
 zo 10 (.mov (.tmp 20))] [])))
def x25_l0 : XCode := x25_r0
/-- custos/ast.each[custos/api.Term] -/
def x25 : XFn := XFn.mk 22 [.tmp 4] (.seq (.region false [zo 4 (.mov (.cst .nilsl))] [])
 (.seq (.region false [zo 5 (.mov (.cst .nilsl))] [])
 (.seq (.seq (.region false [zo 8 (.mov (.tmp 0)),
 zo 9 (.lens false (.tmp 8)),
 zo 10 (.mov (.cst (.int .i64 0)))] [])
  (.block 0 (.loop x25_l0)))
 (.seq (.region false [zo 21 (.mov (.tmp 5)),
 zo 4 (.own 21)] [])
  .ret))))
/-- custos/ast.cloneTerm -/
def x26 : XFn := XFn.mk 8 [.cell 2 7 true] (.seq (.region false [zo 1 (.box (.tmp 0) 7),
 zo 2 (.alloc [.int .i64 0, .str [], .int .i64 0, .int .i64 0, .int .i64 0, .str [], .nilsl])] [])
 (.seq (.region false [zo 3 (.faddr (.tmp 1) 6),
 zo 4 (.load (.tmp 3) 1 false),
 zo 5 (.callw 25 [.tmp 4, .cst (.fn 26 [] [])]),
 zo 6 (.faddr (.tmp 1) 6),
 ⟨none, .store (.tmp 6) (.tmp 5) 1, none⟩] [])
 (.seq (.region false [zo 7 (.load (.tmp 1) 7 true),
 ⟨none, .store (.tmp 2) (.tmp 7) 7, none⟩] [])
  .ret)))
def x27_r0 : XCode := .seq (.region false [zo 11 (.bin .lss (.tmp 10) (.tmp 9))] [])
 (.seq (.cond (.tmp 11) .skip (.exit 0))
 (.seq (.block 1 (.seq (.region false [zo 12 (.iaddr 3 (.tmp 8) (.tmp 10)),
 zo 13 (.load (.tmp 12) 3 true),
 zo 7 (.alloc [.int .i64 0, .nilsl, .nilsl]),
 ⟨none, .store (.tmp 7) (.tmp 13) 3, none⟩] [])
  (.region false [zo 14 (.own 5),
 zo 15 (.mov (.tmp 1)),
 zo 16 (.load (.tmp 7) 3 true),
 zo 17 (.calld (.tmp 15) [.tmp 16]),
 zo 18 (.bslice 3 [.int .i64 0, .nilsl, .nilsl] [(0, 3, .tmp 17)]),
 zo 19 (.app false 3 56 14 (.tmp 18)),
 zo 5 (.own 19)] [])))
  (.region false [zo 20 (.bin .add (.tmp 10) (.cst (.int .i64 1))),
 zo 10 (.mov (.tmp 20))] [])))
def x27_l0 : XCode := x27_r0
/-- custos/ast.each[custos/api.Regex] -/
def x27 : XFn := XFn.mk 22 [.tmp 4] (.seq (.region false [zo 4 (.mov (.cst .nilsl))] [])
 (.seq (.region false [zo 5 (.mov (.cst .nilsl))] [])
 (.seq (.seq (.region false [zo 8 (.mov (.tmp 0)),
 zo 9 (.lens false (.tmp 8)),
 zo 10 (.mov (.cst (.int .i64 0)))] [])
  (.block 0 (.loop x27_l0)))
 (.seq (.region false [zo 21 (.mov (.tmp 5)),
 zo 4 (.own 21)] [])
  .ret))))
/-- custos/ast.cloneRegex -/
def x28 : XFn := XFn.mk 12 [.cell 2 3 true] (.seq (.region false [zo 1 (.box (.tmp 0) 3),
 zo 2 (.alloc [.int .i64 0, .nilsl, .nilsl])] [])
 (.seq (.region false [zo 3 (.faddr (.tmp 1) 1),
 zo 4 (.load (.tmp 3) 1 false),
 zo 5 (.callw 29 [.tmp 4, .cst (.fn 7 [] [])]),
 zo 6 (.faddr (.tmp 1) 1),
 ⟨none, .store (.tmp 6) (.tmp 5) 1, none⟩] [])
 (.seq (.region false [zo 7 (.faddr (.tmp 1) 2),
 zo 8 (.load (.tmp 7) 1 false),
 zo 9 (.callw 27 [.tmp 8, .cst (.fn 28 [] [])]),
 zo 10 (.faddr (.tmp 1) 2),
 ⟨none, .store (.tmp 10) (.tmp 9) 1, none⟩] [])
 (.seq (.region false [zo 11 (.load (.tmp 1) 3 true),
 ⟨none, .store (.tmp 2) (.tmp 11) 3, none⟩] [])
  .ret))))
def x29_r0 : XCode := .seq (.region false [zo 11 (.bin .lss (.tmp 10) (.tmp 9))] [])
 (.seq (.cond (.tmp 11) .skip (.exit 0))
 (.seq (.block 1 (.seq (.region false [zo 12 (.iaddr 10 (.tmp 8) (.tmp 10)),
 zo 13 (.load (.tmp 12) 10 true),
 zo 7 (.alloc [.int .i64 0, .str [], .int .i64 0, .nilsl, .nilsl, .int .i64 0, .int .i64 0, .bool false, .nilsl, .nilsl]),
 ⟨none, .store (.tmp 7) (.tmp 13) 10, none⟩] [])
  (.region false [zo 14 (.own 5),
 zo 15 (.mov (.tmp 1)),
 zo 16 (.load (.tmp 7) 10 true),
 zo 17 (.calld (.tmp 15) [.tmp 16]),
 zo 18 (.bslice 10 [.int .i64 0, .str [], .int .i64 0, .nilsl, .nilsl, .int .i64 0, .int .i64 0, .bool false, .nilsl, .nilsl] [(0, 10, .tmp 17)]),
 zo 19 (.app false 10 152 14 (.tmp 18)),
 zo 5 (.own 19)] [])))
  (.region false [zo 20 (.bin .add (.tmp 10) (.cst (.int .i64 1))),
 zo 10 (.mov (.tmp 20))] [])))
def x29_l0 : XCode := x29_r0
/-- custos/ast.each[custos/api.Formula] -/
def x29 : XFn := XFn.mk 22 [.tmp 4] (.seq (.region false [zo 4 (.mov (.cst .nilsl))] [])
 (.seq (.region false [zo 5 (.mov (.cst .nilsl))] [])
 (.seq (.seq (.region false [zo 8 (.mov (.tmp 0)),
 zo 9 (.lens false (.tmp 8)),
 zo 10 (.mov (.cst (.int .i64 0)))] [])
  (.block 0 (.loop x29_l0)))
 (.seq (.region false [zo 21 (.mov (.tmp 5)),
 zo 4 (.own 21)] [])
  .ret))))
/-- custos/ast.look -/
def x30 : XFn := XFn.mk 26 [.tmp 2] (.seq (.region false [zo 1 (.box (.tmp 0) 10),
 zo 2 (.mov (.cst .nilptr))] [])
 (.seq (.region false [zo 6 (.build [.int .i64 0, .int .i64 0, .int .i64 0] []),
 zo 7 (.box (.tmp 6) 3),
 zo 3 (.own 7)] [])
 (.seq (.region false [zo 8 (.mov (.tmp 3)),
 zo 9 (.load (.tmp 1) 10 true),
 zo 10 (.callw 49 [.tmp 8, .tmp 9, .cst (.int .i64 1)])] [])
 (.seq (.seq (.region false [zo 11 (.mov (.tmp 3)),
 zo 12 (.nilck (.tmp 11)),
 zo 13 (.faddr (.tmp 12) 2),
 zo 14 (.load (.tmp 13) 1 false),
 zo 15 (.bin .eql (.tmp 14) (.cst (.int .i64 0)))] [])
  (.cond (.tmp 15) (.seq (.region false [zo 17 (.load (.tmp 1) 10 true),
 zo 18 (.callq 42 [.tmp 17]),
 zo 16 (.own 18),
 zo 19 (.extm 16),
 zo 20 (.ext 16 1),
 zo 4 (.own 19),
 zo 5 (.own 20)] [])
  (.region false [zo 21 (.mov (.tmp 3)),
 zo 22 (.mov (.tmp 5)),
 zo 23 (.bin .leq (.tmp 22) (.cst (.int .i64 8))),
 zo 24 (.callw 50 [.tmp 21, .tmp 23, .cst (.int .i64 30)])] [])) .skip))
 (.seq (.region false [zo 25 (.mov (.tmp 3)),
 zo 2 (.own 25)] [])
  .ret)))))
def x31_r0 : XCode := .seq (.seq (.region false [zo 76 (.mov (.tmp 12)),
 zo 77 (.faddr (.tmp 4) 4),
 zo 78 (.load (.tmp 77) 1 false),
 zo 79 (.lens false (.tmp 78)),
 zo 80 (.bin .lss (.tmp 76) (.tmp 79))] [])
  (.cond (.tmp 80) .skip (.exit 0)))
 (.seq (.block 1 (.region false [zo 83 (.mov (.tmp 0)),
 zo 84 (.faddr (.tmp 4) 4),
 zo 85 (.load (.tmp 84) 1 false),
 zo 86 (.mov (.tmp 12)),
 zo 87 (.iaddr 7 (.tmp 85) (.tmp 86)),
 zo 88 (.load (.tmp 87) 7 true),
 zo 89 (.mov (.tmp 2)),
 zo 90 (.bin .add (.tmp 89) (.cst (.int .i64 1))),
 zo 91 (.callw 58 [.tmp 83, .tmp 88, .tmp 90])] []))
  (.region false [zo 81 (.mov (.tmp 12)),
 zo 82 (.bin .add (.tmp 81) (.cst (.int .i64 1))),
 zo 12 (.own 82)] []))
def x31_l0 : XCode := x31_r0
def x31_r1 : XCode := .seq (.seq (.region false [zo 92 (.mov (.tmp 13)),
 zo 93 (.faddr (.tmp 4) 9),
 zo 94 (.load (.tmp 93) 1 false),
 zo 95 (.lens false (.tmp 94)),
 zo 96 (.bin .lss (.tmp 92) (.tmp 95))] [])
  (.cond (.tmp 96) .skip (.exit 2)))
 (.seq (.block 3 (.region false [zo 99 (.mov (.tmp 0)),
 zo 100 (.faddr (.tmp 4) 9),
 zo 101 (.load (.tmp 100) 1 false),
 zo 102 (.mov (.tmp 13)),
 zo 103 (.iaddr 3 (.tmp 101) (.tmp 102)),
 zo 104 (.load (.tmp 103) 3 true),
 zo 105 (.mov (.tmp 2)),
 zo 106 (.bin .add (.tmp 105) (.cst (.int .i64 1))),
 zo 107 (.callw 59 [.tmp 99, .tmp 104, .tmp 106])] []))
  (.region false [zo 97 (.mov (.tmp 13)),
 zo 98 (.bin .add (.tmp 97) (.cst (.int .i64 1))),
 zo 13 (.own 98)] []))
def x31_l1 : XCode := x31_r1
def x31_r2 : XCode := .seq (.seq (.region false [zo 108 (.mov (.tmp 14)),
 zo 109 (.faddr (.tmp 4) 8),
 zo 110 (.load (.tmp 109) 1 false),
 zo 111 (.lens false (.tmp 110)),
 zo 112 (.bin .lss (.tmp 108) (.tmp 111))] [])
  (.cond (.tmp 112) .skip (.exit 4)))
 (.seq (.block 5 (.region false [zo 115 (.mov (.tmp 0)),
 zo 116 (.faddr (.tmp 4) 8),
 zo 117 (.load (.tmp 116) 1 false),
 zo 118 (.mov (.tmp 14)),
 zo 119 (.iaddr 10 (.tmp 117) (.tmp 118)),
 zo 120 (.load (.tmp 119) 10 true),
 zo 121 (.mov (.tmp 2)),
 zo 122 (.bin .add (.tmp 121) (.cst (.int .i64 1))),
 zo 123 (.callw 31 [.tmp 115, .tmp 120, .tmp 122])] []))
  (.region false [zo 113 (.mov (.tmp 14)),
 zo 114 (.bin .add (.tmp 113) (.cst (.int .i64 1))),
 zo 14 (.own 114)] []))
def x31_l2 : XCode := x31_r2
/-- (*custos/custosref06.Walk).Formula -/
def x31 : XFn := XFn.mk 124 [] (.seq (.region false [zo 4 (.box (.tmp 1) 10)] [])
 (.seq (.region false [zo 15 (.mov (.tmp 0)),
 zo 16 (.mov (.tmp 2)),
 zo 17 (.callw 51 [.tmp 15, .tmp 16]),
 zo 6 (.own 17)] [])
 (.seq (.seq (.region false [zo 18 (.mov (.tmp 6)),
 zo 19 (.not (.tmp 18))] [])
  (.cond (.tmp 19) .ret .skip))
 (.seq (.region false [zo 20 (.mov (.tmp 0)),
 zo 21 (.faddr (.tmp 4) 0),
 zo 22 (.load (.tmp 21) 1 false),
 zo 23 (.bin .lss (.tmp 22) (.cst (.int .i64 1))),
 zo 24 (.mov (.tmp 23)),
 zg 25 24 false (.faddr (.tmp 4) 0),
 zg 26 24 false (.load (.tmp 25) 1 false),
 zg 27 24 false (.bin .gtr (.tmp 26) (.cst (.int .i64 22))),
 zo 28 (.pick (.tmp 24) (.cst (.bool true)) (.tmp 27)),
 zo 29 (.callw 52 [.tmp 20, .tmp 28, .cst (.int .i64 20)])] [])
 (.seq (.region false [zo 30 (.load (.tmp 4) 10 true),
 zo 31 (.callq 53 [.tmp 30]),
 zo 7 (.own 31)] [])
 (.seq (.region false [zo 32 (.mov (.tmp 0)),
 zo 33 (.mov (.tmp 7)),
 zo 34 (.callw 52 [.tmp 32, .tmp 33, .cst (.int .i64 3)])] [])
 (.seq (.region false [zo 35 (.load (.tmp 4) 10 true),
 zo 36 (.callq 54 [.tmp 35]),
 zo 8 (.own 36)] [])
 (.seq (.region false [zo 37 (.load (.tmp 4) 10 true),
 zo 38 (.callq 55 [.tmp 37]),
 zo 9 (.own 38)] [])
 (.seq (.region false [zo 39 (.mov (.tmp 0)),
 zo 40 (.mov (.tmp 8)),
 zo 41 (.not (.tmp 40)),
 zo 42 (.mov (.tmp 41)),
 zg 43 42 false (.mov (.tmp 9)),
 zg 44 42 false (.not (.tmp 43)),
 zo 45 (.pick (.tmp 42) (.cst (.bool true)) (.tmp 44)),
 zo 46 (.callw 52 [.tmp 39, .tmp 45, .cst (.int .i64 1)])] [])
 (.seq (.region false [zo 47 (.faddr (.tmp 4) 3),
 zo 48 (.load (.tmp 47) 1 false),
 zo 49 (.callq 56 [.tmp 48]),
 zo 10 (.own 49)] [])
 (.seq (.region false [zo 11 (.mov (.cst (.bool false)))] [])
 (.seq (.seq (.region false [zo 50 (.faddr (.tmp 4) 0),
 zo 51 (.load (.tmp 50) 1 false),
 zo 52 (.bin .eql (.tmp 51) (.cst (.int .i64 19))),
 zo 53 (.mov (.tmp 52)),
 zg 54 53 true (.faddr (.tmp 4) 3),
 zg 55 53 true (.load (.tmp 54) 1 false),
 zg 56 53 true (.lens false (.tmp 55)),
 zg 57 53 true (.bin .gtr (.tmp 56) (.cst (.int .i64 0))),
 zo 58 (.pick (.tmp 53) (.tmp 57) (.cst (.bool false)))] [])
  (.cond (.tmp 58) (.region true [zo 59 (.faddr (.tmp 4) 3),
 zo 60 (.load (.tmp 59) 1 false),
 zo 61 (.ssl 1 (.tmp 60) (some (.cst (.int .i64 1))) none none),
 zo 62 (.faddr (.tmp 4) 1),
 zo 63 (.load (.tmp 62) 1 false),
 zo 64 (.callq 57 [.tmp 61, .tmp 63]),
 zo 11 (.own 64)] []) .skip))
 (.seq (.region false [zo 65 (.mov (.tmp 0)),
 zo 66 (.mov (.tmp 10)),
 zo 67 (.mov (.tmp 66)),
 zg 68 67 false (.mov (.tmp 11)),
 zo 69 (.pick (.tmp 67) (.cst (.bool true)) (.tmp 68)),
 zo 70 (.callw 52 [.tmp 65, .tmp 69, .cst (.int .i64 30)])] [])
 (.seq (.seq (.region false [zo 71 (.mov (.tmp 0)),
 zo 72 (.nilck (.tmp 71)),
 zo 73 (.faddr (.tmp 72) 2),
 zo 74 (.load (.tmp 73) 1 false),
 zo 75 (.bin .neq (.tmp 74) (.cst (.int .i64 0)))] [])
  (.cond (.tmp 75) .ret .skip))
 (.seq (.seq (.region false [zo 12 (.mov (.cst (.int .i64 0)))] [])
  (.block 0 (.loop x31_l0)))
 (.seq (.seq (.region false [zo 13 (.mov (.cst (.int .i64 0)))] [])
  (.block 2 (.loop x31_l1)))
 (.seq (.region false [zo 14 (.mov (.cst (.int .i64 0)))] [])
  (.block 4 (.loop x31_l2)))))))))))))))))))
def x32_r0 : XCode := .seq (.seq (.region false [zo 14 (.mov (.tmp 5)),
 zo 15 (.mov (.tmp 4)),
 zo 16 (.lens false (.tmp 15)),
 zo 17 (.bin .lss (.tmp 14) (.tmp 16))] [])
  (.cond (.tmp 17) .skip (.exit 0)))
 (.seq (.block 1 (.seq (.region false [zo 20 (.mov (.tmp 4)),
 zo 21 (.mov (.tmp 5)),
 zo 22 (.iaddr 10 (.tmp 20) (.tmp 21)),
 zo 23 (.load (.tmp 22) 10 true),
 zo 24 (.callq 32 [.tmp 23]),
 zo 6 (.own 24)] [])
 (.seq (.region false [zo 25 (.mov (.tmp 6)),
 zo 26 (.not (.tmp 25))] [])
  (.cond (.tmp 26) (.seq (.region false [zo 2 (.mov (.cst (.bool false)))] [])
  .ret) .skip))))
  (.region false [zo 18 (.mov (.tmp 5)),
 zo 19 (.bin .add (.tmp 18) (.cst (.int .i64 1))),
 zo 5 (.own 19)] []))
def x32_l0 : XCode := x32_r0
/-- custos/custosref06.few -/
def x32 : XFn := XFn.mk 27 [.tmp 2] (.seq (.region false [zo 1 (.box (.tmp 0) 10),
 zo 2 (.mov (.cst (.bool false)))] [])
 (.seq (.region false [zo 7 (.load (.tmp 1) 10 true),
 zo 8 (.callq 43 [.tmp 7]),
 zo 3 (.own 8)] [])
 (.seq (.seq (.region false [zo 9 (.mov (.tmp 3)),
 zo 10 (.lens false (.tmp 9)),
 zo 11 (.bin .gtr (.tmp 10) (.cst (.int .i64 8)))] [])
  (.cond (.tmp 11) (.seq (.region false [zo 2 (.mov (.cst (.bool false)))] [])
  .ret) .skip))
 (.seq (.region false [zo 12 (.load (.tmp 1) 10 true),
 zo 13 (.callq 48 [.tmp 12]),
 zo 4 (.own 13)] [])
 (.seq (.seq (.region false [zo 5 (.mov (.cst (.int .i64 0)))] [])
  (.block 0 (.loop x32_l0)))
 (.seq (.region false [zo 2 (.mov (.cst (.bool true)))] [])
  .ret))))))
/-- custos/custoslaw06.both -/
def x37 : XFn := XFn.mk 9 [.cell 4 10 true] (.seq (.region false [zo 2 (.box (.tmp 0) 10),
 zo 3 (.box (.tmp 1) 10),
 zo 4 (.alloc [.int .i64 0, .str [], .int .i64 0, .nilsl, .nilsl, .int .i64 0, .int .i64 0, .bool false, .nilsl, .nilsl])] [])
 (.seq (.region false [zo 5 (.load (.tmp 2) 10 true),
 zo 6 (.load (.tmp 3) 10 true),
 zo 7 (.bslice 10 [.int .i64 0, .str [], .int .i64 0, .nilsl, .nilsl, .int .i64 0, .int .i64 0, .bool false, .nilsl, .nilsl, .int .i64 0, .str [], .int .i64 0, .nilsl, .nilsl, .int .i64 0, .int .i64 0, .bool false, .nilsl, .nilsl] [(0, 10, .tmp 5), (10, 10, .tmp 6)]),
 zo 8 (.build [.int .i64 0, .str [], .int .i64 0, .nilsl, .nilsl, .int .i64 0, .int .i64 0, .bool false, .nilsl, .nilsl] [(0, 1, .cst (.int .i64 8)), (8, 1, .tmp 7)]),
 ⟨none, .store (.tmp 4) (.tmp 8) 10, none⟩] [])
  .ret))
def x38_r0 : XCode := .seq (.seq (.region false [zo 6 (.mov (.tmp 4)),
 zo 7 (.mov (.tmp 0)),
 zo 8 (.lens false (.tmp 7)),
 zo 9 (.bin .lss (.tmp 6) (.tmp 8))] [])
  (.cond (.tmp 9) .skip (.exit 0)))
 (.seq (.block 1 (.region true [zo 12 (.faddr (.tmp 3) 4),
 zo 13 (.lown (.tmp 12)),
 zo 14 (.mov (.tmp 0)),
 zo 15 (.mov (.tmp 4)),
 zo 16 (.iaddr 1 (.tmp 14) (.tmp 15)),
 zo 17 (.load (.tmp 16) 1 false),
 zo 18 (.callq 39 [.tmp 17]),
 zo 19 (.bslice 7 [.int .i64 0, .str [], .int .i64 0, .int .i64 0, .int .i64 0, .str [], .nilsl] [(0, 7, .tmp 18)]),
 zo 20 (.app false 7 88 13 (.tmp 19)),
 zo 21 (.faddr (.tmp 3) 4),
 ⟨none, .store (.tmp 21) (.tmp 20) 1, none⟩] [(12, 16)]))
  (.region false [zo 10 (.mov (.tmp 4)),
 zo 11 (.bin .add (.tmp 10) (.cst (.int .i64 1))),
 zo 4 (.own 11)] []))
def x38_l0 : XCode := x38_r0
/-- custos/custoslaw06.p -/
def x38 : XFn := XFn.mk 23 [.cell 2 10 true] (.seq (.region false [zo 2 (.alloc [.int .i64 0, .str [], .int .i64 0, .nilsl, .nilsl, .int .i64 0, .int .i64 0, .bool false, .nilsl, .nilsl])] [])
 (.seq (.region false [zo 5 (.build [.int .i64 0, .str [], .int .i64 0, .nilsl, .nilsl, .int .i64 0, .int .i64 0, .bool false, .nilsl, .nilsl] [(0, 1, .cst (.int .i64 3)), (1, 1, .cst (.str [112]))]),
 zo 3 (.alloc [.int .i64 0, .str [], .int .i64 0, .nilsl, .nilsl, .int .i64 0, .int .i64 0, .bool false, .nilsl, .nilsl]),
 ⟨none, .store (.tmp 3) (.tmp 5) 10, none⟩] [])
 (.seq (.seq (.region false [zo 4 (.mov (.cst (.int .i64 0)))] [])
  (.block 0 (.loop x38_l0)))
 (.seq (.region false [zo 22 (.load (.tmp 3) 10 true),
 ⟨none, .store (.tmp 2) (.tmp 22) 10, none⟩] [])
  .ret))))
/-- custos/custoslaw06.x -/
def x39 : XFn := XFn.mk 5 [.cell 2 7 true] (.seq (.region false [zo 2 (.alloc [.int .i64 0, .str [], .int .i64 0, .int .i64 0, .int .i64 0, .str [], .nilsl])] [])
 (.seq (.region false [zo 3 (.mov (.tmp 0)),
 zo 4 (.build [.int .i64 0, .str [], .int .i64 0, .int .i64 0, .int .i64 0, .str [], .nilsl] [(0, 1, .cst (.int .i64 1)), (1, 1, .tmp 3)]),
 ⟨none, .store (.tmp 2) (.tmp 4) 7, none⟩] [])
  .ret))
/-- custos/ast.Same -/
def x40 : XFn := XFn.mk 59 [.tmp 4] (.seq (.region false [zo 2 (.box (.tmp 0) 10),
 zo 3 (.box (.tmp 1) 10),
 zo 4 (.mov (.cst (.bool false)))] [])
 (.seq (.region false [zo 5 (.faddr (.tmp 2) 0),
 zo 6 (.load (.tmp 5) 1 false),
 zo 7 (.faddr (.tmp 3) 0),
 zo 8 (.load (.tmp 7) 1 false),
 zo 9 (.bin .eql (.tmp 6) (.tmp 8)),
 zo 10 (.mov (.tmp 9)),
 zg 11 10 true (.faddr (.tmp 2) 1),
 zg 12 10 true (.load (.tmp 11) 1 false),
 zg 13 10 true (.faddr (.tmp 3) 1),
 zg 14 10 true (.load (.tmp 13) 1 false),
 zg 15 10 true (.bin .eql (.tmp 12) (.tmp 14)),
 zo 16 (.pick (.tmp 10) (.tmp 15) (.cst (.bool false))),
 zo 17 (.mov (.tmp 16)),
 zg 18 17 true (.faddr (.tmp 2) 2),
 zg 19 17 true (.load (.tmp 18) 1 false),
 zg 20 17 true (.faddr (.tmp 3) 2),
 zg 21 17 true (.load (.tmp 20) 1 false),
 zg 22 17 true (.bin .eql (.tmp 19) (.tmp 21)),
 zo 23 (.pick (.tmp 17) (.tmp 22) (.cst (.bool false))),
 zo 24 (.mov (.tmp 23)),
 zg 25 24 true (.faddr (.tmp 2) 5),
 zg 26 24 true (.load (.tmp 25) 3 true),
 zg 27 24 true (.faddr (.tmp 3) 5),
 zg 28 24 true (.load (.tmp 27) 3 true),
 zg 29 24 true (.eqagg false [1, 1, 0] (.tmp 26) (.tmp 28)),
 zo 30 (.pick (.tmp 24) (.tmp 29) (.cst (.bool false))),
 zo 31 (.mov (.tmp 30)),
 zg 32 31 true (.faddr (.tmp 2) 3),
 zg 33 31 true (.load (.tmp 32) 1 false),
 zg 34 31 true (.faddr (.tmp 3) 3),
 zg 35 31 true (.load (.tmp 34) 1 false),
 zg 36 31 true (.callq 61 [.tmp 33, .tmp 35]),
 zo 37 (.pick (.tmp 31) (.tmp 36) (.cst (.bool false))),
 zo 38 (.mov (.tmp 37)),
 zg 39 38 true (.faddr (.tmp 2) 4),
 zg 40 38 true (.load (.tmp 39) 1 false),
 zg 41 38 true (.faddr (.tmp 3) 4),
 zg 42 38 true (.load (.tmp 41) 1 false),
 zg 43 38 true (.callw 62 [.tmp 40, .tmp 42, .cst (.fn 63 [] [])]),
 zo 44 (.pick (.tmp 38) (.tmp 43) (.cst (.bool false))),
 zo 45 (.mov (.tmp 44)),
 zg 46 45 true (.faddr (.tmp 2) 9),
 zg 47 45 true (.load (.tmp 46) 1 false),
 zg 48 45 true (.faddr (.tmp 3) 9),
 zg 49 45 true (.load (.tmp 48) 1 false),
 zg 50 45 true (.callw 64 [.tmp 47, .tmp 49, .cst (.fn 65 [] [])]),
 zo 51 (.pick (.tmp 45) (.tmp 50) (.cst (.bool false))),
 zo 52 (.mov (.tmp 51)),
 zg 53 52 true (.faddr (.tmp 2) 8),
 zg 54 52 true (.load (.tmp 53) 1 false),
 zg 55 52 true (.faddr (.tmp 3) 8),
 zg 56 52 true (.load (.tmp 55) 1 false),
 zg 57 52 true (.callw 66 [.tmp 54, .tmp 56, .cst (.fn 40 [] [])]),
 zo 58 (.pick (.tmp 52) (.tmp 57) (.cst (.bool false))),
 zo 4 (.own 58)] [])
  .ret))
def x41_r0 : XCode := .seq (.region false [zo 19 (.nexts (.tmp 18)),
 zo 20 (.ext 19 0)] [])
 (.seq (.cond (.tmp 20) .skip (.exit 0))
  (.block 1 (.seq (.region false [zo 21 (.ext 19 1),
 zo 22 (.ext 19 2),
 zo 3 (.own 21),
 zo 4 (.own 22)] [])
 (.seq (.region false [zo 23 (.mov (.tmp 4)),
 zo 24 (.bin .geq (.tmp 23) (.cst (.int .i32 97))),
 zo 25 (.mov (.tmp 24)),
 zg 26 25 true (.mov (.tmp 4)),
 zg 27 25 true (.bin .leq (.tmp 26) (.cst (.int .i32 122))),
 zo 28 (.pick (.tmp 25) (.tmp 27) (.cst (.bool false))),
 zo 5 (.own 28)] [])
 (.seq (.region false [zo 29 (.mov (.tmp 5)),
 zo 30 (.not (.tmp 29)),
 zo 31 (.mov (.tmp 30)),
 zg 32 31 true (.mov (.tmp 3)),
 zg 33 31 true (.bin .eql (.tmp 32) (.cst (.int .i64 0))),
 zg 34 31 true (.mov (.tmp 33)),
 zg 35 34 false (.mov (.tmp 4)),
 zg 36 34 false (.bin .neq (.tmp 35) (.cst (.int .i32 95))),
 zg 37 34 false (.mov (.tmp 36)),
 zg 38 37 true (.mov (.tmp 4)),
 zg 39 37 true (.bin .lss (.tmp 38) (.cst (.int .i32 48))),
 zg 40 37 true (.mov (.tmp 39)),
 zg 41 40 false (.mov (.tmp 4)),
 zg 42 40 false (.bin .gtr (.tmp 41) (.cst (.int .i32 57))),
 zg 43 37 true (.pick (.tmp 40) (.cst (.bool true)) (.tmp 42)),
 zg 44 34 false (.pick (.tmp 37) (.tmp 43) (.cst (.bool false))),
 zg 45 31 true (.pick (.tmp 34) (.cst (.bool true)) (.tmp 44)),
 zo 46 (.pick (.tmp 31) (.tmp 45) (.cst (.bool false)))] [])
  (.cond (.tmp 46) (.seq (.region false [zo 2 (.mov (.cst (.bool false)))] [])
  .ret) .skip))))))
def x41_l0 : XCode := x41_r0
/-- custos/ast.Name -/
def x41 : XFn := XFn.mk 47 [.tmp 2] (.seq (.region false [zo 2 (.mov (.cst (.bool false)))] [])
 (.seq (.seq (.region false [zo 6 (.mov (.tmp 0)),
 zo 7 (.bin .eql (.tmp 6) (.cst (.str []))),
 zo 8 (.mov (.tmp 7)),
 zg 9 8 false (.mov (.tmp 0)),
 zg 10 8 false (.lens true (.tmp 9)),
 zg 11 8 false (.bin .gtr (.tmp 10) (.cst (.int .i64 16))),
 zo 12 (.pick (.tmp 8) (.cst (.bool true)) (.tmp 11)),
 zo 13 (.mov (.tmp 12)),
 zg 14 13 false (.mov (.tmp 0)),
 zg 15 13 false (.callq 67 [.tmp 14]),
 zo 16 (.pick (.tmp 13) (.cst (.bool true)) (.tmp 15))] [])
  (.cond (.tmp 16) (.seq (.region false [zo 2 (.mov (.cst (.bool false)))] [])
  .ret) .skip))
 (.seq (.seq (.region false [zo 17 (.mov (.tmp 0)),
 zo 18 (.rngs (.tmp 17))] [])
  (.block 0 (.loop x41_l0)))
 (.seq (.region false [zo 2 (.mov (.cst (.bool true)))] [])
  .ret))))
def x42_r0 : XCode := .seq (.region false [zo 14 (.bin .lss (.tmp 13) (.tmp 12))] [])
 (.seq (.cond (.tmp 14) .skip (.exit 0))
 (.seq (.block 1 (.seq (.region false [zo 15 (.iaddr 7 (.tmp 11) (.tmp 13)),
 zo 16 (.load (.tmp 15) 7 true),
 zo 5 (.alloc [.int .i64 0, .str [], .int .i64 0, .int .i64 0, .int .i64 0, .str [], .nilsl]),
 ⟨none, .store (.tmp 5) (.tmp 16) 7, none⟩] [])
  (.region false [zo 17 (.own 2),
 zo 18 (.load (.tmp 5) 7 true),
 zo 19 (.callqd 14 [.tmp 18]),
 zo 20 (.app true 1 16 17 (.tmp 19)),
 zo 2 (.own 20)] [])))
  (.region false [zo 21 (.bin .add (.tmp 13) (.cst (.int .i64 1))),
 zo 13 (.mov (.tmp 21))] [])))
def x42_l0 : XCode := x42_r0
def x42_r1 : XCode := .seq (.region false [zo 26 (.bin .lss (.tmp 25) (.tmp 24))] [])
 (.seq (.cond (.tmp 26) .skip (.exit 2))
 (.seq (.block 3 (.seq (.region false [zo 27 (.mov (.tmp 25)),
 zo 28 (.iaddr 10 (.tmp 23) (.tmp 25)),
 zo 29 (.load (.tmp 28) 10 true),
 zo 7 (.alloc [.int .i64 0, .str [], .int .i64 0, .nilsl, .nilsl, .int .i64 0, .int .i64 0, .bool false, .nilsl, .nilsl]),
 zo 6 (.own 27),
 ⟨none, .store (.tmp 7) (.tmp 29) 10, none⟩] [])
 (.seq (.region false [zo 31 (.load (.tmp 7) 10 true),
 zo 32 (.callq 42 [.tmp 31]),
 zo 30 (.own 32),
 zo 33 (.extm 30),
 zo 34 (.ext 30 1),
 zo 8 (.ownd 33),
 zo 9 (.own 34)] [])
 (.seq (.region false [zo 35 (.mov (.tmp 3)),
 zo 36 (.mov (.tmp 9)),
 zo 37 (.mx (.tmp 35) (.tmp 36)),
 zo 3 (.own 37)] [])
 (.seq (.region false [zo 38 (.faddr (.tmp 1) 0),
 zo 39 (.load (.tmp 38) 1 false),
 zo 40 (.bin .neq (.tmp 39) (.cst (.int .i64 19))),
 zo 41 (.mov (.tmp 40)),
 zg 42 41 true (.faddr (.tmp 1) 0),
 zg 43 41 true (.load (.tmp 42) 1 false),
 zg 44 41 true (.bin .neq (.tmp 43) (.cst (.int .i64 20))),
 zg 45 41 true (.mov (.tmp 44)),
 zg 46 45 true (.faddr (.tmp 1) 0),
 zg 47 45 true (.load (.tmp 46) 1 false),
 zg 48 45 true (.bin .neq (.tmp 47) (.cst (.int .i64 21))),
 zg 49 41 true (.pick (.tmp 45) (.tmp 48) (.cst (.bool false))),
 zg 50 41 true (.mov (.tmp 49)),
 zg 51 50 false (.mov (.tmp 6)),
 zg 52 50 false (.bin .eql (.tmp 51) (.cst (.int .i64 1))),
 zg 53 41 true (.pick (.tmp 50) (.cst (.bool true)) (.tmp 52)),
 zo 54 (.pick (.tmp 41) (.tmp 53) (.cst (.bool false)))] [])
  (.cond (.tmp 54) (.region false [zo 55 (.own 2),
 zo 56 (.mov (.tmp 8)),
 zo 57 (.app true 1 16 55 (.tmp 56)),
 zo 2 (.own 57)] []) .skip))))))
  (.region false [zo 58 (.bin .add (.tmp 25) (.cst (.int .i64 1))),
 zo 25 (.mov (.tmp 58))] [])))
def x42_l1 : XCode := x42_r1
/-- custos/ast.free -/
def x42 : XFn := XFn.mk 83 [.tmp 2, .tmp 3] (.seq (.region false [zo 1 (.box (.tmp 0) 10),
 zo 2 (.mov (.cst .nilsl)),
 zo 3 (.mov (.cst (.int .i64 0)))] [])
 (.seq (.seq (.region false [zo 10 (.faddr (.tmp 1) 4),
 zo 11 (.load (.tmp 10) 1 false),
 zo 12 (.lens false (.tmp 11)),
 zo 13 (.mov (.cst (.int .i64 0)))] [])
  (.block 0 (.loop x42_l0)))
 (.seq (.seq (.region false [zo 22 (.load (.tmp 1) 10 true),
 zo 23 (.callq 47 [.tmp 22]),
 zo 24 (.lens false (.tmp 23)),
 zo 25 (.mov (.cst (.int .i64 0)))] [])
  (.block 2 (.loop x42_l1)))
 (.seq (.seq (.region false [zo 59 (.faddr (.tmp 1) 0),
 zo 60 (.load (.tmp 59) 1 false)] [])
  (.block 4 (.seq (.region false [zo 62 (.bin .eql (.tmp 60) (.cst (.int .i64 19))),
 zo 61 (.own 62)] [])
  (.cond (.tmp 61) (.region true [zo 63 (.faddr (.tmp 1) 3),
 zo 64 (.load (.tmp 63) 1 false),
 zo 65 (.ssl 1 (.tmp 64) (some (.cst (.int .i64 1))) none none),
 zo 66 (.callq 24 [.tmp 65]),
 zo 67 (.faddr (.tmp 1) 1),
 zo 68 (.load (.tmp 67) 1 false),
 zo 69 (.bslice 1 [.str []] [(0, 1, .tmp 68)]),
 zo 70 (.app true 1 16 66 (.tmp 69)),
 zo 2 (.own 70)] []) (.seq (.region false [zo 72 (.bin .eql (.tmp 60) (.cst (.int .i64 10))),
 zo 71 (.own 72)] [])
  (.cond (.tmp 71) (.region false [zo 73 (.own 2),
 zo 74 (.mkfn 69 [] [.tmp 1]),
 zo 75 (.callm 68 73 [.tmp 74]),
 zo 2 (.own 75)] []) .skip))))))
 (.seq (.region false [zo 76 (.own 2),
 zo 77 (.primm 100 44 76),
 zo 2 (.own 77)] [])
 (.seq (.region false [zo 78 (.ownl 2),
 zo 79 (.mov (.tmp 3)),
 zo 80 (.mov (.tmp 2)),
 zo 81 (.lens false (.tmp 80)),
 zo 82 (.mx (.tmp 79) (.tmp 81)),
 zo 2 (.own 78),
 zo 3 (.own 82)] [])
  .ret))))))
def x43_r0 : XCode := .seq (.seq (.region false [zo 12 (.mov (.tmp 4)),
 zo 13 (.faddr (.tmp 1) 4),
 zo 14 (.load (.tmp 13) 1 false),
 zo 15 (.lens false (.tmp 14)),
 zo 16 (.bin .lss (.tmp 12) (.tmp 15))] [])
  (.cond (.tmp 16) .skip (.exit 0)))
 (.seq (.block 1 (.seq (.region false [zo 19 (.faddr (.tmp 1) 4),
 zo 20 (.load (.tmp 19) 1 false),
 zo 21 (.mov (.tmp 4)),
 zo 22 (.iaddr 7 (.tmp 20) (.tmp 21)),
 zo 23 (.load (.tmp 22) 7 true),
 zo 24 (.callq 15 [.tmp 23]),
 zo 5 (.own 24)] [])
  (.region false [zo 25 (.mov (.tmp 3)),
 zo 26 (.mov (.tmp 5)),
 zo 27 (.callq 46 [.tmp 25, .tmp 26]),
 zo 3 (.own 27)] [])))
  (.region false [zo 17 (.mov (.tmp 4)),
 zo 18 (.bin .add (.tmp 17) (.cst (.int .i64 1))),
 zo 4 (.own 18)] []))
def x43_l0 : XCode := x43_r0
def x43_r1 : XCode := .seq (.seq (.region false [zo 51 (.mov (.tmp 7)),
 zo 52 (.mov (.tmp 6)),
 zo 53 (.lens false (.tmp 52)),
 zo 54 (.bin .lss (.tmp 51) (.tmp 53))] [])
  (.cond (.tmp 54) .skip (.exit 3)))
 (.seq (.block 4 (.seq (.region false [zo 57 (.mov (.tmp 6)),
 zo 58 (.mov (.tmp 7)),
 zo 59 (.iaddr 10 (.tmp 57) (.tmp 58)),
 zo 60 (.load (.tmp 59) 10 true),
 zo 61 (.callq 43 [.tmp 60]),
 zo 8 (.own 61)] [])
  (.region false [zo 62 (.mov (.tmp 3)),
 zo 63 (.mov (.tmp 8)),
 zo 64 (.callq 46 [.tmp 62, .tmp 63]),
 zo 3 (.own 64)] [])))
  (.region false [zo 55 (.mov (.tmp 7)),
 zo 56 (.bin .add (.tmp 55) (.cst (.int .i64 1))),
 zo 7 (.own 56)] []))
def x43_l1 : XCode := x43_r1
def x43_r2 : XCode := .seq (.seq (.region false [zo 69 (.mov (.tmp 10)),
 zo 70 (.mov (.tmp 3)),
 zo 71 (.lens false (.tmp 70)),
 zo 72 (.bin .lss (.tmp 69) (.tmp 71))] [])
  (.cond (.tmp 72) .skip (.exit 5)))
 (.seq (.block 6 (.seq (.region true [zo 75 (.faddr (.tmp 1) 3),
 zo 76 (.load (.tmp 75) 1 false),
 zo 77 (.mov (.tmp 3)),
 zo 78 (.mov (.tmp 10)),
 zo 79 (.iaddr 1 (.tmp 77) (.tmp 78)),
 zo 80 (.load (.tmp 79) 1 false),
 zo 81 (.callq 57 [.tmp 76, .tmp 80]),
 zo 11 (.own 81)] [])
 (.seq (.region false [zo 82 (.mov (.tmp 11)),
 zo 83 (.not (.tmp 82))] [])
  (.cond (.tmp 83) (.region false [zo 84 (.own 9),
 zo 85 (.mov (.tmp 3)),
 zo 86 (.mov (.tmp 10)),
 zo 87 (.iaddr 1 (.tmp 85) (.tmp 86)),
 zo 88 (.load (.tmp 87) 1 false),
 zo 89 (.bslice 1 [.str []] [(0, 1, .tmp 88)]),
 zo 90 (.app false 1 16 84 (.tmp 89)),
 zo 9 (.own 90)] []) .skip))))
  (.region false [zo 73 (.mov (.tmp 10)),
 zo 74 (.bin .add (.tmp 73) (.cst (.int .i64 1))),
 zo 10 (.own 74)] []))
def x43_l2 : XCode := x43_r2
/-- custos/custosref06.vars -/
def x43 : XFn := XFn.mk 92 [.tmp 2] (.seq (.region false [zo 1 (.box (.tmp 0) 10),
 zo 2 (.mov (.cst .nilsl))] [])
 (.seq (.region false [zo 3 (.mov (.cst .nilsl))] [])
 (.seq (.seq (.region false [zo 4 (.mov (.cst (.int .i64 0)))] [])
  (.block 0 (.loop x43_l0)))
 (.seq (.region false [zo 28 (.load (.tmp 1) 10 true),
 zo 29 (.callq 48 [.tmp 28]),
 zo 6 (.own 29)] [])
 (.seq (.seq (.region false [zo 30 (.faddr (.tmp 1) 0),
 zo 31 (.load (.tmp 30) 1 false)] [])
  (.block 2 (.seq (.region false [zo 33 (.bin .eql (.tmp 31) (.cst (.int .i64 19))),
 zo 32 (.own 33)] [])
  (.cond (.tmp 32) (.seq (.region false [zo 34 (.mov (.tmp 3)),
 zo 35 (.faddr (.tmp 1) 1),
 zo 36 (.load (.tmp 35) 1 false),
 zo 37 (.callq 45 [.tmp 34, .tmp 36]),
 zo 3 (.own 37)] [])
 (.seq (.region false [zo 38 (.mov (.tmp 3)),
 zo 39 (.faddr (.tmp 1) 3),
 zo 40 (.load (.tmp 39) 1 false),
 zo 41 (.ssl 1 (.tmp 40) (some (.cst (.int .i64 1))) none none),
 zo 42 (.callq 46 [.tmp 38, .tmp 41]),
 zo 2 (.own 42)] [])
  .ret)) (.seq (.seq (.region false [zo 44 (.bin .eql (.tmp 31) (.cst (.int .i64 20))),
 zo 43 (.own 44)] [])
  (.cond (.tmp 43) .skip (.region false [zo 45 (.bin .eql (.tmp 31) (.cst (.int .i64 21))),
 zo 43 (.own 45)] [])))
  (.cond (.tmp 43) (.seq (.region false [zo 46 (.faddr (.tmp 1) 8),
 zo 47 (.load (.tmp 46) 1 false),
 zo 48 (.iaddr 10 (.tmp 47) (.cst (.int .i64 1))),
 zo 49 (.load (.tmp 48) 10 true),
 zo 50 (.callq 43 [.tmp 49]),
 zo 2 (.own 50)] [])
  .ret) .skip))))))
 (.seq (.seq (.region false [zo 7 (.mov (.cst (.int .i64 0)))] [])
  (.block 3 (.loop x43_l1)))
 (.seq (.seq (.region false [zo 65 (.faddr (.tmp 1) 0),
 zo 66 (.load (.tmp 65) 1 false),
 zo 67 (.bin .neq (.tmp 66) (.cst (.int .i64 10)))] [])
  (.cond (.tmp 67) (.seq (.region false [zo 68 (.mov (.tmp 3)),
 zo 2 (.own 68)] [])
  .ret) .skip))
 (.seq (.region false [zo 9 (.mov (.cst .nilsl))] [])
 (.seq (.seq (.region false [zo 10 (.mov (.cst (.int .i64 0)))] [])
  (.block 5 (.loop x43_l2)))
 (.seq (.region false [zo 91 (.mov (.tmp 9)),
 zo 2 (.own 91)] [])
  .ret))))))))))
def x45_r0 : XCode := .seq (.seq (.region false [zo 7 (.mov (.tmp 5)),
 zo 8 (.mov (.tmp 0)),
 zo 9 (.lens false (.tmp 8)),
 zo 10 (.bin .lss (.tmp 7) (.tmp 9)),
 zo 11 (.mov (.tmp 10)),
 zg 12 11 true (.mov (.tmp 0)),
 zg 13 11 true (.mov (.tmp 5)),
 zg 14 11 true (.iaddr 1 (.tmp 12) (.tmp 13)),
 zg 15 11 true (.load (.tmp 14) 1 false),
 zg 16 11 true (.mov (.tmp 1)),
 zg 17 11 true (.bin .lss (.tmp 15) (.tmp 16)),
 zo 18 (.pick (.tmp 11) (.tmp 17) (.cst (.bool false)))] [])
  (.cond (.tmp 18) .skip (.exit 0)))
  (.block 1 (.region false [zo 19 (.mov (.tmp 5)),
 zo 20 (.bin .add (.tmp 19) (.cst (.int .i64 1))),
 zo 5 (.own 20)] []))
def x45_l0 : XCode := x45_r0
/-- custos/custosref06.put -/
def x45 : XFn := XFn.mk 48 [.tmp 4] (.seq (.region false [zo 4 (.mov (.cst .nilsl))] [])
 (.seq (.region false [zo 5 (.mov (.cst (.int .i64 0)))] [])
 (.seq (.block 0 (.loop x45_l0))
 (.seq (.seq (.region false [zo 21 (.mov (.tmp 5)),
 zo 22 (.mov (.tmp 0)),
 zo 23 (.lens false (.tmp 22)),
 zo 24 (.bin .lss (.tmp 21) (.tmp 23)),
 zo 25 (.mov (.tmp 24)),
 zg 26 25 true (.mov (.tmp 0)),
 zg 27 25 true (.mov (.tmp 5)),
 zg 28 25 true (.iaddr 1 (.tmp 26) (.tmp 27)),
 zg 29 25 true (.load (.tmp 28) 1 false),
 zg 30 25 true (.mov (.tmp 1)),
 zg 31 25 true (.bin .eql (.tmp 29) (.tmp 30)),
 zo 32 (.pick (.tmp 25) (.tmp 31) (.cst (.bool false)))] [])
  (.cond (.tmp 32) (.seq (.region false [zo 33 (.mov (.tmp 0)),
 zo 4 (.own 33)] [])
  .ret) .skip))
 (.seq (.region false [zo 6 (.mov (.cst .nilsl))] [])
 (.seq (.region false [zo 34 (.own 6),
 zo 35 (.mov (.tmp 0)),
 zo 36 (.mov (.tmp 5)),
 zo 37 (.ssl 1 (.tmp 35) none (some (.tmp 36)) none),
 zo 38 (.app false 1 16 34 (.tmp 37)),
 zo 6 (.own 38)] [])
 (.seq (.region false [zo 39 (.own 6),
 zo 40 (.mov (.tmp 1)),
 zo 41 (.bslice 1 [.str []] [(0, 1, .tmp 40)]),
 zo 42 (.app false 1 16 39 (.tmp 41)),
 zo 6 (.own 42)] [])
 (.seq (.region false [zo 43 (.own 6),
 zo 44 (.mov (.tmp 0)),
 zo 45 (.mov (.tmp 5)),
 zo 46 (.ssl 1 (.tmp 44) (some (.tmp 45)) none none),
 zo 47 (.app false 1 16 43 (.tmp 46)),
 zo 4 (.own 47)] [])
  .ret))))))))
def x46_r0 : XCode := .seq (.seq (.region false [zo 6 (.mov (.tmp 5)),
 zo 7 (.mov (.tmp 1)),
 zo 8 (.lens false (.tmp 7)),
 zo 9 (.bin .lss (.tmp 6) (.tmp 8))] [])
  (.cond (.tmp 9) .skip (.exit 0)))
 (.seq (.block 1 (.region false [zo 12 (.mov (.tmp 0)),
 zo 13 (.mov (.tmp 1)),
 zo 14 (.mov (.tmp 5)),
 zo 15 (.iaddr 1 (.tmp 13) (.tmp 14)),
 zo 16 (.load (.tmp 15) 1 false),
 zo 17 (.callq 45 [.tmp 12, .tmp 16]),
 zo 0 (.own 17)] []))
  (.region false [zo 10 (.mov (.tmp 5)),
 zo 11 (.bin .add (.tmp 10) (.cst (.int .i64 1))),
 zo 5 (.own 11)] []))
def x46_l0 : XCode := x46_r0
/-- custos/custosref06.puts -/
def x46 : XFn := XFn.mk 19 [.tmp 4] (.seq (.region false [zo 4 (.mov (.cst .nilsl))] [])
 (.seq (.seq (.region false [zo 5 (.mov (.cst (.int .i64 0)))] [])
  (.block 0 (.loop x46_l0)))
 (.seq (.region false [zo 18 (.mov (.tmp 0)),
 zo 4 (.own 18)] [])
  .ret)))
/-- custos/ast.parts -/
def x47 : XFn := XFn.mk 14 [.tmp 2] (.seq (.region false [zo 1 (.box (.tmp 0) 10),
 zo 2 (.mov (.cst .nilsl))] [])
 (.seq (.seq (.region false [zo 3 (.faddr (.tmp 1) 9),
 zo 4 (.load (.tmp 3) 1 false),
 zo 5 (.lens false (.tmp 4)),
 zo 6 (.bin .gtr (.tmp 5) (.cst (.int .i64 0)))] [])
  (.cond (.tmp 6) (.seq (.region false [zo 7 (.faddr (.tmp 1) 9),
 zo 8 (.load (.tmp 7) 1 false),
 zo 9 (.iaddr 3 (.tmp 8) (.cst (.int .i64 0))),
 zo 10 (.load (.tmp 9) 3 true),
 zo 11 (.callq 73 [.tmp 10]),
 zo 2 (.own 11)] [])
  .ret) .skip))
 (.seq (.region false [zo 12 (.faddr (.tmp 1) 8),
 zo 13 (.load (.tmp 12) 1 false),
 zo 2 (.own 13)] [])
  .ret)))
def x48_r0 : XCode := .seq (.seq (.region false [zo 6 (.mov (.tmp 4)),
 zo 7 (.faddr (.tmp 1) 9),
 zo 8 (.load (.tmp 7) 1 false),
 zo 9 (.lens false (.tmp 8)),
 zo 10 (.bin .lss (.tmp 6) (.tmp 9))] [])
  (.cond (.tmp 10) .skip (.exit 0)))
 (.seq (.block 1 (.seq (.region false [zo 13 (.faddr (.tmp 1) 9),
 zo 14 (.load (.tmp 13) 1 false),
 zo 15 (.mov (.tmp 4)),
 zo 16 (.iaddr 3 (.tmp 14) (.tmp 15)),
 zo 17 (.load (.tmp 16) 3 true),
 zo 18 (.callq 74 [.tmp 17]),
 zo 5 (.own 18)] [])
  (.region false [zo 19 (.own 3),
 zo 20 (.mov (.tmp 5)),
 zo 21 (.app false 10 152 19 (.tmp 20)),
 zo 3 (.own 21)] [])))
  (.region false [zo 11 (.mov (.tmp 4)),
 zo 12 (.bin .add (.tmp 11) (.cst (.int .i64 1))),
 zo 4 (.own 12)] []))
def x48_l0 : XCode := x48_r0
/-- custos/custosref06.Parts -/
def x48 : XFn := XFn.mk 26 [.tmp 2] (.seq (.region false [zo 1 (.box (.tmp 0) 10),
 zo 2 (.mov (.cst .nilsl))] [])
 (.seq (.region false [zo 3 (.mov (.cst .nilsl))] [])
 (.seq (.seq (.region false [zo 4 (.mov (.cst (.int .i64 0)))] [])
  (.block 0 (.loop x48_l0)))
 (.seq (.region false [zo 22 (.own 3),
 zo 23 (.faddr (.tmp 1) 8),
 zo 24 (.load (.tmp 23) 1 false),
 zo 25 (.app false 10 152 22 (.tmp 24)),
 zo 2 (.own 25)] [])
  .ret))))
/-- (*custos/ast.walk).formula -/
def x49 : XFn := XFn.mk 105 [] (.seq (.region false [zo 4 (.box (.tmp 1) 10)] [])
 (.seq (.seq (.region false [zo 8 (.mov (.tmp 0)),
 zo 9 (.mov (.tmp 2)),
 zo 10 (.callw 75 [.tmp 8, .tmp 9]),
 zo 11 (.not (.tmp 10)),
 zo 12 (.mov (.tmp 11)),
 zg 13 12 false (.mov (.tmp 0)),
 zg 14 12 false (.faddr (.tmp 4) 0),
 zg 15 12 false (.load (.tmp 14) 1 false),
 zg 16 12 false (.bin .geq (.tmp 15) (.cst (.int .i64 1))),
 zg 17 12 false (.mov (.tmp 16)),
 zg 18 17 true (.faddr (.tmp 4) 0),
 zg 19 17 true (.load (.tmp 18) 1 false),
 zg 20 17 true (.bin .leq (.tmp 19) (.cst (.int .i64 22))),
 zg 21 12 false (.pick (.tmp 17) (.tmp 20) (.cst (.bool false))),
 zg 22 12 false (.callw 50 [.tmp 13, .tmp 21, .cst (.int .i64 20)]),
 zg 23 12 false (.not (.tmp 22)),
 zo 24 (.pick (.tmp 12) (.cst (.bool true)) (.tmp 23))] [])
  (.cond (.tmp 24) .ret .skip))
 (.seq (.region false [zo 26 (.faddr (.tmp 4) 0),
 zo 27 (.load (.tmp 26) 1 false),
 zo 28 (.callq 76 [.tmp 27]),
 zo 25 (.mov (.tmp 28)),
 zo 29 (.ext 25 0),
 zo 30 (.ext 25 1),
 zo 6 (.own 29),
 zo 7 (.own 30)] [])
 (.seq (.region false [zo 31 (.mov (.tmp 0)),
 zo 32 (.mov (.tmp 6)),
 zo 33 (.bin .eql (.tmp 32) (.cst (.int .i64 0))),
 zo 34 (.mov (.tmp 33)),
 zg 35 34 false (.faddr (.tmp 4) 4),
 zg 36 34 false (.load (.tmp 35) 1 false),
 zg 37 34 false (.lens false (.tmp 36)),
 zg 38 34 false (.mov (.tmp 6)),
 zg 39 34 false (.bin .leq (.tmp 37) (.tmp 38)),
 zo 40 (.pick (.tmp 34) (.cst (.bool true)) (.tmp 39)),
 zo 41 (.callw 50 [.tmp 31, .tmp 40, .cst (.int .i64 3)])] [])
 (.seq (.region false [zo 42 (.mov (.tmp 0)),
 zo 43 (.mov (.tmp 7)),
 zo 44 (.bin .eql (.tmp 43) (.cst (.int .i64 0))),
 zo 45 (.mov (.tmp 44)),
 zg 46 45 false (.faddr (.tmp 4) 3),
 zg 47 45 false (.load (.tmp 46) 1 false),
 zg 48 45 false (.lens false (.tmp 47)),
 zg 49 45 false (.mov (.tmp 7)),
 zg 50 45 false (.bin .leq (.tmp 48) (.tmp 49)),
 zo 51 (.pick (.tmp 45) (.cst (.bool true)) (.tmp 50)),
 zo 52 (.callw 50 [.tmp 42, .tmp 51, .cst (.int .i64 3)])] [])
 (.seq (.region false [zo 53 (.mov (.tmp 0)),
 zo 54 (.load (.tmp 4) 10 true),
 zo 55 (.callq 77 [.tmp 54]),
 zo 56 (.callw 50 [.tmp 53, .tmp 55, .cst (.int .i64 1)])] [])
 (.seq (.region false [zo 57 (.mov (.tmp 0)),
 zo 58 (.faddr (.tmp 4) 3),
 zo 59 (.load (.tmp 58) 1 false),
 zo 60 (.callq 78 [.tmp 59]),
 zo 61 (.not (.tmp 60)),
 zo 62 (.callw 50 [.tmp 57, .tmp 61, .cst (.int .i64 30)])] [])
 (.seq (.seq (.region true [zo 63 (.mov (.tmp 0)),
 zo 64 (.faddr (.tmp 4) 0),
 zo 65 (.load (.tmp 64) 1 false),
 zo 66 (.bin .neq (.tmp 65) (.cst (.int .i64 19))),
 zo 67 (.mov (.tmp 66)),
 zg 68 67 false (.faddr (.tmp 4) 3),
 zg 69 67 false (.load (.tmp 68) 1 false),
 zg 70 67 false (.lens false (.tmp 69)),
 zg 71 67 false (.bin .gtr (.tmp 70) (.cst (.int .i64 0))),
 zg 72 67 false (.mov (.tmp 71)),
 zg 73 72 true (.faddr (.tmp 4) 3),
 zg 74 72 true (.load (.tmp 73) 1 false),
 zg 75 72 true (.ssl 1 (.tmp 74) (some (.cst (.int .i64 1))) none none),
 zg 76 72 true (.faddr (.tmp 4) 1),
 zg 77 72 true (.load (.tmp 76) 1 false),
 zg 78 72 true (.callq 70 [.tmp 75, .tmp 77]),
 zg 79 72 true (.not (.tmp 78)),
 zg 80 67 false (.pick (.tmp 72) (.tmp 79) (.cst (.bool false))),
 zo 81 (.pick (.tmp 67) (.cst (.bool true)) (.tmp 80)),
 zo 82 (.callw 50 [.tmp 63, .tmp 81, .cst (.int .i64 30)]),
 zo 83 (.not (.tmp 82))] [])
  (.cond (.tmp 83) .ret .skip))
 (.seq (.region false [zo 84 (.mov (.tmp 0)),
 zo 85 (.mkfn 80 [.tmp 84] []),
 zo 86 (.mov (.tmp 2)),
 zo 87 (.bin .add (.tmp 86) (.cst (.int .i64 1))),
 zo 88 (.faddr (.tmp 4) 4),
 zo 89 (.load (.tmp 88) 1 false),
 zo 90 (.callw 79 [.tmp 85, .tmp 87, .tmp 89])] [])
 (.seq (.region false [zo 91 (.mov (.tmp 0)),
 zo 92 (.mkfn 82 [.tmp 91] []),
 zo 93 (.mov (.tmp 2)),
 zo 94 (.bin .add (.tmp 93) (.cst (.int .i64 1))),
 zo 95 (.faddr (.tmp 4) 9),
 zo 96 (.load (.tmp 95) 1 false),
 zo 97 (.callw 81 [.tmp 92, .tmp 94, .tmp 96])] [])
  (.region false [zo 98 (.mov (.tmp 0)),
 zo 99 (.mkfn 49 [.tmp 98] []),
 zo 100 (.mov (.tmp 2)),
 zo 101 (.bin .add (.tmp 100) (.cst (.int .i64 1))),
 zo 102 (.faddr (.tmp 4) 8),
 zo 103 (.load (.tmp 102) 1 false),
 zo 104 (.callw 83 [.tmp 99, .tmp 101, .tmp 103])] [])))))))))))
/-- (*custos/ast.walk).must -/
def x50 : XFn := XFn.mk 25 [.tmp 6] (.seq (.region false [zo 6 (.mov (.cst (.bool false)))] [])
 (.seq (.seq (.region false [zo 7 (.mov (.tmp 1)),
 zo 8 (.not (.tmp 7)),
 zo 9 (.mov (.tmp 8)),
 zg 10 9 true (.mov (.tmp 0)),
 zg 11 9 true (.nilck (.tmp 10)),
 zg 12 9 true (.faddr (.tmp 11) 2),
 zg 13 9 true (.load (.tmp 12) 1 false),
 zg 14 9 true (.bin .eql (.tmp 13) (.cst (.int .i64 0))),
 zo 15 (.pick (.tmp 9) (.tmp 14) (.cst (.bool false)))] [])
  (.cond (.tmp 15) (.region false [zo 16 (.mov (.tmp 0)),
 zo 17 (.mov (.tmp 2)),
 zo 18 (.nilck (.tmp 16)),
 zo 19 (.faddr (.tmp 18) 2),
 ⟨none, .store (.tmp 19) (.tmp 17) 1, none⟩] []) .skip))
 (.seq (.region false [zo 20 (.mov (.tmp 0)),
 zo 21 (.nilck (.tmp 20)),
 zo 22 (.faddr (.tmp 21) 2),
 zo 23 (.load (.tmp 22) 1 false),
 zo 24 (.bin .eql (.tmp 23) (.cst (.int .i64 0))),
 zo 6 (.own 24)] [])
  .ret)))
/-- (*custos/custosref06.Walk).node -/
def x51 : XFn := XFn.mk 44 [.tmp 4] (.seq (.region false [zo 4 (.mov (.cst (.bool false)))] [])
 (.seq (.seq (.region false [zo 5 (.mov (.tmp 0)),
 zo 6 (.nilck (.tmp 5)),
 zo 7 (.faddr (.tmp 6) 2),
 zo 8 (.load (.tmp 7) 1 false),
 zo 9 (.bin .neq (.tmp 8) (.cst (.int .i64 0)))] [])
  (.cond (.tmp 9) (.seq (.region false [zo 4 (.mov (.cst (.bool false)))] [])
  .ret) .skip))
 (.seq (.region false [zo 10 (.mov (.tmp 0)),
 zo 11 (.mov (.tmp 1)),
 zo 12 (.bin .gtr (.tmp 11) (.cst (.int .i64 24))),
 zo 13 (.callw 52 [.tmp 10, .tmp 12, .cst (.int .i64 71)])] [])
 (.seq (.region false [zo 14 (.mov (.tmp 0)),
 zo 15 (.mov (.tmp 0)),
 zo 16 (.nilck (.tmp 15)),
 zo 17 (.faddr (.tmp 16) 0),
 zo 18 (.load (.tmp 17) 1 false),
 zo 19 (.bin .geq (.tmp 18) (.cst (.int .i64 256))),
 zo 20 (.callw 52 [.tmp 14, .tmp 19, .cst (.int .i64 3)])] [])
 (.seq (.region false [zo 21 (.mov (.tmp 0)),
 zo 22 (.mov (.tmp 0)),
 zo 23 (.nilck (.tmp 22)),
 zo 24 (.faddr (.tmp 23) 0),
 zo 25 (.load (.tmp 24) 1 false),
 zo 26 (.bin .add (.tmp 25) (.cst (.int .i64 1))),
 zo 27 (.nilck (.tmp 21)),
 zo 28 (.faddr (.tmp 27) 0),
 ⟨none, .store (.tmp 28) (.tmp 26) 1, none⟩] [])
 (.seq (.seq (.region false [zo 29 (.mov (.tmp 1)),
 zo 30 (.mov (.tmp 0)),
 zo 31 (.nilck (.tmp 30)),
 zo 32 (.faddr (.tmp 31) 1),
 zo 33 (.load (.tmp 32) 1 false),
 zo 34 (.bin .gtr (.tmp 29) (.tmp 33))] [])
  (.cond (.tmp 34) (.region false [zo 35 (.mov (.tmp 0)),
 zo 36 (.mov (.tmp 1)),
 zo 37 (.nilck (.tmp 35)),
 zo 38 (.faddr (.tmp 37) 1),
 ⟨none, .store (.tmp 38) (.tmp 36) 1, none⟩] []) .skip))
 (.seq (.region false [zo 39 (.mov (.tmp 0)),
 zo 40 (.nilck (.tmp 39)),
 zo 41 (.faddr (.tmp 40) 2),
 zo 42 (.load (.tmp 41) 1 false),
 zo 43 (.bin .eql (.tmp 42) (.cst (.int .i64 0))),
 zo 4 (.own 43)] [])
  .ret)))))))
/-- (*custos/custosref06.Walk).wrong -/
def x52 : XFn := XFn.mk 18 [] (.seq (.region false [zo 6 (.mov (.tmp 1)),
 zo 7 (.mov (.tmp 6)),
 zg 8 7 true (.mov (.tmp 0)),
 zg 9 7 true (.nilck (.tmp 8)),
 zg 10 7 true (.faddr (.tmp 9) 2),
 zg 11 7 true (.load (.tmp 10) 1 false),
 zg 12 7 true (.bin .eql (.tmp 11) (.cst (.int .i64 0))),
 zo 13 (.pick (.tmp 7) (.tmp 12) (.cst (.bool false)))] [])
  (.cond (.tmp 13) (.region false [zo 14 (.mov (.tmp 0)),
 zo 15 (.mov (.tmp 2)),
 zo 16 (.nilck (.tmp 14)),
 zo 17 (.faddr (.tmp 16) 2),
 ⟨none, .store (.tmp 17) (.tmp 15) 1, none⟩] []) .skip))
/-- custos/custosref06.many -/
def x53 : XFn := XFn.mk 25 [.tmp 2] (.seq (.region false [zo 1 (.box (.tmp 0) 10),
 zo 2 (.mov (.cst (.bool false)))] [])
 (.seq (.seq (.region false [zo 3 (.faddr (.tmp 1) 0),
 zo 4 (.load (.tmp 3) 1 false)] [])
  (.block 0 (.seq (.region false [zo 6 (.bin .eql (.tmp 4) (.cst (.int .i64 3))),
 zo 5 (.own 6)] [])
  (.cond (.tmp 5) (.seq (.region false [zo 7 (.faddr (.tmp 1) 4),
 zo 8 (.load (.tmp 7) 1 false),
 zo 9 (.lens false (.tmp 8)),
 zo 10 (.bin .gtr (.tmp 9) (.cst (.int .i64 6))),
 zo 2 (.own 10)] [])
  .ret) (.seq (.seq (.region false [zo 12 (.bin .eql (.tmp 4) (.cst (.int .i64 20))),
 zo 11 (.own 12)] [])
  (.cond (.tmp 11) .skip (.region false [zo 13 (.bin .eql (.tmp 4) (.cst (.int .i64 21))),
 zo 11 (.own 13)] [])))
  (.cond (.tmp 11) (.seq (.region false [zo 14 (.faddr (.tmp 1) 3),
 zo 15 (.load (.tmp 14) 1 false),
 zo 16 (.lens false (.tmp 15)),
 zo 17 (.bin .gtr (.tmp 16) (.cst (.int .i64 6))),
 zo 2 (.own 17)] [])
  .ret) (.seq (.seq (.region false [zo 19 (.bin .eql (.tmp 4) (.cst (.int .i64 10))),
 zo 18 (.own 19)] [])
  (.cond (.tmp 18) .skip (.region false [zo 20 (.bin .eql (.tmp 4) (.cst (.int .i64 19))),
 zo 18 (.own 20)] [])))
  (.cond (.tmp 18) (.seq (.region false [zo 21 (.faddr (.tmp 1) 3),
 zo 22 (.load (.tmp 21) 1 false),
 zo 23 (.lens false (.tmp 22)),
 zo 24 (.bin .gtr (.tmp 23) (.cst (.int .i64 8))),
 zo 2 (.own 24)] [])
  .ret) .skip))))))))
 (.seq (.region false [zo 2 (.mov (.cst (.bool false)))] [])
  .ret)))
/-- custos/custosref06.form -/
def x54 : XFn := XFn.mk 88 [.tmp 2] (.seq (.region false [zo 1 (.box (.tmp 0) 10),
 zo 2 (.mov (.cst (.bool false)))] [])
 (.seq (.region false [zo 8 (.faddr (.tmp 1) 0),
 zo 9 (.load (.tmp 8) 1 false),
 zo 10 (.callq 84 [.tmp 9]),
 zo 3 (.alloc [.bool false, .bool false, .bool false, .int .i64 0, .int .i64 0, .int .i64 0, .int .i64 0]),
 ⟨none, .store (.tmp 3) (.tmp 10) 7, none⟩] [])
 (.seq (.seq (.region false [zo 11 (.faddr (.tmp 3) 0),
 zo 12 (.load (.tmp 11) 1 false),
 zo 13 (.not (.tmp 12)),
 zo 14 (.mov (.tmp 13)),
 zg 15 14 true (.faddr (.tmp 1) 1),
 zg 16 14 true (.load (.tmp 15) 1 false),
 zg 17 14 true (.bin .neq (.tmp 16) (.cst (.str []))),
 zo 18 (.pick (.tmp 14) (.tmp 17) (.cst (.bool false))),
 zo 19 (.mov (.tmp 18)),
 zg 20 19 false (.faddr (.tmp 3) 1),
 zg 21 19 false (.load (.tmp 20) 1 false),
 zg 22 19 false (.not (.tmp 21)),
 zg 23 19 false (.mov (.tmp 22)),
 zg 24 23 true (.faddr (.tmp 1) 2),
 zg 25 23 true (.load (.tmp 24) 1 false),
 zg 26 23 true (.bin .neq (.tmp 25) (.cst (.int .i64 0))),
 zg 27 19 false (.pick (.tmp 23) (.tmp 26) (.cst (.bool false))),
 zo 28 (.pick (.tmp 19) (.cst (.bool true)) (.tmp 27)),
 zo 29 (.mov (.tmp 28)),
 zg 30 29 false (.faddr (.tmp 3) 1),
 zg 31 29 false (.load (.tmp 30) 1 false),
 zg 32 29 false (.mov (.tmp 31)),
 zg 33 32 true (.faddr (.tmp 1) 2),
 zg 34 32 true (.load (.tmp 33) 1 false),
 zg 35 32 true (.bin .lss (.tmp 34) (.cst (.int .i64 1))),
 zg 36 32 true (.mov (.tmp 35)),
 zg 37 36 false (.faddr (.tmp 1) 2),
 zg 38 36 false (.load (.tmp 37) 1 false),
 zg 39 36 false (.bin .gtr (.tmp 38) (.cst (.int .i64 6))),
 zg 40 32 true (.pick (.tmp 36) (.cst (.bool true)) (.tmp 39)),
 zg 41 29 false (.pick (.tmp 32) (.tmp 40) (.cst (.bool false))),
 zo 42 (.pick (.tmp 29) (.cst (.bool true)) (.tmp 41)),
 zo 43 (.mov (.tmp 42)),
 zg 44 43 false (.faddr (.tmp 3) 2),
 zg 45 43 false (.load (.tmp 44) 1 false),
 zg 46 43 false (.not (.tmp 45)),
 zg 47 43 false (.mov (.tmp 46)),
 zg 48 47 true (.faddr (.tmp 1) 5),
 zg 49 47 true (.load (.tmp 48) 3 true),
 zg 50 47 true (.build [.int .i64 0, .int .i64 0, .bool false] []),
 zg 51 47 true (.eqagg true [1, 1, 0] (.tmp 49) (.tmp 50)),
 zg 52 43 false (.pick (.tmp 47) (.tmp 51) (.cst (.bool false))),
 zo 53 (.pick (.tmp 43) (.cst (.bool true)) (.tmp 52))] [])
  (.cond (.tmp 53) (.seq (.region false [zo 2 (.mov (.cst (.bool false)))] [])
  .ret) .skip))
 (.seq (.region false [zo 54 (.faddr (.tmp 1) 3),
 zo 55 (.load (.tmp 54) 1 false),
 zo 56 (.lens false (.tmp 55)),
 zo 57 (.faddr (.tmp 3) 3),
 zo 58 (.load (.tmp 57) 1 false),
 zo 59 (.callq 85 [.tmp 56, .tmp 58]),
 zo 4 (.own 59)] [])
 (.seq (.region false [zo 60 (.faddr (.tmp 1) 4),
 zo 61 (.load (.tmp 60) 1 false),
 zo 62 (.lens false (.tmp 61)),
 zo 63 (.faddr (.tmp 3) 4),
 zo 64 (.load (.tmp 63) 1 false),
 zo 65 (.callq 85 [.tmp 62, .tmp 64]),
 zo 5 (.own 65)] [])
 (.seq (.region false [zo 66 (.faddr (.tmp 1) 8),
 zo 67 (.load (.tmp 66) 1 false),
 zo 68 (.lens false (.tmp 67)),
 zo 69 (.faddr (.tmp 3) 5),
 zo 70 (.load (.tmp 69) 1 false),
 zo 71 (.callq 85 [.tmp 68, .tmp 70]),
 zo 6 (.own 71)] [])
 (.seq (.region false [zo 72 (.faddr (.tmp 1) 9),
 zo 73 (.load (.tmp 72) 1 false),
 zo 74 (.lens false (.tmp 73)),
 zo 75 (.faddr (.tmp 3) 6),
 zo 76 (.load (.tmp 75) 1 false),
 zo 77 (.callq 85 [.tmp 74, .tmp 76]),
 zo 7 (.own 77)] [])
 (.seq (.region false [zo 78 (.mov (.tmp 4)),
 zo 79 (.mov (.tmp 78)),
 zg 80 79 true (.mov (.tmp 5)),
 zo 81 (.pick (.tmp 79) (.tmp 80) (.cst (.bool false))),
 zo 82 (.mov (.tmp 81)),
 zg 83 82 true (.mov (.tmp 6)),
 zo 84 (.pick (.tmp 82) (.tmp 83) (.cst (.bool false))),
 zo 85 (.mov (.tmp 84)),
 zg 86 85 true (.mov (.tmp 7)),
 zo 87 (.pick (.tmp 85) (.tmp 86) (.cst (.bool false))),
 zo 2 (.own 87)] [])
  .ret))))))))
/-- custos/custosref06.named -/
def x55 : XFn := XFn.mk 36 [.tmp 2] (.seq (.region false [zo 1 (.box (.tmp 0) 10),
 zo 2 (.mov (.cst (.bool false)))] [])
 (.seq (.region false [zo 7 (.faddr (.tmp 1) 0),
 zo 8 (.load (.tmp 7) 1 false),
 zo 9 (.callq 84 [.tmp 8]),
 zo 3 (.alloc [.bool false, .bool false, .bool false, .int .i64 0, .int .i64 0, .int .i64 0, .int .i64 0]),
 ⟨none, .store (.tmp 3) (.tmp 9) 7, none⟩] [])
 (.seq (.region false [zo 10 (.faddr (.tmp 1) 1),
 zo 11 (.load (.tmp 10) 1 false),
 zo 12 (.callq 86 [.tmp 11]),
 zo 4 (.own 12)] [])
 (.seq (.region false [zo 13 (.faddr (.tmp 1) 3),
 zo 14 (.load (.tmp 13) 1 false),
 zo 15 (.callq 87 [.tmp 14]),
 zo 5 (.own 15)] [])
 (.seq (.region false [zo 16 (.faddr (.tmp 1) 5),
 zo 17 (.load (.tmp 16) 3 true),
 zo 18 (.callq 88 [.tmp 17]),
 zo 6 (.own 18)] [])
 (.seq (.region false [zo 19 (.faddr (.tmp 3) 0),
 zo 20 (.load (.tmp 19) 1 false),
 zo 21 (.not (.tmp 20)),
 zo 22 (.mov (.tmp 21)),
 zg 23 22 false (.mov (.tmp 4)),
 zo 24 (.pick (.tmp 22) (.cst (.bool true)) (.tmp 23)),
 zo 25 (.mov (.tmp 24)),
 zg 26 25 true (.mov (.tmp 5)),
 zo 27 (.pick (.tmp 25) (.tmp 26) (.cst (.bool false))),
 zo 28 (.mov (.tmp 27)),
 zg 29 28 true (.faddr (.tmp 3) 2),
 zg 30 28 true (.load (.tmp 29) 1 false),
 zg 31 28 true (.not (.tmp 30)),
 zg 32 28 true (.mov (.tmp 31)),
 zg 33 32 false (.mov (.tmp 6)),
 zg 34 28 true (.pick (.tmp 32) (.cst (.bool true)) (.tmp 33)),
 zo 35 (.pick (.tmp 28) (.tmp 34) (.cst (.bool false))),
 zo 2 (.own 35)] [])
  .ret))))))
def x56_r0 : XCode := .seq (.seq (.region false [zo 5 (.mov (.tmp 3)),
 zo 6 (.mov (.tmp 0)),
 zo 7 (.lens false (.tmp 6)),
 zo 8 (.bin .lss (.tmp 5) (.tmp 7))] [])
  (.cond (.tmp 8) .skip (.exit 0)))
 (.seq (.block 1 (.seq (.region true [zo 11 (.mov (.tmp 0)),
 zo 12 (.mov (.tmp 3)),
 zo 13 (.ssl 1 (.tmp 11) none (some (.tmp 12)) none),
 zo 14 (.mov (.tmp 0)),
 zo 15 (.mov (.tmp 3)),
 zo 16 (.iaddr 1 (.tmp 14) (.tmp 15)),
 zo 17 (.load (.tmp 16) 1 false),
 zo 18 (.callq 57 [.tmp 13, .tmp 17]),
 zo 4 (.own 18)] [])
 (.seq (.region false [zo 19 (.mov (.tmp 4))] [])
  (.cond (.tmp 19) (.seq (.region false [zo 2 (.mov (.cst (.bool true)))] [])
  .ret) .skip))))
  (.region false [zo 9 (.mov (.tmp 3)),
 zo 10 (.bin .add (.tmp 9) (.cst (.int .i64 1))),
 zo 3 (.own 10)] []))
def x56_l0 : XCode := x56_r0
/-- custos/custosref06.twice -/
def x56 : XFn := XFn.mk 20 [.tmp 2] (.seq (.region false [zo 2 (.mov (.cst (.bool false)))] [])
 (.seq (.seq (.region false [zo 3 (.mov (.cst (.int .i64 0)))] [])
  (.block 0 (.loop x56_l0)))
 (.seq (.region false [zo 2 (.mov (.cst (.bool false)))] [])
  .ret)))
def x57_r0 : XCode := .seq (.seq (.region false [zo 6 (.mov (.tmp 5)),
 zo 7 (.mov (.tmp 0)),
 zo 8 (.lens false (.tmp 7)),
 zo 9 (.bin .lss (.tmp 6) (.tmp 8))] [])
  (.cond (.tmp 9) .skip (.exit 0)))
 (.seq (.block 1 (.seq (.region false [zo 12 (.mov (.tmp 0)),
 zo 13 (.mov (.tmp 5)),
 zo 14 (.iaddr 1 (.tmp 12) (.tmp 13)),
 zo 15 (.load (.tmp 14) 1 false),
 zo 16 (.mov (.tmp 1)),
 zo 17 (.bin .eql (.tmp 15) (.tmp 16))] [])
  (.cond (.tmp 17) (.seq (.region false [zo 4 (.mov (.cst (.bool true)))] [])
  .ret) .skip)))
  (.region false [zo 10 (.mov (.tmp 5)),
 zo 11 (.bin .add (.tmp 10) (.cst (.int .i64 1))),
 zo 5 (.own 11)] []))
def x57_l0 : XCode := x57_r0
/-- custos/custosref06.Has -/
def x57 : XFn := XFn.mk 18 [.tmp 4] (.seq (.region false [zo 4 (.mov (.cst (.bool false)))] [])
 (.seq (.seq (.region false [zo 5 (.mov (.cst (.int .i64 0)))] [])
  (.block 0 (.loop x57_l0)))
 (.seq (.region false [zo 4 (.mov (.cst (.bool false)))] [])
  .ret)))
def x58_r0 : XCode := .seq (.seq (.region false [zo 98 (.mov (.tmp 11)),
 zo 99 (.faddr (.tmp 4) 6),
 zo 100 (.load (.tmp 99) 1 false),
 zo 101 (.lens false (.tmp 100)),
 zo 102 (.bin .lss (.tmp 98) (.tmp 101))] [])
  (.cond (.tmp 102) .skip (.exit 0)))
 (.seq (.block 1 (.region false [zo 105 (.mov (.tmp 0)),
 zo 106 (.faddr (.tmp 4) 6),
 zo 107 (.load (.tmp 106) 1 false),
 zo 108 (.mov (.tmp 11)),
 zo 109 (.iaddr 7 (.tmp 107) (.tmp 108)),
 zo 110 (.load (.tmp 109) 7 true),
 zo 111 (.mov (.tmp 2)),
 zo 112 (.bin .add (.tmp 111) (.cst (.int .i64 1))),
 zo 113 (.callw 58 [.tmp 105, .tmp 110, .tmp 112])] []))
  (.region false [zo 103 (.mov (.tmp 11)),
 zo 104 (.bin .add (.tmp 103) (.cst (.int .i64 1))),
 zo 11 (.own 104)] []))
def x58_l0 : XCode := x58_r0
/-- (*custos/custosref06.Walk).Term -/
def x58 : XFn := XFn.mk 114 [] (.seq (.region false [zo 4 (.box (.tmp 1) 7)] [])
 (.seq (.region false [zo 12 (.mov (.tmp 0)),
 zo 13 (.mov (.tmp 2)),
 zo 14 (.callw 51 [.tmp 12, .tmp 13]),
 zo 6 (.own 14)] [])
 (.seq (.seq (.region false [zo 15 (.mov (.tmp 6)),
 zo 16 (.not (.tmp 15))] [])
  (.cond (.tmp 16) .ret .skip))
 (.seq (.region false [zo 17 (.mov (.tmp 0)),
 zo 18 (.faddr (.tmp 4) 0),
 zo 19 (.load (.tmp 18) 1 false),
 zo 20 (.bin .lss (.tmp 19) (.cst (.int .i64 1))),
 zo 21 (.mov (.tmp 20)),
 zg 22 21 false (.faddr (.tmp 4) 0),
 zg 23 21 false (.load (.tmp 22) 1 false),
 zg 24 21 false (.bin .gtr (.tmp 23) (.cst (.int .i64 5))),
 zo 25 (.pick (.tmp 21) (.cst (.bool true)) (.tmp 24)),
 zo 26 (.callw 52 [.tmp 17, .tmp 25, .cst (.int .i64 20)])] [])
 (.seq (.region false [zo 7 (.mov (.cst (.int .i64 0)))] [])
 (.seq (.seq (.region false [zo 27 (.faddr (.tmp 4) 0),
 zo 28 (.load (.tmp 27) 1 false),
 zo 29 (.bin .eql (.tmp 28) (.cst (.int .i64 3))),
 zo 30 (.mov (.tmp 29)),
 zg 31 30 false (.faddr (.tmp 4) 0),
 zg 32 30 false (.load (.tmp 31) 1 false),
 zg 33 30 false (.bin .eql (.tmp 32) (.cst (.int .i64 4))),
 zo 34 (.pick (.tmp 30) (.cst (.bool true)) (.tmp 33)),
 zo 35 (.mov (.tmp 34)),
 zg 36 35 false (.faddr (.tmp 4) 0),
 zg 37 35 false (.load (.tmp 36) 1 false),
 zg 38 35 false (.bin .eql (.tmp 37) (.cst (.int .i64 5))),
 zo 39 (.pick (.tmp 35) (.cst (.bool true)) (.tmp 38))] [])
  (.cond (.tmp 39) (.region false [zo 7 (.mov (.cst (.int .i64 2)))] []) .skip))
 (.seq (.region false [zo 40 (.faddr (.tmp 4) 1),
 zo 41 (.load (.tmp 40) 1 false),
 zo 42 (.callq 86 [.tmp 41]),
 zo 8 (.own 42)] [])
 (.seq (.region false [zo 43 (.faddr (.tmp 4) 2),
 zo 44 (.load (.tmp 43) 4 true),
 zo 45 (.build [.int .i64 0, .int .i64 0, .int .i64 0, .str []] []),
 zo 46 (.callq 89 [.tmp 44, .tmp 45]),
 zo 9 (.own 46)] [])
 (.seq (.region false [zo 47 (.mov (.tmp 0)),
 zo 48 (.faddr (.tmp 4) 0),
 zo 49 (.load (.tmp 48) 1 false),
 zo 50 (.bin .eql (.tmp 49) (.cst (.int .i64 1))),
 zo 51 (.mov (.tmp 50)),
 zg 52 51 true (.mov (.tmp 8)),
 zg 53 51 true (.not (.tmp 52)),
 zo 54 (.pick (.tmp 51) (.tmp 53) (.cst (.bool false))),
 zo 55 (.mov (.tmp 54)),
 zg 56 55 false (.faddr (.tmp 4) 0),
 zg 57 55 false (.load (.tmp 56) 1 false),
 zg 58 55 false (.bin .neq (.tmp 57) (.cst (.int .i64 1))),
 zg 59 55 false (.mov (.tmp 58)),
 zg 60 59 true (.faddr (.tmp 4) 1),
 zg 61 59 true (.load (.tmp 60) 1 false),
 zg 62 59 true (.bin .neq (.tmp 61) (.cst (.str []))),
 zg 63 55 false (.pick (.tmp 59) (.tmp 62) (.cst (.bool false))),
 zo 64 (.pick (.tmp 55) (.cst (.bool true)) (.tmp 63)),
 zo 65 (.mov (.tmp 64)),
 zg 66 65 false (.faddr (.tmp 4) 0),
 zg 67 65 false (.load (.tmp 66) 1 false),
 zg 68 65 false (.bin .neq (.tmp 67) (.cst (.int .i64 2))),
 zg 69 65 false (.mov (.tmp 68)),
 zg 70 69 true (.mov (.tmp 9)),
 zg 71 69 true (.not (.tmp 70)),
 zg 72 65 false (.pick (.tmp 69) (.tmp 71) (.cst (.bool false))),
 zo 73 (.pick (.tmp 65) (.cst (.bool true)) (.tmp 72)),
 zo 74 (.mov (.tmp 73)),
 zg 75 74 false (.faddr (.tmp 4) 6),
 zg 76 74 false (.load (.tmp 75) 1 false),
 zg 77 74 false (.lens false (.tmp 76)),
 zg 78 74 false (.mov (.tmp 7)),
 zg 79 74 false (.bin .neq (.tmp 77) (.tmp 78)),
 zo 80 (.pick (.tmp 74) (.cst (.bool true)) (.tmp 79)),
 zo 81 (.callw 52 [.tmp 47, .tmp 80, .cst (.int .i64 1)])] [])
 (.seq (.seq (.region false [zo 82 (.faddr (.tmp 4) 0),
 zo 83 (.load (.tmp 82) 1 false),
 zo 84 (.bin .eql (.tmp 83) (.cst (.int .i64 2)))] [])
  (.cond (.tmp 84) (.seq (.region false [zo 85 (.faddr (.tmp 4) 2),
 zo 86 (.load (.tmp 85) 4 true),
 zo 87 (.callq 90 [.tmp 86]),
 zo 10 (.own 87)] [])
  (.region false [zo 88 (.mov (.tmp 0)),
 zo 89 (.mov (.tmp 10)),
 zo 90 (.bin .neq (.tmp 89) (.cst (.int .i64 0))),
 zo 91 (.mov (.tmp 10)),
 zo 92 (.callw 52 [.tmp 88, .tmp 90, .tmp 91])] [])) .skip))
 (.seq (.seq (.region false [zo 93 (.mov (.tmp 0)),
 zo 94 (.nilck (.tmp 93)),
 zo 95 (.faddr (.tmp 94) 2),
 zo 96 (.load (.tmp 95) 1 false),
 zo 97 (.bin .neq (.tmp 96) (.cst (.int .i64 0)))] [])
  (.cond (.tmp 97) .ret .skip))
 (.seq (.region false [zo 11 (.mov (.cst (.int .i64 0)))] [])
  (.block 0 (.loop x58_l0))))))))))))))
def x59_r0 : XCode := .seq (.seq (.region false [zo 54 (.mov (.tmp 9)),
 zo 55 (.faddr (.tmp 4) 1),
 zo 56 (.load (.tmp 55) 1 false),
 zo 57 (.lens false (.tmp 56)),
 zo 58 (.bin .lss (.tmp 54) (.tmp 57))] [])
  (.cond (.tmp 58) .skip (.exit 1)))
 (.seq (.block 2 (.region false [zo 61 (.mov (.tmp 0)),
 zo 62 (.faddr (.tmp 4) 1),
 zo 63 (.load (.tmp 62) 1 false),
 zo 64 (.mov (.tmp 9)),
 zo 65 (.iaddr 10 (.tmp 63) (.tmp 64)),
 zo 66 (.load (.tmp 65) 10 true),
 zo 67 (.mov (.tmp 2)),
 zo 68 (.bin .add (.tmp 67) (.cst (.int .i64 1))),
 zo 69 (.callw 31 [.tmp 61, .tmp 66, .tmp 68])] []))
  (.region false [zo 59 (.mov (.tmp 9)),
 zo 60 (.bin .add (.tmp 59) (.cst (.int .i64 1))),
 zo 9 (.own 60)] []))
def x59_l0 : XCode := x59_r0
def x59_r1 : XCode := .seq (.seq (.region false [zo 70 (.mov (.tmp 10)),
 zo 71 (.faddr (.tmp 4) 2),
 zo 72 (.load (.tmp 71) 1 false),
 zo 73 (.lens false (.tmp 72)),
 zo 74 (.bin .lss (.tmp 70) (.tmp 73))] [])
  (.cond (.tmp 74) .skip (.exit 3)))
 (.seq (.block 4 (.region false [zo 77 (.mov (.tmp 0)),
 zo 78 (.faddr (.tmp 4) 2),
 zo 79 (.load (.tmp 78) 1 false),
 zo 80 (.mov (.tmp 10)),
 zo 81 (.iaddr 3 (.tmp 79) (.tmp 80)),
 zo 82 (.load (.tmp 81) 3 true),
 zo 83 (.mov (.tmp 2)),
 zo 84 (.bin .add (.tmp 83) (.cst (.int .i64 1))),
 zo 85 (.callw 59 [.tmp 77, .tmp 82, .tmp 84])] []))
  (.region false [zo 75 (.mov (.tmp 10)),
 zo 76 (.bin .add (.tmp 75) (.cst (.int .i64 1))),
 zo 10 (.own 76)] []))
def x59_l1 : XCode := x59_r1
/-- (*custos/custosref06.Walk).Regex -/
def x59 : XFn := XFn.mk 86 [] (.seq (.region false [zo 4 (.box (.tmp 1) 3)] [])
 (.seq (.region false [zo 11 (.mov (.tmp 0)),
 zo 12 (.mov (.tmp 2)),
 zo 13 (.callw 51 [.tmp 11, .tmp 12]),
 zo 6 (.own 13)] [])
 (.seq (.seq (.region false [zo 14 (.mov (.tmp 6)),
 zo 15 (.not (.tmp 14))] [])
  (.cond (.tmp 15) .ret .skip))
 (.seq (.region false [zo 16 (.mov (.tmp 0)),
 zo 17 (.faddr (.tmp 4) 0),
 zo 18 (.load (.tmp 17) 1 false),
 zo 19 (.bin .lss (.tmp 18) (.cst (.int .i64 1))),
 zo 20 (.mov (.tmp 19)),
 zg 21 20 false (.faddr (.tmp 4) 0),
 zg 22 20 false (.load (.tmp 21) 1 false),
 zg 23 20 false (.bin .gtr (.tmp 22) (.cst (.int .i64 5))),
 zo 24 (.pick (.tmp 20) (.cst (.bool true)) (.tmp 23)),
 zo 25 (.callw 52 [.tmp 16, .tmp 24, .cst (.int .i64 20)])] [])
 (.seq (.region false [zo 7 (.mov (.cst (.int .i64 0)))] [])
 (.seq (.region false [zo 8 (.mov (.cst (.int .i64 0)))] [])
 (.seq (.seq (.region false [zo 26 (.faddr (.tmp 4) 0),
 zo 27 (.load (.tmp 26) 1 false)] [])
  (.block 0 (.seq (.region false [zo 29 (.bin .eql (.tmp 27) (.cst (.int .i64 2))),
 zo 28 (.own 29)] [])
  (.cond (.tmp 28) (.region false [zo 7 (.mov (.cst (.int .i64 1)))] []) (.seq (.seq (.region false [zo 31 (.bin .eql (.tmp 27) (.cst (.int .i64 3))),
 zo 30 (.own 31)] [])
  (.cond (.tmp 30) .skip (.region false [zo 32 (.bin .eql (.tmp 27) (.cst (.int .i64 4))),
 zo 30 (.own 32)] [])))
  (.cond (.tmp 30) (.region false [zo 8 (.mov (.cst (.int .i64 2)))] []) (.seq (.region false [zo 34 (.bin .eql (.tmp 27) (.cst (.int .i64 5))),
 zo 33 (.own 34)] [])
  (.cond (.tmp 33) (.region false [zo 8 (.mov (.cst (.int .i64 1)))] []) .skip))))))))
 (.seq (.region false [zo 35 (.mov (.tmp 0)),
 zo 36 (.faddr (.tmp 4) 1),
 zo 37 (.load (.tmp 36) 1 false),
 zo 38 (.lens false (.tmp 37)),
 zo 39 (.mov (.tmp 7)),
 zo 40 (.bin .neq (.tmp 38) (.tmp 39)),
 zo 41 (.mov (.tmp 40)),
 zg 42 41 false (.faddr (.tmp 4) 2),
 zg 43 41 false (.load (.tmp 42) 1 false),
 zg 44 41 false (.lens false (.tmp 43)),
 zg 45 41 false (.mov (.tmp 8)),
 zg 46 41 false (.bin .neq (.tmp 44) (.tmp 45)),
 zo 47 (.pick (.tmp 41) (.cst (.bool true)) (.tmp 46)),
 zo 48 (.callw 52 [.tmp 35, .tmp 47, .cst (.int .i64 1)])] [])
 (.seq (.seq (.region false [zo 49 (.mov (.tmp 0)),
 zo 50 (.nilck (.tmp 49)),
 zo 51 (.faddr (.tmp 50) 2),
 zo 52 (.load (.tmp 51) 1 false),
 zo 53 (.bin .neq (.tmp 52) (.cst (.int .i64 0)))] [])
  (.cond (.tmp 53) .ret .skip))
 (.seq (.seq (.region false [zo 9 (.mov (.cst (.int .i64 0)))] [])
  (.block 1 (.loop x59_l0)))
 (.seq (.region false [zo 10 (.mov (.cst (.int .i64 0)))] [])
  (.block 3 (.loop x59_l1)))))))))))))
def x61_r0 : XCode := .seq (.region false [zo 14 (.bin .lss (.tmp 13) (.tmp 12))] [])
 (.seq (.cond (.tmp 14) .skip (.exit 0))
 (.seq (.block 1 (.seq (.region false [zo 15 (.mov (.tmp 13)),
 zo 5 (.own 15)] [])
 (.seq (.region true [zo 16 (.mov (.tmp 0)),
 zo 17 (.mov (.tmp 5)),
 zo 18 (.iaddr 1 (.tmp 16) (.tmp 17)),
 zo 19 (.load (.tmp 18) 1 false),
 zo 20 (.mov (.tmp 1)),
 zo 21 (.mov (.tmp 5)),
 zo 22 (.iaddr 1 (.tmp 20) (.tmp 21)),
 zo 23 (.load (.tmp 22) 1 false),
 zo 24 (.bin .neq (.tmp 19) (.tmp 23))] [])
  (.cond (.tmp 24) (.seq (.region false [zo 4 (.mov (.cst (.bool false)))] [])
  .ret) .skip))))
  (.region false [zo 25 (.bin .add (.tmp 13) (.cst (.int .i64 1))),
 zo 13 (.mov (.tmp 25))] [])))
def x61_l0 : XCode := x61_r0
/-- slices.Equal[[]string,string] -/
def x61 : XFn := XFn.mk 26 [.tmp 4] (.seq (.region false [zo 4 (.mov (.cst (.bool false)))] [])
 (.seq (.seq (.region false [zo 6 (.mov (.tmp 0)),
 zo 7 (.lens false (.tmp 6)),
 zo 8 (.mov (.tmp 1)),
 zo 9 (.lens false (.tmp 8)),
 zo 10 (.bin .neq (.tmp 7) (.tmp 9))] [])
  (.cond (.tmp 10) (.seq (.region false [zo 4 (.mov (.cst (.bool false)))] [])
  .ret) .skip))
 (.seq (.seq (.region false [zo 11 (.mov (.tmp 0)),
 zo 12 (.lens false (.tmp 11)),
 zo 13 (.mov (.cst (.int .i64 0)))] [])
  (.block 0 (.loop x61_l0)))
 (.seq (.region false [zo 4 (.mov (.cst (.bool true)))] [])
  .ret))))
def x62_r0 : XCode := .seq (.region false [zo 18 (.bin .lss (.tmp 17) (.tmp 16))] [])
 (.seq (.cond (.tmp 18) .skip (.exit 0))
 (.seq (.block 1 (.seq (.region false [zo 19 (.mov (.tmp 17)),
 zo 20 (.iaddr 7 (.tmp 15) (.tmp 17)),
 zo 21 (.load (.tmp 20) 7 true),
 zo 8 (.alloc [.int .i64 0, .str [], .int .i64 0, .int .i64 0, .int .i64 0, .str [], .nilsl]),
 zo 7 (.own 19),
 ⟨none, .store (.tmp 8) (.tmp 21) 7, none⟩] [])
 (.seq (.region false [zo 22 (.mov (.tmp 1)),
 zo 23 (.mov (.tmp 7)),
 zo 24 (.iaddr 7 (.tmp 22) (.tmp 23)),
 zo 25 (.load (.tmp 24) 7 true),
 zo 9 (.alloc [.int .i64 0, .str [], .int .i64 0, .int .i64 0, .int .i64 0, .str [], .nilsl]),
 ⟨none, .store (.tmp 9) (.tmp 25) 7, none⟩] [])
 (.seq (.region false [zo 26 (.mov (.tmp 2)),
 zo 27 (.load (.tmp 8) 7 true),
 zo 28 (.load (.tmp 9) 7 true),
 zo 29 (.calld (.tmp 26) [.tmp 27, .tmp 28]),
 zo 30 (.not (.tmp 29))] [])
  (.cond (.tmp 30) (.seq (.region false [zo 6 (.mov (.cst (.bool false)))] [])
  .ret) .skip)))))
  (.region false [zo 31 (.bin .add (.tmp 17) (.cst (.int .i64 1))),
 zo 17 (.mov (.tmp 31))] [])))
def x62_l0 : XCode := x62_r0
/-- slices.EqualFunc[[]custos/api.Term,[]custos/api.Term,custos/api.Term,custos/api.Term] -/
def x62 : XFn := XFn.mk 32 [.tmp 6] (.seq (.region false [zo 6 (.mov (.cst (.bool false)))] [])
 (.seq (.seq (.region false [zo 10 (.mov (.tmp 0)),
 zo 11 (.lens false (.tmp 10)),
 zo 12 (.mov (.tmp 1)),
 zo 13 (.lens false (.tmp 12)),
 zo 14 (.bin .neq (.tmp 11) (.tmp 13))] [])
  (.cond (.tmp 14) (.seq (.region false [zo 6 (.mov (.cst (.bool false)))] [])
  .ret) .skip))
 (.seq (.seq (.region false [zo 15 (.mov (.tmp 0)),
 zo 16 (.lens false (.tmp 15)),
 zo 17 (.mov (.cst (.int .i64 0)))] [])
  (.block 0 (.loop x62_l0)))
 (.seq (.region false [zo 6 (.mov (.cst (.bool true)))] [])
  .ret))))
/-- custos/ast.sameTerm -/
def x63 : XFn := XFn.mk 31 [.tmp 4] (.seq (.region false [zo 2 (.box (.tmp 0) 7),
 zo 3 (.box (.tmp 1) 7),
 zo 4 (.mov (.cst (.bool false)))] [])
 (.seq (.region false [zo 5 (.faddr (.tmp 2) 0),
 zo 6 (.load (.tmp 5) 1 false),
 zo 7 (.faddr (.tmp 3) 0),
 zo 8 (.load (.tmp 7) 1 false),
 zo 9 (.bin .eql (.tmp 6) (.tmp 8)),
 zo 10 (.mov (.tmp 9)),
 zg 11 10 true (.faddr (.tmp 2) 1),
 zg 12 10 true (.load (.tmp 11) 1 false),
 zg 13 10 true (.faddr (.tmp 3) 1),
 zg 14 10 true (.load (.tmp 13) 1 false),
 zg 15 10 true (.bin .eql (.tmp 12) (.tmp 14)),
 zo 16 (.pick (.tmp 10) (.tmp 15) (.cst (.bool false))),
 zo 17 (.mov (.tmp 16)),
 zg 18 17 true (.faddr (.tmp 2) 2),
 zg 19 17 true (.load (.tmp 18) 4 true),
 zg 20 17 true (.faddr (.tmp 3) 2),
 zg 21 17 true (.load (.tmp 20) 4 true),
 zg 22 17 true (.callq 91 [.tmp 19, .tmp 21]),
 zo 23 (.pick (.tmp 17) (.tmp 22) (.cst (.bool false))),
 zo 24 (.mov (.tmp 23)),
 zg 25 24 true (.faddr (.tmp 2) 6),
 zg 26 24 true (.load (.tmp 25) 1 false),
 zg 27 24 true (.faddr (.tmp 3) 6),
 zg 28 24 true (.load (.tmp 27) 1 false),
 zg 29 24 true (.callw 62 [.tmp 26, .tmp 28, .cst (.fn 63 [] [])]),
 zo 30 (.pick (.tmp 24) (.tmp 29) (.cst (.bool false))),
 zo 4 (.own 30)] [])
  .ret))
def x64_r0 : XCode := .seq (.region false [zo 18 (.bin .lss (.tmp 17) (.tmp 16))] [])
 (.seq (.cond (.tmp 18) .skip (.exit 0))
 (.seq (.block 1 (.seq (.region false [zo 19 (.mov (.tmp 17)),
 zo 20 (.iaddr 3 (.tmp 15) (.tmp 17)),
 zo 21 (.load (.tmp 20) 3 true),
 zo 8 (.alloc [.int .i64 0, .nilsl, .nilsl]),
 zo 7 (.own 19),
 ⟨none, .store (.tmp 8) (.tmp 21) 3, none⟩] [])
 (.seq (.region false [zo 22 (.mov (.tmp 1)),
 zo 23 (.mov (.tmp 7)),
 zo 24 (.iaddr 3 (.tmp 22) (.tmp 23)),
 zo 25 (.load (.tmp 24) 3 true),
 zo 9 (.alloc [.int .i64 0, .nilsl, .nilsl]),
 ⟨none, .store (.tmp 9) (.tmp 25) 3, none⟩] [])
 (.seq (.region false [zo 26 (.mov (.tmp 2)),
 zo 27 (.load (.tmp 8) 3 true),
 zo 28 (.load (.tmp 9) 3 true),
 zo 29 (.calld (.tmp 26) [.tmp 27, .tmp 28]),
 zo 30 (.not (.tmp 29))] [])
  (.cond (.tmp 30) (.seq (.region false [zo 6 (.mov (.cst (.bool false)))] [])
  .ret) .skip)))))
  (.region false [zo 31 (.bin .add (.tmp 17) (.cst (.int .i64 1))),
 zo 17 (.mov (.tmp 31))] [])))
def x64_l0 : XCode := x64_r0
/-- slices.EqualFunc[[]custos/api.Regex,[]custos/api.Regex,custos/api.Regex,custos/api.Regex] -/
def x64 : XFn := XFn.mk 32 [.tmp 6] (.seq (.region false [zo 6 (.mov (.cst (.bool false)))] [])
 (.seq (.seq (.region false [zo 10 (.mov (.tmp 0)),
 zo 11 (.lens false (.tmp 10)),
 zo 12 (.mov (.tmp 1)),
 zo 13 (.lens false (.tmp 12)),
 zo 14 (.bin .neq (.tmp 11) (.tmp 13))] [])
  (.cond (.tmp 14) (.seq (.region false [zo 6 (.mov (.cst (.bool false)))] [])
  .ret) .skip))
 (.seq (.seq (.region false [zo 15 (.mov (.tmp 0)),
 zo 16 (.lens false (.tmp 15)),
 zo 17 (.mov (.cst (.int .i64 0)))] [])
  (.block 0 (.loop x64_l0)))
 (.seq (.region false [zo 6 (.mov (.cst (.bool true)))] [])
  .ret))))
/-- custos/ast.sameRegex -/
def x65 : XFn := XFn.mk 24 [.tmp 4] (.seq (.region false [zo 2 (.box (.tmp 0) 3),
 zo 3 (.box (.tmp 1) 3),
 zo 4 (.mov (.cst (.bool false)))] [])
 (.seq (.region false [zo 5 (.faddr (.tmp 2) 0),
 zo 6 (.load (.tmp 5) 1 false),
 zo 7 (.faddr (.tmp 3) 0),
 zo 8 (.load (.tmp 7) 1 false),
 zo 9 (.bin .eql (.tmp 6) (.tmp 8)),
 zo 10 (.mov (.tmp 9)),
 zg 11 10 true (.faddr (.tmp 2) 1),
 zg 12 10 true (.load (.tmp 11) 1 false),
 zg 13 10 true (.faddr (.tmp 3) 1),
 zg 14 10 true (.load (.tmp 13) 1 false),
 zg 15 10 true (.callw 66 [.tmp 12, .tmp 14, .cst (.fn 40 [] [])]),
 zo 16 (.pick (.tmp 10) (.tmp 15) (.cst (.bool false))),
 zo 17 (.mov (.tmp 16)),
 zg 18 17 true (.faddr (.tmp 2) 2),
 zg 19 17 true (.load (.tmp 18) 1 false),
 zg 20 17 true (.faddr (.tmp 3) 2),
 zg 21 17 true (.load (.tmp 20) 1 false),
 zg 22 17 true (.callw 64 [.tmp 19, .tmp 21, .cst (.fn 65 [] [])]),
 zo 23 (.pick (.tmp 17) (.tmp 22) (.cst (.bool false))),
 zo 4 (.own 23)] [])
  .ret))
def x66_r0 : XCode := .seq (.region false [zo 18 (.bin .lss (.tmp 17) (.tmp 16))] [])
 (.seq (.cond (.tmp 18) .skip (.exit 0))
 (.seq (.block 1 (.seq (.region false [zo 19 (.mov (.tmp 17)),
 zo 20 (.iaddr 10 (.tmp 15) (.tmp 17)),
 zo 21 (.load (.tmp 20) 10 true),
 zo 8 (.alloc [.int .i64 0, .str [], .int .i64 0, .nilsl, .nilsl, .int .i64 0, .int .i64 0, .bool false, .nilsl, .nilsl]),
 zo 7 (.own 19),
 ⟨none, .store (.tmp 8) (.tmp 21) 10, none⟩] [])
 (.seq (.region false [zo 22 (.mov (.tmp 1)),
 zo 23 (.mov (.tmp 7)),
 zo 24 (.iaddr 10 (.tmp 22) (.tmp 23)),
 zo 25 (.load (.tmp 24) 10 true),
 zo 9 (.alloc [.int .i64 0, .str [], .int .i64 0, .nilsl, .nilsl, .int .i64 0, .int .i64 0, .bool false, .nilsl, .nilsl]),
 ⟨none, .store (.tmp 9) (.tmp 25) 10, none⟩] [])
 (.seq (.region false [zo 26 (.mov (.tmp 2)),
 zo 27 (.load (.tmp 8) 10 true),
 zo 28 (.load (.tmp 9) 10 true),
 zo 29 (.calld (.tmp 26) [.tmp 27, .tmp 28]),
 zo 30 (.not (.tmp 29))] [])
  (.cond (.tmp 30) (.seq (.region false [zo 6 (.mov (.cst (.bool false)))] [])
  .ret) .skip)))))
  (.region false [zo 31 (.bin .add (.tmp 17) (.cst (.int .i64 1))),
 zo 17 (.mov (.tmp 31))] [])))
def x66_l0 : XCode := x66_r0
/-- slices.EqualFunc[[]custos/api.Formula,[]custos/api.Formula,custos/api.Formula,custos/api.Formula] -/
def x66 : XFn := XFn.mk 32 [.tmp 6] (.seq (.region false [zo 6 (.mov (.cst (.bool false)))] [])
 (.seq (.seq (.region false [zo 10 (.mov (.tmp 0)),
 zo 11 (.lens false (.tmp 10)),
 zo 12 (.mov (.tmp 1)),
 zo 13 (.lens false (.tmp 12)),
 zo 14 (.bin .neq (.tmp 11) (.tmp 13))] [])
  (.cond (.tmp 14) (.seq (.region false [zo 6 (.mov (.cst (.bool false)))] [])
  .ret) .skip))
 (.seq (.seq (.region false [zo 15 (.mov (.tmp 0)),
 zo 16 (.lens false (.tmp 15)),
 zo 17 (.mov (.cst (.int .i64 0)))] [])
  (.block 0 (.loop x66_l0)))
 (.seq (.region false [zo 6 (.mov (.cst (.bool true)))] [])
  .ret))))
/-- custos/ast.keyword -/
def x67 : XFn := XFn.mk 28 [.tmp 2] (.seq (.region false [zo 2 (.mov (.cst (.bool false)))] [])
 (.seq (.seq (.region false [zo 3 (.mov (.tmp 0))] [])
  (.block 0 (.seq (.seq (.region false [zo 5 (.bin .eql (.tmp 3) (.cst (.str [116, 114, 117, 101]))),
 zo 4 (.own 5)] [])
  (.cond (.tmp 4) .skip (.seq (.region false [zo 6 (.bin .eql (.tmp 3) (.cst (.str [102, 97, 108, 115, 101]))),
 zo 4 (.own 6)] [])
  (.cond (.tmp 4) .skip (.seq (.region false [zo 7 (.bin .eql (.tmp 3) (.cst (.str [110, 111, 116]))),
 zo 4 (.own 7)] [])
  (.cond (.tmp 4) .skip (.seq (.region false [zo 8 (.bin .eql (.tmp 3) (.cst (.str [97, 110, 100]))),
 zo 4 (.own 8)] [])
  (.cond (.tmp 4) .skip (.seq (.region false [zo 9 (.bin .eql (.tmp 3) (.cst (.str [111, 114]))),
 zo 4 (.own 9)] [])
  (.cond (.tmp 4) .skip (.seq (.region false [zo 10 (.bin .eql (.tmp 3) (.cst (.str [101, 120, 105, 115, 116, 115]))),
 zo 4 (.own 10)] [])
  (.cond (.tmp 4) .skip (.seq (.region false [zo 11 (.bin .eql (.tmp 3) (.cst (.str [112, 114, 101, 118]))),
 zo 4 (.own 11)] [])
  (.cond (.tmp 4) .skip (.seq (.region false [zo 12 (.bin .eql (.tmp 3) (.cst (.str [110, 101, 120, 116]))),
 zo 4 (.own 12)] [])
  (.cond (.tmp 4) .skip (.seq (.region false [zo 13 (.bin .eql (.tmp 3) (.cst (.str [111, 110, 99, 101]))),
 zo 4 (.own 13)] [])
  (.cond (.tmp 4) .skip (.seq (.region false [zo 14 (.bin .eql (.tmp 3) (.cst (.str [115, 111, 111, 110]))),
 zo 4 (.own 14)] [])
  (.cond (.tmp 4) .skip (.seq (.region false [zo 15 (.bin .eql (.tmp 3) (.cst (.str [115, 105, 110, 99, 101]))),
 zo 4 (.own 15)] [])
  (.cond (.tmp 4) .skip (.seq (.region false [zo 16 (.bin .eql (.tmp 3) (.cst (.str [117, 110, 116, 105, 108]))),
 zo 4 (.own 16)] [])
  (.cond (.tmp 4) .skip (.seq (.region false [zo 17 (.bin .eql (.tmp 3) (.cst (.str [98, 101, 102, 111, 114, 101]))),
 zo 4 (.own 17)] [])
  (.cond (.tmp 4) .skip (.seq (.region false [zo 18 (.bin .eql (.tmp 3) (.cst (.str [97, 102, 116, 101, 114]))),
 zo 4 (.own 18)] [])
  (.cond (.tmp 4) .skip (.seq (.region false [zo 19 (.bin .eql (.tmp 3) (.cst (.str [97, 103, 103]))),
 zo 4 (.own 19)] [])
  (.cond (.tmp 4) .skip (.seq (.region false [zo 20 (.bin .eql (.tmp 3) (.cst (.str [108, 101, 116]))),
 zo 4 (.own 20)] [])
  (.cond (.tmp 4) .skip (.seq (.region false [zo 21 (.bin .eql (.tmp 3) (.cst (.str [108, 101, 116, 112, 97, 115, 116]))),
 zo 4 (.own 21)] [])
  (.cond (.tmp 4) .skip (.seq (.region false [zo 22 (.bin .eql (.tmp 3) (.cst (.str [106, 111, 105, 110]))),
 zo 4 (.own 22)] [])
  (.cond (.tmp 4) .skip (.seq (.region false [zo 23 (.bin .eql (.tmp 3) (.cst (.str [97, 110, 121]))),
 zo 4 (.own 23)] [])
  (.cond (.tmp 4) .skip (.seq (.region false [zo 24 (.bin .eql (.tmp 3) (.cst (.str [116, 101, 115, 116]))),
 zo 4 (.own 24)] [])
  (.cond (.tmp 4) .skip (.seq (.region false [zo 25 (.bin .eql (.tmp 3) (.cst (.str [97, 108, 116]))),
 zo 4 (.own 25)] [])
  (.cond (.tmp 4) .skip (.seq (.region false [zo 26 (.bin .eql (.tmp 3) (.cst (.str [115, 101, 113]))),
 zo 4 (.own 26)] [])
  (.cond (.tmp 4) .skip (.region false [zo 27 (.bin .eql (.tmp 3) (.cst (.str [115, 116, 97, 114]))),
 zo 4 (.own 27)] [])))))))))))))))))))))))))))))))))))))))))))))
  (.cond (.tmp 4) (.seq (.region false [zo 2 (.mov (.cst (.bool true)))] [])
  .ret) .skip))))
 (.seq (.region false [zo 2 (.mov (.cst (.bool false)))] [])
  .ret)))
def x68_r0 : XCode := .seq (.seq (.region false [zo 16 (.mov (.tmp 6)),
 zo 17 (.thw 0),
 zo 18 (.lens false (.tmp 17)),
 zo 19 (.bin .lss (.tmp 16) (.tmp 18))] [])
  (.cond (.tmp 19) .skip (.exit 0)))
 (.seq (.block 1 (.seq (.region false [zo 22 (.thw 0),
 zo 23 (.mov (.tmp 6)),
 zo 24 (.iaddr 1 (.tmp 22) (.tmp 23)),
 zo 25 (.load (.tmp 24) 1 false),
 zo 7 (.own 25)] [])
 (.seq (.region false [zo 26 (.mov (.tmp 1)),
 zo 27 (.mov (.tmp 7)),
 zo 28 (.calld (.tmp 26) [.tmp 27]),
 zo 29 (.not (.tmp 28))] [])
  (.cond (.tmp 29) (.seq (.region false [zo 30 (.thw 0),
 zo 31 (.mov (.tmp 5)),
 zo 32 (.mov (.tmp 7)),
 zo 33 (.iaddr 1 (.tmp 30) (.tmp 31)),
 ⟨none, .store (.tmp 33) (.tmp 32) 1, none⟩] [])
  (.region false [zo 34 (.mov (.tmp 5)),
 zo 35 (.bin .add (.tmp 34) (.cst (.int .i64 1))),
 zo 5 (.own 35)] [])) .skip))))
  (.region false [zo 20 (.mov (.tmp 6)),
 zo 21 (.bin .add (.tmp 20) (.cst (.int .i64 1))),
 zo 6 (.own 21)] []))
def x68_l0 : XCode := x68_r0
/-- slices.DeleteFunc[[]string,string] -/
def x68 : XFn := XFn.mk 42 [.tmp 4] (.seq (.region false [zo 4 (.mov (.cst .nilsl))] [])
 (.seq (.region false [zo 8 (.thw 0),
 zo 9 (.mov (.tmp 1)),
 zo 10 (.callw 92 [.tmp 8, .tmp 9]),
 zo 5 (.own 10)] [])
 (.seq (.seq (.region false [zo 11 (.mov (.tmp 5)),
 zo 12 (.bin .eql (.tmp 11) (.cst (.int .i64 (-1))))] [])
  (.cond (.tmp 12) (.seq (.region false [zo 13 (.thw 0),
 zo 4 (.own 13)] [])
  .ret) .skip))
 (.seq (.seq (.region false [zo 14 (.mov (.tmp 5)),
 zo 15 (.bin .add (.tmp 14) (.cst (.int .i64 1))),
 zo 6 (.own 15)] [])
  (.block 0 (.loop x68_l0)))
 (.seq (.region false [zo 36 (.thw 0),
 zo 37 (.mov (.tmp 5)),
 zo 38 (.ssl 1 (.tmp 36) (some (.tmp 37)) none none),
 ⟨none, .clr 1 [.str []] (.tmp 38), none⟩] [])
 (.seq (.region false [zo 39 (.thw 0),
 zo 40 (.mov (.tmp 5)),
 zo 41 (.ssl 1 (.tmp 39) none (some (.tmp 40)) none),
 zo 4 (.own 41)] [])
  .ret))))))
/-- custos/ast.free$1 -/
def x69 : XFn := XFn.mk 8 [.tmp 3] (.seq (.region false [zo 3 (.mov (.cst (.bool false)))] [])
 (.seq (.region false [zo 4 (.faddr (.tmp 1) 3),
 zo 5 (.load (.tmp 4) 1 false),
 zo 6 (.mov (.tmp 0)),
 zo 7 (.callq 70 [.tmp 5, .tmp 6]),
 zo 3 (.own 7)] [])
  .ret))
/-- slices.Contains[[]string,string] -/
def x70 : XFn := XFn.mk 9 [.tmp 4] (.seq (.region false [zo 4 (.mov (.cst (.bool false)))] [])
 (.seq (.region false [zo 5 (.mov (.tmp 0)),
 zo 6 (.mov (.tmp 1)),
 zo 7 (.callq 93 [.tmp 5, .tmp 6]),
 zo 8 (.bin .geq (.tmp 7) (.cst (.int .i64 0))),
 zo 4 (.own 8)] [])
  .ret))
def x73_r0 : XCode := .seq (.region false [zo 13 (.bin .lss (.tmp 12) (.tmp 11))] [])
 (.seq (.cond (.tmp 13) .skip (.exit 0))
 (.seq (.block 1 (.seq (.region false [zo 14 (.iaddr 3 (.tmp 10) (.tmp 12)),
 zo 15 (.load (.tmp 14) 3 true),
 zo 5 (.alloc [.int .i64 0, .nilsl, .nilsl]),
 ⟨none, .store (.tmp 5) (.tmp 15) 3, none⟩] [])
  (.region false [zo 16 (.own 3),
 zo 17 (.load (.tmp 5) 3 true),
 zo 18 (.callq 73 [.tmp 17]),
 zo 19 (.app false 10 152 16 (.tmp 18)),
 zo 3 (.own 19)] [])))
  (.region false [zo 20 (.bin .add (.tmp 12) (.cst (.int .i64 1))),
 zo 12 (.mov (.tmp 20))] [])))
def x73_l0 : XCode := x73_r0
/-- custos/ast.tests -/
def x73 : XFn := XFn.mk 22 [.tmp 2] (.seq (.region false [zo 1 (.box (.tmp 0) 3),
 zo 2 (.mov (.cst .nilsl))] [])
 (.seq (.region false [zo 6 (.faddr (.tmp 1) 1),
 zo 7 (.load (.tmp 6) 1 false),
 zo 8 (.callq 96 [.tmp 7]),
 zo 3 (.own 8)] [])
 (.seq (.seq (.region false [zo 9 (.faddr (.tmp 1) 2),
 zo 10 (.load (.tmp 9) 1 false),
 zo 11 (.lens false (.tmp 10)),
 zo 12 (.mov (.cst (.int .i64 0)))] [])
  (.block 0 (.loop x73_l0)))
 (.seq (.region false [zo 21 (.mov (.tmp 3)),
 zo 2 (.own 21)] [])
  .ret))))
def x74_r0 : XCode := .seq (.seq (.region false [zo 10 (.mov (.tmp 4)),
 zo 11 (.faddr (.tmp 1) 2),
 zo 12 (.load (.tmp 11) 1 false),
 zo 13 (.lens false (.tmp 12)),
 zo 14 (.bin .lss (.tmp 10) (.tmp 13))] [])
  (.cond (.tmp 14) .skip (.exit 0)))
 (.seq (.block 1 (.seq (.region false [zo 17 (.faddr (.tmp 1) 2),
 zo 18 (.load (.tmp 17) 1 false),
 zo 19 (.mov (.tmp 4)),
 zo 20 (.iaddr 3 (.tmp 18) (.tmp 19)),
 zo 21 (.load (.tmp 20) 3 true),
 zo 22 (.callq 74 [.tmp 21]),
 zo 5 (.own 22)] [])
  (.region false [zo 23 (.own 3),
 zo 24 (.mov (.tmp 5)),
 zo 25 (.app false 10 152 23 (.tmp 24)),
 zo 3 (.own 25)] [])))
  (.region false [zo 15 (.mov (.tmp 4)),
 zo 16 (.bin .add (.tmp 15) (.cst (.int .i64 1))),
 zo 4 (.own 16)] []))
def x74_l0 : XCode := x74_r0
/-- custos/custosref06.Tests -/
def x74 : XFn := XFn.mk 27 [.tmp 2] (.seq (.region false [zo 1 (.box (.tmp 0) 3),
 zo 2 (.mov (.cst .nilsl))] [])
 (.seq (.region false [zo 3 (.mov (.cst .nilsl))] [])
 (.seq (.region false [zo 6 (.own 3),
 zo 7 (.faddr (.tmp 1) 1),
 zo 8 (.load (.tmp 7) 1 false),
 zo 9 (.app false 10 152 6 (.tmp 8)),
 zo 3 (.own 9)] [])
 (.seq (.seq (.region false [zo 4 (.mov (.cst (.int .i64 0)))] [])
  (.block 0 (.loop x74_l0)))
 (.seq (.region false [zo 26 (.mov (.tmp 3)),
 zo 2 (.own 26)] [])
  .ret)))))
/-- (*custos/ast.walk).enter -/
def x75 : XFn := XFn.mk 43 [.tmp 4] (.seq (.region false [zo 4 (.mov (.cst (.bool false)))] [])
 (.seq (.seq (.region false [zo 5 (.mov (.tmp 0)),
 zo 6 (.nilck (.tmp 5)),
 zo 7 (.faddr (.tmp 6) 2),
 zo 8 (.load (.tmp 7) 1 false),
 zo 9 (.bin .neq (.tmp 8) (.cst (.int .i64 0))),
 zo 10 (.mov (.tmp 9)),
 zg 11 10 false (.mov (.tmp 0)),
 zg 12 10 false (.mov (.tmp 1)),
 zg 13 10 false (.bin .leq (.tmp 12) (.cst (.int .i64 24))),
 zg 14 10 false (.callw 50 [.tmp 11, .tmp 13, .cst (.int .i64 71)]),
 zg 15 10 false (.not (.tmp 14)),
 zo 16 (.pick (.tmp 10) (.cst (.bool true)) (.tmp 15)),
 zo 17 (.mov (.tmp 16)),
 zg 18 17 false (.mov (.tmp 0)),
 zg 19 17 false (.mov (.tmp 0)),
 zg 20 17 false (.nilck (.tmp 19)),
 zg 21 17 false (.faddr (.tmp 20) 0),
 zg 22 17 false (.load (.tmp 21) 1 false),
 zg 23 17 false (.bin .lss (.tmp 22) (.cst (.int .i64 256))),
 zg 24 17 false (.callw 50 [.tmp 18, .tmp 23, .cst (.int .i64 3)]),
 zg 25 17 false (.not (.tmp 24)),
 zo 26 (.pick (.tmp 17) (.cst (.bool true)) (.tmp 25))] [])
  (.cond (.tmp 26) (.seq (.region false [zo 4 (.mov (.cst (.bool false)))] [])
  .ret) .skip))
 (.seq (.region false [zo 27 (.mov (.tmp 0)),
 zo 28 (.nilck (.tmp 27)),
 zo 29 (.faddr (.tmp 28) 0),
 zo 30 (.load (.tmp 29) 1 false),
 zo 31 (.bin .add (.tmp 30) (.cst (.int .i64 1))),
 zo 32 (.nilck (.tmp 27)),
 zo 33 (.faddr (.tmp 32) 0),
 ⟨none, .store (.tmp 33) (.tmp 31) 1, none⟩] [])
 (.seq (.region false [zo 34 (.mov (.tmp 0)),
 zo 35 (.mov (.tmp 0)),
 zo 36 (.nilck (.tmp 35)),
 zo 37 (.faddr (.tmp 36) 1),
 zo 38 (.load (.tmp 37) 1 false),
 zo 39 (.mov (.tmp 1)),
 zo 40 (.mx (.tmp 38) (.tmp 39)),
 zo 41 (.nilck (.tmp 34)),
 zo 42 (.faddr (.tmp 41) 1),
 ⟨none, .store (.tmp 42) (.tmp 40) 1, none⟩] [])
 (.seq (.region false [zo 4 (.mov (.cst (.bool true)))] [])
  .ret)))))
/-- custos/ast.most -/
def x76 : XFn := XFn.mk 13 [.tmp 2, .tmp 3] (.seq (.region false [zo 2 (.mov (.cst (.int .i64 0))),
 zo 3 (.mov (.cst (.int .i64 0)))] [])
 (.seq (.seq (.region false [zo 4 (.mov (.tmp 0))] [])
  (.block 0 (.seq (.region false [zo 6 (.bin .eql (.tmp 4) (.cst (.int .i64 3))),
 zo 5 (.own 6)] [])
  (.cond (.tmp 5) (.seq (.region false [zo 2 (.mov (.cst (.int .i64 6))),
 zo 3 (.mov (.cst (.int .i64 0)))] [])
  .ret) (.seq (.seq (.region false [zo 8 (.bin .eql (.tmp 4) (.cst (.int .i64 20))),
 zo 7 (.own 8)] [])
  (.cond (.tmp 7) .skip (.region false [zo 9 (.bin .eql (.tmp 4) (.cst (.int .i64 21))),
 zo 7 (.own 9)] [])))
  (.cond (.tmp 7) (.seq (.region false [zo 2 (.mov (.cst (.int .i64 0))),
 zo 3 (.mov (.cst (.int .i64 6)))] [])
  .ret) (.seq (.seq (.region false [zo 11 (.bin .eql (.tmp 4) (.cst (.int .i64 10))),
 zo 10 (.own 11)] [])
  (.cond (.tmp 10) .skip (.region false [zo 12 (.bin .eql (.tmp 4) (.cst (.int .i64 19))),
 zo 10 (.own 12)] [])))
  (.cond (.tmp 10) (.seq (.region false [zo 2 (.mov (.cst (.int .i64 0))),
 zo 3 (.mov (.cst (.int .i64 8)))] [])
  .ret) .skip))))))))
 (.seq (.region false [zo 2 (.mov (.cst (.int .i64 0))),
 zo 3 (.mov (.cst (.int .i64 0)))] [])
  .ret)))
/-- custos/ast.formed -/
def x77 : XFn := XFn.mk 87 [.tmp 2] (.seq (.region false [zo 1 (.box (.tmp 0) 10),
 zo 2 (.mov (.cst (.bool false)))] [])
 (.seq (.region false [zo 10 (.faddr (.tmp 1) 0),
 zo 11 (.load (.tmp 10) 1 false),
 zo 12 (.callq 97 [.tmp 11]),
 zo 9 (.mov (.tmp 12)),
 zo 13 (.ext 9 0),
 zo 14 (.ext 9 1),
 zo 15 (.ext 9 2),
 zo 16 (.ext 9 3),
 zo 17 (.ext 9 4),
 zo 3 (.own 13),
 zo 4 (.own 14),
 zo 5 (.own 15),
 zo 6 (.own 16),
 zo 7 (.own 17)] [])
 (.seq (.seq (.region false [zo 18 (.faddr (.tmp 1) 3),
 zo 19 (.load (.tmp 18) 1 false),
 zo 20 (.lens false (.tmp 19)),
 zo 21 (.mov (.tmp 4)),
 zo 22 (.faddr (.tmp 1) 4),
 zo 23 (.load (.tmp 22) 1 false),
 zo 24 (.lens false (.tmp 23)),
 zo 25 (.mov (.tmp 5)),
 zo 26 (.faddr (.tmp 1) 8),
 zo 27 (.load (.tmp 26) 1 false),
 zo 28 (.lens false (.tmp 27)),
 zo 29 (.mov (.tmp 6)),
 zo 30 (.faddr (.tmp 1) 9),
 zo 31 (.load (.tmp 30) 1 false),
 zo 32 (.lens false (.tmp 31)),
 zo 33 (.mov (.tmp 7)),
 zo 34 (.bslice 1 [.int .i64 0, .int .i64 0, .int .i64 0, .int .i64 0, .int .i64 0, .int .i64 0, .int .i64 0, .int .i64 0] [(0, 1, .tmp 20), (1, 1, .tmp 21), (2, 1, .tmp 24), (3, 1, .tmp 25), (4, 1, .tmp 28), (5, 1, .tmp 29), (6, 1, .tmp 32), (7, 1, .tmp 33)]),
 zo 35 (.callq 98 [.tmp 34]),
 zo 36 (.not (.tmp 35)),
 zo 37 (.mov (.tmp 36)),
 zg 38 37 false (.faddr (.tmp 1) 3),
 zg 39 37 false (.load (.tmp 38) 1 false),
 zg 40 37 false (.callw 99 [.tmp 39, .cst (.fn 100 [] [])]),
 zo 41 (.pick (.tmp 37) (.cst (.bool true)) (.tmp 40))] [])
  (.cond (.tmp 41) (.seq (.region false [zo 2 (.mov (.cst (.bool false)))] [])
  .ret) .skip))
 (.seq (.region false [zo 42 (.faddr (.tmp 1) 1),
 zo 43 (.load (.tmp 42) 1 false),
 zo 44 (.bin .eql (.tmp 43) (.cst (.str []))),
 zo 8 (.own 44)] [])
 (.seq (.seq (.region false [zo 45 (.mov (.tmp 3)),
 zo 46 (.bin .and (.tmp 45) (.cst (.int .i64 1))),
 zo 47 (.bin .neq (.tmp 46) (.cst (.int .i64 0)))] [])
  (.cond (.tmp 47) (.region false [zo 48 (.faddr (.tmp 1) 1),
 zo 49 (.load (.tmp 48) 1 false),
 zo 50 (.callq 41 [.tmp 49]),
 zo 8 (.own 50)] []) .skip))
 (.seq (.seq (.region false [zo 51 (.mov (.tmp 3)),
 zo 52 (.bin .and (.tmp 51) (.cst (.int .i64 2))),
 zo 53 (.bin .neq (.tmp 52) (.cst (.int .i64 0)))] [])
  (.cond (.tmp 53) (.region false [zo 54 (.mov (.tmp 8)),
 zo 55 (.mov (.tmp 54)),
 zg 56 55 true (.faddr (.tmp 1) 2),
 zg 57 55 true (.load (.tmp 56) 1 false),
 zg 58 55 true (.bin .geq (.tmp 57) (.cst (.int .i64 1))),
 zo 59 (.pick (.tmp 55) (.tmp 58) (.cst (.bool false))),
 zo 60 (.mov (.tmp 59)),
 zg 61 60 true (.faddr (.tmp 1) 2),
 zg 62 60 true (.load (.tmp 61) 1 false),
 zg 63 60 true (.bin .leq (.tmp 62) (.cst (.int .i64 6))),
 zo 64 (.pick (.tmp 60) (.tmp 63) (.cst (.bool false))),
 zo 8 (.own 64)] []) (.region false [zo 65 (.mov (.tmp 8)),
 zo 66 (.mov (.tmp 65)),
 zg 67 66 true (.faddr (.tmp 1) 2),
 zg 68 66 true (.load (.tmp 67) 1 false),
 zg 69 66 true (.bin .eql (.tmp 68) (.cst (.int .i64 0))),
 zo 70 (.pick (.tmp 66) (.tmp 69) (.cst (.bool false))),
 zo 8 (.own 70)] [])))
 (.seq (.seq (.region false [zo 71 (.mov (.tmp 3)),
 zo 72 (.bin .and (.tmp 71) (.cst (.int .i64 4))),
 zo 73 (.bin .neq (.tmp 72) (.cst (.int .i64 0)))] [])
  (.cond (.tmp 73) (.seq (.region false [zo 74 (.mov (.tmp 8)),
 zo 75 (.mov (.tmp 74)),
 zg 76 75 true (.faddr (.tmp 1) 5),
 zg 77 75 true (.load (.tmp 76) 3 true),
 zg 78 75 true (.callq 101 [.tmp 77]),
 zo 79 (.pick (.tmp 75) (.tmp 78) (.cst (.bool false))),
 zo 2 (.own 79)] [])
  .ret) .skip))
 (.seq (.region false [zo 80 (.mov (.tmp 8)),
 zo 81 (.mov (.tmp 80)),
 zg 82 81 true (.faddr (.tmp 1) 5),
 zg 83 81 true (.load (.tmp 82) 3 true),
 zg 84 81 true (.build [.int .i64 0, .int .i64 0, .bool false] []),
 zg 85 81 true (.eqagg false [1, 1, 0] (.tmp 83) (.tmp 84)),
 zo 86 (.pick (.tmp 81) (.tmp 85) (.cst (.bool false))),
 zo 2 (.own 86)] [])
  .ret))))))))
/-- custos/ast.twice -/
def x78 : XFn := XFn.mk 6 [.tmp 2] (.seq (.region false [zo 1 (.box (.tmp 0) 1),
 zo 2 (.mov (.cst (.bool false)))] [])
 (.seq (.region false [zo 3 (.load (.tmp 1) 1 false),
 zo 4 (.mkfn 102 [] [.tmp 1]),
 zo 5 (.callw 99 [.tmp 3, .tmp 4]),
 zo 2 (.own 5)] [])
  .ret))
def x79_r0 : XCode := .seq (.region false [zo 11 (.bin .lss (.tmp 10) (.tmp 9))] [])
 (.seq (.cond (.tmp 11) .skip (.exit 0))
 (.seq (.block 1 (.seq (.region false [zo 12 (.iaddr 7 (.tmp 8) (.tmp 10)),
 zo 13 (.load (.tmp 12) 7 true),
 zo 7 (.alloc [.int .i64 0, .str [], .int .i64 0, .int .i64 0, .int .i64 0, .str [], .nilsl]),
 ⟨none, .store (.tmp 7) (.tmp 13) 7, none⟩] [])
  (.region false [zo 14 (.mov (.tmp 0)),
 zo 15 (.load (.tmp 7) 7 true),
 zo 16 (.mov (.tmp 1)),
 zo 17 (.calld (.tmp 14) [.tmp 15, .tmp 16])] [])))
  (.region false [zo 18 (.bin .add (.tmp 10) (.cst (.int .i64 1))),
 zo 10 (.mov (.tmp 18))] [])))
def x79_l0 : XCode := x79_r0
/-- custos/ast.all[custos/api.Term] -/
def x79 : XFn := XFn.mk 19 [] (.seq (.region false [zo 8 (.mov (.tmp 2)),
 zo 9 (.lens false (.tmp 8)),
 zo 10 (.mov (.cst (.int .i64 0)))] [])
  (.block 0 (.loop x79_l0)))
/-- (*custos/ast.walk).term -/
def x80 : XFn := XFn.mk 82 [] (.seq (.region false [zo 4 (.box (.tmp 1) 7)] [])
 (.seq (.seq (.region false [zo 9 (.mov (.tmp 0)),
 zo 10 (.mov (.tmp 2)),
 zo 11 (.callw 75 [.tmp 9, .tmp 10]),
 zo 12 (.not (.tmp 11)),
 zo 13 (.mov (.tmp 12)),
 zg 14 13 false (.mov (.tmp 0)),
 zg 15 13 false (.faddr (.tmp 4) 0),
 zg 16 13 false (.load (.tmp 15) 1 false),
 zg 17 13 false (.bin .geq (.tmp 16) (.cst (.int .i64 1))),
 zg 18 13 false (.mov (.tmp 17)),
 zg 19 18 true (.faddr (.tmp 4) 0),
 zg 20 18 true (.load (.tmp 19) 1 false),
 zg 21 18 true (.bin .leq (.tmp 20) (.cst (.int .i64 5))),
 zg 22 13 false (.pick (.tmp 18) (.tmp 21) (.cst (.bool false))),
 zg 23 13 false (.callw 50 [.tmp 14, .tmp 22, .cst (.int .i64 20)]),
 zg 24 13 false (.not (.tmp 23)),
 zo 25 (.pick (.tmp 13) (.cst (.bool true)) (.tmp 24))] [])
  (.cond (.tmp 25) .ret .skip))
 (.seq (.region false [zo 6 (.mov (.cst (.int .i64 0)))] [])
 (.seq (.seq (.region false [zo 26 (.faddr (.tmp 4) 0),
 zo 27 (.load (.tmp 26) 1 false),
 zo 28 (.bin .geq (.tmp 27) (.cst (.int .i64 3)))] [])
  (.cond (.tmp 28) (.region false [zo 6 (.mov (.cst (.int .i64 2)))] []) .skip))
 (.seq (.region false [zo 29 (.faddr (.tmp 4) 6),
 zo 30 (.load (.tmp 29) 1 false),
 zo 31 (.lens false (.tmp 30)),
 zo 32 (.mov (.tmp 6)),
 zo 33 (.bslice 1 [.int .i64 0, .int .i64 0] [(0, 1, .tmp 31), (1, 1, .tmp 32)]),
 zo 34 (.callq 98 [.tmp 33]),
 zo 35 (.mov (.tmp 34)),
 zg 36 35 true (.faddr (.tmp 4) 0),
 zg 37 35 true (.load (.tmp 36) 1 false),
 zg 38 35 true (.bin .eql (.tmp 37) (.cst (.int .i64 2))),
 zg 39 35 true (.mov (.tmp 38)),
 zg 40 39 false (.faddr (.tmp 4) 2),
 zg 41 39 false (.load (.tmp 40) 4 true),
 zg 42 39 false (.build [.int .i64 0, .int .i64 0, .int .i64 0, .str []] []),
 zg 43 39 false (.eqagg false [1, 1, 1, 2] (.tmp 41) (.tmp 42)),
 zg 44 35 true (.pick (.tmp 39) (.cst (.bool true)) (.tmp 43)),
 zo 45 (.pick (.tmp 35) (.tmp 44) (.cst (.bool false))),
 zo 7 (.own 45)] [])
 (.seq (.seq (.region false [zo 46 (.faddr (.tmp 4) 0),
 zo 47 (.load (.tmp 46) 1 false),
 zo 48 (.bin .eql (.tmp 47) (.cst (.int .i64 1)))] [])
  (.cond (.tmp 48) (.region false [zo 49 (.mov (.tmp 7)),
 zo 50 (.mov (.tmp 49)),
 zg 51 50 true (.faddr (.tmp 4) 1),
 zg 52 50 true (.load (.tmp 51) 1 false),
 zg 53 50 true (.callq 41 [.tmp 52]),
 zo 54 (.pick (.tmp 50) (.tmp 53) (.cst (.bool false))),
 zo 7 (.own 54)] []) (.region false [zo 55 (.mov (.tmp 7)),
 zo 56 (.mov (.tmp 55)),
 zg 57 56 true (.faddr (.tmp 4) 1),
 zg 58 56 true (.load (.tmp 57) 1 false),
 zg 59 56 true (.bin .eql (.tmp 58) (.cst (.str []))),
 zo 60 (.pick (.tmp 56) (.tmp 59) (.cst (.bool false))),
 zo 7 (.own 60)] [])))
 (.seq (.region false [zo 61 (.mov (.tmp 0)),
 zo 62 (.mov (.tmp 7)),
 zo 63 (.callw 50 [.tmp 61, .tmp 62, .cst (.int .i64 1)])] [])
 (.seq (.seq (.region false [zo 64 (.faddr (.tmp 4) 0),
 zo 65 (.load (.tmp 64) 1 false),
 zo 66 (.bin .eql (.tmp 65) (.cst (.int .i64 2)))] [])
  (.cond (.tmp 66) (.seq (.region false [zo 67 (.faddr (.tmp 4) 2),
 zo 68 (.load (.tmp 67) 4 true),
 zo 69 (.callq 104 [.tmp 68]),
 zo 8 (.own 69)] [])
  (.region false [zo 70 (.mov (.tmp 0)),
 zo 71 (.mov (.tmp 8)),
 zo 72 (.bin .eql (.tmp 71) (.cst (.int .i64 0))),
 zo 73 (.mov (.tmp 8)),
 zo 74 (.callw 50 [.tmp 70, .tmp 72, .tmp 73])] [])) .skip))
  (.region false [zo 75 (.mov (.tmp 0)),
 zo 76 (.mkfn 80 [.tmp 75] []),
 zo 77 (.mov (.tmp 2)),
 zo 78 (.bin .add (.tmp 77) (.cst (.int .i64 1))),
 zo 79 (.faddr (.tmp 4) 6),
 zo 80 (.load (.tmp 79) 1 false),
 zo 81 (.callw 79 [.tmp 76, .tmp 78, .tmp 80])] [])))))))))
def x81_r0 : XCode := .seq (.region false [zo 11 (.bin .lss (.tmp 10) (.tmp 9))] [])
 (.seq (.cond (.tmp 11) .skip (.exit 0))
 (.seq (.block 1 (.seq (.region false [zo 12 (.iaddr 3 (.tmp 8) (.tmp 10)),
 zo 13 (.load (.tmp 12) 3 true),
 zo 7 (.alloc [.int .i64 0, .nilsl, .nilsl]),
 ⟨none, .store (.tmp 7) (.tmp 13) 3, none⟩] [])
  (.region false [zo 14 (.mov (.tmp 0)),
 zo 15 (.load (.tmp 7) 3 true),
 zo 16 (.mov (.tmp 1)),
 zo 17 (.calld (.tmp 14) [.tmp 15, .tmp 16])] [])))
  (.region false [zo 18 (.bin .add (.tmp 10) (.cst (.int .i64 1))),
 zo 10 (.mov (.tmp 18))] [])))
def x81_l0 : XCode := x81_r0
/-- custos/ast.all[custos/api.Regex] -/
def x81 : XFn := XFn.mk 19 [] (.seq (.region false [zo 8 (.mov (.tmp 2)),
 zo 9 (.lens false (.tmp 8)),
 zo 10 (.mov (.cst (.int .i64 0)))] [])
  (.block 0 (.loop x81_l0)))
/-- (*custos/ast.walk).regex -/
def x82 : XFn := XFn.mk 60 [] (.seq (.region false [zo 4 (.box (.tmp 1) 3)] [])
 (.seq (.seq (.region false [zo 8 (.mov (.tmp 0)),
 zo 9 (.mov (.tmp 2)),
 zo 10 (.callw 75 [.tmp 8, .tmp 9]),
 zo 11 (.not (.tmp 10)),
 zo 12 (.mov (.tmp 11)),
 zg 13 12 false (.mov (.tmp 0)),
 zg 14 12 false (.faddr (.tmp 4) 0),
 zg 15 12 false (.load (.tmp 14) 1 false),
 zg 16 12 false (.bin .geq (.tmp 15) (.cst (.int .i64 1))),
 zg 17 12 false (.mov (.tmp 16)),
 zg 18 17 true (.faddr (.tmp 4) 0),
 zg 19 17 true (.load (.tmp 18) 1 false),
 zg 20 17 true (.bin .leq (.tmp 19) (.cst (.int .i64 5))),
 zg 21 12 false (.pick (.tmp 17) (.tmp 20) (.cst (.bool false))),
 zg 22 12 false (.callw 50 [.tmp 13, .tmp 21, .cst (.int .i64 20)]),
 zg 23 12 false (.not (.tmp 22)),
 zo 24 (.pick (.tmp 12) (.cst (.bool true)) (.tmp 23))] [])
  (.cond (.tmp 24) .ret .skip))
 (.seq (.region false [zo 6 (.mov (.cst (.int .i64 0))),
 zo 7 (.mov (.cst (.int .i64 0)))] [])
 (.seq (.seq (.region false [zo 25 (.faddr (.tmp 4) 0),
 zo 26 (.load (.tmp 25) 1 false)] [])
  (.block 0 (.seq (.region false [zo 28 (.bin .eql (.tmp 26) (.cst (.int .i64 2))),
 zo 27 (.own 28)] [])
  (.cond (.tmp 27) (.region false [zo 6 (.mov (.cst (.int .i64 1)))] []) (.seq (.seq (.region false [zo 30 (.bin .eql (.tmp 26) (.cst (.int .i64 3))),
 zo 29 (.own 30)] [])
  (.cond (.tmp 29) .skip (.region false [zo 31 (.bin .eql (.tmp 26) (.cst (.int .i64 4))),
 zo 29 (.own 31)] [])))
  (.cond (.tmp 29) (.region false [zo 7 (.mov (.cst (.int .i64 2)))] []) (.seq (.region false [zo 33 (.bin .eql (.tmp 26) (.cst (.int .i64 5))),
 zo 32 (.own 33)] [])
  (.cond (.tmp 32) (.region false [zo 7 (.mov (.cst (.int .i64 1)))] []) .skip))))))))
 (.seq (.region false [zo 34 (.mov (.tmp 0)),
 zo 35 (.faddr (.tmp 4) 1),
 zo 36 (.load (.tmp 35) 1 false),
 zo 37 (.lens false (.tmp 36)),
 zo 38 (.mov (.tmp 6)),
 zo 39 (.faddr (.tmp 4) 2),
 zo 40 (.load (.tmp 39) 1 false),
 zo 41 (.lens false (.tmp 40)),
 zo 42 (.mov (.tmp 7)),
 zo 43 (.bslice 1 [.int .i64 0, .int .i64 0, .int .i64 0, .int .i64 0] [(0, 1, .tmp 37), (1, 1, .tmp 38), (2, 1, .tmp 41), (3, 1, .tmp 42)]),
 zo 44 (.callq 98 [.tmp 43]),
 zo 45 (.callw 50 [.tmp 34, .tmp 44, .cst (.int .i64 1)])] [])
  (.cond (.tmp 45) (.seq (.region false [zo 46 (.mov (.tmp 0)),
 zo 47 (.mkfn 49 [.tmp 46] []),
 zo 48 (.mov (.tmp 2)),
 zo 49 (.bin .add (.tmp 48) (.cst (.int .i64 1))),
 zo 50 (.faddr (.tmp 4) 1),
 zo 51 (.load (.tmp 50) 1 false),
 zo 52 (.callw 83 [.tmp 47, .tmp 49, .tmp 51])] [])
  (.region false [zo 53 (.mov (.tmp 0)),
 zo 54 (.mkfn 82 [.tmp 53] []),
 zo 55 (.mov (.tmp 2)),
 zo 56 (.bin .add (.tmp 55) (.cst (.int .i64 1))),
 zo 57 (.faddr (.tmp 4) 2),
 zo 58 (.load (.tmp 57) 1 false),
 zo 59 (.callw 81 [.tmp 54, .tmp 56, .tmp 58])] [])) .skip))))))
def x83_r0 : XCode := .seq (.region false [zo 11 (.bin .lss (.tmp 10) (.tmp 9))] [])
 (.seq (.cond (.tmp 11) .skip (.exit 0))
 (.seq (.block 1 (.seq (.region false [zo 12 (.iaddr 10 (.tmp 8) (.tmp 10)),
 zo 13 (.load (.tmp 12) 10 true),
 zo 7 (.alloc [.int .i64 0, .str [], .int .i64 0, .nilsl, .nilsl, .int .i64 0, .int .i64 0, .bool false, .nilsl, .nilsl]),
 ⟨none, .store (.tmp 7) (.tmp 13) 10, none⟩] [])
  (.region false [zo 14 (.mov (.tmp 0)),
 zo 15 (.load (.tmp 7) 10 true),
 zo 16 (.mov (.tmp 1)),
 zo 17 (.calld (.tmp 14) [.tmp 15, .tmp 16])] [])))
  (.region false [zo 18 (.bin .add (.tmp 10) (.cst (.int .i64 1))),
 zo 10 (.mov (.tmp 18))] [])))
def x83_l0 : XCode := x83_r0
/-- custos/ast.all[custos/api.Formula] -/
def x83 : XFn := XFn.mk 19 [] (.seq (.region false [zo 8 (.mov (.tmp 2)),
 zo 9 (.lens false (.tmp 8)),
 zo 10 (.mov (.cst (.int .i64 0)))] [])
  (.block 0 (.loop x83_l0)))
/-- custos/custosref06.usesOf -/
def x84 : XFn := XFn.mk 47 [.cell 2 7 true] (.seq (.region false [zo 2 (.alloc [.bool false, .bool false, .bool false, .int .i64 0, .int .i64 0, .int .i64 0, .int .i64 0])] [])
 (.seq (.seq (.region false [zo 3 (.mov (.tmp 0))] [])
  (.block 0 (.seq (.region false [zo 5 (.bin .eql (.tmp 3) (.cst (.int .i64 3))),
 zo 4 (.own 5)] [])
  (.cond (.tmp 4) (.seq (.region false [zo 6 (.build [.bool false, .bool false, .bool false, .int .i64 0, .int .i64 0, .int .i64 0, .int .i64 0] [(0, 1, .cst (.bool true)), (4, 1, .cst (.int .i64 (-2)))]),
 ⟨none, .store (.tmp 2) (.tmp 6) 7, none⟩] [])
  .ret) (.seq (.seq (.region false [zo 8 (.bin .eql (.tmp 3) (.cst (.int .i64 4))),
 zo 7 (.own 8)] [])
  (.cond (.tmp 7) .skip (.seq (.region false [zo 9 (.bin .eql (.tmp 3) (.cst (.int .i64 5))),
 zo 7 (.own 9)] [])
  (.cond (.tmp 7) .skip (.region false [zo 10 (.bin .eql (.tmp 3) (.cst (.int .i64 6))),
 zo 7 (.own 10)] [])))))
  (.cond (.tmp 7) (.seq (.region false [zo 11 (.build [.bool false, .bool false, .bool false, .int .i64 0, .int .i64 0, .int .i64 0, .int .i64 0] [(4, 1, .cst (.int .i64 2))]),
 ⟨none, .store (.tmp 2) (.tmp 11) 7, none⟩] [])
  .ret) (.seq (.region false [zo 13 (.bin .eql (.tmp 3) (.cst (.int .i64 7))),
 zo 12 (.own 13)] [])
  (.cond (.tmp 12) (.seq (.region false [zo 14 (.build [.bool false, .bool false, .bool false, .int .i64 0, .int .i64 0, .int .i64 0, .int .i64 0] [(5, 1, .cst (.int .i64 1))]),
 ⟨none, .store (.tmp 2) (.tmp 14) 7, none⟩] [])
  .ret) (.seq (.seq (.region false [zo 16 (.bin .eql (.tmp 3) (.cst (.int .i64 8))),
 zo 15 (.own 16)] [])
  (.cond (.tmp 15) .skip (.region false [zo 17 (.bin .eql (.tmp 3) (.cst (.int .i64 9))),
 zo 15 (.own 17)] [])))
  (.cond (.tmp 15) (.seq (.region false [zo 18 (.build [.bool false, .bool false, .bool false, .int .i64 0, .int .i64 0, .int .i64 0, .int .i64 0] [(5, 1, .cst (.int .i64 2))]),
 ⟨none, .store (.tmp 2) (.tmp 18) 7, none⟩] [])
  .ret) (.seq (.region false [zo 20 (.bin .eql (.tmp 3) (.cst (.int .i64 10))),
 zo 19 (.own 20)] [])
  (.cond (.tmp 19) (.seq (.region false [zo 21 (.build [.bool false, .bool false, .bool false, .int .i64 0, .int .i64 0, .int .i64 0, .int .i64 0] [(3, 1, .cst (.int .i64 (-1))), (5, 1, .cst (.int .i64 1))]),
 ⟨none, .store (.tmp 2) (.tmp 21) 7, none⟩] [])
  .ret) (.seq (.seq (.region false [zo 23 (.bin .eql (.tmp 3) (.cst (.int .i64 11))),
 zo 22 (.own 23)] [])
  (.cond (.tmp 22) .skip (.seq (.region false [zo 24 (.bin .eql (.tmp 3) (.cst (.int .i64 12))),
 zo 22 (.own 24)] [])
  (.cond (.tmp 22) .skip (.seq (.region false [zo 25 (.bin .eql (.tmp 3) (.cst (.int .i64 13))),
 zo 22 (.own 25)] [])
  (.cond (.tmp 22) .skip (.region false [zo 26 (.bin .eql (.tmp 3) (.cst (.int .i64 14))),
 zo 22 (.own 26)] [])))))))
  (.cond (.tmp 22) (.seq (.region false [zo 27 (.build [.bool false, .bool false, .bool false, .int .i64 0, .int .i64 0, .int .i64 0, .int .i64 0] [(2, 1, .cst (.bool true)), (5, 1, .cst (.int .i64 1))]),
 ⟨none, .store (.tmp 2) (.tmp 27) 7, none⟩] [])
  .ret) (.seq (.seq (.region false [zo 29 (.bin .eql (.tmp 3) (.cst (.int .i64 15))),
 zo 28 (.own 29)] [])
  (.cond (.tmp 28) .skip (.region false [zo 30 (.bin .eql (.tmp 3) (.cst (.int .i64 16))),
 zo 28 (.own 30)] [])))
  (.cond (.tmp 28) (.seq (.region false [zo 31 (.build [.bool false, .bool false, .bool false, .int .i64 0, .int .i64 0, .int .i64 0, .int .i64 0] [(2, 1, .cst (.bool true)), (5, 1, .cst (.int .i64 2))]),
 ⟨none, .store (.tmp 2) (.tmp 31) 7, none⟩] [])
  .ret) (.seq (.seq (.region false [zo 33 (.bin .eql (.tmp 3) (.cst (.int .i64 17))),
 zo 32 (.own 33)] [])
  (.cond (.tmp 32) .skip (.region false [zo 34 (.bin .eql (.tmp 3) (.cst (.int .i64 18))),
 zo 32 (.own 34)] [])))
  (.cond (.tmp 32) (.seq (.region false [zo 35 (.build [.bool false, .bool false, .bool false, .int .i64 0, .int .i64 0, .int .i64 0, .int .i64 0] [(2, 1, .cst (.bool true)), (6, 1, .cst (.int .i64 1))]),
 ⟨none, .store (.tmp 2) (.tmp 35) 7, none⟩] [])
  .ret) (.seq (.region false [zo 37 (.bin .eql (.tmp 3) (.cst (.int .i64 19))),
 zo 36 (.own 37)] [])
  (.cond (.tmp 36) (.seq (.region false [zo 38 (.build [.bool false, .bool false, .bool false, .int .i64 0, .int .i64 0, .int .i64 0, .int .i64 0] [(0, 1, .cst (.bool true)), (1, 1, .cst (.bool true)), (3, 1, .cst (.int .i64 (-1))), (5, 1, .cst (.int .i64 1))]),
 ⟨none, .store (.tmp 2) (.tmp 38) 7, none⟩] [])
  .ret) (.seq (.seq (.region false [zo 40 (.bin .eql (.tmp 3) (.cst (.int .i64 20))),
 zo 39 (.own 40)] [])
  (.cond (.tmp 39) .skip (.region false [zo 41 (.bin .eql (.tmp 3) (.cst (.int .i64 21))),
 zo 39 (.own 41)] [])))
  (.cond (.tmp 39) (.seq (.region false [zo 42 (.build [.bool false, .bool false, .bool false, .int .i64 0, .int .i64 0, .int .i64 0, .int .i64 0] [(0, 1, .cst (.bool true)), (3, 1, .cst (.int .i64 (-2))), (5, 1, .cst (.int .i64 2))]),
 ⟨none, .store (.tmp 2) (.tmp 42) 7, none⟩] [])
  .ret) (.seq (.region false [zo 44 (.bin .eql (.tmp 3) (.cst (.int .i64 22))),
 zo 43 (.own 44)] [])
  (.cond (.tmp 43) (.seq (.region false [zo 45 (.build [.bool false, .bool false, .bool false, .int .i64 0, .int .i64 0, .int .i64 0, .int .i64 0] [(5, 1, .cst (.int .i64 (-1)))]),
 ⟨none, .store (.tmp 2) (.tmp 45) 7, none⟩] [])
  .ret) .skip))))))))))))))))))))))))
 (.seq (.region false [zo 46 (.build [.bool false, .bool false, .bool false, .int .i64 0, .int .i64 0, .int .i64 0, .int .i64 0] []),
 ⟨none, .store (.tmp 2) (.tmp 46) 7, none⟩] [])
  .ret)))
/-- custos/custosref06.so -/
def x85 : XFn := XFn.mk 14 [.tmp 4] (.seq (.region false [zo 4 (.mov (.cst (.bool false)))] [])
 (.seq (.seq (.region false [zo 5 (.mov (.tmp 1)),
 zo 6 (.bin .eql (.tmp 5) (.cst (.int .i64 (-2))))] [])
  (.cond (.tmp 6) (.seq (.region false [zo 4 (.mov (.cst (.bool true)))] [])
  .ret) .skip))
 (.seq (.seq (.region false [zo 7 (.mov (.tmp 1)),
 zo 8 (.bin .eql (.tmp 7) (.cst (.int .i64 (-1))))] [])
  (.cond (.tmp 8) (.seq (.region false [zo 9 (.mov (.tmp 0)),
 zo 10 (.bin .gtr (.tmp 9) (.cst (.int .i64 0))),
 zo 4 (.own 10)] [])
  .ret) .skip))
 (.seq (.region false [zo 11 (.mov (.tmp 0)),
 zo 12 (.mov (.tmp 1)),
 zo 13 (.bin .eql (.tmp 11) (.tmp 12)),
 zo 4 (.own 13)] [])
  .ret))))
def x86_r0 : XCode := .seq (.seq (.region false [zo 25 (.mov (.tmp 3)),
 zo 26 (.mov (.tmp 0)),
 zo 27 (.lens true (.tmp 26)),
 zo 28 (.bin .lss (.tmp 25) (.tmp 27))] [])
  (.cond (.tmp 28) .skip (.exit 0)))
 (.seq (.block 1 (.seq (.region false [zo 31 (.mov (.tmp 0)),
 zo 32 (.mov (.tmp 3)),
 zo 33 (.idxs (.tmp 31) (.tmp 32)),
 zo 4 (.own 33)] [])
 (.seq (.region false [zo 34 (.mov (.tmp 4)),
 zo 35 (.bin .lss (.tmp 34) (.cst (.int .u8 97))),
 zo 36 (.mov (.tmp 35)),
 zg 37 36 false (.mov (.tmp 4)),
 zg 38 36 false (.bin .gtr (.tmp 37) (.cst (.int .u8 122))),
 zo 39 (.pick (.tmp 36) (.cst (.bool true)) (.tmp 38)),
 zo 40 (.mov (.tmp 39)),
 zg 41 40 true (.mov (.tmp 4)),
 zg 42 40 true (.bin .lss (.tmp 41) (.cst (.int .u8 48))),
 zg 43 40 true (.mov (.tmp 42)),
 zg 44 43 false (.mov (.tmp 4)),
 zg 45 43 false (.bin .gtr (.tmp 44) (.cst (.int .u8 57))),
 zg 46 40 true (.pick (.tmp 43) (.cst (.bool true)) (.tmp 45)),
 zo 47 (.pick (.tmp 40) (.tmp 46) (.cst (.bool false))),
 zo 48 (.mov (.tmp 47)),
 zg 49 48 true (.mov (.tmp 4)),
 zg 50 48 true (.bin .neq (.tmp 49) (.cst (.int .u8 95))),
 zo 51 (.pick (.tmp 48) (.tmp 50) (.cst (.bool false)))] [])
  (.cond (.tmp 51) (.seq (.region false [zo 2 (.mov (.cst (.bool false)))] [])
  .ret) .skip))))
  (.region false [zo 29 (.mov (.tmp 3)),
 zo 30 (.bin .add (.tmp 29) (.cst (.int .i64 1))),
 zo 3 (.own 30)] []))
def x86_l0 : XCode := x86_r0
/-- custos/custosref06.Name -/
def x86 : XFn := XFn.mk 58 [.tmp 2] (.seq (.region false [zo 2 (.mov (.cst (.bool false)))] [])
 (.seq (.seq (.region false [zo 7 (.mov (.tmp 0)),
 zo 8 (.lens true (.tmp 7)),
 zo 9 (.bin .lss (.tmp 8) (.cst (.int .i64 1))),
 zo 10 (.mov (.tmp 9)),
 zg 11 10 false (.mov (.tmp 0)),
 zg 12 10 false (.lens true (.tmp 11)),
 zg 13 10 false (.bin .gtr (.tmp 12) (.cst (.int .i64 16))),
 zo 14 (.pick (.tmp 10) (.cst (.bool true)) (.tmp 13)),
 zo 15 (.mov (.tmp 14)),
 zg 16 15 false (.mov (.tmp 0)),
 zg 17 15 false (.idxs (.tmp 16) (.cst (.int .i64 0))),
 zg 18 15 false (.bin .lss (.tmp 17) (.cst (.int .u8 97))),
 zo 19 (.pick (.tmp 15) (.cst (.bool true)) (.tmp 18)),
 zo 20 (.mov (.tmp 19)),
 zg 21 20 false (.mov (.tmp 0)),
 zg 22 20 false (.idxs (.tmp 21) (.cst (.int .i64 0))),
 zg 23 20 false (.bin .gtr (.tmp 22) (.cst (.int .u8 122))),
 zo 24 (.pick (.tmp 20) (.cst (.bool true)) (.tmp 23))] [])
  (.cond (.tmp 24) (.seq (.region false [zo 2 (.mov (.cst (.bool false)))] [])
  .ret) .skip))
 (.seq (.seq (.region false [zo 3 (.mov (.cst (.int .i64 0)))] [])
  (.block 0 (.loop x86_l0)))
 (.seq (.region false [zo 52 (.callq 105 []),
 zo 5 (.own 52)] [])
 (.seq (.region false [zo 53 (.mov (.tmp 5)),
 zo 54 (.mov (.tmp 0)),
 zo 55 (.callq 57 [.tmp 53, .tmp 54]),
 zo 6 (.own 55)] [])
 (.seq (.region false [zo 56 (.mov (.tmp 6)),
 zo 57 (.not (.tmp 56)),
 zo 2 (.own 57)] [])
  .ret))))))
def x87_r0 : XCode := .seq (.seq (.region false [zo 5 (.mov (.tmp 3)),
 zo 6 (.mov (.tmp 0)),
 zo 7 (.lens false (.tmp 6)),
 zo 8 (.bin .lss (.tmp 5) (.tmp 7))] [])
  (.cond (.tmp 8) .skip (.exit 0)))
 (.seq (.block 1 (.seq (.region false [zo 11 (.mov (.tmp 0)),
 zo 12 (.mov (.tmp 3)),
 zo 13 (.iaddr 1 (.tmp 11) (.tmp 12)),
 zo 14 (.load (.tmp 13) 1 false),
 zo 15 (.callq 86 [.tmp 14]),
 zo 4 (.own 15)] [])
 (.seq (.region false [zo 16 (.mov (.tmp 4)),
 zo 17 (.not (.tmp 16))] [])
  (.cond (.tmp 17) (.seq (.region false [zo 2 (.mov (.cst (.bool false)))] [])
  .ret) .skip))))
  (.region false [zo 9 (.mov (.tmp 3)),
 zo 10 (.bin .add (.tmp 9) (.cst (.int .i64 1))),
 zo 3 (.own 10)] []))
def x87_l0 : XCode := x87_r0
/-- custos/custosref06.names -/
def x87 : XFn := XFn.mk 18 [.tmp 2] (.seq (.region false [zo 2 (.mov (.cst (.bool false)))] [])
 (.seq (.seq (.region false [zo 3 (.mov (.cst (.int .i64 0)))] [])
  (.block 0 (.loop x87_l0)))
 (.seq (.region false [zo 2 (.mov (.cst (.bool true)))] [])
  .ret)))
/-- custos/custosref06.interval -/
def x88 : XFn := XFn.mk 26 [.tmp 2] (.seq (.region false [zo 1 (.box (.tmp 0) 3),
 zo 2 (.mov (.cst (.bool false)))] [])
 (.seq (.seq (.region false [zo 3 (.faddr (.tmp 1) 0),
 zo 4 (.load (.tmp 3) 1 false),
 zo 5 (.bin .lss (.tmp 4) (.cst (.int .i64 0))),
 zo 6 (.mov (.tmp 5)),
 zg 7 6 false (.faddr (.tmp 1) 0),
 zg 8 6 false (.load (.tmp 7) 1 false),
 zg 9 6 false (.bin .gtr (.tmp 8) (.cst (.int .i64 1099511627776))),
 zo 10 (.pick (.tmp 6) (.cst (.bool true)) (.tmp 9))] [])
  (.cond (.tmp 10) (.seq (.region false [zo 2 (.mov (.cst (.bool false)))] [])
  .ret) .skip))
 (.seq (.seq (.region false [zo 11 (.faddr (.tmp 1) 2),
 zo 12 (.load (.tmp 11) 1 false)] [])
  (.cond (.tmp 12) (.seq (.region false [zo 13 (.faddr (.tmp 1) 1),
 zo 14 (.load (.tmp 13) 1 false),
 zo 15 (.bin .eql (.tmp 14) (.cst (.int .i64 0))),
 zo 2 (.own 15)] [])
  .ret) .skip))
 (.seq (.region false [zo 16 (.faddr (.tmp 1) 1),
 zo 17 (.load (.tmp 16) 1 false),
 zo 18 (.faddr (.tmp 1) 0),
 zo 19 (.load (.tmp 18) 1 false),
 zo 20 (.bin .geq (.tmp 17) (.tmp 19)),
 zo 21 (.mov (.tmp 20)),
 zg 22 21 true (.faddr (.tmp 1) 1),
 zg 23 21 true (.load (.tmp 22) 1 false),
 zg 24 21 true (.bin .leq (.tmp 23) (.cst (.int .i64 1099511627776))),
 zo 25 (.pick (.tmp 21) (.tmp 24) (.cst (.bool false))),
 zo 2 (.own 25)] [])
  .ret))))
/-- custos/custosref02.Same -/
def x89 : XFn := XFn.mk 31 [.tmp 4] (.seq (.region false [zo 2 (.box (.tmp 0) 4),
 zo 3 (.box (.tmp 1) 4),
 zo 4 (.mov (.cst (.bool false)))] [])
 (.seq (.region false [zo 5 (.faddr (.tmp 2) 0),
 zo 6 (.load (.tmp 5) 1 false),
 zo 7 (.faddr (.tmp 3) 0),
 zo 8 (.load (.tmp 7) 1 false),
 zo 9 (.bin .eql (.tmp 6) (.tmp 8)),
 zo 10 (.mov (.tmp 9)),
 zg 11 10 true (.faddr (.tmp 2) 1),
 zg 12 10 true (.load (.tmp 11) 1 false),
 zg 13 10 true (.faddr (.tmp 3) 1),
 zg 14 10 true (.load (.tmp 13) 1 false),
 zg 15 10 true (.bin .eql (.tmp 12) (.tmp 14)),
 zo 16 (.pick (.tmp 10) (.tmp 15) (.cst (.bool false))),
 zo 17 (.mov (.tmp 16)),
 zg 18 17 true (.faddr (.tmp 2) 2),
 zg 19 17 true (.load (.tmp 18) 1 false),
 zg 20 17 true (.faddr (.tmp 3) 2),
 zg 21 17 true (.load (.tmp 20) 1 false),
 zg 22 17 true (.bin .eql (.tmp 19) (.tmp 21)),
 zo 23 (.pick (.tmp 17) (.tmp 22) (.cst (.bool false))),
 zo 24 (.mov (.tmp 23)),
 zg 25 24 true (.faddr (.tmp 2) 3),
 zg 26 24 true (.load (.tmp 25) 1 false),
 zg 27 24 true (.faddr (.tmp 3) 3),
 zg 28 24 true (.load (.tmp 27) 1 false),
 zg 29 24 true (.bin .eql (.tmp 26) (.tmp 28)),
 zo 30 (.pick (.tmp 24) (.tmp 29) (.cst (.bool false))),
 zo 4 (.own 30)] [])
  .ret))
/-- custos/custosref02.Check -/
def x90 : XFn := XFn.mk 42 [.tmp 2] (.seq (.region false [zo 1 (.box (.tmp 0) 4),
 zo 2 (.mov (.cst (.int .i64 0)))] [])
 (.seq (.seq (.region false [zo 4 (.faddr (.tmp 1) 0),
 zo 5 (.load (.tmp 4) 1 false)] [])
  (.block 0 (.seq (.region false [zo 7 (.bin .eql (.tmp 5) (.cst (.int .i64 1))),
 zo 6 (.own 7)] [])
  (.cond (.tmp 6) (.seq (.region false [zo 8 (.faddr (.tmp 1) 2),
 zo 9 (.load (.tmp 8) 1 false),
 zo 10 (.bin .neq (.tmp 9) (.cst (.int .i64 0))),
 zo 11 (.mov (.tmp 10)),
 zg 12 11 false (.faddr (.tmp 1) 3),
 zg 13 11 false (.load (.tmp 12) 1 false),
 zg 14 11 false (.bin .neq (.tmp 13) (.cst (.str []))),
 zo 15 (.pick (.tmp 11) (.cst (.bool true)) (.tmp 14))] [])
  (.cond (.tmp 15) (.seq (.region false [zo 2 (.mov (.cst (.int .i64 20)))] [])
  .ret) .skip)) (.seq (.region false [zo 17 (.bin .eql (.tmp 5) (.cst (.int .i64 2))),
 zo 16 (.own 17)] [])
  (.cond (.tmp 16) (.seq (.region false [zo 18 (.load (.tmp 1) 4 true),
 zo 19 (.callq 107 [.tmp 18]),
 zo 20 (.callq 106 [.tmp 19]),
 zo 3 (.own 20)] [])
 (.seq (.region false [zo 21 (.faddr (.tmp 1) 3),
 zo 22 (.load (.tmp 21) 1 false),
 zo 23 (.bin .neq (.tmp 22) (.cst (.str []))),
 zo 24 (.mov (.tmp 23)),
 zg 25 24 false (.mov (.tmp 3)),
 zg 26 24 false (.not (.tmp 25)),
 zo 27 (.pick (.tmp 24) (.cst (.bool true)) (.tmp 26))] [])
  (.cond (.tmp 27) (.seq (.region false [zo 2 (.mov (.cst (.int .i64 20)))] [])
  .ret) .skip))) (.seq (.region false [zo 29 (.bin .eql (.tmp 5) (.cst (.int .i64 3))),
 zo 28 (.own 29)] [])
  (.cond (.tmp 28) (.seq (.seq (.region false [zo 30 (.faddr (.tmp 1) 1),
 zo 31 (.load (.tmp 30) 1 false),
 zo 32 (.bin .neq (.tmp 31) (.cst (.int .i64 0))),
 zo 33 (.mov (.tmp 32)),
 zg 34 33 false (.faddr (.tmp 1) 2),
 zg 35 33 false (.load (.tmp 34) 1 false),
 zg 36 33 false (.bin .neq (.tmp 35) (.cst (.int .i64 0))),
 zo 37 (.pick (.tmp 33) (.cst (.bool true)) (.tmp 36))] [])
  (.cond (.tmp 37) (.seq (.region false [zo 2 (.mov (.cst (.int .i64 20)))] [])
  .ret) .skip))
 (.seq (.region false [zo 38 (.faddr (.tmp 1) 3),
 zo 39 (.load (.tmp 38) 1 false),
 zo 40 (.lens true (.tmp 39)),
 zo 41 (.bin .gtr (.tmp 40) (.cst (.int .i64 64)))] [])
  (.cond (.tmp 41) (.seq (.region false [zo 2 (.mov (.cst (.int .i64 2)))] [])
  .ret) .skip))) (.seq (.region false [zo 2 (.mov (.cst (.int .i64 20)))] [])
  .ret)))))))))
 (.seq (.region false [zo 2 (.mov (.cst (.int .i64 0)))] [])
  .ret)))
/-- custos/value.Same -/
def x91 : XFn := XFn.mk 8 [.tmp 4] (.seq (.region false [zo 2 (.box (.tmp 0) 4),
 zo 3 (.box (.tmp 1) 4),
 zo 4 (.mov (.cst (.bool false)))] [])
 (.seq (.region false [zo 5 (.load (.tmp 2) 4 true),
 zo 6 (.load (.tmp 3) 4 true),
 zo 7 (.eqagg false [1, 1, 1, 2] (.tmp 5) (.tmp 6)),
 zo 4 (.own 7)] [])
  .ret))
def x92_r0 : XCode := .seq (.region false [zo 9 (.bin .lss (.tmp 8) (.tmp 7))] [])
 (.seq (.cond (.tmp 9) .skip (.exit 0))
 (.seq (.block 1 (.seq (.region false [zo 10 (.mov (.tmp 8)),
 zo 5 (.own 10)] [])
 (.seq (.region false [zo 11 (.mov (.tmp 1)),
 zo 12 (.mov (.tmp 0)),
 zo 13 (.mov (.tmp 5)),
 zo 14 (.iaddr 1 (.tmp 12) (.tmp 13)),
 zo 15 (.load (.tmp 14) 1 false),
 zo 16 (.calld (.tmp 11) [.tmp 15])] [])
  (.cond (.tmp 16) (.seq (.region false [zo 17 (.mov (.tmp 5)),
 zo 4 (.own 17)] [])
  .ret) .skip))))
  (.region false [zo 18 (.bin .add (.tmp 8) (.cst (.int .i64 1))),
 zo 8 (.mov (.tmp 18))] [])))
def x92_l0 : XCode := x92_r0
/-- slices.IndexFunc[[]string,string] -/
def x92 : XFn := XFn.mk 19 [.tmp 4] (.seq (.region false [zo 4 (.mov (.cst (.int .i64 0)))] [])
 (.seq (.seq (.region false [zo 6 (.mov (.tmp 0)),
 zo 7 (.lens false (.tmp 6)),
 zo 8 (.mov (.cst (.int .i64 0)))] [])
  (.block 0 (.loop x92_l0)))
 (.seq (.region false [zo 4 (.mov (.cst (.int .i64 (-1))))] [])
  .ret)))
def x93_r0 : XCode := .seq (.region false [zo 9 (.bin .lss (.tmp 8) (.tmp 7))] [])
 (.seq (.cond (.tmp 9) .skip (.exit 0))
 (.seq (.block 1 (.seq (.region false [zo 10 (.mov (.tmp 8)),
 zo 5 (.own 10)] [])
 (.seq (.region false [zo 11 (.mov (.tmp 1)),
 zo 12 (.mov (.tmp 0)),
 zo 13 (.mov (.tmp 5)),
 zo 14 (.iaddr 1 (.tmp 12) (.tmp 13)),
 zo 15 (.load (.tmp 14) 1 false),
 zo 16 (.bin .eql (.tmp 11) (.tmp 15))] [])
  (.cond (.tmp 16) (.seq (.region false [zo 17 (.mov (.tmp 5)),
 zo 4 (.own 17)] [])
  .ret) .skip))))
  (.region false [zo 18 (.bin .add (.tmp 8) (.cst (.int .i64 1))),
 zo 8 (.mov (.tmp 18))] [])))
def x93_l0 : XCode := x93_r0
/-- slices.Index[[]string,string] -/
def x93 : XFn := XFn.mk 19 [.tmp 4] (.seq (.region false [zo 4 (.mov (.cst (.int .i64 0)))] [])
 (.seq (.seq (.region false [zo 6 (.mov (.tmp 0)),
 zo 7 (.lens false (.tmp 6)),
 zo 8 (.mov (.cst (.int .i64 0)))] [])
  (.block 0 (.loop x93_l0)))
 (.seq (.region false [zo 4 (.mov (.cst (.int .i64 (-1))))] [])
  .ret)))
/-- slices.Clone[[]custos/api.Formula,custos/api.Formula] -/
def x96 : XFn := XFn.mk 8 [.tmp 2] (.seq (.region false [zo 2 (.mov (.cst .nilsl))] [])
 (.seq (.seq (.region false [zo 3 (.mov (.tmp 0)),
 zo 4 (.eqnil 1 false (.tmp 3))] [])
  (.cond (.tmp 4) (.seq (.region false [zo 2 (.mov (.cst .nilsl))] [])
  .ret) .skip))
 (.seq (.region false [zo 5 (.bslice 10 [] []),
 zo 6 (.mov (.tmp 0)),
 zo 7 (.app false 10 152 5 (.tmp 6)),
 zo 2 (.own 7)] [])
  .ret)))
/-- custos/ast.form -/
def x97 : XFn := XFn.mk 39 [.tmp 2, .tmp 3, .tmp 4, .tmp 5, .tmp 6] (.seq (.region false [zo 2 (.mov (.cst (.int .i64 0))),
 zo 3 (.mov (.cst (.int .i64 0))),
 zo 4 (.mov (.cst (.int .i64 0))),
 zo 5 (.mov (.cst (.int .i64 0))),
 zo 6 (.mov (.cst (.int .i64 0)))] [])
 (.seq (.seq (.region false [zo 7 (.mov (.tmp 0))] [])
  (.block 0 (.seq (.region false [zo 9 (.bin .eql (.tmp 7) (.cst (.int .i64 3))),
 zo 8 (.own 9)] [])
  (.cond (.tmp 8) (.seq (.region false [zo 2 (.mov (.cst (.int .i64 1))),
 zo 3 (.mov (.cst (.int .i64 0))),
 zo 4 (.mov (.cst (.int .i64 (-2)))),
 zo 5 (.mov (.cst (.int .i64 0))),
 zo 6 (.mov (.cst (.int .i64 0)))] [])
  .ret) (.seq (.seq (.region false [zo 11 (.bin .eql (.tmp 7) (.cst (.int .i64 4))),
 zo 10 (.own 11)] [])
  (.cond (.tmp 10) .skip (.seq (.region false [zo 12 (.bin .eql (.tmp 7) (.cst (.int .i64 5))),
 zo 10 (.own 12)] [])
  (.cond (.tmp 10) .skip (.region false [zo 13 (.bin .eql (.tmp 7) (.cst (.int .i64 6))),
 zo 10 (.own 13)] [])))))
  (.cond (.tmp 10) (.seq (.region false [zo 2 (.mov (.cst (.int .i64 0))),
 zo 3 (.mov (.cst (.int .i64 0))),
 zo 4 (.mov (.cst (.int .i64 2))),
 zo 5 (.mov (.cst (.int .i64 0))),
 zo 6 (.mov (.cst (.int .i64 0)))] [])
  .ret) (.seq (.region false [zo 15 (.bin .eql (.tmp 7) (.cst (.int .i64 7))),
 zo 14 (.own 15)] [])
  (.cond (.tmp 14) (.seq (.region false [zo 2 (.mov (.cst (.int .i64 0))),
 zo 3 (.mov (.cst (.int .i64 0))),
 zo 4 (.mov (.cst (.int .i64 0))),
 zo 5 (.mov (.cst (.int .i64 1))),
 zo 6 (.mov (.cst (.int .i64 0)))] [])
  .ret) (.seq (.seq (.region false [zo 17 (.bin .eql (.tmp 7) (.cst (.int .i64 8))),
 zo 16 (.own 17)] [])
  (.cond (.tmp 16) .skip (.region false [zo 18 (.bin .eql (.tmp 7) (.cst (.int .i64 9))),
 zo 16 (.own 18)] [])))
  (.cond (.tmp 16) (.seq (.region false [zo 2 (.mov (.cst (.int .i64 0))),
 zo 3 (.mov (.cst (.int .i64 0))),
 zo 4 (.mov (.cst (.int .i64 0))),
 zo 5 (.mov (.cst (.int .i64 2))),
 zo 6 (.mov (.cst (.int .i64 0)))] [])
  .ret) (.seq (.region false [zo 20 (.bin .eql (.tmp 7) (.cst (.int .i64 10))),
 zo 19 (.own 20)] [])
  (.cond (.tmp 19) (.seq (.region false [zo 2 (.mov (.cst (.int .i64 0))),
 zo 3 (.mov (.cst (.int .i64 (-1)))),
 zo 4 (.mov (.cst (.int .i64 0))),
 zo 5 (.mov (.cst (.int .i64 1))),
 zo 6 (.mov (.cst (.int .i64 0)))] [])
  .ret) (.seq (.seq (.region false [zo 22 (.bin .eql (.tmp 7) (.cst (.int .i64 11))),
 zo 21 (.own 22)] [])
  (.cond (.tmp 21) .skip (.seq (.region false [zo 23 (.bin .eql (.tmp 7) (.cst (.int .i64 12))),
 zo 21 (.own 23)] [])
  (.cond (.tmp 21) .skip (.seq (.region false [zo 24 (.bin .eql (.tmp 7) (.cst (.int .i64 13))),
 zo 21 (.own 24)] [])
  (.cond (.tmp 21) .skip (.region false [zo 25 (.bin .eql (.tmp 7) (.cst (.int .i64 14))),
 zo 21 (.own 25)] [])))))))
  (.cond (.tmp 21) (.seq (.region false [zo 2 (.mov (.cst (.int .i64 4))),
 zo 3 (.mov (.cst (.int .i64 0))),
 zo 4 (.mov (.cst (.int .i64 0))),
 zo 5 (.mov (.cst (.int .i64 1))),
 zo 6 (.mov (.cst (.int .i64 0)))] [])
  .ret) (.seq (.seq (.region false [zo 27 (.bin .eql (.tmp 7) (.cst (.int .i64 15))),
 zo 26 (.own 27)] [])
  (.cond (.tmp 26) .skip (.region false [zo 28 (.bin .eql (.tmp 7) (.cst (.int .i64 16))),
 zo 26 (.own 28)] [])))
  (.cond (.tmp 26) (.seq (.region false [zo 2 (.mov (.cst (.int .i64 4))),
 zo 3 (.mov (.cst (.int .i64 0))),
 zo 4 (.mov (.cst (.int .i64 0))),
 zo 5 (.mov (.cst (.int .i64 2))),
 zo 6 (.mov (.cst (.int .i64 0)))] [])
  .ret) (.seq (.seq (.region false [zo 30 (.bin .eql (.tmp 7) (.cst (.int .i64 17))),
 zo 29 (.own 30)] [])
  (.cond (.tmp 29) .skip (.region false [zo 31 (.bin .eql (.tmp 7) (.cst (.int .i64 18))),
 zo 29 (.own 31)] [])))
  (.cond (.tmp 29) (.seq (.region false [zo 2 (.mov (.cst (.int .i64 4))),
 zo 3 (.mov (.cst (.int .i64 0))),
 zo 4 (.mov (.cst (.int .i64 0))),
 zo 5 (.mov (.cst (.int .i64 0))),
 zo 6 (.mov (.cst (.int .i64 1)))] [])
  .ret) (.seq (.region false [zo 33 (.bin .eql (.tmp 7) (.cst (.int .i64 19))),
 zo 32 (.own 33)] [])
  (.cond (.tmp 32) (.seq (.region false [zo 2 (.mov (.cst (.int .i64 3))),
 zo 3 (.mov (.cst (.int .i64 (-1)))),
 zo 4 (.mov (.cst (.int .i64 0))),
 zo 5 (.mov (.cst (.int .i64 1))),
 zo 6 (.mov (.cst (.int .i64 0)))] [])
  .ret) (.seq (.seq (.region false [zo 35 (.bin .eql (.tmp 7) (.cst (.int .i64 20))),
 zo 34 (.own 35)] [])
  (.cond (.tmp 34) .skip (.region false [zo 36 (.bin .eql (.tmp 7) (.cst (.int .i64 21))),
 zo 34 (.own 36)] [])))
  (.cond (.tmp 34) (.seq (.region false [zo 2 (.mov (.cst (.int .i64 1))),
 zo 3 (.mov (.cst (.int .i64 (-2)))),
 zo 4 (.mov (.cst (.int .i64 0))),
 zo 5 (.mov (.cst (.int .i64 2))),
 zo 6 (.mov (.cst (.int .i64 0)))] [])
  .ret) (.seq (.region false [zo 38 (.bin .eql (.tmp 7) (.cst (.int .i64 22))),
 zo 37 (.own 38)] [])
  (.cond (.tmp 37) (.seq (.region false [zo 2 (.mov (.cst (.int .i64 0))),
 zo 3 (.mov (.cst (.int .i64 0))),
 zo 4 (.mov (.cst (.int .i64 0))),
 zo 5 (.mov (.cst (.int .i64 (-1)))),
 zo 6 (.mov (.cst (.int .i64 0)))] [])
  .ret) .skip))))))))))))))))))))))))
 (.seq (.region false [zo 2 (.mov (.cst (.int .i64 0))),
 zo 3 (.mov (.cst (.int .i64 0))),
 zo 4 (.mov (.cst (.int .i64 0))),
 zo 5 (.mov (.cst (.int .i64 0))),
 zo 6 (.mov (.cst (.int .i64 0)))] [])
  .ret)))
def x98_r0 : XCode := .seq (.seq (.region false [zo 6 (.mov (.tmp 3)),
 zo 7 (.mov (.tmp 0)),
 zo 8 (.lens false (.tmp 7)),
 zo 9 (.bin .lss (.tmp 6) (.tmp 8))] [])
  (.cond (.tmp 9) .skip (.exit 0)))
 (.seq (.block 1 (.seq (.region true [zo 12 (.mov (.tmp 0)),
 zo 13 (.mov (.tmp 3)),
 zo 14 (.iaddr 1 (.tmp 12) (.tmp 13)),
 zo 15 (.load (.tmp 14) 1 false),
 zo 16 (.mov (.tmp 0)),
 zo 17 (.mov (.tmp 3)),
 zo 18 (.bin .add (.tmp 17) (.cst (.int .i64 1))),
 zo 19 (.iaddr 1 (.tmp 16) (.tmp 18)),
 zo 20 (.load (.tmp 19) 1 false),
 zo 4 (.own 15),
 zo 5 (.own 20)] [])
 (.seq (.region false [zo 21 (.mov (.tmp 5)),
 zo 22 (.bin .geq (.tmp 21) (.cst (.int .i64 0))),
 zo 23 (.mov (.tmp 22)),
 zg 24 23 true (.mov (.tmp 4)),
 zg 25 23 true (.mov (.tmp 5)),
 zg 26 23 true (.bin .neq (.tmp 24) (.tmp 25)),
 zo 27 (.pick (.tmp 23) (.tmp 26) (.cst (.bool false))),
 zo 28 (.mov (.tmp 27)),
 zg 29 28 false (.mov (.tmp 5)),
 zg 30 28 false (.bin .eql (.tmp 29) (.cst (.int .i64 (-1)))),
 zg 31 28 false (.mov (.tmp 30)),
 zg 32 31 true (.mov (.tmp 4)),
 zg 33 31 true (.bin .eql (.tmp 32) (.cst (.int .i64 0))),
 zg 34 28 false (.pick (.tmp 31) (.tmp 33) (.cst (.bool false))),
 zo 35 (.pick (.tmp 28) (.cst (.bool true)) (.tmp 34))] [])
  (.cond (.tmp 35) (.seq (.region false [zo 2 (.mov (.cst (.bool false)))] [])
  .ret) .skip))))
  (.region false [zo 10 (.mov (.tmp 3)),
 zo 11 (.bin .add (.tmp 10) (.cst (.int .i64 2))),
 zo 3 (.own 11)] []))
def x98_l0 : XCode := x98_r0
/-- custos/ast.count -/
def x98 : XFn := XFn.mk 36 [.tmp 2] (.seq (.region false [zo 2 (.mov (.cst (.bool false)))] [])
 (.seq (.seq (.region false [zo 3 (.mov (.cst (.int .i64 0)))] [])
  (.block 0 (.loop x98_l0)))
 (.seq (.region false [zo 2 (.mov (.cst (.bool true)))] [])
  .ret)))
/-- slices.ContainsFunc[[]string,string] -/
def x99 : XFn := XFn.mk 9 [.tmp 4] (.seq (.region false [zo 4 (.mov (.cst (.bool false)))] [])
 (.seq (.region false [zo 5 (.mov (.tmp 0)),
 zo 6 (.mov (.tmp 1)),
 zo 7 (.callw 92 [.tmp 5, .tmp 6]),
 zo 8 (.bin .geq (.tmp 7) (.cst (.int .i64 0))),
 zo 4 (.own 8)] [])
  .ret))
/-- custos/ast.formed$1 -/
def x100 : XFn := XFn.mk 6 [.tmp 2] (.seq (.region false [zo 2 (.mov (.cst (.bool false)))] [])
 (.seq (.region false [zo 3 (.mov (.tmp 0)),
 zo 4 (.callq 41 [.tmp 3]),
 zo 5 (.not (.tmp 4)),
 zo 2 (.own 5)] [])
  .ret))
/-- custos/ast.interval -/
def x101 : XFn := XFn.mk 33 [.tmp 2] (.seq (.region false [zo 1 (.box (.tmp 0) 3),
 zo 2 (.mov (.cst (.bool false)))] [])
 (.seq (.seq (.region false [zo 3 (.faddr (.tmp 1) 2),
 zo 4 (.load (.tmp 3) 1 false)] [])
  (.cond (.tmp 4) (.seq (.region false [zo 5 (.faddr (.tmp 1) 0),
 zo 6 (.load (.tmp 5) 1 false),
 zo 7 (.bin .geq (.tmp 6) (.cst (.int .i64 0))),
 zo 8 (.mov (.tmp 7)),
 zg 9 8 true (.faddr (.tmp 1) 0),
 zg 10 8 true (.load (.tmp 9) 1 false),
 zg 11 8 true (.bin .leq (.tmp 10) (.cst (.int .i64 1099511627776))),
 zo 12 (.pick (.tmp 8) (.tmp 11) (.cst (.bool false))),
 zo 13 (.mov (.tmp 12)),
 zg 14 13 true (.faddr (.tmp 1) 1),
 zg 15 13 true (.load (.tmp 14) 1 false),
 zg 16 13 true (.bin .eql (.tmp 15) (.cst (.int .i64 0))),
 zo 17 (.pick (.tmp 13) (.tmp 16) (.cst (.bool false))),
 zo 2 (.own 17)] [])
  .ret) .skip))
 (.seq (.region false [zo 18 (.faddr (.tmp 1) 0),
 zo 19 (.load (.tmp 18) 1 false),
 zo 20 (.bin .geq (.tmp 19) (.cst (.int .i64 0))),
 zo 21 (.mov (.tmp 20)),
 zg 22 21 true (.faddr (.tmp 1) 0),
 zg 23 21 true (.load (.tmp 22) 1 false),
 zg 24 21 true (.faddr (.tmp 1) 1),
 zg 25 21 true (.load (.tmp 24) 1 false),
 zg 26 21 true (.bin .leq (.tmp 23) (.tmp 25)),
 zo 27 (.pick (.tmp 21) (.tmp 26) (.cst (.bool false))),
 zo 28 (.mov (.tmp 27)),
 zg 29 28 true (.faddr (.tmp 1) 1),
 zg 30 28 true (.load (.tmp 29) 1 false),
 zg 31 28 true (.bin .leq (.tmp 30) (.cst (.int .i64 1099511627776))),
 zo 32 (.pick (.tmp 28) (.tmp 31) (.cst (.bool false))),
 zo 2 (.own 32)] [])
  .ret)))
/-- custos/ast.twice$1 -/
def x102 : XFn := XFn.mk 11 [.tmp 3] (.seq (.region false [zo 3 (.mov (.cst (.bool false)))] [])
 (.seq (.region true [zo 4 (.load (.tmp 1) 1 false),
 zo 5 (.mov (.tmp 0)),
 zo 6 (.callq 93 [.tmp 4, .tmp 5]),
 zo 7 (.load (.tmp 1) 1 false),
 zo 8 (.mov (.tmp 0)),
 zo 9 (.callq 103 [.tmp 7, .tmp 8]),
 zo 10 (.bin .neq (.tmp 6) (.tmp 9)),
 zo 3 (.own 10)] [])
  .ret))
def x103_r0 : XCode := .seq (.seq (.region false [zo 9 (.mov (.tmp 5)),
 zo 10 (.bin .geq (.tmp 9) (.cst (.int .i64 0)))] [])
  (.cond (.tmp 10) .skip (.exit 0)))
 (.seq (.block 1 (.seq (.region false [zo 13 (.mov (.tmp 0)),
 zo 14 (.mov (.tmp 5)),
 zo 15 (.iaddr 1 (.tmp 13) (.tmp 14)),
 zo 16 (.load (.tmp 15) 1 false),
 zo 17 (.mov (.tmp 1)),
 zo 18 (.bin .eql (.tmp 16) (.tmp 17))] [])
  (.cond (.tmp 18) (.seq (.region false [zo 19 (.mov (.tmp 5)),
 zo 4 (.own 19)] [])
  .ret) .skip)))
  (.region false [zo 11 (.mov (.tmp 5)),
 zo 12 (.bin .sub (.tmp 11) (.cst (.int .i64 1))),
 zo 5 (.own 12)] []))
def x103_l0 : XCode := x103_r0
/-- custos/ast.lastIndex -/
def x103 : XFn := XFn.mk 20 [.tmp 4] (.seq (.region false [zo 4 (.mov (.cst (.int .i64 0)))] [])
 (.seq (.seq (.region false [zo 6 (.mov (.tmp 0)),
 zo 7 (.lens false (.tmp 6)),
 zo 8 (.bin .sub (.tmp 7) (.cst (.int .i64 1))),
 zo 5 (.own 8)] [])
  (.block 0 (.loop x103_l0)))
 (.seq (.region false [zo 4 (.mov (.cst (.int .i64 (-1))))] [])
  .ret)))
/-- custos/value.Check -/
def x104 : XFn := XFn.mk 58 [.tmp 2] (.seq (.region false [zo 1 (.box (.tmp 0) 4),
 zo 2 (.mov (.cst (.int .i64 0)))] [])
 (.seq (.region false [zo 3 (.mov (.cst (.bool false)))] [])
 (.seq (.seq (.region false [zo 6 (.faddr (.tmp 1) 0),
 zo 7 (.load (.tmp 6) 1 false)] [])
  (.block 0 (.seq (.region false [zo 9 (.bin .eql (.tmp 7) (.cst (.int .i64 1))),
 zo 8 (.own 9)] [])
  (.cond (.tmp 8) (.region false [zo 10 (.faddr (.tmp 1) 2),
 zo 11 (.load (.tmp 10) 1 false),
 zo 12 (.bin .neq (.tmp 11) (.cst (.int .i64 0))),
 zo 13 (.mov (.tmp 12)),
 zg 14 13 false (.faddr (.tmp 1) 3),
 zg 15 13 false (.load (.tmp 14) 1 false),
 zg 16 13 false (.bin .neq (.tmp 15) (.cst (.str []))),
 zo 17 (.pick (.tmp 13) (.cst (.bool true)) (.tmp 16)),
 zo 3 (.own 17)] []) (.seq (.region false [zo 19 (.bin .eql (.tmp 7) (.cst (.int .i64 2))),
 zo 18 (.own 19)] [])
  (.cond (.tmp 18) (.seq (.region false [zo 21 (.faddr (.tmp 1) 1),
 zo 22 (.load (.tmp 21) 1 false),
 zo 23 (.faddr (.tmp 1) 2),
 zo 24 (.load (.tmp 23) 1 false),
 zo 25 (.callq 119 [.tmp 22, .tmp 24]),
 zo 20 (.mov (.tmp 25)),
 zo 26 (.ext 20 0),
 zo 27 (.ext 20 1),
 zo 4 (.alloc [.int .i64 0, .int .i64 0]),
 ⟨none, .store (.tmp 4) (.tmp 26) 2, none⟩,
 zo 5 (.own 27)] [])
  (.region true [zo 28 (.faddr (.tmp 1) 3),
 zo 29 (.load (.tmp 28) 1 false),
 zo 30 (.bin .neq (.tmp 29) (.cst (.str []))),
 zo 31 (.mov (.tmp 30)),
 zg 32 31 false (.mov (.tmp 5)),
 zg 33 31 false (.bin .neq (.tmp 32) (.cst (.int .i64 0))),
 zo 34 (.pick (.tmp 31) (.cst (.bool true)) (.tmp 33)),
 zo 35 (.mov (.tmp 34)),
 zg 36 35 false (.load (.tmp 4) 2 true),
 zg 37 35 false (.load (.tmp 1) 4 true),
 zg 38 35 false (.callq 120 [.tmp 37]),
 zg 39 35 false (.eqagg true [1, 1] (.tmp 36) (.tmp 38)),
 zo 40 (.pick (.tmp 35) (.cst (.bool true)) (.tmp 39)),
 zo 3 (.own 40)] [])) (.seq (.region false [zo 42 (.bin .eql (.tmp 7) (.cst (.int .i64 3))),
 zo 41 (.own 42)] [])
  (.cond (.tmp 41) (.region false [zo 43 (.faddr (.tmp 1) 1),
 zo 44 (.load (.tmp 43) 1 false),
 zo 45 (.bin .neq (.tmp 44) (.cst (.int .i64 0))),
 zo 46 (.mov (.tmp 45)),
 zg 47 46 false (.faddr (.tmp 1) 2),
 zg 48 46 false (.load (.tmp 47) 1 false),
 zg 49 46 false (.bin .neq (.tmp 48) (.cst (.int .i64 0))),
 zo 50 (.pick (.tmp 46) (.cst (.bool true)) (.tmp 49)),
 zo 3 (.own 50)] []) (.region false [zo 3 (.mov (.cst (.bool true)))] [])))))))))
 (.seq (.block 1 (.seq (.region false [zo 52 (.mov (.tmp 3)),
 zo 51 (.own 52)] [])
  (.cond (.tmp 51) (.seq (.region false [zo 2 (.mov (.cst (.int .i64 20)))] [])
  .ret) (.seq (.region false [zo 54 (.faddr (.tmp 1) 3),
 zo 55 (.load (.tmp 54) 1 false),
 zo 56 (.lens true (.tmp 55)),
 zo 57 (.bin .gtr (.tmp 56) (.cst (.int .i64 64))),
 zo 53 (.own 57)] [])
  (.cond (.tmp 53) (.seq (.region false [zo 2 (.mov (.cst (.int .i64 2)))] [])
  .ret) .skip)))))
 (.seq (.region false [zo 2 (.mov (.cst (.int .i64 0)))] [])
  .ret)))))
/-- custos/custosref06.words -/
def x105 : XFn := XFn.mk 2 [.tmp 0] (.seq (.region false [zo 0 (.mov (.cst .nilsl))] [])
 (.seq (.region false [zo 1 (.bslice 1 [.str [], .str [], .str [], .str [], .str [], .str [], .str [], .str [], .str [], .str [], .str [], .str [], .str [], .str [], .str [], .str [], .str [], .str [], .str [], .str [], .str [], .str [], .str []] [(0, 1, .cst (.str [116, 114, 117, 101])), (1, 1, .cst (.str [102, 97, 108, 115, 101])), (2, 1, .cst (.str [110, 111, 116])), (3, 1, .cst (.str [97, 110, 100])), (4, 1, .cst (.str [111, 114])), (5, 1, .cst (.str [101, 120, 105, 115, 116, 115])), (6, 1, .cst (.str [112, 114, 101, 118])), (7, 1, .cst (.str [110, 101, 120, 116])), (8, 1, .cst (.str [111, 110, 99, 101])), (9, 1, .cst (.str [115, 111, 111, 110])), (10, 1, .cst (.str [115, 105, 110, 99, 101])), (11, 1, .cst (.str [117, 110, 116, 105, 108])), (12, 1, .cst (.str [98, 101, 102, 111, 114, 101])), (13, 1, .cst (.str [97, 102, 116, 101, 114])), (14, 1, .cst (.str [97, 103, 103])), (15, 1, .cst (.str [108, 101, 116])), (16, 1, .cst (.str [108, 101, 116, 112, 97, 115, 116])), (17, 1, .cst (.str [106, 111, 105, 110])), (18, 1, .cst (.str [97, 110, 121])), (19, 1, .cst (.str [116, 101, 115, 116])), (20, 1, .cst (.str [97, 108, 116])), (21, 1, .cst (.str [115, 101, 113])), (22, 1, .cst (.str [115, 116, 97, 114]))]),
 zo 0 (.own 1)] [])
  .ret))
/-- custos/custosref01.MayBe -/
def x106 : XFn := XFn.mk 23 [.tmp 2] (.seq (.region false [zo 1 (.box (.tmp 0) 2),
 zo 2 (.mov (.cst (.bool false)))] [])
 (.seq (.seq (.region false [zo 5 (.faddr (.tmp 1) 1),
 zo 6 (.load (.tmp 5) 1 false),
 zo 7 (.bin .leq (.tmp 6) (.cst (.int .i64 0)))] [])
  (.cond (.tmp 7) (.seq (.region false [zo 2 (.mov (.cst (.bool false)))] [])
  .ret) .skip))
 (.seq (.region false [zo 9 (.faddr (.tmp 1) 0),
 zo 10 (.load (.tmp 9) 1 false),
 zo 11 (.faddr (.tmp 1) 1),
 zo 12 (.load (.tmp 11) 1 false),
 zo 13 (.callq 121 [.tmp 10, .tmp 12]),
 zo 8 (.mov (.tmp 13)),
 zo 14 (.ext 8 0),
 zo 15 (.ext 8 1),
 zo 3 (.alloc [.int .i64 0, .int .i64 0]),
 ⟨none, .store (.tmp 3) (.tmp 14) 2, none⟩,
 zo 4 (.own 15)] [])
 (.seq (.region false [zo 16 (.mov (.tmp 4)),
 zo 17 (.bin .eql (.tmp 16) (.cst (.int .i64 0))),
 zo 18 (.mov (.tmp 17)),
 zg 19 18 true (.load (.tmp 3) 2 true),
 zg 20 18 true (.load (.tmp 1) 2 true),
 zg 21 18 true (.eqagg false [1, 1] (.tmp 19) (.tmp 20)),
 zo 22 (.pick (.tmp 18) (.tmp 21) (.cst (.bool false))),
 zo 2 (.own 22)] [])
  .ret))))
/-- custos/custosref02.fraction -/
def x107 : XFn := XFn.mk 8 [.cell 2 2 true] (.seq (.region false [zo 1 (.box (.tmp 0) 4),
 zo 2 (.alloc [.int .i64 0, .int .i64 0])] [])
 (.seq (.region false [zo 3 (.faddr (.tmp 1) 1),
 zo 4 (.load (.tmp 3) 1 false),
 zo 5 (.faddr (.tmp 1) 2),
 zo 6 (.load (.tmp 5) 1 false),
 zo 7 (.build [.int .i64 0, .int .i64 0] [(0, 1, .tmp 4), (1, 1, .tmp 6)]),
 ⟨none, .store (.tmp 2) (.tmp 7) 2, none⟩] [])
  .ret))
/-- custos/rat.Of -/
def x119 : XFn := XFn.mk 64 [.cell 4 2 true, .tmp 5] (.seq (.region false [zo 4 (.alloc [.int .i64 0, .int .i64 0]),
 zo 5 (.mov (.cst (.int .i64 0)))] [])
 (.seq (.seq (.region false [zo 10 (.mov (.tmp 1)),
 zo 11 (.bin .eql (.tmp 10) (.cst (.int .i64 0)))] [])
  (.cond (.tmp 11) (.seq (.region false [zo 12 (.build [.int .i64 0, .int .i64 0] []),
 ⟨none, .store (.tmp 4) (.tmp 12) 2, none⟩,
 zo 5 (.mov (.cst (.int .i64 11)))] [])
  .ret) .skip))
 (.seq (.region false [zo 13 (.mov (.tmp 0)),
 zo 14 (.callq 129 [.tmp 13]),
 zo 15 (.mov (.tmp 1)),
 zo 16 (.callq 129 [.tmp 15]),
 zo 17 (.callq 128 [.tmp 14, .tmp 16]),
 zo 6 (.own 17)] [])
 (.seq (.region true [zo 18 (.mov (.tmp 0)),
 zo 19 (.callq 129 [.tmp 18]),
 zo 20 (.mov (.tmp 6)),
 zo 21 (.bin .quo (.tmp 19) (.tmp 20)),
 zo 22 (.mov (.tmp 1)),
 zo 23 (.callq 129 [.tmp 22]),
 zo 24 (.mov (.tmp 6)),
 zo 25 (.bin .quo (.tmp 23) (.tmp 24)),
 zo 7 (.own 21),
 zo 8 (.own 25)] [])
 (.seq (.region false [zo 26 (.mov (.tmp 0)),
 zo 27 (.bin .neq (.tmp 26) (.cst (.int .i64 0))),
 zo 28 (.mov (.tmp 27)),
 zg 29 28 true (.mov (.tmp 0)),
 zg 30 28 true (.bin .lss (.tmp 29) (.cst (.int .i64 0))),
 zg 31 28 true (.mov (.tmp 1)),
 zg 32 28 true (.bin .lss (.tmp 31) (.cst (.int .i64 0))),
 zg 33 28 true (.beq true (.tmp 30) (.tmp 32)),
 zo 34 (.pick (.tmp 28) (.tmp 33) (.cst (.bool false))),
 zo 9 (.own 34)] [])
 (.seq (.seq (.region false [zo 35 (.mov (.tmp 8)),
 zo 36 (.bin .gtr (.tmp 35) (.cst (.int .u64 9223372036854775807))),
 zo 37 (.mov (.tmp 36)),
 zg 38 37 false (.mov (.tmp 7)),
 zg 39 37 false (.bin .gtr (.tmp 38) (.cst (.int .u64 9223372036854775808))),
 zo 40 (.pick (.tmp 37) (.cst (.bool true)) (.tmp 39)),
 zo 41 (.mov (.tmp 40)),
 zg 42 41 false (.mov (.tmp 7)),
 zg 43 41 false (.bin .eql (.tmp 42) (.cst (.int .u64 9223372036854775808))),
 zg 44 41 false (.mov (.tmp 43)),
 zg 45 44 true (.mov (.tmp 9)),
 zg 46 44 true (.not (.tmp 45)),
 zg 47 41 false (.pick (.tmp 44) (.tmp 46) (.cst (.bool false))),
 zo 48 (.pick (.tmp 41) (.cst (.bool true)) (.tmp 47))] [])
  (.cond (.tmp 48) (.seq (.region false [zo 49 (.build [.int .i64 0, .int .i64 0] []),
 ⟨none, .store (.tmp 4) (.tmp 49) 2, none⟩,
 zo 5 (.mov (.cst (.int .i64 10)))] [])
  .ret) .skip))
 (.seq (.seq (.region false [zo 50 (.mov (.tmp 9))] [])
  (.cond (.tmp 50) (.seq (.region false [zo 51 (.mov (.tmp 7)),
 zo 52 (.bin .sub (.tmp 51) (.cst (.int .u64 1))),
 zo 53 (.conv .i64 (.tmp 52)),
 zo 54 (.neg (.tmp 53)),
 zo 55 (.bin .sub (.tmp 54) (.cst (.int .i64 1))),
 zo 56 (.mov (.tmp 8)),
 zo 57 (.conv .i64 (.tmp 56)),
 zo 58 (.build [.int .i64 0, .int .i64 0] [(0, 1, .tmp 55), (1, 1, .tmp 57)]),
 ⟨none, .store (.tmp 4) (.tmp 58) 2, none⟩,
 zo 5 (.mov (.cst (.int .i64 0)))] [])
  .ret) .skip))
 (.seq (.region false [zo 59 (.mov (.tmp 7)),
 zo 60 (.conv .i64 (.tmp 59)),
 zo 61 (.mov (.tmp 8)),
 zo 62 (.conv .i64 (.tmp 61)),
 zo 63 (.build [.int .i64 0, .int .i64 0] [(0, 1, .tmp 60), (1, 1, .tmp 62)]),
 ⟨none, .store (.tmp 4) (.tmp 63) 2, none⟩,
 zo 5 (.mov (.cst (.int .i64 0)))] [])
  .ret))))))))
/-- custos/value.fraction -/
def x120 : XFn := XFn.mk 8 [.cell 2 2 true] (.seq (.region false [zo 1 (.box (.tmp 0) 4),
 zo 2 (.alloc [.int .i64 0, .int .i64 0])] [])
 (.seq (.region false [zo 3 (.faddr (.tmp 1) 1),
 zo 4 (.load (.tmp 3) 1 false),
 zo 5 (.faddr (.tmp 1) 2),
 zo 6 (.load (.tmp 5) 1 false),
 zo 7 (.build [.int .i64 0, .int .i64 0] [(0, 1, .tmp 4), (1, 1, .tmp 6)]),
 ⟨none, .store (.tmp 2) (.tmp 7) 2, none⟩] [])
  .ret))
/-- custos/custosref01.Of -/
def x121 : XFn := XFn.mk 31 [.cell 4 2 true, .tmp 5] (.seq (.region false [zo 4 (.alloc [.int .i64 0, .int .i64 0]),
 zo 5 (.mov (.cst (.int .i64 0)))] [])
 (.seq (.seq (.region false [zo 8 (.mov (.tmp 1)),
 zo 9 (.bin .eql (.tmp 8) (.cst (.int .i64 0)))] [])
  (.cond (.tmp 9) (.seq (.region false [zo 10 (.build [.int .i64 0, .int .i64 0] []),
 ⟨none, .store (.tmp 4) (.tmp 10) 2, none⟩,
 zo 5 (.mov (.cst (.int .i64 11)))] [])
  .ret) .skip))
 (.seq (.region false [zo 11 (.mov (.tmp 0)),
 zo 12 (.callq 131 [.tmp 11]),
 zo 13 (.callq 130 [.tmp 12]),
 zo 6 (.alloc [.int .u64 0, .int .u64 0, .int .u64 0, .int .u64 0]),
 ⟨none, .store (.tmp 6) (.tmp 13) 4, none⟩] [])
 (.seq (.region false [zo 14 (.mov (.tmp 1)),
 zo 15 (.callq 131 [.tmp 14]),
 zo 16 (.callq 130 [.tmp 15]),
 zo 7 (.alloc [.int .u64 0, .int .u64 0, .int .u64 0, .int .u64 0]),
 ⟨none, .store (.tmp 7) (.tmp 16) 4, none⟩] [])
 (.seq (.region false [zo 17 (.mov (.tmp 0)),
 zo 18 (.bin .neq (.tmp 17) (.cst (.int .i64 0))),
 zo 19 (.mov (.tmp 18)),
 zg 20 19 true (.mov (.tmp 0)),
 zg 21 19 true (.bin .lss (.tmp 20) (.cst (.int .i64 0))),
 zg 22 19 true (.mov (.tmp 1)),
 zg 23 19 true (.bin .lss (.tmp 22) (.cst (.int .i64 0))),
 zg 24 19 true (.beq true (.tmp 21) (.tmp 23)),
 zo 25 (.pick (.tmp 19) (.tmp 24) (.cst (.bool false))),
 zo 26 (.load (.tmp 6) 4 true),
 zo 27 (.load (.tmp 7) 4 true),
 zo 28 (.callq 132 [.tmp 25, .tmp 26, .tmp 27]),
 zo 29 (.ext 28 0),
 zo 30 (.ext 28 1),
 ⟨none, .store (.tmp 4) (.tmp 29) 2, none⟩,
 zo 5 (.own 30)] [])
  .ret)))))
def x128_r0 : XCode := .seq (.seq (.region false [zo 5 (.mov (.tmp 1)),
 zo 6 (.bin .neq (.tmp 5) (.cst (.int .u64 0)))] [])
  (.cond (.tmp 6) .skip (.exit 0)))
  (.block 1 (.region true [zo 7 (.mov (.tmp 1)),
 zo 8 (.mov (.tmp 0)),
 zo 9 (.mov (.tmp 1)),
 zo 10 (.bin .rem (.tmp 8) (.tmp 9)),
 zo 0 (.own 7),
 zo 1 (.own 10)] []))
def x128_l0 : XCode := x128_r0
/-- custos/rat.gcd -/
def x128 : XFn := XFn.mk 12 [.tmp 4] (.seq (.region false [zo 4 (.mov (.cst (.int .u64 0)))] [])
 (.seq (.block 0 (.loop x128_l0))
 (.seq (.region false [zo 11 (.mov (.tmp 0)),
 zo 4 (.own 11)] [])
  .ret)))
/-- custos/rat.size -/
def x129 : XFn := XFn.mk 10 [.tmp 2] (.seq (.region false [zo 2 (.mov (.cst (.int .u64 0)))] [])
 (.seq (.seq (.region false [zo 3 (.mov (.tmp 0)),
 zo 4 (.bin .lss (.tmp 3) (.cst (.int .i64 0)))] [])
  (.cond (.tmp 4) (.seq (.region false [zo 5 (.mov (.tmp 0)),
 zo 6 (.conv .u64 (.tmp 5)),
 zo 7 (.neg (.tmp 6)),
 zo 2 (.own 7)] [])
  .ret) .skip))
 (.seq (.region false [zo 8 (.mov (.tmp 0)),
 zo 9 (.conv .u64 (.tmp 8)),
 zo 2 (.own 9)] [])
  .ret)))
/-- custos/custosref01.of -/
def x130 : XFn := XFn.mk 13 [.cell 2 4 true] (.seq (.region false [zo 2 (.alloc [.int .u64 0, .int .u64 0, .int .u64 0, .int .u64 0])] [])
 (.seq (.region false [zo 3 (.alloc [.int .u64 0, .int .u64 0, .int .u64 0, .int .u64 0])] [])
 (.seq (.region false [zo 4 (.mov (.tmp 0)),
 zo 5 (.bin .rem (.tmp 4) (.cst (.int .u64 4294967296))),
 zo 6 (.faddr (.tmp 3) 0),
 zo 7 (.iarr 4 1 (.tmp 6) (.cst (.int .i64 0))),
 ⟨none, .store (.tmp 7) (.tmp 5) 1, none⟩] [])
 (.seq (.region false [zo 8 (.mov (.tmp 0)),
 zo 9 (.bin .quo (.tmp 8) (.cst (.int .u64 4294967296))),
 zo 10 (.faddr (.tmp 3) 0),
 zo 11 (.iarr 4 1 (.tmp 10) (.cst (.int .i64 1))),
 ⟨none, .store (.tmp 11) (.tmp 9) 1, none⟩] [])
 (.seq (.region false [zo 12 (.load (.tmp 3) 4 true),
 ⟨none, .store (.tmp 2) (.tmp 12) 4, none⟩] [])
  .ret)))))
/-- custos/custosref01.size -/
def x131 : XFn := XFn.mk 12 [.tmp 2] (.seq (.region false [zo 2 (.mov (.cst (.int .u64 0)))] [])
 (.seq (.seq (.region false [zo 3 (.mov (.tmp 0)),
 zo 4 (.bin .lss (.tmp 3) (.cst (.int .i64 0)))] [])
  (.cond (.tmp 4) (.seq (.region false [zo 5 (.mov (.tmp 0)),
 zo 6 (.bin .add (.tmp 5) (.cst (.int .i64 1))),
 zo 7 (.neg (.tmp 6)),
 zo 8 (.conv .u64 (.tmp 7)),
 zo 9 (.bin .add (.tmp 8) (.cst (.int .u64 1))),
 zo 2 (.own 9)] [])
  .ret) .skip))
 (.seq (.region false [zo 10 (.mov (.tmp 0)),
 zo 11 (.conv .u64 (.tmp 10)),
 zo 2 (.own 11)] [])
  .ret)))
/-- custos/custosref01.made -/
def x132 : XFn := XFn.mk 84 [.cell 6 2 true, .tmp 7] (.seq (.region false [zo 4 (.box (.tmp 1) 4),
 zo 5 (.box (.tmp 2) 4),
 zo 6 (.alloc [.int .i64 0, .int .i64 0]),
 zo 7 (.mov (.cst (.int .i64 0)))] [])
 (.seq (.region false [zo 18 (.load (.tmp 4) 4 true),
 zo 19 (.load (.tmp 5) 4 true),
 zo 20 (.callq 134 [.tmp 18, .tmp 19]),
 zo 8 (.alloc [.int .u64 0, .int .u64 0, .int .u64 0, .int .u64 0]),
 ⟨none, .store (.tmp 8) (.tmp 20) 4, none⟩] [])
 (.seq (.region false [zo 22 (.load (.tmp 4) 4 true),
 zo 23 (.load (.tmp 8) 4 true),
 zo 24 (.callq 135 [.tmp 22, .tmp 23]),
 zo 21 (.mov (.tmp 24)),
 zo 25 (.ext 21 0),
 zo 26 (.ext 21 1),
 zo 9 (.alloc [.int .u64 0, .int .u64 0, .int .u64 0, .int .u64 0]),
 zo 10 (.alloc [.int .u64 0, .int .u64 0, .int .u64 0, .int .u64 0]),
 ⟨none, .store (.tmp 9) (.tmp 25) 4, none⟩,
 ⟨none, .store (.tmp 10) (.tmp 26) 4, none⟩] [])
 (.seq (.region false [zo 28 (.load (.tmp 5) 4 true),
 zo 29 (.load (.tmp 8) 4 true),
 zo 30 (.callq 135 [.tmp 28, .tmp 29]),
 zo 27 (.mov (.tmp 30)),
 zo 31 (.ext 27 0),
 zo 32 (.ext 27 1),
 zo 11 (.alloc [.int .u64 0, .int .u64 0, .int .u64 0, .int .u64 0]),
 zo 12 (.alloc [.int .u64 0, .int .u64 0, .int .u64 0, .int .u64 0]),
 ⟨none, .store (.tmp 11) (.tmp 31) 4, none⟩,
 ⟨none, .store (.tmp 12) (.tmp 32) 4, none⟩] [])
 (.seq (.region false [zo 33 (.callq 130 [.cst (.int .u64 9223372036854775808)]),
 zo 13 (.alloc [.int .u64 0, .int .u64 0, .int .u64 0, .int .u64 0]),
 ⟨none, .store (.tmp 13) (.tmp 33) 4, none⟩] [])
 (.seq (.region false [zo 34 (.load (.tmp 9) 4 true),
 zo 35 (.load (.tmp 13) 4 true),
 zo 36 (.callq 136 [.tmp 34, .tmp 35]),
 zo 14 (.own 36)] [])
 (.seq (.region false [zo 37 (.load (.tmp 11) 4 true),
 zo 38 (.load (.tmp 13) 4 true),
 zo 39 (.callq 136 [.tmp 37, .tmp 38]),
 zo 15 (.own 39)] [])
 (.seq (.seq (.region false [zo 40 (.mov (.tmp 15)),
 zo 41 (.bin .geq (.tmp 40) (.cst (.int .i64 0))),
 zo 42 (.mov (.tmp 41)),
 zg 43 42 false (.mov (.tmp 14)),
 zg 44 42 false (.bin .gtr (.tmp 43) (.cst (.int .i64 0))),
 zo 45 (.pick (.tmp 42) (.cst (.bool true)) (.tmp 44)),
 zo 46 (.mov (.tmp 45)),
 zg 47 46 false (.mov (.tmp 14)),
 zg 48 46 false (.bin .eql (.tmp 47) (.cst (.int .i64 0))),
 zg 49 46 false (.mov (.tmp 48)),
 zg 50 49 true (.mov (.tmp 0)),
 zg 51 49 true (.not (.tmp 50)),
 zg 52 46 false (.pick (.tmp 49) (.tmp 51) (.cst (.bool false))),
 zo 53 (.pick (.tmp 46) (.cst (.bool true)) (.tmp 52))] [])
  (.cond (.tmp 53) (.seq (.region false [zo 54 (.build [.int .i64 0, .int .i64 0] []),
 ⟨none, .store (.tmp 6) (.tmp 54) 2, none⟩,
 zo 7 (.mov (.cst (.int .i64 10)))] [])
  .ret) .skip))
 (.seq (.region false [zo 55 (.faddr (.tmp 9) 0),
 zo 56 (.iarr 4 1 (.tmp 55) (.cst (.int .i64 1))),
 zo 57 (.load (.tmp 56) 1 false),
 zo 58 (.bin .mul (.tmp 57) (.cst (.int .u64 4294967296))),
 zo 59 (.faddr (.tmp 9) 0),
 zo 60 (.iarr 4 1 (.tmp 59) (.cst (.int .i64 0))),
 zo 61 (.load (.tmp 60) 1 false),
 zo 62 (.bin .add (.tmp 58) (.tmp 61)),
 zo 16 (.own 62)] [])
 (.seq (.region false [zo 63 (.faddr (.tmp 11) 0),
 zo 64 (.iarr 4 1 (.tmp 63) (.cst (.int .i64 1))),
 zo 65 (.load (.tmp 64) 1 false),
 zo 66 (.bin .mul (.tmp 65) (.cst (.int .u64 4294967296))),
 zo 67 (.faddr (.tmp 11) 0),
 zo 68 (.iarr 4 1 (.tmp 67) (.cst (.int .i64 0))),
 zo 69 (.load (.tmp 68) 1 false),
 zo 70 (.bin .add (.tmp 66) (.tmp 69)),
 zo 71 (.conv .i64 (.tmp 70)),
 zo 17 (.own 71)] [])
 (.seq (.seq (.region false [zo 72 (.mov (.tmp 0))] [])
  (.cond (.tmp 72) (.seq (.region false [zo 73 (.mov (.tmp 16)),
 zo 74 (.bin .sub (.tmp 73) (.cst (.int .u64 1))),
 zo 75 (.conv .i64 (.tmp 74)),
 zo 76 (.neg (.tmp 75)),
 zo 77 (.bin .sub (.tmp 76) (.cst (.int .i64 1))),
 zo 78 (.mov (.tmp 17)),
 zo 79 (.build [.int .i64 0, .int .i64 0] [(0, 1, .tmp 77), (1, 1, .tmp 78)]),
 ⟨none, .store (.tmp 6) (.tmp 79) 2, none⟩,
 zo 7 (.mov (.cst (.int .i64 0)))] [])
  .ret) .skip))
 (.seq (.region false [zo 80 (.mov (.tmp 16)),
 zo 81 (.conv .i64 (.tmp 80)),
 zo 82 (.mov (.tmp 17)),
 zo 83 (.build [.int .i64 0, .int .i64 0] [(0, 1, .tmp 81), (1, 1, .tmp 82)]),
 ⟨none, .store (.tmp 6) (.tmp 83) 2, none⟩,
 zo 7 (.mov (.cst (.int .i64 0)))] [])
  .ret))))))))))))
def x134_r0 : XCode := .seq (.seq (.region false [zo 9 (.load (.tmp 3) 4 true),
 zo 10 (.load (.tmp 5) 4 true),
 zo 11 (.eqagg true [1, 1, 1, 1] (.tmp 9) (.tmp 10))] [])
  (.cond (.tmp 11) .skip (.exit 0)))
  (.block 1 (.seq (.region false [zo 13 (.load (.tmp 2) 4 true),
 zo 14 (.load (.tmp 3) 4 true),
 zo 15 (.callq 135 [.tmp 13, .tmp 14]),
 zo 12 (.mov (.tmp 15)),
 zo 16 (.ext 12 0),
 zo 17 (.ext 12 1),
 zo 6 (.alloc [.int .u64 0, .int .u64 0, .int .u64 0, .int .u64 0]),
 zo 7 (.alloc [.int .u64 0, .int .u64 0, .int .u64 0, .int .u64 0]),
 ⟨none, .store (.tmp 6) (.tmp 16) 4, none⟩,
 ⟨none, .store (.tmp 7) (.tmp 17) 4, none⟩] [])
 (.seq (.region false [zo 18 (.load (.tmp 3) 4 true),
 ⟨none, .store (.tmp 2) (.tmp 18) 4, none⟩] [])
  (.region false [zo 19 (.load (.tmp 7) 4 true),
 ⟨none, .store (.tmp 3) (.tmp 19) 4, none⟩] []))))
def x134_l0 : XCode := x134_r0
/-- custos/custosref01.common -/
def x134 : XFn := XFn.mk 21 [.cell 4 4 true] (.seq (.region false [zo 2 (.box (.tmp 0) 4),
 zo 3 (.box (.tmp 1) 4),
 zo 4 (.alloc [.int .u64 0, .int .u64 0, .int .u64 0, .int .u64 0])] [])
 (.seq (.region false [zo 8 (.build [.int .u64 0, .int .u64 0, .int .u64 0, .int .u64 0] []),
 zo 5 (.alloc [.int .u64 0, .int .u64 0, .int .u64 0, .int .u64 0]),
 ⟨none, .store (.tmp 5) (.tmp 8) 4, none⟩] [])
 (.seq (.block 0 (.loop x134_l0))
 (.seq (.region false [zo 20 (.load (.tmp 2) 4 true),
 ⟨none, .store (.tmp 4) (.tmp 20) 4, none⟩] [])
  .ret))))
def x135_r0 : XCode := .seq (.seq (.region false [zo 10 (.mov (.tmp 8)),
 zo 11 (.bin .geq (.tmp 10) (.cst (.int .i64 0)))] [])
  (.cond (.tmp 11) .skip (.exit 0)))
 (.seq (.block 1 (.seq (.region false [zo 14 (.load (.tmp 7) 4 true),
 zo 15 (.load (.tmp 7) 4 true),
 zo 16 (.callq 137 [.tmp 14, .tmp 15]),
 ⟨none, .store (.tmp 7) (.tmp 16) 4, none⟩] [])
 (.seq (.region true [zo 17 (.faddr (.tmp 7) 0),
 zo 18 (.iarr 4 1 (.tmp 17) (.cst (.int .i64 0))),
 zo 19 (.load (.tmp 18) 1 false),
 zo 20 (.mov (.tmp 8)),
 zo 21 (.bin .quo (.tmp 20) (.cst (.int .i64 32))),
 zo 22 (.faddr (.tmp 2) 0),
 zo 23 (.iarr 4 1 (.tmp 22) (.tmp 21)),
 zo 24 (.load (.tmp 23) 1 false),
 zo 25 (.mov (.tmp 8)),
 zo 26 (.bin .rem (.tmp 25) (.cst (.int .i64 32))),
 zo 27 (.conv .u64 (.tmp 26)),
 zo 28 (.bin .shr (.tmp 24) (.tmp 27)),
 zo 29 (.bin .rem (.tmp 28) (.cst (.int .u64 2))),
 zo 30 (.bin .add (.tmp 19) (.tmp 29)),
 zo 31 (.faddr (.tmp 7) 0),
 zo 32 (.iarr 4 1 (.tmp 31) (.cst (.int .i64 0))),
 ⟨none, .store (.tmp 32) (.tmp 30) 1, none⟩] [])
 (.seq (.region false [zo 33 (.load (.tmp 7) 4 true),
 zo 34 (.load (.tmp 3) 4 true),
 zo 35 (.callq 136 [.tmp 33, .tmp 34]),
 zo 9 (.own 35)] [])
 (.seq (.region false [zo 36 (.mov (.tmp 9)),
 zo 37 (.bin .geq (.tmp 36) (.cst (.int .i64 0)))] [])
  (.cond (.tmp 37) (.seq (.region false [zo 38 (.load (.tmp 7) 4 true),
 zo 39 (.load (.tmp 3) 4 true),
 zo 40 (.callq 138 [.tmp 38, .tmp 39]),
 ⟨none, .store (.tmp 7) (.tmp 40) 4, none⟩] [])
  (.region false [zo 41 (.mov (.tmp 8)),
 zo 42 (.bin .quo (.tmp 41) (.cst (.int .i64 32))),
 zo 43 (.mov (.tmp 8)),
 zo 44 (.bin .quo (.tmp 43) (.cst (.int .i64 32))),
 zo 45 (.faddr (.tmp 6) 0),
 zo 46 (.iarr 4 1 (.tmp 45) (.tmp 44)),
 zo 47 (.load (.tmp 46) 1 false),
 zo 48 (.mov (.tmp 8)),
 zo 49 (.bin .rem (.tmp 48) (.cst (.int .i64 32))),
 zo 50 (.conv .u64 (.tmp 49)),
 zo 51 (.bin .shl (.cst (.int .u64 1)) (.tmp 50)),
 zo 52 (.bin .add (.tmp 47) (.tmp 51)),
 zo 53 (.faddr (.tmp 6) 0),
 zo 54 (.iarr 4 1 (.tmp 53) (.tmp 42)),
 ⟨none, .store (.tmp 54) (.tmp 52) 1, none⟩] [])) .skip))))))
  (.region false [zo 12 (.mov (.tmp 8)),
 zo 13 (.bin .sub (.tmp 12) (.cst (.int .i64 1))),
 zo 8 (.own 13)] []))
def x135_l0 : XCode := x135_r0
/-- custos/custosref01.divided -/
def x135 : XFn := XFn.mk 57 [.cell 4 4 true, .cell 5 4 true] (.seq (.region false [zo 2 (.box (.tmp 0) 4),
 zo 3 (.box (.tmp 1) 4),
 zo 4 (.alloc [.int .u64 0, .int .u64 0, .int .u64 0, .int .u64 0]),
 zo 5 (.alloc [.int .u64 0, .int .u64 0, .int .u64 0, .int .u64 0])] [])
 (.seq (.region false [zo 6 (.alloc [.int .u64 0, .int .u64 0, .int .u64 0, .int .u64 0])] [])
 (.seq (.region false [zo 7 (.alloc [.int .u64 0, .int .u64 0, .int .u64 0, .int .u64 0])] [])
 (.seq (.seq (.region false [zo 8 (.mov (.cst (.int .i64 127)))] [])
  (.block 0 (.loop x135_l0)))
 (.seq (.region true [zo 55 (.load (.tmp 6) 4 true),
 zo 56 (.load (.tmp 7) 4 true),
 ⟨none, .store (.tmp 4) (.tmp 55) 4, none⟩,
 ⟨none, .store (.tmp 5) (.tmp 56) 4, none⟩] [(7, 4)])
  .ret)))))
def x136_r0 : XCode := .seq (.seq (.region false [zo 6 (.mov (.tmp 5)),
 zo 7 (.bin .geq (.tmp 6) (.cst (.int .i64 0)))] [])
  (.cond (.tmp 7) .skip (.exit 0)))
 (.seq (.block 1 (.seq (.seq (.region true [zo 10 (.mov (.tmp 5)),
 zo 11 (.faddr (.tmp 2) 0),
 zo 12 (.iarr 4 1 (.tmp 11) (.tmp 10)),
 zo 13 (.load (.tmp 12) 1 false),
 zo 14 (.mov (.tmp 5)),
 zo 15 (.faddr (.tmp 3) 0),
 zo 16 (.iarr 4 1 (.tmp 15) (.tmp 14)),
 zo 17 (.load (.tmp 16) 1 false),
 zo 18 (.bin .lss (.tmp 13) (.tmp 17))] [])
  (.cond (.tmp 18) (.seq (.region false [zo 4 (.mov (.cst (.int .i64 (-1))))] [])
  .ret) .skip))
 (.seq (.region true [zo 19 (.mov (.tmp 5)),
 zo 20 (.faddr (.tmp 2) 0),
 zo 21 (.iarr 4 1 (.tmp 20) (.tmp 19)),
 zo 22 (.load (.tmp 21) 1 false),
 zo 23 (.mov (.tmp 5)),
 zo 24 (.faddr (.tmp 3) 0),
 zo 25 (.iarr 4 1 (.tmp 24) (.tmp 23)),
 zo 26 (.load (.tmp 25) 1 false),
 zo 27 (.bin .gtr (.tmp 22) (.tmp 26))] [])
  (.cond (.tmp 27) (.seq (.region false [zo 4 (.mov (.cst (.int .i64 1)))] [])
  .ret) .skip))))
  (.region false [zo 8 (.mov (.tmp 5)),
 zo 9 (.bin .sub (.tmp 8) (.cst (.int .i64 1))),
 zo 5 (.own 9)] []))
def x136_l0 : XCode := x136_r0
/-- custos/custosref01.compare -/
def x136 : XFn := XFn.mk 28 [.tmp 4] (.seq (.region false [zo 2 (.box (.tmp 0) 4),
 zo 3 (.box (.tmp 1) 4),
 zo 4 (.mov (.cst (.int .i64 0)))] [])
 (.seq (.seq (.region false [zo 5 (.mov (.cst (.int .i64 3)))] [])
  (.block 0 (.loop x136_l0)))
 (.seq (.region false [zo 4 (.mov (.cst (.int .i64 0)))] [])
  .ret)))
def x137_r0 : XCode := .seq (.seq (.region false [zo 9 (.mov (.tmp 7)),
 zo 10 (.bin .lss (.tmp 9) (.cst (.int .i64 4)))] [])
  (.cond (.tmp 10) .skip (.exit 0)))
 (.seq (.block 1 (.seq (.region true [zo 13 (.mov (.tmp 7)),
 zo 14 (.faddr (.tmp 2) 0),
 zo 15 (.iarr 4 1 (.tmp 14) (.tmp 13)),
 zo 16 (.load (.tmp 15) 1 false),
 zo 17 (.mov (.tmp 7)),
 zo 18 (.faddr (.tmp 3) 0),
 zo 19 (.iarr 4 1 (.tmp 18) (.tmp 17)),
 zo 20 (.load (.tmp 19) 1 false),
 zo 21 (.bin .add (.tmp 16) (.tmp 20)),
 zo 22 (.mov (.tmp 6)),
 zo 23 (.bin .add (.tmp 21) (.tmp 22)),
 zo 8 (.own 23)] [])
 (.seq (.region false [zo 24 (.mov (.tmp 7)),
 zo 25 (.mov (.tmp 8)),
 zo 26 (.bin .rem (.tmp 25) (.cst (.int .u64 4294967296))),
 zo 27 (.faddr (.tmp 5) 0),
 zo 28 (.iarr 4 1 (.tmp 27) (.tmp 24)),
 ⟨none, .store (.tmp 28) (.tmp 26) 1, none⟩] [])
  (.region false [zo 29 (.mov (.tmp 8)),
 zo 30 (.bin .quo (.tmp 29) (.cst (.int .u64 4294967296))),
 zo 6 (.own 30)] []))))
  (.region false [zo 11 (.mov (.tmp 7)),
 zo 12 (.bin .add (.tmp 11) (.cst (.int .i64 1))),
 zo 7 (.own 12)] []))
def x137_l0 : XCode := x137_r0
/-- custos/custosref01.plus -/
def x137 : XFn := XFn.mk 32 [.cell 4 4 true] (.seq (.region false [zo 2 (.box (.tmp 0) 4),
 zo 3 (.box (.tmp 1) 4),
 zo 4 (.alloc [.int .u64 0, .int .u64 0, .int .u64 0, .int .u64 0])] [])
 (.seq (.region false [zo 5 (.alloc [.int .u64 0, .int .u64 0, .int .u64 0, .int .u64 0])] [])
 (.seq (.region false [zo 6 (.mov (.cst (.int .u64 0)))] [])
 (.seq (.seq (.region false [zo 7 (.mov (.cst (.int .i64 0)))] [])
  (.block 0 (.loop x137_l0)))
 (.seq (.region false [zo 31 (.load (.tmp 5) 4 true),
 ⟨none, .store (.tmp 4) (.tmp 31) 4, none⟩] [])
  .ret)))))
def x138_r0 : XCode := .seq (.seq (.region false [zo 9 (.mov (.tmp 7)),
 zo 10 (.bin .lss (.tmp 9) (.cst (.int .i64 4)))] [])
  (.cond (.tmp 10) .skip (.exit 0)))
 (.seq (.block 1 (.seq (.region true [zo 13 (.mov (.tmp 7)),
 zo 14 (.faddr (.tmp 2) 0),
 zo 15 (.iarr 4 1 (.tmp 14) (.tmp 13)),
 zo 16 (.load (.tmp 15) 1 false),
 zo 17 (.bin .add (.tmp 16) (.cst (.int .u64 4294967296))),
 zo 18 (.mov (.tmp 7)),
 zo 19 (.faddr (.tmp 3) 0),
 zo 20 (.iarr 4 1 (.tmp 19) (.tmp 18)),
 zo 21 (.load (.tmp 20) 1 false),
 zo 22 (.bin .sub (.tmp 17) (.tmp 21)),
 zo 23 (.mov (.tmp 6)),
 zo 24 (.bin .sub (.tmp 22) (.tmp 23)),
 zo 8 (.own 24)] [])
 (.seq (.region false [zo 25 (.mov (.tmp 7)),
 zo 26 (.mov (.tmp 8)),
 zo 27 (.bin .rem (.tmp 26) (.cst (.int .u64 4294967296))),
 zo 28 (.faddr (.tmp 5) 0),
 zo 29 (.iarr 4 1 (.tmp 28) (.tmp 25)),
 ⟨none, .store (.tmp 29) (.tmp 27) 1, none⟩] [])
  (.region false [zo 30 (.mov (.tmp 8)),
 zo 31 (.bin .quo (.tmp 30) (.cst (.int .u64 4294967296))),
 zo 32 (.bin .sub (.cst (.int .u64 1)) (.tmp 31)),
 zo 6 (.own 32)] []))))
  (.region false [zo 11 (.mov (.tmp 7)),
 zo 12 (.bin .add (.tmp 11) (.cst (.int .i64 1))),
 zo 7 (.own 12)] []))
def x138_l0 : XCode := x138_r0
/-- custos/custosref01.less -/
def x138 : XFn := XFn.mk 34 [.cell 4 4 true] (.seq (.region false [zo 2 (.box (.tmp 0) 4),
 zo 3 (.box (.tmp 1) 4),
 zo 4 (.alloc [.int .u64 0, .int .u64 0, .int .u64 0, .int .u64 0])] [])
 (.seq (.region false [zo 5 (.alloc [.int .u64 0, .int .u64 0, .int .u64 0, .int .u64 0])] [])
 (.seq (.region false [zo 6 (.mov (.cst (.int .u64 0)))] [])
 (.seq (.seq (.region false [zo 7 (.mov (.cst (.int .i64 0)))] [])
  (.block 0 (.loop x138_l0)))
 (.seq (.region false [zo 33 (.load (.tmp 5) 4 true),
 ⟨none, .store (.tmp 4) (.tmp 33) 4, none⟩] [])
  .ret)))))
def X : List (Option XFn) := [none, none, none, none, some x4, none, none, some x7, some x8, some x9, none, some x11, some x12, some x13, some x14, some x15, some x16, some x17, none, none, none, none, some x22, some x23, some x24, some x25, some x26, some x27, some x28, some x29, some x30, some x31, some x32, none, none, none, none, some x37, some x38, some x39, some x40, some x41, some x42, some x43, none, some x45, some x46, some x47, some x48, some x49, some x50, some x51, some x52, some x53, some x54, some x55, some x56, some x57, some x58, some x59, none, some x61, some x62, some x63, some x64, some x65, some x66, some x67, some x68, some x69, some x70, none, none, some x73, some x74, some x75, some x76, some x77, some x78, some x79, some x80, some x81, some x82, some x83, some x84, some x85, some x86, some x87, some x88, some x89, some x90, some x91, some x92, some x93, none, none, some x96, some x97, some x98, some x99, some x100, some x101, some x102, some x103, some x104, some x105, some x106, some x107, none, none, none, none, none, none, none, none, none, none, none, some x119, some x120, some x121, none, none, none, none, none, none, some x128, some x129, some x130, some x131, some x132, none, some x134, some x135, some x136, some x137, some x138]
end Go.Proofs.YtnmaahfipddkmaaGreat.Sx.T
