/- The functions of this seat in the small language, printed by a program of ours. -/
import Derived.Test.YtgfeladjpjipeaaDoorSxA
set_option linter.unusedVariables false
set_option linter.unusedSimpArgs false
namespace Go.Proofs.YtgfeladjpjipeaaDoor.Sx.T
open Go Go.Proofs.YtgfeladjpjipeaaDoor.Sx
set_option maxRecDepth 10000
def zo (d : Nat) (o : XOp) : XO := ⟨some d, o, none⟩
def zg (d g : Nat) (b : Bool) (o : XOp) : XO := ⟨some d, o, some (g, b)⟩
def x4_r0 : XCode := .seq (.seq (.region false [zo 39 (.mov (.tmp 10)),
 zo 40 (.mov (.tmp 3)),
 zo 41 (.lens false (.tmp 40)),
 zo 42 (.bin .lss (.tmp 39) (.tmp 41))] [])
  (.cond (.tmp 42) .skip (.exit 0)))
 (.seq (.block 1 (.region false [zo 45 (.mov (.tmp 3)),
 zo 46 (.mov (.tmp 10)),
 zo 47 (.build [.int .i64 0, .int .i64 0, .str [], .int .i64 0, .int .i64 0, .int .i64 0, .str []] [(0, 1, .cst (.int .i64 (-77)))]),
 zo 48 (.iaddr 7 (.tmp 45) (.tmp 46)),
 ⟨none, .store (.tmp 48) (.tmp 47) 7, none⟩] []))
  (.region false [zo 43 (.mov (.tmp 10)),
 zo 44 (.bin .add (.tmp 43) (.cst (.int .i64 1))),
 zo 10 (.own 44)] []))
def x4_l0 : XCode := x4_r0
/-- custos/custoslaw05.LexTokens -/
def x4 : XFn := XFn.mk 69 [.tmp 2] (.seq (.region false [zo 2 (.mov (.cst (.bool false)))] [])
 (.seq (.region false [zo 15 (.mov (.tmp 0)),
 zo 16 (.callq 8 [.tmp 15]),
 zo 14 (.own 16),
 zo 17 (.extm 14),
 zo 18 (.ext 14 1),
 zo 19 (.ext 14 2),
 zo 3 (.thw 17),
 zo 4 (.own 18),
 zo 5 (.own 19)] [])
 (.seq (.region false [zo 21 (.mov (.tmp 0)),
 zo 22 (.callq 10 [.tmp 21]),
 zo 20 (.mov (.tmp 22)),
 zo 23 (.ext 20 0),
 zo 24 (.ext 20 1),
 zo 25 (.ext 20 2),
 zo 6 (.own 23),
 zo 7 (.own 24),
 zo 8 (.own 25)] [])
 (.seq (.region false [zo 26 (.mov (.tmp 4)),
 zo 27 (.mov (.tmp 7)),
 zo 28 (.bin .eql (.tmp 26) (.tmp 27)),
 zo 29 (.mov (.tmp 28)),
 zg 30 29 true (.mov (.tmp 5)),
 zg 31 29 true (.mov (.tmp 8)),
 zg 32 29 true (.bin .eql (.tmp 30) (.tmp 31)),
 zo 33 (.pick (.tmp 29) (.tmp 32) (.cst (.bool false))),
 zo 34 (.mov (.tmp 33)),
 zg 35 34 true (.mov (.tmp 3)),
 zg 36 34 true (.mov (.tmp 6)),
 zg 37 34 true (.callw 11 [.tmp 35, .tmp 36]),
 zo 38 (.pick (.tmp 34) (.tmp 37) (.cst (.bool false))),
 zo 9 (.own 38)] [])
 (.seq (.seq (.region false [zo 10 (.mov (.cst (.int .i64 0)))] [])
  (.block 0 (.loop x4_l0)))
 (.seq (.region false [zo 50 (.mov (.tmp 0)),
 zo 51 (.callq 8 [.tmp 50]),
 zo 49 (.own 51),
 zo 52 (.extm 49),
 zo 53 (.ext 49 1),
 zo 54 (.ext 49 2),
 zo 11 (.ownd 52),
 zo 12 (.own 53),
 zo 13 (.own 54)] [])
 (.seq (.region false [zo 55 (.callq 9 []),
 zo 56 (.mov (.tmp 55)),
 zg 57 56 true (.mov (.tmp 9)),
 zo 58 (.pick (.tmp 56) (.tmp 57) (.cst (.bool false))),
 zo 59 (.mov (.tmp 58)),
 zg 60 59 true (.mov (.tmp 12)),
 zg 61 59 true (.mov (.tmp 7)),
 zg 62 59 true (.bin .eql (.tmp 60) (.tmp 61)),
 zo 63 (.pick (.tmp 59) (.tmp 62) (.cst (.bool false))),
 zo 64 (.mov (.tmp 63)),
 zg 65 64 true (.mov (.tmp 11)),
 zg 66 64 true (.mov (.tmp 6)),
 zg 67 64 true (.callq 11 [.tmp 65, .tmp 66]),
 zo 68 (.pick (.tmp 64) (.tmp 67) (.cst (.bool false))),
 zo 2 (.own 68)] [])
  .ret)))))))
def x8_r0 : XCode := .seq (.seq (.region false [zo 12 (.mov (.tmp 6)),
 zo 13 (.mov (.tmp 0)),
 zo 14 (.lens true (.tmp 13)),
 zo 15 (.bin .lss (.tmp 12) (.tmp 14))] [])
  (.cond (.tmp 15) .skip (.exit 0)))
  (.block 1 (.seq (.seq (.region false [zo 16 (.mov (.tmp 0)),
 zo 17 (.mov (.tmp 6)),
 zo 18 (.idxs (.tmp 16) (.tmp 17)),
 zo 19 (.bin .eql (.tmp 18) (.cst (.int .u8 32))),
 zo 20 (.mov (.tmp 19)),
 zg 21 20 false (.mov (.tmp 0)),
 zg 22 20 false (.mov (.tmp 6)),
 zg 23 20 false (.idxs (.tmp 21) (.tmp 22)),
 zg 24 20 false (.bin .eql (.tmp 23) (.cst (.int .u8 10))),
 zo 25 (.pick (.tmp 20) (.cst (.bool true)) (.tmp 24))] [])
  (.cond (.tmp 25) (.seq (.region false [zo 26 (.mov (.tmp 6)),
 zo 27 (.bin .add (.tmp 26) (.cst (.int .i64 1))),
 zo 6 (.own 27)] [])
  (.exit 1)) .skip))
 (.seq (.region false [zo 29 (.mov (.tmp 0)),
 zo 30 (.mov (.tmp 6)),
 zo 31 (.callq 14 [.tmp 29, .tmp 30]),
 zo 28 (.mov (.tmp 31)),
 zo 32 (.ext 28 0),
 zo 33 (.ext 28 1),
 zo 7 (.alloc [.int .i64 0, .int .i64 0, .str [], .int .i64 0, .int .i64 0, .int .i64 0, .str []]),
 ⟨none, .store (.tmp 7) (.tmp 32) 7, none⟩,
 zo 8 (.own 33)] [])
 (.seq (.seq (.region false [zo 34 (.mov (.tmp 8)),
 zo 35 (.not (.tmp 34))] [])
  (.cond (.tmp 35) (.seq (.region false [zo 36 (.mov (.tmp 6)),
 zo 2 (.mov (.cst .nilsl)),
 zo 3 (.mov (.cst (.int .i64 50))),
 zo 4 (.own 36)] [])
  .ret) .skip))
 (.seq (.region false [zo 37 (.own 5),
 zo 38 (.load (.tmp 7) 7 true),
 zo 39 (.bslice 7 [.int .i64 0, .int .i64 0, .str [], .int .i64 0, .int .i64 0, .int .i64 0, .str []] [(0, 7, .tmp 38)]),
 zo 40 (.app true 7 72 37 (.tmp 39)),
 zo 5 (.own 40)] [])
  (.region false [zo 41 (.mov (.tmp 6)),
 zo 42 (.faddr (.tmp 7) 2),
 zo 43 (.load (.tmp 42) 1 false),
 zo 44 (.lens true (.tmp 43)),
 zo 45 (.bin .add (.tmp 41) (.tmp 44)),
 zo 6 (.own 45)] []))))))
def x8_l0 : XCode := x8_r0
/-- custos/lex.Tokens -/
def x8 : XFn := XFn.mk 47 [.tmp 2, .tmp 3, .tmp 4] (.seq (.region false [zo 2 (.mov (.cst .nilsl)),
 zo 3 (.mov (.cst (.int .i64 0))),
 zo 4 (.mov (.cst (.int .i64 0)))] [])
 (.seq (.seq (.region false [zo 9 (.mov (.tmp 0)),
 zo 10 (.lens true (.tmp 9)),
 zo 11 (.bin .gtr (.tmp 10) (.cst (.int .i64 16384)))] [])
  (.cond (.tmp 11) (.seq (.region false [zo 2 (.mov (.cst .nilsl)),
 zo 3 (.mov (.cst (.int .i64 2))),
 zo 4 (.mov (.cst (.int .i64 0)))] [])
  .ret) .skip))
 (.seq (.region false [zo 5 (.mov (.cst .nilsl))] [])
 (.seq (.seq (.region false [zo 6 (.mov (.cst (.int .i64 0)))] [])
  (.block 0 (.loop x8_l0)))
 (.seq (.region false [zo 46 (.own 5),
 zo 2 (.own 46),
 zo 3 (.mov (.cst (.int .i64 0))),
 zo 4 (.mov (.cst (.int .i64 0)))] [])
  .ret)))))
/-- custos/custoslaw05.live -/
def x9 : XFn := XFn.mk 92 [.tmp 0] (.seq (.region false [zo 0 (.mov (.cst (.bool false)))] [])
 (.seq (.region false [zo 8 (.callq 8 [.cst (.str [60, 61, 61, 45, 53, 45, 45, 53, 32, 91, 48, 44, 53, 93, 10, 64, 55, 40])]),
 zo 7 (.own 8),
 zo 9 (.extm 7),
 zo 10 (.ext 7 1),
 zo 11 (.ext 7 2),
 zo 1 (.ownd 9),
 zo 2 (.own 10),
 zo 3 (.own 11)] [])
 (.seq (.region false [zo 13 (.callq 8 [.cst (.str [97, 32, 49, 47, 50, 32, 48, 53])]),
 zo 12 (.own 13),
 zo 14 (.extm 12),
 zo 15 (.ext 12 1),
 zo 16 (.ext 12 2),
 zo 4 (.ownd 14),
 zo 5 (.own 15),
 zo 6 (.own 16)] [])
 (.seq (.seq (.region false [zo 17 (.mov (.tmp 2)),
 zo 18 (.bin .neq (.tmp 17) (.cst (.int .i64 0))),
 zo 19 (.mov (.tmp 18)),
 zg 20 19 false (.mov (.tmp 3)),
 zg 21 19 false (.bin .neq (.tmp 20) (.cst (.int .i64 0))),
 zo 22 (.pick (.tmp 19) (.cst (.bool true)) (.tmp 21)),
 zo 23 (.mov (.tmp 22)),
 zg 24 23 false (.mov (.tmp 5)),
 zg 25 23 false (.bin .neq (.tmp 24) (.cst (.int .i64 50))),
 zo 26 (.pick (.tmp 23) (.cst (.bool true)) (.tmp 25)),
 zo 27 (.mov (.tmp 26)),
 zg 28 27 false (.mov (.tmp 6)),
 zg 29 27 false (.bin .neq (.tmp 28) (.cst (.int .i64 6))),
 zo 30 (.pick (.tmp 27) (.cst (.bool true)) (.tmp 29)),
 zo 31 (.mov (.tmp 30)),
 zg 32 31 false (.mov (.tmp 1)),
 zg 33 31 false (.lens false (.tmp 32)),
 zg 34 31 false (.bin .neq (.tmp 33) (.cst (.int .i64 8))),
 zo 35 (.pick (.tmp 31) (.cst (.bool true)) (.tmp 34))] [])
  (.cond (.tmp 35) (.seq (.region false [zo 0 (.mov (.cst (.bool false)))] [])
  .ret) .skip))
 (.seq (.region false [zo 36 (.mov (.tmp 1)),
 zo 37 (.iaddr 7 (.tmp 36) (.cst (.int .i64 0))),
 zo 38 (.faddr (.tmp 37) 0),
 zo 39 (.load (.tmp 38) 1 false),
 zo 40 (.bin .eql (.tmp 39) (.cst (.int .i64 4))),
 zo 41 (.mov (.tmp 40)),
 zg 42 41 true (.mov (.tmp 1)),
 zg 43 41 true (.iaddr 7 (.tmp 42) (.cst (.int .i64 0))),
 zg 44 41 true (.faddr (.tmp 43) 2),
 zg 45 41 true (.load (.tmp 44) 1 false),
 zg 46 41 true (.bin .eql (.tmp 45) (.cst (.str [60, 61]))),
 zo 47 (.pick (.tmp 41) (.tmp 46) (.cst (.bool false))),
 zo 48 (.mov (.tmp 47)),
 zg 49 48 true (.mov (.tmp 1)),
 zg 50 48 true (.iaddr 7 (.tmp 49) (.cst (.int .i64 2))),
 zg 51 48 true (.faddr (.tmp 50) 0),
 zg 52 48 true (.load (.tmp 51) 1 false),
 zg 53 48 true (.bin .eql (.tmp 52) (.cst (.int .i64 6))),
 zo 54 (.pick (.tmp 48) (.tmp 53) (.cst (.bool false))),
 zo 55 (.mov (.tmp 54)),
 zg 56 55 true (.mov (.tmp 1)),
 zg 57 55 true (.iaddr 7 (.tmp 56) (.cst (.int .i64 2))),
 zg 58 55 true (.faddr (.tmp 57) 3),
 zg 59 55 true (.faddr (.tmp 58) 1),
 zg 60 55 true (.load (.tmp 59) 1 false),
 zg 61 55 true (.bin .eql (.tmp 60) (.cst (.int .i64 (-5)))),
 zo 62 (.pick (.tmp 55) (.tmp 61) (.cst (.bool false))),
 zo 63 (.mov (.tmp 62)),
 zg 64 63 true (.mov (.tmp 1)),
 zg 65 63 true (.iaddr 7 (.tmp 64) (.cst (.int .i64 5))),
 zg 66 63 true (.faddr (.tmp 65) 0),
 zg 67 63 true (.load (.tmp 66) 1 false),
 zg 68 63 true (.bin .eql (.tmp 67) (.cst (.int .i64 5))),
 zo 69 (.pick (.tmp 63) (.tmp 68) (.cst (.bool false))),
 zo 70 (.mov (.tmp 69)),
 zg 71 70 true (.mov (.tmp 1)),
 zg 72 70 true (.iaddr 7 (.tmp 71) (.cst (.int .i64 6))),
 zg 73 70 true (.faddr (.tmp 72) 0),
 zg 74 70 true (.load (.tmp 73) 1 false),
 zg 75 70 true (.bin .eql (.tmp 74) (.cst (.int .i64 7))),
 zo 76 (.pick (.tmp 70) (.tmp 75) (.cst (.bool false))),
 zo 77 (.mov (.tmp 76)),
 zg 78 77 true (.mov (.tmp 1)),
 zg 79 77 true (.iaddr 7 (.tmp 78) (.cst (.int .i64 6))),
 zg 80 77 true (.faddr (.tmp 79) 3),
 zg 81 77 true (.faddr (.tmp 80) 1),
 zg 82 77 true (.load (.tmp 81) 1 false),
 zg 83 77 true (.bin .eql (.tmp 82) (.cst (.int .i64 7))),
 zo 84 (.pick (.tmp 77) (.tmp 83) (.cst (.bool false))),
 zo 85 (.mov (.tmp 84)),
 zg 86 85 true (.mov (.tmp 1)),
 zg 87 85 true (.iaddr 7 (.tmp 86) (.cst (.int .i64 7))),
 zg 88 85 true (.faddr (.tmp 87) 0),
 zg 89 85 true (.load (.tmp 88) 1 false),
 zg 90 85 true (.bin .eql (.tmp 89) (.cst (.int .i64 1))),
 zo 91 (.pick (.tmp 85) (.tmp 90) (.cst (.bool false))),
 zo 0 (.own 91)] [])
  .ret)))))
def x10_r0 : XCode := .seq (.seq (.region false [zo 12 (.mov (.tmp 6)),
 zo 13 (.mov (.tmp 0)),
 zo 14 (.lens true (.tmp 13)),
 zo 15 (.bin .lss (.tmp 12) (.tmp 14))] [])
  (.cond (.tmp 15) .skip (.exit 0)))
  (.block 1 (.seq (.seq (.region false [zo 16 (.mov (.tmp 0)),
 zo 17 (.mov (.tmp 6)),
 zo 18 (.idxs (.tmp 16) (.tmp 17)),
 zo 19 (.bin .eql (.tmp 18) (.cst (.int .u8 32))),
 zo 20 (.mov (.tmp 19)),
 zg 21 20 false (.mov (.tmp 0)),
 zg 22 20 false (.mov (.tmp 6)),
 zg 23 20 false (.idxs (.tmp 21) (.tmp 22)),
 zg 24 20 false (.bin .eql (.tmp 23) (.cst (.int .u8 10))),
 zo 25 (.pick (.tmp 20) (.cst (.bool true)) (.tmp 24))] [])
  (.cond (.tmp 25) (.seq (.region false [zo 26 (.mov (.tmp 6)),
 zo 27 (.bin .add (.tmp 26) (.cst (.int .i64 1))),
 zo 6 (.own 27)] [])
  (.exit 1)) .skip))
 (.seq (.region false [zo 29 (.mov (.tmp 0)),
 zo 30 (.mov (.tmp 6)),
 zo 31 (.callq 15 [.tmp 29, .tmp 30]),
 zo 28 (.mov (.tmp 31)),
 zo 32 (.ext 28 0),
 zo 33 (.ext 28 1),
 zo 7 (.alloc [.int .i64 0, .int .i64 0, .str [], .int .i64 0, .int .i64 0, .int .i64 0, .str []]),
 ⟨none, .store (.tmp 7) (.tmp 32) 7, none⟩,
 zo 8 (.own 33)] [])
 (.seq (.seq (.region false [zo 34 (.mov (.tmp 8)),
 zo 35 (.not (.tmp 34))] [])
  (.cond (.tmp 35) (.seq (.region false [zo 36 (.mov (.tmp 6)),
 zo 2 (.mov (.cst .nilsl)),
 zo 3 (.mov (.cst (.int .i64 50))),
 zo 4 (.own 36)] [])
  .ret) .skip))
 (.seq (.region false [zo 37 (.own 5),
 zo 38 (.load (.tmp 7) 7 true),
 zo 39 (.bslice 7 [.int .i64 0, .int .i64 0, .str [], .int .i64 0, .int .i64 0, .int .i64 0, .str []] [(0, 7, .tmp 38)]),
 zo 40 (.app false 7 72 37 (.tmp 39)),
 zo 5 (.own 40)] [])
  (.region false [zo 41 (.mov (.tmp 6)),
 zo 42 (.faddr (.tmp 7) 2),
 zo 43 (.load (.tmp 42) 1 false),
 zo 44 (.lens true (.tmp 43)),
 zo 45 (.bin .add (.tmp 41) (.tmp 44)),
 zo 6 (.own 45)] []))))))
def x10_l0 : XCode := x10_r0
/-- custos/custosref05.Tokens -/
def x10 : XFn := XFn.mk 47 [.tmp 2, .tmp 3, .tmp 4] (.seq (.region false [zo 2 (.mov (.cst .nilsl)),
 zo 3 (.mov (.cst (.int .i64 0))),
 zo 4 (.mov (.cst (.int .i64 0)))] [])
 (.seq (.seq (.region false [zo 9 (.mov (.tmp 0)),
 zo 10 (.lens true (.tmp 9)),
 zo 11 (.bin .gtr (.tmp 10) (.cst (.int .i64 16384)))] [])
  (.cond (.tmp 11) (.seq (.region false [zo 2 (.mov (.cst .nilsl)),
 zo 3 (.mov (.cst (.int .i64 2))),
 zo 4 (.mov (.cst (.int .i64 0)))] [])
  .ret) .skip))
 (.seq (.region false [zo 5 (.mov (.cst .nilsl))] [])
 (.seq (.region false [zo 6 (.mov (.cst (.int .i64 0)))] [])
 (.seq (.block 0 (.loop x10_l0))
 (.seq (.region false [zo 46 (.mov (.tmp 5)),
 zo 2 (.own 46),
 zo 3 (.mov (.cst (.int .i64 0))),
 zo 4 (.mov (.cst (.int .i64 0)))] [])
  .ret))))))
def x11_r0 : XCode := .seq (.seq (.region false [zo 11 (.mov (.tmp 5)),
 zo 12 (.mov (.tmp 0)),
 zo 13 (.lens false (.tmp 12)),
 zo 14 (.bin .lss (.tmp 11) (.tmp 13))] [])
  (.cond (.tmp 14) .skip (.exit 0)))
 (.seq (.block 1 (.seq (.region true [zo 17 (.mov (.tmp 0)),
 zo 18 (.mov (.tmp 5)),
 zo 19 (.iaddr 7 (.tmp 17) (.tmp 18)),
 zo 20 (.load (.tmp 19) 7 true),
 zo 21 (.mov (.tmp 1)),
 zo 22 (.mov (.tmp 5)),
 zo 23 (.iaddr 7 (.tmp 21) (.tmp 22)),
 zo 24 (.load (.tmp 23) 7 true),
 zo 25 (.callq 13 [.tmp 20, .tmp 24]),
 zo 26 (.not (.tmp 25))] [])
  (.cond (.tmp 26) (.seq (.region false [zo 4 (.mov (.cst (.bool false)))] [])
  .ret) .skip)))
  (.region false [zo 15 (.mov (.tmp 5)),
 zo 16 (.bin .add (.tmp 15) (.cst (.int .i64 1))),
 zo 5 (.own 16)] []))
def x11_l0 : XCode := x11_r0
/-- custos/custoslaw05.all -/
def x11 : XFn := XFn.mk 27 [.tmp 4] (.seq (.region false [zo 4 (.mov (.cst (.bool false)))] [])
 (.seq (.seq (.region false [zo 6 (.mov (.tmp 0)),
 zo 7 (.lens false (.tmp 6)),
 zo 8 (.mov (.tmp 1)),
 zo 9 (.lens false (.tmp 8)),
 zo 10 (.bin .neq (.tmp 7) (.tmp 9))] [])
  (.cond (.tmp 10) (.seq (.region false [zo 4 (.mov (.cst (.bool false)))] [])
  .ret) .skip))
 (.seq (.seq (.region false [zo 5 (.mov (.cst (.int .i64 0)))] [])
  (.block 0 (.loop x11_l0)))
 (.seq (.region false [zo 4 (.mov (.cst (.bool true)))] [])
  .ret))))
/-- custos/custoslaw05.same -/
def x13 : XFn := XFn.mk 62 [.tmp 4] (.seq (.region false [zo 2 (.box (.tmp 0) 7),
 zo 3 (.box (.tmp 1) 7),
 zo 4 (.mov (.cst (.bool false)))] [])
 (.seq (.region false [zo 6 (.faddr (.tmp 2) 3),
 zo 7 (.faddr (.tmp 6) 0),
 zo 8 (.load (.tmp 7) 1 false),
 zo 9 (.faddr (.tmp 3) 3),
 zo 10 (.faddr (.tmp 9) 0),
 zo 11 (.load (.tmp 10) 1 false),
 zo 12 (.bin .eql (.tmp 8) (.tmp 11)),
 zo 13 (.mov (.tmp 12)),
 zg 14 13 true (.faddr (.tmp 2) 3),
 zg 15 13 true (.faddr (.tmp 14) 1),
 zg 16 13 true (.load (.tmp 15) 1 false),
 zg 17 13 true (.faddr (.tmp 3) 3),
 zg 18 13 true (.faddr (.tmp 17) 1),
 zg 19 13 true (.load (.tmp 18) 1 false),
 zg 20 13 true (.bin .eql (.tmp 16) (.tmp 19)),
 zo 21 (.pick (.tmp 13) (.tmp 20) (.cst (.bool false))),
 zo 22 (.mov (.tmp 21)),
 zg 23 22 true (.faddr (.tmp 2) 3),
 zg 24 22 true (.faddr (.tmp 23) 2),
 zg 25 22 true (.load (.tmp 24) 1 false),
 zg 26 22 true (.faddr (.tmp 3) 3),
 zg 27 22 true (.faddr (.tmp 26) 2),
 zg 28 22 true (.load (.tmp 27) 1 false),
 zg 29 22 true (.bin .eql (.tmp 25) (.tmp 28)),
 zo 30 (.pick (.tmp 22) (.tmp 29) (.cst (.bool false))),
 zo 31 (.mov (.tmp 30)),
 zg 32 31 true (.faddr (.tmp 2) 3),
 zg 33 31 true (.faddr (.tmp 32) 3),
 zg 34 31 true (.load (.tmp 33) 1 false),
 zg 35 31 true (.faddr (.tmp 3) 3),
 zg 36 31 true (.faddr (.tmp 35) 3),
 zg 37 31 true (.load (.tmp 36) 1 false),
 zg 38 31 true (.bin .eql (.tmp 34) (.tmp 37)),
 zo 39 (.pick (.tmp 31) (.tmp 38) (.cst (.bool false))),
 zo 5 (.own 39)] [])
 (.seq (.region false [zo 40 (.faddr (.tmp 2) 0),
 zo 41 (.load (.tmp 40) 1 false),
 zo 42 (.faddr (.tmp 3) 0),
 zo 43 (.load (.tmp 42) 1 false),
 zo 44 (.bin .eql (.tmp 41) (.tmp 43)),
 zo 45 (.mov (.tmp 44)),
 zg 46 45 true (.faddr (.tmp 2) 1),
 zg 47 45 true (.load (.tmp 46) 1 false),
 zg 48 45 true (.faddr (.tmp 3) 1),
 zg 49 45 true (.load (.tmp 48) 1 false),
 zg 50 45 true (.bin .eql (.tmp 47) (.tmp 49)),
 zo 51 (.pick (.tmp 45) (.tmp 50) (.cst (.bool false))),
 zo 52 (.mov (.tmp 51)),
 zg 53 52 true (.faddr (.tmp 2) 2),
 zg 54 52 true (.load (.tmp 53) 1 false),
 zg 55 52 true (.faddr (.tmp 3) 2),
 zg 56 52 true (.load (.tmp 55) 1 false),
 zg 57 52 true (.bin .eql (.tmp 54) (.tmp 56)),
 zo 58 (.pick (.tmp 52) (.tmp 57) (.cst (.bool false))),
 zo 59 (.mov (.tmp 58)),
 zg 60 59 true (.mov (.tmp 5)),
 zo 61 (.pick (.tmp 59) (.tmp 60) (.cst (.bool false))),
 zo 4 (.own 61)] [])
  .ret)))
/-- custos/lex.one -/
def x14 : XFn := XFn.mk 70 [.cell 4 7 true, .tmp 5] (.seq (.region false [zo 4 (.alloc [.int .i64 0, .int .i64 0, .str [], .int .i64 0, .int .i64 0, .int .i64 0, .str []]),
 zo 5 (.mov (.cst (.bool false)))] [])
 (.seq (.region false [zo 15 (.mov (.tmp 0)),
 zo 16 (.mov (.tmp 1)),
 zo 17 (.callq 16 [.tmp 15, .tmp 16]),
 zo 14 (.mov (.tmp 17)),
 zo 18 (.ext 14 0),
 zo 19 (.ext 14 1),
 zo 6 (.own 18),
 zo 7 (.own 19)] [])
 (.seq (.region false [zo 20 (.mov (.tmp 6)),
 zo 21 (.mov (.tmp 1)),
 zo 22 (.mov (.tmp 0)),
 zo 23 (.mov (.tmp 1)),
 zo 24 (.mov (.tmp 1)),
 zo 25 (.mov (.tmp 7)),
 zo 26 (.mx (.tmp 24) (.tmp 25)),
 zo 27 (.sstr (.tmp 22) (some (.tmp 23)) (some (.tmp 26))),
 zo 28 (.build [.int .i64 0, .int .i64 0, .str [], .int .i64 0, .int .i64 0, .int .i64 0, .str []] [(0, 1, .tmp 20), (1, 1, .tmp 21), (2, 1, .tmp 27)]),
 zo 8 (.alloc [.int .i64 0, .int .i64 0, .str [], .int .i64 0, .int .i64 0, .int .i64 0, .str []]),
 ⟨none, .store (.tmp 8) (.tmp 28) 7, none⟩] [])
 (.seq (.region false [zo 29 (.mov (.tmp 6)),
 zo 30 (.bin .neq (.tmp 29) (.cst (.int .i64 0))),
 zo 9 (.own 30)] [])
 (.seq (.seq (.region false [zo 31 (.mov (.tmp 6))] [])
  (.block 0 (.seq (.region false [zo 33 (.bin .eql (.tmp 31) (.cst (.int .i64 3))),
 zo 32 (.own 33)] [])
  (.cond (.tmp 32) (.region false [zo 34 (.faddr (.tmp 8) 2),
 zo 35 (.load (.tmp 34) 1 false),
 zo 36 (.lens true (.tmp 35)),
 zo 37 (.bin .leq (.tmp 36) (.cst (.int .i64 16))),
 zo 9 (.own 37)] []) (.seq (.region false [zo 39 (.bin .eql (.tmp 31) (.cst (.int .i64 5))),
 zo 38 (.own 39)] [])
  (.cond (.tmp 38) (.region false [zo 40 (.faddr (.tmp 8) 2),
 zo 41 (.load (.tmp 40) 1 false),
 zo 42 (.callq 17 [.tmp 41]),
 zo 9 (.own 42)] []) (.seq (.region false [zo 44 (.bin .eql (.tmp 31) (.cst (.int .i64 6))),
 zo 43 (.own 44)] [])
  (.cond (.tmp 43) (.seq (.region false [zo 46 (.faddr (.tmp 8) 2),
 zo 47 (.load (.tmp 46) 1 false),
 zo 48 (.callq 18 [.tmp 47]),
 zo 45 (.mov (.tmp 48)),
 zo 49 (.ext 45 0),
 zo 50 (.ext 45 1),
 zo 10 (.alloc [.int .i64 0, .int .i64 0, .int .i64 0, .str []]),
 ⟨none, .store (.tmp 10) (.tmp 49) 4, none⟩,
 zo 11 (.own 50)] [])
 (.seq (.region false [zo 51 (.load (.tmp 10) 4 true),
 zo 52 (.faddr (.tmp 8) 3),
 ⟨none, .store (.tmp 52) (.tmp 51) 4, none⟩] [])
  (.region false [zo 53 (.mov (.tmp 11)),
 zo 54 (.bin .eql (.tmp 53) (.cst (.int .i64 0))),
 zo 9 (.own 54)] []))) (.seq (.region false [zo 56 (.bin .eql (.tmp 31) (.cst (.int .i64 7))),
 zo 55 (.own 56)] [])
  (.cond (.tmp 55) (.seq (.region false [zo 58 (.faddr (.tmp 8) 2),
 zo 59 (.load (.tmp 58) 1 false),
 zo 60 (.sstr (.tmp 59) (some (.cst (.int .i64 1))) none),
 zo 61 (.callq 19 [.tmp 60]),
 zo 57 (.mov (.tmp 61)),
 zo 62 (.ext 57 0),
 zo 63 (.ext 57 1),
 zo 12 (.own 62),
 zo 13 (.own 63)] [])
 (.seq (.region false [zo 64 (.mov (.tmp 12)),
 zo 65 (.build [.int .i64 0, .int .i64 0, .int .i64 0, .str []] [(0, 1, .cst (.int .i64 1)), (1, 1, .tmp 64)]),
 zo 66 (.faddr (.tmp 8) 3),
 ⟨none, .store (.tmp 66) (.tmp 65) 4, none⟩] [])
  (.region false [zo 67 (.mov (.tmp 13)),
 zo 9 (.own 67)] []))) .skip))))))))))
 (.seq (.region false [zo 68 (.load (.tmp 8) 7 true),
 zo 69 (.mov (.tmp 9)),
 ⟨none, .store (.tmp 4) (.tmp 68) 7, none⟩,
 zo 5 (.own 69)] [])
  .ret))))))
/-- custos/custosref05.one -/
def x15 : XFn := XFn.mk 182 [.cell 4 7 true, .tmp 5] (.seq (.region false [zo 4 (.alloc [.int .i64 0, .int .i64 0, .str [], .int .i64 0, .int .i64 0, .int .i64 0, .str []]),
 zo 5 (.mov (.cst (.bool false)))] [])
 (.seq (.region false [zo 15 (.mov (.tmp 0)),
 zo 16 (.mov (.tmp 1)),
 zo 17 (.idxs (.tmp 15) (.tmp 16)),
 zo 6 (.own 17)] [])
 (.seq (.block 0 (.seq (.region false [zo 19 (.mov (.tmp 6)),
 zo 20 (.bin .eql (.tmp 19) (.cst (.int .u8 40))),
 zo 18 (.own 20)] [])
  (.cond (.tmp 18) (.seq (.region false [zo 21 (.mov (.tmp 1)),
 zo 22 (.build [.int .i64 0, .int .i64 0, .str [], .int .i64 0, .int .i64 0, .int .i64 0, .str []] [(0, 1, .cst (.int .i64 1)), (1, 1, .tmp 21), (2, 1, .cst (.str [40]))]),
 ⟨none, .store (.tmp 4) (.tmp 22) 7, none⟩,
 zo 5 (.mov (.cst (.bool true)))] [])
  .ret) (.seq (.region false [zo 24 (.mov (.tmp 6)),
 zo 25 (.bin .eql (.tmp 24) (.cst (.int .u8 41))),
 zo 23 (.own 25)] [])
  (.cond (.tmp 23) (.seq (.region false [zo 26 (.mov (.tmp 1)),
 zo 27 (.build [.int .i64 0, .int .i64 0, .str [], .int .i64 0, .int .i64 0, .int .i64 0, .str []] [(0, 1, .cst (.int .i64 2)), (1, 1, .tmp 26), (2, 1, .cst (.str [41]))]),
 ⟨none, .store (.tmp 4) (.tmp 27) 7, none⟩,
 zo 5 (.mov (.cst (.bool true)))] [])
  .ret) (.seq (.region false [zo 29 (.mov (.tmp 6)),
 zo 30 (.callq 20 [.tmp 29]),
 zo 28 (.own 30)] [])
  (.cond (.tmp 28) (.seq (.region false [zo 31 (.mov (.tmp 0)),
 zo 32 (.mov (.tmp 1)),
 zo 33 (.callq 21 [.tmp 31, .tmp 32]),
 zo 7 (.own 33)] [])
 (.seq (.region false [zo 34 (.mov (.tmp 1)),
 zo 35 (.mov (.tmp 0)),
 zo 36 (.mov (.tmp 1)),
 zo 37 (.mov (.tmp 7)),
 zo 38 (.sstr (.tmp 35) (some (.tmp 36)) (some (.tmp 37))),
 zo 39 (.build [.int .i64 0, .int .i64 0, .str [], .int .i64 0, .int .i64 0, .int .i64 0, .str []] [(0, 1, .cst (.int .i64 3)), (1, 1, .tmp 34), (2, 1, .tmp 38)]),
 zo 40 (.mov (.tmp 7)),
 zo 41 (.mov (.tmp 1)),
 zo 42 (.bin .sub (.tmp 40) (.tmp 41)),
 zo 43 (.bin .leq (.tmp 42) (.cst (.int .i64 16))),
 ⟨none, .store (.tmp 4) (.tmp 39) 7, none⟩,
 zo 5 (.own 43)] [])
  .ret)) (.seq (.region false [zo 45 (.mov (.tmp 6)),
 zo 46 (.bin .eql (.tmp 45) (.cst (.int .u8 60))),
 zo 47 (.mov (.tmp 46)),
 zg 48 47 true (.mov (.tmp 1)),
 zg 49 47 true (.bin .add (.tmp 48) (.cst (.int .i64 1))),
 zg 50 47 true (.mov (.tmp 0)),
 zg 51 47 true (.lens true (.tmp 50)),
 zg 52 47 true (.bin .lss (.tmp 49) (.tmp 51)),
 zo 53 (.pick (.tmp 47) (.tmp 52) (.cst (.bool false))),
 zo 54 (.mov (.tmp 53)),
 zg 55 54 true (.mov (.tmp 0)),
 zg 56 54 true (.mov (.tmp 1)),
 zg 57 54 true (.bin .add (.tmp 56) (.cst (.int .i64 1))),
 zg 58 54 true (.idxs (.tmp 55) (.tmp 57)),
 zg 59 54 true (.bin .eql (.tmp 58) (.cst (.int .u8 61))),
 zo 60 (.pick (.tmp 54) (.tmp 59) (.cst (.bool false))),
 zo 44 (.own 60)] [])
  (.cond (.tmp 44) (.seq (.region false [zo 61 (.mov (.tmp 1)),
 zo 62 (.build [.int .i64 0, .int .i64 0, .str [], .int .i64 0, .int .i64 0, .int .i64 0, .str []] [(0, 1, .cst (.int .i64 4)), (1, 1, .tmp 61), (2, 1, .cst (.str [60, 61]))]),
 ⟨none, .store (.tmp 4) (.tmp 62) 7, none⟩,
 zo 5 (.mov (.cst (.bool true)))] [])
  .ret) (.seq (.region false [zo 64 (.mov (.tmp 6)),
 zo 65 (.callq 22 [.tmp 64]),
 zo 66 (.mov (.tmp 65)),
 zg 67 66 false (.mov (.tmp 6)),
 zg 68 66 false (.bin .eql (.tmp 67) (.cst (.int .u8 45))),
 zg 69 66 false (.mov (.tmp 68)),
 zg 70 69 true (.mov (.tmp 1)),
 zg 71 69 true (.bin .add (.tmp 70) (.cst (.int .i64 1))),
 zg 72 69 true (.mov (.tmp 0)),
 zg 73 69 true (.lens true (.tmp 72)),
 zg 74 69 true (.bin .lss (.tmp 71) (.tmp 73)),
 zg 75 66 false (.pick (.tmp 69) (.tmp 74) (.cst (.bool false))),
 zg 76 66 false (.mov (.tmp 75)),
 zg 77 76 true (.mov (.tmp 0)),
 zg 78 76 true (.mov (.tmp 1)),
 zg 79 76 true (.bin .add (.tmp 78) (.cst (.int .i64 1))),
 zg 80 76 true (.idxs (.tmp 77) (.tmp 79)),
 zg 81 76 true (.callq 22 [.tmp 80]),
 zg 82 66 false (.pick (.tmp 76) (.tmp 81) (.cst (.bool false))),
 zo 83 (.pick (.tmp 66) (.cst (.bool true)) (.tmp 82)),
 zo 63 (.own 83)] [])
  (.cond (.tmp 63) (.seq (.region false [zo 84 (.mov (.tmp 0)),
 zo 85 (.mov (.tmp 1)),
 zo 86 (.callq 23 [.tmp 84, .tmp 85]),
 zo 87 (.ext 86 0),
 zo 88 (.ext 86 1),
 ⟨none, .store (.tmp 4) (.tmp 87) 7, none⟩,
 zo 5 (.own 88)] [])
  .ret) (.seq (.region false [zo 90 (.mov (.tmp 6)),
 zo 91 (.bin .eql (.tmp 90) (.cst (.int .u8 61))),
 zo 92 (.mov (.tmp 91)),
 zg 93 92 false (.mov (.tmp 6)),
 zg 94 92 false (.bin .eql (.tmp 93) (.cst (.int .u8 43))),
 zo 95 (.pick (.tmp 92) (.cst (.bool true)) (.tmp 94)),
 zo 96 (.mov (.tmp 95)),
 zg 97 96 false (.mov (.tmp 6)),
 zg 98 96 false (.bin .eql (.tmp 97) (.cst (.int .u8 42))),
 zo 99 (.pick (.tmp 96) (.cst (.bool true)) (.tmp 98)),
 zo 100 (.mov (.tmp 99)),
 zg 101 100 false (.mov (.tmp 6)),
 zg 102 100 false (.bin .eql (.tmp 101) (.cst (.int .u8 60))),
 zo 103 (.pick (.tmp 100) (.cst (.bool true)) (.tmp 102)),
 zo 104 (.mov (.tmp 103)),
 zg 105 104 false (.mov (.tmp 6)),
 zg 106 104 false (.bin .eql (.tmp 105) (.cst (.int .u8 45))),
 zo 107 (.pick (.tmp 104) (.cst (.bool true)) (.tmp 106)),
 zo 89 (.own 107)] [])
  (.cond (.tmp 89) (.seq (.region false [zo 108 (.mov (.tmp 1)),
 zo 109 (.mov (.tmp 0)),
 zo 110 (.mov (.tmp 1)),
 zo 111 (.mov (.tmp 1)),
 zo 112 (.bin .add (.tmp 111) (.cst (.int .i64 1))),
 zo 113 (.sstr (.tmp 109) (some (.tmp 110)) (some (.tmp 112))),
 zo 114 (.build [.int .i64 0, .int .i64 0, .str [], .int .i64 0, .int .i64 0, .int .i64 0, .str []] [(0, 1, .cst (.int .i64 4)), (1, 1, .tmp 108), (2, 1, .tmp 113)]),
 ⟨none, .store (.tmp 4) (.tmp 114) 7, none⟩,
 zo 5 (.mov (.cst (.bool true)))] [])
  .ret) (.seq (.region false [zo 116 (.mov (.tmp 6)),
 zo 117 (.bin .eql (.tmp 116) (.cst (.int .u8 91))),
 zo 115 (.own 117)] [])
  (.cond (.tmp 115) (.seq (.region false [zo 118 (.mov (.tmp 0)),
 zo 119 (.mov (.tmp 1)),
 zo 120 (.callq 24 [.tmp 118, .tmp 119]),
 zo 8 (.own 120)] [])
 (.seq (.seq (.region false [zo 121 (.mov (.tmp 8)),
 zo 122 (.bin .eql (.tmp 121) (.cst (.int .i64 0)))] [])
  (.cond (.tmp 122) (.seq (.region false [zo 123 (.build [.int .i64 0, .int .i64 0, .str [], .int .i64 0, .int .i64 0, .int .i64 0, .str []] []),
 ⟨none, .store (.tmp 4) (.tmp 123) 7, none⟩,
 zo 5 (.mov (.cst (.bool false)))] [])
  .ret) .skip))
 (.seq (.region false [zo 125 (.mov (.tmp 0)),
 zo 126 (.mov (.tmp 1)),
 zo 127 (.mov (.tmp 8)),
 zo 128 (.sstr (.tmp 125) (some (.tmp 126)) (some (.tmp 127))),
 zo 129 (.callq 25 [.tmp 128]),
 zo 124 (.mov (.tmp 129)),
 zo 130 (.ext 124 0),
 zo 131 (.ext 124 1),
 zo 9 (.alloc [.int .i64 0, .int .i64 0, .bool false]),
 ⟨none, .store (.tmp 9) (.tmp 130) 3, none⟩,
 zo 10 (.own 131)] [])
 (.seq (.region false [zo 132 (.mov (.tmp 1)),
 zo 133 (.mov (.tmp 0)),
 zo 134 (.mov (.tmp 1)),
 zo 135 (.mov (.tmp 8)),
 zo 136 (.sstr (.tmp 133) (some (.tmp 134)) (some (.tmp 135))),
 zo 137 (.build [.int .i64 0, .int .i64 0, .str [], .int .i64 0, .int .i64 0, .int .i64 0, .str []] [(0, 1, .cst (.int .i64 5)), (1, 1, .tmp 132), (2, 1, .tmp 136)]),
 zo 138 (.mov (.tmp 10)),
 ⟨none, .store (.tmp 4) (.tmp 137) 7, none⟩,
 zo 5 (.own 138)] [])
  .ret)))) (.seq (.region false [zo 140 (.mov (.tmp 6)),
 zo 141 (.bin .eql (.tmp 140) (.cst (.int .u8 34))),
 zo 139 (.own 141)] [])
  (.cond (.tmp 139) (.seq (.region false [zo 142 (.mov (.tmp 0)),
 zo 143 (.mov (.tmp 1)),
 zo 144 (.callq 26 [.tmp 142, .tmp 143]),
 zo 11 (.own 144)] [])
 (.seq (.seq (.region false [zo 145 (.mov (.tmp 11)),
 zo 146 (.bin .eql (.tmp 145) (.cst (.int .i64 0)))] [])
  (.cond (.tmp 146) (.seq (.region false [zo 147 (.build [.int .i64 0, .int .i64 0, .str [], .int .i64 0, .int .i64 0, .int .i64 0, .str []] []),
 ⟨none, .store (.tmp 4) (.tmp 147) 7, none⟩,
 zo 5 (.mov (.cst (.bool false)))] [])
  .ret) .skip))
 (.seq (.region false [zo 148 (.mov (.tmp 0)),
 zo 149 (.mov (.tmp 1)),
 zo 150 (.mov (.tmp 11)),
 zo 151 (.sstr (.tmp 148) (some (.tmp 149)) (some (.tmp 150))),
 zo 152 (.mov (.tmp 1)),
 zo 153 (.callq 27 [.tmp 151, .tmp 152]),
 zo 154 (.ext 153 0),
 zo 155 (.ext 153 1),
 ⟨none, .store (.tmp 4) (.tmp 154) 7, none⟩,
 zo 5 (.own 155)] [])
  .ret))) (.seq (.region false [zo 157 (.mov (.tmp 6)),
 zo 158 (.bin .eql (.tmp 157) (.cst (.int .u8 64))),
 zo 156 (.own 158)] [])
  (.cond (.tmp 156) (.seq (.region false [zo 159 (.mov (.tmp 0)),
 zo 160 (.mov (.tmp 1)),
 zo 161 (.bin .add (.tmp 160) (.cst (.int .i64 1))),
 zo 162 (.callq 28 [.tmp 159, .tmp 161]),
 zo 12 (.own 162)] [])
 (.seq (.region false [zo 164 (.mov (.tmp 0)),
 zo 165 (.mov (.tmp 1)),
 zo 166 (.bin .add (.tmp 165) (.cst (.int .i64 1))),
 zo 167 (.mov (.tmp 12)),
 zo 168 (.sstr (.tmp 164) (some (.tmp 166)) (some (.tmp 167))),
 zo 169 (.callq 29 [.tmp 168, .cst (.int .i64 1099511627776)]),
 zo 163 (.mov (.tmp 169)),
 zo 170 (.ext 163 0),
 zo 171 (.ext 163 1),
 zo 13 (.own 170),
 zo 14 (.own 171)] [])
 (.seq (.region false [zo 172 (.mov (.tmp 1)),
 zo 173 (.mov (.tmp 0)),
 zo 174 (.mov (.tmp 1)),
 zo 175 (.mov (.tmp 12)),
 zo 176 (.sstr (.tmp 173) (some (.tmp 174)) (some (.tmp 175))),
 zo 177 (.mov (.tmp 13)),
 zo 178 (.build [.int .i64 0, .int .i64 0, .int .i64 0, .str []] [(0, 1, .cst (.int .i64 1)), (1, 1, .tmp 177)]),
 zo 179 (.build [.int .i64 0, .int .i64 0, .str [], .int .i64 0, .int .i64 0, .int .i64 0, .str []] [(0, 1, .cst (.int .i64 7)), (1, 1, .tmp 172), (2, 1, .tmp 176), (3, 4, .tmp 178)]),
 zo 180 (.mov (.tmp 14)),
 ⟨none, .store (.tmp 4) (.tmp 179) 7, none⟩,
 zo 5 (.own 180)] [])
  .ret))) .skip)))))))))))))))))))
 (.seq (.region false [zo 181 (.build [.int .i64 0, .int .i64 0, .str [], .int .i64 0, .int .i64 0, .int .i64 0, .str []] []),
 ⟨none, .store (.tmp 4) (.tmp 181) 7, none⟩,
 zo 5 (.mov (.cst (.bool false)))] [])
  .ret))))
/-- custos/lex.behind -/
def x16 : XFn := XFn.mk 184 [.tmp 4, .tmp 5] (.seq (.region false [zo 4 (.mov (.cst (.int .i64 0))),
 zo 5 (.mov (.cst (.int .i64 0)))] [])
  (.scope (.seq (.region false [zo 9 (.mov (.tmp 1)),
 zo 10 (.bin .add (.tmp 9) (.cst (.int .i64 1))),
 zo 6 (.own 10)] [])
 (.seq (.region false [zo 7 (.mov (.cst (.int .i64 4)))] [])
 (.seq (.seq (.region false [zo 11 (.mov (.tmp 0)),
 zo 12 (.mov (.tmp 1)),
 zo 13 (.idxs (.tmp 11) (.tmp 12)),
 zo 8 (.own 13)] [])
  (.block 0 (.seq (.region false [zo 15 (.mov (.tmp 8)),
 zo 16 (.bin .eql (.tmp 15) (.cst (.int .u8 40))),
 zo 14 (.own 16)] [])
  (.cond (.tmp 14) (.seq (.region false [zo 17 (.mov (.tmp 6)),
 zo 4 (.mov (.cst (.int .i64 1))),
 zo 5 (.own 17)] [])
  .ret) (.seq (.region false [zo 19 (.mov (.tmp 8)),
 zo 20 (.bin .eql (.tmp 19) (.cst (.int .u8 41))),
 zo 18 (.own 20)] [])
  (.cond (.tmp 18) (.seq (.region false [zo 21 (.mov (.tmp 6)),
 zo 4 (.mov (.cst (.int .i64 2))),
 zo 5 (.own 21)] [])
  .ret) (.seq (.region false [zo 23 (.mov (.tmp 8)),
 zo 24 (.bin .geq (.tmp 23) (.cst (.int .u8 97))),
 zo 25 (.mov (.tmp 24)),
 zg 26 25 true (.mov (.tmp 8)),
 zg 27 25 true (.bin .leq (.tmp 26) (.cst (.int .u8 122))),
 zo 28 (.pick (.tmp 25) (.tmp 27) (.cst (.bool false))),
 zo 22 (.own 28)] [])
  (.cond (.tmp 22) (.goto 0) (.seq (.seq (.region false [zo 30 (.mov (.tmp 8)),
 zo 31 (.callq 30 [.tmp 30]),
 zo 29 (.own 31)] [])
  (.cond (.tmp 29) .skip (.region false [zo 32 (.mov (.tmp 8)),
 zo 33 (.bin .eql (.tmp 32) (.cst (.int .u8 45))),
 zo 34 (.mov (.tmp 33)),
 zg 35 34 true (.mov (.tmp 6)),
 zg 36 34 true (.mov (.tmp 0)),
 zg 37 34 true (.lens true (.tmp 36)),
 zg 38 34 true (.bin .lss (.tmp 35) (.tmp 37)),
 zo 39 (.pick (.tmp 34) (.tmp 38) (.cst (.bool false))),
 zo 40 (.mov (.tmp 39)),
 zg 41 40 true (.mov (.tmp 0)),
 zg 42 40 true (.mov (.tmp 6)),
 zg 43 40 true (.idxs (.tmp 41) (.tmp 42)),
 zg 44 40 true (.callq 30 [.tmp 43]),
 zo 45 (.pick (.tmp 40) (.tmp 44) (.cst (.bool false))),
 zo 29 (.own 45)] [])))
  (.cond (.tmp 29) (.seq (.region false [zo 7 (.mov (.cst (.int .i64 6)))] [])
  (.goto 1)) (.seq (.region false [zo 47 (.mov (.tmp 8)),
 zo 48 (.bin .eql (.tmp 47) (.cst (.int .u8 60))),
 zo 49 (.mov (.tmp 48)),
 zg 50 49 true (.mov (.tmp 6)),
 zg 51 49 true (.mov (.tmp 0)),
 zg 52 49 true (.lens true (.tmp 51)),
 zg 53 49 true (.bin .lss (.tmp 50) (.tmp 52)),
 zo 54 (.pick (.tmp 49) (.tmp 53) (.cst (.bool false))),
 zo 55 (.mov (.tmp 54)),
 zg 56 55 true (.mov (.tmp 0)),
 zg 57 55 true (.mov (.tmp 6)),
 zg 58 55 true (.idxs (.tmp 56) (.tmp 57)),
 zg 59 55 true (.bin .eql (.tmp 58) (.cst (.int .u8 61))),
 zo 60 (.pick (.tmp 55) (.tmp 59) (.cst (.bool false))),
 zo 46 (.own 60)] [])
  (.cond (.tmp 46) (.seq (.region false [zo 61 (.mov (.tmp 6)),
 zo 62 (.bin .add (.tmp 61) (.cst (.int .i64 1))),
 zo 4 (.mov (.cst (.int .i64 4))),
 zo 5 (.own 62)] [])
  .ret) (.seq (.region false [zo 64 (.mov (.tmp 8)),
 zo 65 (.callq 31 [.cst (.str [61, 43, 42, 60, 45]), .tmp 64]),
 zo 66 (.bin .geq (.tmp 65) (.cst (.int .i64 0))),
 zo 63 (.own 66)] [])
  (.cond (.tmp 63) (.seq (.region false [zo 67 (.mov (.tmp 6)),
 zo 4 (.mov (.cst (.int .i64 4))),
 zo 5 (.own 67)] [])
  .ret) (.seq (.region false [zo 69 (.mov (.tmp 8)),
 zo 70 (.bin .eql (.tmp 69) (.cst (.int .u8 91))),
 zo 68 (.own 70)] [])
  (.cond (.tmp 68) (.goto 2) (.seq (.region false [zo 72 (.mov (.tmp 8)),
 zo 73 (.bin .eql (.tmp 72) (.cst (.int .u8 34))),
 zo 71 (.own 73)] [])
  (.cond (.tmp 71) (.goto 3) (.seq (.region false [zo 75 (.mov (.tmp 8)),
 zo 76 (.bin .eql (.tmp 75) (.cst (.int .u8 64))),
 zo 74 (.own 76)] [])
  (.cond (.tmp 74) (.seq (.region false [zo 7 (.mov (.cst (.int .i64 7)))] [])
  (.goto 1)) .skip))))))))))))))))))))
 (.seq (.seq (.region false [zo 4 (.mov (.cst (.int .i64 0))),
 zo 5 (.mov (.cst (.int .i64 0)))] [])
  .ret)
 (.seq (.label 0)
 (.seq (.seq (.region false [zo 77 (.mov (.tmp 6)),
 zo 78 (.mov (.tmp 0)),
 zo 79 (.lens true (.tmp 78)),
 zo 80 (.bin .lss (.tmp 77) (.tmp 79)),
 zo 81 (.mov (.tmp 80)),
 zg 82 81 true (.mov (.tmp 0)),
 zg 83 81 true (.mov (.tmp 6)),
 zg 84 81 true (.idxs (.tmp 82) (.tmp 83)),
 zg 85 81 true (.bin .geq (.tmp 84) (.cst (.int .u8 97))),
 zg 86 81 true (.mov (.tmp 85)),
 zg 87 86 true (.mov (.tmp 0)),
 zg 88 86 true (.mov (.tmp 6)),
 zg 89 86 true (.idxs (.tmp 87) (.tmp 88)),
 zg 90 86 true (.bin .leq (.tmp 89) (.cst (.int .u8 122))),
 zg 91 81 true (.pick (.tmp 86) (.tmp 90) (.cst (.bool false))),
 zg 92 81 true (.mov (.tmp 91)),
 zg 93 92 false (.mov (.tmp 0)),
 zg 94 92 false (.mov (.tmp 6)),
 zg 95 92 false (.idxs (.tmp 93) (.tmp 94)),
 zg 96 92 false (.callq 30 [.tmp 95]),
 zg 97 81 true (.pick (.tmp 92) (.cst (.bool true)) (.tmp 96)),
 zg 98 81 true (.mov (.tmp 97)),
 zg 99 98 false (.mov (.tmp 0)),
 zg 100 98 false (.mov (.tmp 6)),
 zg 101 98 false (.idxs (.tmp 99) (.tmp 100)),
 zg 102 98 false (.bin .eql (.tmp 101) (.cst (.int .u8 95))),
 zg 103 81 true (.pick (.tmp 98) (.cst (.bool true)) (.tmp 102)),
 zo 104 (.pick (.tmp 81) (.tmp 103) (.cst (.bool false)))] [])
  (.cond (.tmp 104) (.seq (.region false [zo 105 (.mov (.tmp 6)),
 zo 106 (.bin .add (.tmp 105) (.cst (.int .i64 1))),
 zo 6 (.own 106)] [])
  (.goto 0)) .skip))
 (.seq (.seq (.region false [zo 107 (.mov (.tmp 6)),
 zo 4 (.mov (.cst (.int .i64 3))),
 zo 5 (.own 107)] [])
  .ret)
 (.seq (.label 1)
 (.seq (.seq (.region false [zo 108 (.mov (.tmp 6)),
 zo 109 (.mov (.tmp 0)),
 zo 110 (.lens true (.tmp 109)),
 zo 111 (.bin .lss (.tmp 108) (.tmp 110)),
 zo 112 (.mov (.tmp 111)),
 zg 113 112 true (.mov (.tmp 0)),
 zg 114 112 true (.mov (.tmp 6)),
 zg 115 112 true (.idxs (.tmp 113) (.tmp 114)),
 zg 116 112 true (.callq 30 [.tmp 115]),
 zo 117 (.pick (.tmp 112) (.tmp 116) (.cst (.bool false)))] [])
  (.cond (.tmp 117) (.seq (.region false [zo 118 (.mov (.tmp 6)),
 zo 119 (.bin .add (.tmp 118) (.cst (.int .i64 1))),
 zo 6 (.own 119)] [])
  (.goto 1)) .skip))
 (.seq (.seq (.region false [zo 120 (.mov (.tmp 7)),
 zo 121 (.bin .eql (.tmp 120) (.cst (.int .i64 6))),
 zo 122 (.mov (.tmp 121)),
 zg 123 122 true (.mov (.tmp 6)),
 zg 124 122 true (.bin .add (.tmp 123) (.cst (.int .i64 1))),
 zg 125 122 true (.mov (.tmp 0)),
 zg 126 122 true (.lens true (.tmp 125)),
 zg 127 122 true (.bin .lss (.tmp 124) (.tmp 126)),
 zo 128 (.pick (.tmp 122) (.tmp 127) (.cst (.bool false))),
 zo 129 (.mov (.tmp 128)),
 zg 130 129 true (.mov (.tmp 0)),
 zg 131 129 true (.mov (.tmp 6)),
 zg 132 129 true (.idxs (.tmp 130) (.tmp 131)),
 zg 133 129 true (.bin .eql (.tmp 132) (.cst (.int .u8 47))),
 zo 134 (.pick (.tmp 129) (.tmp 133) (.cst (.bool false))),
 zo 135 (.mov (.tmp 134)),
 zg 136 135 true (.mov (.tmp 0)),
 zg 137 135 true (.mov (.tmp 6)),
 zg 138 135 true (.bin .add (.tmp 137) (.cst (.int .i64 1))),
 zg 139 135 true (.idxs (.tmp 136) (.tmp 138)),
 zg 140 135 true (.callq 30 [.tmp 139]),
 zo 141 (.pick (.tmp 135) (.tmp 140) (.cst (.bool false))),
 zo 142 (.mov (.tmp 141)),
 zg 143 142 true (.mov (.tmp 0)),
 zg 144 142 true (.mov (.tmp 1)),
 zg 145 142 true (.mov (.tmp 6)),
 zg 146 142 true (.sstr (.tmp 143) (some (.tmp 144)) (some (.tmp 145))),
 zg 147 142 true (.callq 32 [.tmp 146, .cst (.str [47])]),
 zg 148 142 true (.not (.tmp 147)),
 zo 149 (.pick (.tmp 142) (.tmp 148) (.cst (.bool false)))] [])
  (.cond (.tmp 149) (.seq (.region false [zo 150 (.mov (.tmp 6)),
 zo 151 (.bin .add (.tmp 150) (.cst (.int .i64 1))),
 zo 6 (.own 151)] [])
  (.goto 1)) .skip))
 (.seq (.seq (.region false [zo 152 (.mov (.tmp 7)),
 zo 153 (.mov (.tmp 6)),
 zo 4 (.own 152),
 zo 5 (.own 153)] [])
  .ret)
 (.seq (.label 3)
 (.seq (.seq (.region false [zo 154 (.mov (.tmp 6)),
 zo 155 (.mov (.tmp 0)),
 zo 156 (.lens true (.tmp 155)),
 zo 157 (.bin .geq (.tmp 154) (.tmp 156))] [])
  (.cond (.tmp 157) (.seq (.region false [zo 4 (.mov (.cst (.int .i64 0))),
 zo 5 (.mov (.cst (.int .i64 0)))] [])
  .ret) .skip))
 (.seq (.seq (.region false [zo 158 (.mov (.tmp 0)),
 zo 159 (.mov (.tmp 6)),
 zo 160 (.idxs (.tmp 158) (.tmp 159)),
 zo 161 (.bin .neq (.tmp 160) (.cst (.int .u8 34)))] [])
  (.cond (.tmp 161) (.seq (.seq (.region false [zo 162 (.mov (.tmp 0)),
 zo 163 (.mov (.tmp 6)),
 zo 164 (.idxs (.tmp 162) (.tmp 163)),
 zo 165 (.bin .eql (.tmp 164) (.cst (.int .u8 92)))] [])
  (.cond (.tmp 165) (.region false [zo 166 (.mov (.tmp 6)),
 zo 167 (.bin .add (.tmp 166) (.cst (.int .i64 1))),
 zo 6 (.own 167)] []) .skip))
 (.seq (.region false [zo 168 (.mov (.tmp 6)),
 zo 169 (.bin .add (.tmp 168) (.cst (.int .i64 1))),
 zo 6 (.own 169)] [])
  (.goto 3))) .skip))
 (.seq (.seq (.region false [zo 170 (.mov (.tmp 6)),
 zo 171 (.bin .add (.tmp 170) (.cst (.int .i64 1))),
 zo 4 (.mov (.cst (.int .i64 6))),
 zo 5 (.own 171)] [])
  .ret)
 (.seq (.label 2)
 (.seq (.seq (.region false [zo 172 (.mov (.tmp 6)),
 zo 173 (.mov (.tmp 0)),
 zo 174 (.lens true (.tmp 173)),
 zo 175 (.bin .eql (.tmp 172) (.tmp 174))] [])
  (.cond (.tmp 175) (.seq (.region false [zo 4 (.mov (.cst (.int .i64 0))),
 zo 5 (.mov (.cst (.int .i64 0)))] [])
  .ret) .skip))
 (.seq (.region false [zo 176 (.mov (.tmp 6)),
 zo 177 (.bin .add (.tmp 176) (.cst (.int .i64 1))),
 zo 6 (.own 177)] [])
 (.seq (.seq (.region false [zo 178 (.mov (.tmp 0)),
 zo 179 (.mov (.tmp 6)),
 zo 180 (.bin .sub (.tmp 179) (.cst (.int .i64 1))),
 zo 181 (.idxs (.tmp 178) (.tmp 180)),
 zo 182 (.bin .neq (.tmp 181) (.cst (.int .u8 93)))] [])
  (.cond (.tmp 182) (.goto 2) .skip))
 (.seq (.region false [zo 183 (.mov (.tmp 6)),
 zo 4 (.mov (.cst (.int .i64 5))),
 zo 5 (.own 183)] [])
  .ret))))))))))))))))))))))
/-- custos/lex.ends -/
def x17 : XFn := XFn.mk 44 [.tmp 2] (.seq (.region false [zo 2 (.mov (.cst (.bool false)))] [])
 (.seq (.region false [zo 11 (.mov (.tmp 0)),
 zo 12 (.sstr (.tmp 11) (some (.cst (.int .i64 1))) none),
 zo 13 (.callq 34 [.tmp 12, .cst (.str [93])]),
 zo 14 (.callq 33 [.tmp 13, .cst (.str [44])]),
 zo 10 (.mov (.tmp 14)),
 zo 15 (.ext 10 0),
 zo 16 (.ext 10 1),
 zo 17 (.ext 10 2),
 zo 3 (.own 15),
 zo 4 (.own 16),
 zo 5 (.own 17)] [])
 (.seq (.region false [zo 19 (.mov (.tmp 3)),
 zo 20 (.callq 19 [.tmp 19]),
 zo 18 (.mov (.tmp 20)),
 zo 21 (.ext 18 0),
 zo 22 (.ext 18 1),
 zo 6 (.own 21),
 zo 7 (.own 22)] [])
 (.seq (.seq (.region false [zo 23 (.mov (.tmp 5)),
 zo 24 (.not (.tmp 23)),
 zo 25 (.mov (.tmp 24)),
 zg 26 25 false (.mov (.tmp 7)),
 zg 27 25 false (.not (.tmp 26)),
 zo 28 (.pick (.tmp 25) (.cst (.bool true)) (.tmp 27))] [])
  (.cond (.tmp 28) (.seq (.region false [zo 2 (.mov (.cst (.bool false)))] [])
  .ret) .skip))
 (.seq (.region false [zo 30 (.mov (.tmp 4)),
 zo 31 (.callq 19 [.tmp 30]),
 zo 29 (.mov (.tmp 31)),
 zo 32 (.ext 29 0),
 zo 33 (.ext 29 1),
 zo 8 (.own 32),
 zo 9 (.own 33)] [])
 (.seq (.region false [zo 34 (.mov (.tmp 4)),
 zo 35 (.bin .eql (.tmp 34) (.cst (.str [42]))),
 zo 36 (.mov (.tmp 35)),
 zg 37 36 false (.mov (.tmp 9)),
 zg 38 36 false (.mov (.tmp 37)),
 zg 39 38 true (.mov (.tmp 6)),
 zg 40 38 true (.mov (.tmp 8)),
 zg 41 38 true (.bin .leq (.tmp 39) (.tmp 40)),
 zg 42 36 false (.pick (.tmp 38) (.tmp 41) (.cst (.bool false))),
 zo 43 (.pick (.tmp 36) (.cst (.bool true)) (.tmp 42)),
 zo 2 (.own 43)] [])
  .ret))))))
/-- custos/value.Parse -/
def x18 : XFn := XFn.mk 63 [.cell 2 4 true, .tmp 3] (.seq (.region false [zo 2 (.alloc [.int .i64 0, .int .i64 0, .int .i64 0, .str []]),
 zo 3 (.mov (.cst (.int .i64 0)))] [])
 (.seq (.seq (.region false [zo 11 (.mov (.tmp 0)),
 zo 12 (.callq 35 [.tmp 11, .cst (.str [34])])] [])
  (.cond (.tmp 12) (.seq (.region false [zo 13 (.mov (.tmp 0)),
 zo 14 (.callq 36 [.tmp 13]),
 zo 4 (.own 14)] [])
 (.seq (.block 0 (.seq (.region false [zo 16 (.mov (.tmp 4)),
 zo 17 (.callq 37 [.tmp 16]),
 zo 18 (.mov (.tmp 0)),
 zo 19 (.bin .neq (.tmp 17) (.tmp 18)),
 zo 15 (.own 19)] [])
  (.cond (.tmp 15) (.seq (.region false [zo 20 (.build [.int .i64 0, .int .i64 0, .int .i64 0, .str []] []),
 ⟨none, .store (.tmp 2) (.tmp 20) 4, none⟩,
 zo 3 (.mov (.cst (.int .i64 70)))] [])
  .ret) (.seq (.region false [zo 22 (.mov (.tmp 4)),
 zo 23 (.lens true (.tmp 22)),
 zo 24 (.bin .gtr (.tmp 23) (.cst (.int .i64 64))),
 zo 21 (.own 24)] [])
  (.cond (.tmp 21) (.seq (.region false [zo 25 (.build [.int .i64 0, .int .i64 0, .int .i64 0, .str []] []),
 ⟨none, .store (.tmp 2) (.tmp 25) 4, none⟩,
 zo 3 (.mov (.cst (.int .i64 2)))] [])
  .ret) .skip)))))
 (.seq (.region false [zo 26 (.mov (.tmp 4)),
 zo 27 (.build [.int .i64 0, .int .i64 0, .int .i64 0, .str []] [(0, 1, .cst (.int .i64 3)), (3, 1, .tmp 26)]),
 ⟨none, .store (.tmp 2) (.tmp 27) 4, none⟩,
 zo 3 (.mov (.cst (.int .i64 0)))] [])
  .ret))) .skip))
 (.seq (.region false [zo 28 (.build [.int .i64 0, .int .i64 0, .int .i64 0, .str []] [(0, 1, .cst (.int .i64 1))]),
 zo 5 (.alloc [.int .i64 0, .int .i64 0, .int .i64 0, .str []]),
 ⟨none, .store (.tmp 5) (.tmp 28) 4, none⟩] [])
 (.seq (.region false [zo 30 (.mov (.tmp 0)),
 zo 31 (.callq 33 [.tmp 30, .cst (.str [47])]),
 zo 29 (.mov (.tmp 31)),
 zo 32 (.ext 29 0),
 zo 33 (.ext 29 1),
 zo 34 (.ext 29 2),
 zo 6 (.own 32),
 zo 7 (.own 33),
 zo 8 (.own 34)] [])
 (.seq (.region false [zo 36 (.mov (.tmp 6)),
 zo 37 (.prim 1081 38 [.tmp 36, .cst (.int .i64 10), .cst (.int .i64 64)]),
 zo 35 (.mov (.tmp 37)),
 zo 38 (.ext 35 0),
 zo 39 (.ext 35 1),
 zo 40 (.faddr (.tmp 5) 1),
 ⟨none, .store (.tmp 40) (.tmp 38) 1, none⟩] [])
 (.seq (.seq (.region false [zo 41 (.mov (.tmp 8))] [])
  (.cond (.tmp 41) (.seq (.region false [zo 42 (.faddr (.tmp 5) 0),
 ⟨none, .store (.tmp 42) (.cst (.int .i64 2)) 1, none⟩] [])
  (.region false [zo 44 (.mov (.tmp 7)),
 zo 45 (.prim 1081 38 [.tmp 44, .cst (.int .i64 10), .cst (.int .i64 64)]),
 zo 43 (.mov (.tmp 45)),
 zo 46 (.ext 43 0),
 zo 47 (.ext 43 1),
 zo 48 (.faddr (.tmp 5) 2),
 ⟨none, .store (.tmp 48) (.tmp 46) 1, none⟩] [])) .skip))
 (.seq (.seq (.region false [zo 50 (.load (.tmp 5) 4 true),
 zo 51 (.callq 39 [.tmp 50]),
 zo 49 (.mov (.tmp 51)),
 zo 52 (.ext 49 0),
 zo 53 (.ext 49 1),
 zo 9 (.own 52),
 zo 10 (.own 53)] [])
 (.seq (.region false [zo 54 (.mov (.tmp 10)),
 zo 55 (.bin .neq (.tmp 54) (.cst (.int .i64 0))),
 zo 56 (.mov (.tmp 55)),
 zg 57 56 false (.mov (.tmp 9)),
 zg 58 56 false (.mov (.tmp 0)),
 zg 59 56 false (.bin .neq (.tmp 57) (.tmp 58)),
 zo 60 (.pick (.tmp 56) (.cst (.bool true)) (.tmp 59))] [])
  (.cond (.tmp 60) (.seq (.region false [zo 61 (.build [.int .i64 0, .int .i64 0, .int .i64 0, .str []] []),
 ⟨none, .store (.tmp 2) (.tmp 61) 4, none⟩,
 zo 3 (.mov (.cst (.int .i64 70)))] [])
  .ret) .skip)))
 (.seq (.region false [zo 62 (.load (.tmp 5) 4 true),
 ⟨none, .store (.tmp 2) (.tmp 62) 4, none⟩,
 zo 3 (.mov (.cst (.int .i64 0)))] [])
  .ret))))))))
/-- custos/lex.number -/
def x19 : XFn := XFn.mk 28 [.tmp 2, .tmp 3] (.seq (.region false [zo 2 (.mov (.cst (.int .i64 0))),
 zo 3 (.mov (.cst (.bool false)))] [])
 (.seq (.region false [zo 7 (.mov (.tmp 0)),
 zo 8 (.prim 1081 38 [.tmp 7, .cst (.int .i64 10), .cst (.int .i64 64)]),
 zo 6 (.mov (.tmp 8)),
 zo 9 (.ext 6 0),
 zo 10 (.ext 6 1),
 zo 4 (.own 9),
 zo 5 (.own 10)] [])
 (.seq (.region false [zo 11 (.mov (.tmp 4)),
 zo 12 (.mov (.tmp 5)),
 zo 13 (.eqnil 0 false (.tmp 12)),
 zo 14 (.mov (.tmp 13)),
 zg 15 14 true (.mov (.tmp 4)),
 zg 16 14 true (.bin .leq (.tmp 15) (.cst (.int .i64 1099511627776))),
 zo 17 (.pick (.tmp 14) (.tmp 16) (.cst (.bool false))),
 zo 18 (.mov (.tmp 17)),
 zg 19 18 true (.mov (.tmp 4)),
 zg 20 18 true (.prim 5 40 [.tmp 19, .cst (.int .i64 10)]),
 zg 21 18 true (.mov (.tmp 0)),
 zg 22 18 true (.bin .eql (.tmp 20) (.tmp 21)),
 zo 23 (.pick (.tmp 18) (.tmp 22) (.cst (.bool false))),
 zo 24 (.mov (.tmp 23)),
 zg 25 24 true (.mov (.tmp 4)),
 zg 26 24 true (.bin .geq (.tmp 25) (.cst (.int .i64 0))),
 zo 27 (.pick (.tmp 24) (.tmp 26) (.cst (.bool false))),
 zo 2 (.own 11),
 zo 3 (.own 27)] [])
  .ret)))
/-- custos/custosref05.small -/
def x20 : XFn := XFn.mk 9 [.tmp 2] (.seq (.region false [zo 2 (.mov (.cst (.bool false)))] [])
 (.seq (.region false [zo 3 (.mov (.tmp 0)),
 zo 4 (.bin .geq (.tmp 3) (.cst (.int .u8 97))),
 zo 5 (.mov (.tmp 4)),
 zg 6 5 true (.mov (.tmp 0)),
 zg 7 5 true (.bin .leq (.tmp 6) (.cst (.int .u8 122))),
 zo 8 (.pick (.tmp 5) (.tmp 7) (.cst (.bool false))),
 zo 2 (.own 8)] [])
  .ret))
def x21_r0 : XCode := .seq (.seq (.region false [zo 5 (.mov (.tmp 1)),
 zo 6 (.mov (.tmp 0)),
 zo 7 (.lens true (.tmp 6)),
 zo 8 (.bin .lss (.tmp 5) (.tmp 7)),
 zo 9 (.mov (.tmp 8)),
 zg 10 9 true (.mov (.tmp 0)),
 zg 11 9 true (.mov (.tmp 1)),
 zg 12 9 true (.idxs (.tmp 10) (.tmp 11)),
 zg 13 9 true (.callq 20 [.tmp 12]),
 zg 14 9 true (.mov (.tmp 13)),
 zg 15 14 false (.mov (.tmp 0)),
 zg 16 14 false (.mov (.tmp 1)),
 zg 17 14 false (.idxs (.tmp 15) (.tmp 16)),
 zg 18 14 false (.callq 22 [.tmp 17]),
 zg 19 9 true (.pick (.tmp 14) (.cst (.bool true)) (.tmp 18)),
 zg 20 9 true (.mov (.tmp 19)),
 zg 21 20 false (.mov (.tmp 0)),
 zg 22 20 false (.mov (.tmp 1)),
 zg 23 20 false (.idxs (.tmp 21) (.tmp 22)),
 zg 24 20 false (.bin .eql (.tmp 23) (.cst (.int .u8 95))),
 zg 25 9 true (.pick (.tmp 20) (.cst (.bool true)) (.tmp 24)),
 zo 26 (.pick (.tmp 9) (.tmp 25) (.cst (.bool false)))] [])
  (.cond (.tmp 26) .skip (.exit 0)))
  (.block 1 (.region false [zo 27 (.mov (.tmp 1)),
 zo 28 (.bin .add (.tmp 27) (.cst (.int .i64 1))),
 zo 1 (.own 28)] []))
def x21_l0 : XCode := x21_r0
/-- custos/custosref05.word -/
def x21 : XFn := XFn.mk 30 [.tmp 4] (.seq (.region false [zo 4 (.mov (.cst (.int .i64 0)))] [])
 (.seq (.block 0 (.loop x21_l0))
 (.seq (.region false [zo 29 (.mov (.tmp 1)),
 zo 4 (.own 29)] [])
  .ret)))
/-- custos/custosref05.digit -/
def x22 : XFn := XFn.mk 9 [.tmp 2] (.seq (.region false [zo 2 (.mov (.cst (.bool false)))] [])
 (.seq (.region false [zo 3 (.mov (.tmp 0)),
 zo 4 (.bin .geq (.tmp 3) (.cst (.int .u8 48))),
 zo 5 (.mov (.tmp 4)),
 zg 6 5 true (.mov (.tmp 0)),
 zg 7 5 true (.bin .leq (.tmp 6) (.cst (.int .u8 57))),
 zo 8 (.pick (.tmp 5) (.tmp 7) (.cst (.bool false))),
 zo 2 (.own 8)] [])
  .ret))
/-- custos/custosref05.number -/
def x23 : XFn := XFn.mk 41 [.cell 4 7 true, .tmp 5] (.seq (.region false [zo 4 (.alloc [.int .i64 0, .int .i64 0, .str [], .int .i64 0, .int .i64 0, .int .i64 0, .str []]),
 zo 5 (.mov (.cst (.bool false)))] [])
 (.seq (.region false [zo 7 (.mov (.tmp 0)),
 zo 8 (.mov (.tmp 1)),
 zo 9 (.bin .add (.tmp 8) (.cst (.int .i64 1))),
 zo 10 (.callq 28 [.tmp 7, .tmp 9]),
 zo 6 (.own 10)] [])
 (.seq (.seq (.region false [zo 11 (.mov (.tmp 6)),
 zo 12 (.bin .add (.tmp 11) (.cst (.int .i64 1))),
 zo 13 (.mov (.tmp 0)),
 zo 14 (.lens true (.tmp 13)),
 zo 15 (.bin .lss (.tmp 12) (.tmp 14)),
 zo 16 (.mov (.tmp 15)),
 zg 17 16 true (.mov (.tmp 0)),
 zg 18 16 true (.mov (.tmp 6)),
 zg 19 16 true (.idxs (.tmp 17) (.tmp 18)),
 zg 20 16 true (.bin .eql (.tmp 19) (.cst (.int .u8 47))),
 zo 21 (.pick (.tmp 16) (.tmp 20) (.cst (.bool false))),
 zo 22 (.mov (.tmp 21)),
 zg 23 22 true (.mov (.tmp 0)),
 zg 24 22 true (.mov (.tmp 6)),
 zg 25 22 true (.bin .add (.tmp 24) (.cst (.int .i64 1))),
 zg 26 22 true (.idxs (.tmp 23) (.tmp 25)),
 zg 27 22 true (.callq 22 [.tmp 26]),
 zo 28 (.pick (.tmp 22) (.tmp 27) (.cst (.bool false)))] [])
  (.cond (.tmp 28) (.region false [zo 29 (.mov (.tmp 0)),
 zo 30 (.mov (.tmp 6)),
 zo 31 (.bin .add (.tmp 30) (.cst (.int .i64 1))),
 zo 32 (.callq 28 [.tmp 29, .tmp 31]),
 zo 6 (.own 32)] []) .skip))
 (.seq (.region false [zo 33 (.mov (.tmp 0)),
 zo 34 (.mov (.tmp 1)),
 zo 35 (.mov (.tmp 6)),
 zo 36 (.sstr (.tmp 33) (some (.tmp 34)) (some (.tmp 35))),
 zo 37 (.mov (.tmp 1)),
 zo 38 (.callq 27 [.tmp 36, .tmp 37]),
 zo 39 (.ext 38 0),
 zo 40 (.ext 38 1),
 ⟨none, .store (.tmp 4) (.tmp 39) 7, none⟩,
 zo 5 (.own 40)] [])
  .ret))))
def x24_r0 : XCode := .seq (.seq (.region false [zo 7 (.mov (.tmp 5)),
 zo 8 (.mov (.tmp 0)),
 zo 9 (.lens true (.tmp 8)),
 zo 10 (.bin .lss (.tmp 7) (.tmp 9))] [])
  (.cond (.tmp 10) .skip (.exit 0)))
 (.seq (.block 1 (.seq (.region false [zo 13 (.mov (.tmp 0)),
 zo 14 (.mov (.tmp 5)),
 zo 15 (.idxs (.tmp 13) (.tmp 14)),
 zo 16 (.bin .eql (.tmp 15) (.cst (.int .u8 93)))] [])
  (.cond (.tmp 16) (.seq (.region false [zo 17 (.mov (.tmp 5)),
 zo 18 (.bin .add (.tmp 17) (.cst (.int .i64 1))),
 zo 4 (.own 18)] [])
  .ret) .skip)))
  (.region false [zo 11 (.mov (.tmp 5)),
 zo 12 (.bin .add (.tmp 11) (.cst (.int .i64 1))),
 zo 5 (.own 12)] []))
def x24_l0 : XCode := x24_r0
/-- custos/custosref05.bracket -/
def x24 : XFn := XFn.mk 19 [.tmp 4] (.seq (.region false [zo 4 (.mov (.cst (.int .i64 0)))] [])
 (.seq (.seq (.region false [zo 6 (.mov (.tmp 1)),
 zo 5 (.own 6)] [])
  (.block 0 (.loop x24_l0)))
 (.seq (.region false [zo 4 (.mov (.cst (.int .i64 0)))] [])
  .ret)))
def x25_r0 : XCode := .seq (.seq (.region false [zo 10 (.mov (.tmp 4)),
 zo 11 (.mov (.tmp 0)),
 zo 12 (.lens true (.tmp 11)),
 zo 13 (.bin .lss (.tmp 10) (.tmp 12)),
 zo 14 (.mov (.tmp 13)),
 zg 15 14 true (.mov (.tmp 0)),
 zg 16 14 true (.mov (.tmp 4)),
 zg 17 14 true (.idxs (.tmp 15) (.tmp 16)),
 zg 18 14 true (.bin .neq (.tmp 17) (.cst (.int .u8 44))),
 zo 19 (.pick (.tmp 14) (.tmp 18) (.cst (.bool false)))] [])
  (.cond (.tmp 19) .skip (.exit 0)))
  (.block 1 (.region false [zo 20 (.mov (.tmp 4)),
 zo 21 (.bin .add (.tmp 20) (.cst (.int .i64 1))),
 zo 4 (.own 21)] []))
def x25_l0 : XCode := x25_r0
/-- custos/custosref05.Ends -/
def x25 : XFn := XFn.mk 83 [.cell 2 3 true, .tmp 3] (.seq (.region false [zo 2 (.alloc [.int .i64 0, .int .i64 0, .bool false]),
 zo 3 (.mov (.cst (.bool false)))] [])
 (.seq (.region false [zo 4 (.mov (.cst (.int .i64 0)))] [])
 (.seq (.block 0 (.loop x25_l0))
 (.seq (.seq (.region false [zo 22 (.mov (.tmp 0)),
 zo 23 (.lens true (.tmp 22)),
 zo 24 (.bin .lss (.tmp 23) (.cst (.int .i64 5))),
 zo 25 (.mov (.tmp 24)),
 zg 26 25 false (.mov (.tmp 4)),
 zg 27 25 false (.mov (.tmp 0)),
 zg 28 25 false (.lens true (.tmp 27)),
 zg 29 25 false (.bin .sub (.tmp 28) (.cst (.int .i64 3))),
 zg 30 25 false (.bin .gtr (.tmp 26) (.tmp 29)),
 zo 31 (.pick (.tmp 25) (.cst (.bool true)) (.tmp 30)),
 zo 32 (.mov (.tmp 31)),
 zg 33 32 false (.mov (.tmp 0)),
 zg 34 32 false (.idxs (.tmp 33) (.cst (.int .i64 0))),
 zg 35 32 false (.bin .neq (.tmp 34) (.cst (.int .u8 91))),
 zo 36 (.pick (.tmp 32) (.cst (.bool true)) (.tmp 35)),
 zo 37 (.mov (.tmp 36)),
 zg 38 37 false (.mov (.tmp 0)),
 zg 39 37 false (.mov (.tmp 0)),
 zg 40 37 false (.lens true (.tmp 39)),
 zg 41 37 false (.bin .sub (.tmp 40) (.cst (.int .i64 1))),
 zg 42 37 false (.idxs (.tmp 38) (.tmp 41)),
 zg 43 37 false (.bin .neq (.tmp 42) (.cst (.int .u8 93))),
 zo 44 (.pick (.tmp 37) (.cst (.bool true)) (.tmp 43))] [])
  (.cond (.tmp 44) (.seq (.region false [zo 45 (.build [.int .i64 0, .int .i64 0, .bool false] []),
 ⟨none, .store (.tmp 2) (.tmp 45) 3, none⟩,
 zo 3 (.mov (.cst (.bool false)))] [])
  .ret) .skip))
 (.seq (.region false [zo 47 (.mov (.tmp 0)),
 zo 48 (.mov (.tmp 4)),
 zo 49 (.sstr (.tmp 47) (some (.cst (.int .i64 1))) (some (.tmp 48))),
 zo 50 (.callq 29 [.tmp 49, .cst (.int .i64 1099511627776)]),
 zo 46 (.mov (.tmp 50)),
 zo 51 (.ext 46 0),
 zo 52 (.ext 46 1),
 zo 5 (.own 51),
 zo 6 (.own 52)] [])
 (.seq (.seq (.region false [zo 53 (.mov (.tmp 6)),
 zo 54 (.not (.tmp 53))] [])
  (.cond (.tmp 54) (.seq (.region false [zo 55 (.build [.int .i64 0, .int .i64 0, .bool false] []),
 ⟨none, .store (.tmp 2) (.tmp 55) 3, none⟩,
 zo 3 (.mov (.cst (.bool false)))] [])
  .ret) .skip))
 (.seq (.region false [zo 56 (.mov (.tmp 0)),
 zo 57 (.mov (.tmp 4)),
 zo 58 (.bin .add (.tmp 57) (.cst (.int .i64 1))),
 zo 59 (.mov (.tmp 0)),
 zo 60 (.lens true (.tmp 59)),
 zo 61 (.bin .sub (.tmp 60) (.cst (.int .i64 1))),
 zo 62 (.sstr (.tmp 56) (some (.tmp 58)) (some (.tmp 61))),
 zo 7 (.own 62)] [])
 (.seq (.seq (.region false [zo 63 (.mov (.tmp 7)),
 zo 64 (.bin .eql (.tmp 63) (.cst (.str [42])))] [])
  (.cond (.tmp 64) (.seq (.region false [zo 65 (.mov (.tmp 5)),
 zo 66 (.build [.int .i64 0, .int .i64 0, .bool false] [(0, 1, .tmp 65), (2, 1, .cst (.bool true))]),
 ⟨none, .store (.tmp 2) (.tmp 66) 3, none⟩,
 zo 3 (.mov (.cst (.bool true)))] [])
  .ret) .skip))
 (.seq (.region false [zo 68 (.mov (.tmp 7)),
 zo 69 (.callq 29 [.tmp 68, .cst (.int .i64 1099511627776)]),
 zo 67 (.mov (.tmp 69)),
 zo 70 (.ext 67 0),
 zo 71 (.ext 67 1),
 zo 8 (.own 70),
 zo 9 (.own 71)] [])
 (.seq (.seq (.region false [zo 72 (.mov (.tmp 9)),
 zo 73 (.not (.tmp 72)),
 zo 74 (.mov (.tmp 73)),
 zg 75 74 false (.mov (.tmp 5)),
 zg 76 74 false (.mov (.tmp 8)),
 zg 77 74 false (.bin .gtr (.tmp 75) (.tmp 76)),
 zo 78 (.pick (.tmp 74) (.cst (.bool true)) (.tmp 77))] [])
  (.cond (.tmp 78) (.seq (.region false [zo 79 (.build [.int .i64 0, .int .i64 0, .bool false] []),
 ⟨none, .store (.tmp 2) (.tmp 79) 3, none⟩,
 zo 3 (.mov (.cst (.bool false)))] [])
  .ret) .skip))
 (.seq (.region false [zo 80 (.mov (.tmp 5)),
 zo 81 (.mov (.tmp 8)),
 zo 82 (.build [.int .i64 0, .int .i64 0, .bool false] [(0, 1, .tmp 80), (1, 1, .tmp 81)]),
 ⟨none, .store (.tmp 2) (.tmp 82) 3, none⟩,
 zo 3 (.mov (.cst (.bool true)))] [])
  .ret)))))))))))
def x26_r0 : XCode := .seq (.seq (.region false [zo 8 (.mov (.tmp 5)),
 zo 9 (.mov (.tmp 0)),
 zo 10 (.lens true (.tmp 9)),
 zo 11 (.bin .lss (.tmp 8) (.tmp 10))] [])
  (.cond (.tmp 11) .skip (.exit 0)))
  (.block 1 (.seq (.seq (.region false [zo 12 (.mov (.tmp 0)),
 zo 13 (.mov (.tmp 5)),
 zo 14 (.idxs (.tmp 12) (.tmp 13)),
 zo 15 (.bin .eql (.tmp 14) (.cst (.int .u8 34)))] [])
  (.cond (.tmp 15) (.seq (.region false [zo 16 (.mov (.tmp 5)),
 zo 17 (.bin .add (.tmp 16) (.cst (.int .i64 1))),
 zo 4 (.own 17)] [])
  .ret) .skip))
 (.seq (.seq (.region false [zo 18 (.mov (.tmp 0)),
 zo 19 (.mov (.tmp 5)),
 zo 20 (.idxs (.tmp 18) (.tmp 19)),
 zo 21 (.bin .eql (.tmp 20) (.cst (.int .u8 92)))] [])
  (.cond (.tmp 21) (.region false [zo 22 (.mov (.tmp 5)),
 zo 23 (.bin .add (.tmp 22) (.cst (.int .i64 1))),
 zo 5 (.own 23)] []) .skip))
  (.region false [zo 24 (.mov (.tmp 5)),
 zo 25 (.bin .add (.tmp 24) (.cst (.int .i64 1))),
 zo 5 (.own 25)] []))))
def x26_l0 : XCode := x26_r0
/-- custos/custosref05.quote -/
def x26 : XFn := XFn.mk 26 [.tmp 4] (.seq (.region false [zo 4 (.mov (.cst (.int .i64 0)))] [])
 (.seq (.region false [zo 6 (.mov (.tmp 1)),
 zo 7 (.bin .add (.tmp 6) (.cst (.int .i64 1))),
 zo 5 (.own 7)] [])
 (.seq (.block 0 (.loop x26_l0))
 (.seq (.region false [zo 4 (.mov (.cst (.int .i64 0)))] [])
  .ret))))
/-- custos/custosref05.valued -/
def x27 : XFn := XFn.mk 19 [.cell 4 7 true, .tmp 5] (.seq (.region false [zo 4 (.alloc [.int .i64 0, .int .i64 0, .str [], .int .i64 0, .int .i64 0, .int .i64 0, .str []]),
 zo 5 (.mov (.cst (.bool false)))] [])
 (.seq (.region false [zo 9 (.mov (.tmp 0)),
 zo 10 (.callq 41 [.tmp 9]),
 zo 8 (.mov (.tmp 10)),
 zo 11 (.ext 8 0),
 zo 12 (.ext 8 1),
 zo 6 (.alloc [.int .i64 0, .int .i64 0, .int .i64 0, .str []]),
 ⟨none, .store (.tmp 6) (.tmp 11) 4, none⟩,
 zo 7 (.own 12)] [])
 (.seq (.region false [zo 13 (.mov (.tmp 1)),
 zo 14 (.mov (.tmp 0)),
 zo 15 (.load (.tmp 6) 4 true),
 zo 16 (.build [.int .i64 0, .int .i64 0, .str [], .int .i64 0, .int .i64 0, .int .i64 0, .str []] [(0, 1, .cst (.int .i64 6)), (1, 1, .tmp 13), (2, 1, .tmp 14), (3, 4, .tmp 15)]),
 zo 17 (.mov (.tmp 7)),
 zo 18 (.bin .eql (.tmp 17) (.cst (.int .i64 0))),
 ⟨none, .store (.tmp 4) (.tmp 16) 7, none⟩,
 zo 5 (.own 18)] [])
  .ret)))
def x28_r0 : XCode := .seq (.seq (.region false [zo 5 (.mov (.tmp 1)),
 zo 6 (.mov (.tmp 0)),
 zo 7 (.lens true (.tmp 6)),
 zo 8 (.bin .lss (.tmp 5) (.tmp 7)),
 zo 9 (.mov (.tmp 8)),
 zg 10 9 true (.mov (.tmp 0)),
 zg 11 9 true (.mov (.tmp 1)),
 zg 12 9 true (.idxs (.tmp 10) (.tmp 11)),
 zg 13 9 true (.callq 22 [.tmp 12]),
 zo 14 (.pick (.tmp 9) (.tmp 13) (.cst (.bool false)))] [])
  (.cond (.tmp 14) .skip (.exit 0)))
  (.block 1 (.region false [zo 15 (.mov (.tmp 1)),
 zo 16 (.bin .add (.tmp 15) (.cst (.int .i64 1))),
 zo 1 (.own 16)] []))
def x28_l0 : XCode := x28_r0
/-- custos/custosref05.digits -/
def x28 : XFn := XFn.mk 18 [.tmp 4] (.seq (.region false [zo 4 (.mov (.cst (.int .i64 0)))] [])
 (.seq (.block 0 (.loop x28_l0))
 (.seq (.region false [zo 17 (.mov (.tmp 1)),
 zo 4 (.own 17)] [])
  .ret)))
def x29_r0 : XCode := .seq (.seq (.region false [zo 26 (.mov (.tmp 7)),
 zo 27 (.mov (.tmp 0)),
 zo 28 (.lens true (.tmp 27)),
 zo 29 (.bin .lss (.tmp 26) (.tmp 28))] [])
  (.cond (.tmp 29) .skip (.exit 0)))
 (.seq (.block 1 (.seq (.seq (.region false [zo 32 (.mov (.tmp 0)),
 zo 33 (.mov (.tmp 7)),
 zo 34 (.idxs (.tmp 32) (.tmp 33)),
 zo 35 (.callq 22 [.tmp 34]),
 zo 36 (.not (.tmp 35))] [])
  (.cond (.tmp 36) (.seq (.region false [zo 4 (.mov (.cst (.int .i64 0))),
 zo 5 (.mov (.cst (.bool false)))] [])
  .ret) .skip))
  (.region false [zo 37 (.mov (.tmp 6)),
 zo 38 (.bin .mul (.tmp 37) (.cst (.int .i64 10))),
 zo 39 (.mov (.tmp 0)),
 zo 40 (.mov (.tmp 7)),
 zo 41 (.idxs (.tmp 39) (.tmp 40)),
 zo 42 (.bin .sub (.tmp 41) (.cst (.int .u8 48))),
 zo 43 (.conv .i64 (.tmp 42)),
 zo 44 (.bin .add (.tmp 38) (.tmp 43)),
 zo 6 (.own 44)] [])))
  (.region false [zo 30 (.mov (.tmp 7)),
 zo 31 (.bin .add (.tmp 30) (.cst (.int .i64 1))),
 zo 7 (.own 31)] []))
def x29_l0 : XCode := x29_r0
/-- custos/custosref05.Number -/
def x29 : XFn := XFn.mk 49 [.tmp 4, .tmp 5] (.seq (.region false [zo 4 (.mov (.cst (.int .i64 0))),
 zo 5 (.mov (.cst (.bool false)))] [])
 (.seq (.seq (.region false [zo 8 (.mov (.tmp 0)),
 zo 9 (.lens true (.tmp 8)),
 zo 10 (.bin .eql (.tmp 9) (.cst (.int .i64 0))),
 zo 11 (.mov (.tmp 10)),
 zg 12 11 false (.mov (.tmp 0)),
 zg 13 11 false (.lens true (.tmp 12)),
 zg 14 11 false (.bin .gtr (.tmp 13) (.cst (.int .i64 18))),
 zo 15 (.pick (.tmp 11) (.cst (.bool true)) (.tmp 14)),
 zo 16 (.mov (.tmp 15)),
 zg 17 16 false (.mov (.tmp 0)),
 zg 18 16 false (.lens true (.tmp 17)),
 zg 19 16 false (.bin .gtr (.tmp 18) (.cst (.int .i64 1))),
 zg 20 16 false (.mov (.tmp 19)),
 zg 21 20 true (.mov (.tmp 0)),
 zg 22 20 true (.idxs (.tmp 21) (.cst (.int .i64 0))),
 zg 23 20 true (.bin .eql (.tmp 22) (.cst (.int .u8 48))),
 zg 24 16 false (.pick (.tmp 20) (.tmp 23) (.cst (.bool false))),
 zo 25 (.pick (.tmp 16) (.cst (.bool true)) (.tmp 24))] [])
  (.cond (.tmp 25) (.seq (.region false [zo 4 (.mov (.cst (.int .i64 0))),
 zo 5 (.mov (.cst (.bool false)))] [])
  .ret) .skip))
 (.seq (.region false [zo 6 (.mov (.cst (.int .i64 0)))] [])
 (.seq (.seq (.region false [zo 7 (.mov (.cst (.int .i64 0)))] [])
  (.block 0 (.loop x29_l0)))
 (.seq (.region false [zo 45 (.mov (.tmp 6)),
 zo 46 (.mov (.tmp 6)),
 zo 47 (.mov (.tmp 1)),
 zo 48 (.bin .leq (.tmp 46) (.tmp 47)),
 zo 4 (.own 45),
 zo 5 (.own 48)] [])
  .ret)))))
/-- custos/lex.digit -/
def x30 : XFn := XFn.mk 9 [.tmp 2] (.seq (.region false [zo 2 (.mov (.cst (.bool false)))] [])
 (.seq (.region false [zo 3 (.mov (.tmp 0)),
 zo 4 (.bin .geq (.tmp 3) (.cst (.int .u8 48))),
 zo 5 (.mov (.tmp 4)),
 zg 6 5 true (.mov (.tmp 0)),
 zg 7 5 true (.bin .leq (.tmp 6) (.cst (.int .u8 57))),
 zo 8 (.pick (.tmp 5) (.tmp 7) (.cst (.bool false))),
 zo 2 (.own 8)] [])
  .ret))
/-- strings.IndexByte -/
def x31 : XFn := XFn.mk 8 [.tmp 4] (.seq (.region false [zo 4 (.mov (.cst (.int .i64 0)))] [])
 (.seq (.region false [zo 5 (.mov (.tmp 0)),
 zo 6 (.mov (.tmp 1)),
 zo 7 (.callq 42 [.tmp 5, .tmp 6]),
 zo 4 (.own 7)] [])
  .ret))
/-- strings.Contains -/
def x32 : XFn := XFn.mk 9 [.tmp 4] (.seq (.region false [zo 4 (.mov (.cst (.bool false)))] [])
 (.seq (.region false [zo 5 (.mov (.tmp 0)),
 zo 6 (.mov (.tmp 1)),
 zo 7 (.callq 43 [.tmp 5, .tmp 6]),
 zo 8 (.bin .geq (.tmp 7) (.cst (.int .i64 0))),
 zo 4 (.own 8)] [])
  .ret))
/-- strings.Cut -/
def x33 : XFn := XFn.mk 13 [.tmp 4, .tmp 5, .tmp 6] (.seq (.region false [zo 4 (.mov (.cst (.str []))),
 zo 5 (.mov (.cst (.str []))),
 zo 6 (.mov (.cst (.bool false)))] [])
 (.seq (.region false [zo 7 (.mov (.tmp 0)),
 zo 8 (.mov (.tmp 1)),
 zo 9 (.callq 44 [.tmp 7, .tmp 8]),
 zo 10 (.ext 9 0),
 zo 11 (.ext 9 1),
 zo 12 (.ext 9 2),
 zo 4 (.own 10),
 zo 5 (.own 11),
 zo 6 (.own 12)] [])
  .ret))
/-- strings.TrimSuffix -/
def x34 : XFn := XFn.mk 8 [.tmp 4] (.seq (.region false [zo 4 (.mov (.cst (.str [])))] [])
 (.seq (.region false [zo 5 (.mov (.tmp 0)),
 zo 6 (.mov (.tmp 1)),
 zo 7 (.callq 45 [.tmp 5, .tmp 6]),
 zo 4 (.own 7)] [])
  .ret))
/-- strings.HasPrefix -/
def x35 : XFn := XFn.mk 8 [.tmp 4] (.seq (.region false [zo 4 (.mov (.cst (.bool false)))] [])
 (.seq (.region false [zo 5 (.mov (.tmp 0)),
 zo 6 (.mov (.tmp 1)),
 zo 7 (.callq 46 [.tmp 5, .tmp 6]),
 zo 4 (.own 7)] [])
  .ret))
def x36_r0 : XCode := .seq (.seq (.region false [zo 11 (.mov (.tmp 0)),
 zo 12 (.lens true (.tmp 11)),
 zo 13 (.bin .gtr (.tmp 12) (.cst (.int .i64 0)))] [])
  (.cond (.tmp 13) .skip (.exit 0)))
  (.block 1 (.seq (.region false [zo 14 (.mov (.tmp 0)),
 zo 15 (.idxs (.tmp 14) (.cst (.int .i64 0))),
 zo 4 (.own 15),
 zo 5 (.mov (.cst (.int .i64 1)))] [])
 (.seq (.seq (.region false [zo 16 (.mov (.tmp 4)),
 zo 17 (.bin .eql (.tmp 16) (.cst (.int .u8 92))),
 zo 18 (.mov (.tmp 17)),
 zg 19 18 true (.mov (.tmp 0)),
 zg 20 18 true (.lens true (.tmp 19)),
 zg 21 18 true (.bin .gtr (.tmp 20) (.cst (.int .i64 1))),
 zo 22 (.pick (.tmp 18) (.tmp 21) (.cst (.bool false)))] [])
  (.cond (.tmp 22) (.seq (.region false [zo 23 (.mov (.tmp 0)),
 zo 24 (.idxs (.tmp 23) (.cst (.int .i64 1))),
 zo 4 (.own 24),
 zo 5 (.mov (.cst (.int .i64 2)))] [])
 (.seq (.region false [zo 25 (.mov (.tmp 4)),
 zo 26 (.bin .eql (.tmp 25) (.cst (.int .u8 120))),
 zo 27 (.mov (.tmp 26)),
 zg 28 27 true (.mov (.tmp 0)),
 zg 29 27 true (.lens true (.tmp 28)),
 zg 30 27 true (.bin .gtr (.tmp 29) (.cst (.int .i64 3))),
 zo 31 (.pick (.tmp 27) (.tmp 30) (.cst (.bool false)))] [])
  (.cond (.tmp 31) (.seq (.region false [zo 33 (.mov (.tmp 0)),
 zo 34 (.sstr (.tmp 33) (some (.cst (.int .i64 2))) (some (.cst (.int .i64 4)))),
 zo 35 (.callq 47 [.tmp 34, .cst (.int .i64 16), .cst (.int .i64 8)]),
 zo 32 (.mov (.tmp 35)),
 zo 36 (.ext 32 0),
 zo 37 (.ext 32 1),
 zo 6 (.own 36),
 zo 7 (.own 37)] [])
  (.region false [zo 38 (.mov (.tmp 6)),
 zo 39 (.conv .u8 (.tmp 38)),
 zo 4 (.own 39),
 zo 5 (.mov (.cst (.int .i64 4)))] [])) .skip))) .skip))
 (.seq (.region false [zo 40 (.own 3),
 zo 41 (.mov (.tmp 4)),
 zo 42 (.bslice 1 [.int .u8 0] [(0, 1, .tmp 41)]),
 zo 43 (.app false 1 1 40 (.tmp 42)),
 zo 3 (.own 43)] [])
  (.region false [zo 44 (.mov (.tmp 0)),
 zo 45 (.mov (.tmp 5)),
 zo 46 (.sstr (.tmp 44) (some (.tmp 45)) none),
 zo 0 (.own 46)] [])))))
def x36_l0 : XCode := x36_r0
/-- custos/value.unquoted -/
def x36 : XFn := XFn.mk 49 [.tmp 2] (.seq (.region false [zo 2 (.mov (.cst (.str [])))] [])
 (.seq (.region false [zo 8 (.mov (.tmp 0)),
 zo 9 (.sstr (.tmp 8) (some (.cst (.int .i64 1))) none),
 zo 10 (.callq 34 [.tmp 9, .cst (.str [34])]),
 zo 0 (.own 10)] [])
 (.seq (.region false [zo 3 (.mov (.cst .nilsl))] [])
 (.seq (.block 0 (.loop x36_l0))
 (.seq (.region false [zo 47 (.mov (.tmp 3)),
 zo 48 (.bstr (.tmp 47)),
 zo 2 (.own 48)] [])
  .ret)))))
def x37_r0 : XCode := .seq (.region false [zo 11 (.bin .lss (.tmp 10) (.tmp 9))] [])
 (.seq (.cond (.tmp 11) .skip (.exit 0))
 (.seq (.block 1 (.seq (.region false [zo 12 (.iaddr 1 (.tmp 8) (.tmp 10)),
 zo 13 (.load (.tmp 12) 1 false),
 zo 5 (.own 13)] [])
  (.block 2 (.seq (.region false [zo 24 (.mov (.tmp 5)),
 zo 25 (.bin .eql (.tmp 24) (.cst (.int .u8 34))),
 zo 26 (.mov (.tmp 25)),
 zg 27 26 false (.mov (.tmp 5)),
 zg 28 26 false (.bin .eql (.tmp 27) (.cst (.int .u8 92))),
 zo 29 (.pick (.tmp 26) (.cst (.bool true)) (.tmp 28)),
 zo 23 (.own 29)] [])
  (.cond (.tmp 23) (.region false [zo 30 (.own 3),
 zo 31 (.mov (.tmp 5)),
 zo 32 (.bslice 1 [.int .u8 0, .int .u8 0] [(0, 1, .cst (.int .u8 92)), (1, 1, .tmp 31)]),
 zo 33 (.app false 1 1 30 (.tmp 32)),
 zo 3 (.own 33)] []) (.seq (.region false [zo 35 (.mov (.tmp 5)),
 zo 36 (.bin .geq (.tmp 35) (.cst (.int .u8 32))),
 zo 37 (.mov (.tmp 36)),
 zg 38 37 true (.mov (.tmp 5)),
 zg 39 37 true (.bin .leq (.tmp 38) (.cst (.int .u8 126))),
 zo 40 (.pick (.tmp 37) (.tmp 39) (.cst (.bool false))),
 zo 34 (.own 40)] [])
  (.cond (.tmp 34) (.region false [zo 41 (.own 3),
 zo 42 (.mov (.tmp 5)),
 zo 43 (.bslice 1 [.int .u8 0] [(0, 1, .tmp 42)]),
 zo 44 (.app false 1 1 41 (.tmp 43)),
 zo 3 (.own 44)] []) (.region true [zo 14 (.own 3),
 zo 15 (.mov (.tmp 5)),
 zo 16 (.bin .shr (.tmp 15) (.cst (.int .u64 4))),
 zo 17 (.idxs (.cst (.str [48, 49, 50, 51, 52, 53, 54, 55, 56, 57, 97, 98, 99, 100, 101, 102])) (.tmp 16)),
 zo 18 (.mov (.tmp 5)),
 zo 19 (.bin .and (.tmp 18) (.cst (.int .u8 15))),
 zo 20 (.idxs (.cst (.str [48, 49, 50, 51, 52, 53, 54, 55, 56, 57, 97, 98, 99, 100, 101, 102])) (.tmp 19)),
 zo 21 (.bslice 1 [.int .u8 0, .int .u8 0, .int .u8 0, .int .u8 0] [(0, 1, .cst (.int .u8 92)), (1, 1, .cst (.int .u8 120)), (2, 1, .tmp 17), (3, 1, .tmp 20)]),
 zo 22 (.app false 1 1 14 (.tmp 21)),
 zo 3 (.own 22)] []))))))))
  (.region false [zo 45 (.bin .add (.tmp 10) (.cst (.int .i64 1))),
 zo 10 (.mov (.tmp 45))] [])))
def x37_l0 : XCode := x37_r0
/-- custos/value.quoted -/
def x37 : XFn := XFn.mk 50 [.tmp 2] (.seq (.region false [zo 2 (.mov (.cst (.str [])))] [])
 (.seq (.region false [zo 6 (.bslice 1 [.int .u8 0] [(0, 1, .cst (.int .u8 34))]),
 zo 3 (.own 6)] [])
 (.seq (.seq (.region false [zo 7 (.mov (.tmp 0)),
 zo 8 (.strb (.tmp 7)),
 zo 9 (.lens false (.tmp 8)),
 zo 10 (.mov (.cst (.int .i64 0)))] [])
  (.block 0 (.loop x37_l0)))
 (.seq (.region false [zo 46 (.own 3),
 zo 47 (.bslice 1 [.int .u8 0] [(0, 1, .cst (.int .u8 34))]),
 zo 48 (.app false 1 1 46 (.tmp 47)),
 zo 49 (.bstr (.tmp 48)),
 zo 2 (.own 49)] [])
  .ret))))
/-- custos/value.Print -/
def x39 : XFn := XFn.mk 30 [.tmp 2, .tmp 3] (.seq (.region false [zo 1 (.box (.tmp 0) 4),
 zo 2 (.mov (.cst (.str []))),
 zo 3 (.mov (.cst (.int .i64 0)))] [])
 (.seq (.seq (.region false [zo 5 (.load (.tmp 1) 4 true),
 zo 6 (.callq 50 [.tmp 5]),
 zo 4 (.own 6)] [])
 (.seq (.region false [zo 7 (.mov (.tmp 4)),
 zo 8 (.bin .neq (.tmp 7) (.cst (.int .i64 0)))] [])
  (.cond (.tmp 8) (.seq (.region false [zo 9 (.mov (.tmp 4)),
 zo 2 (.mov (.cst (.str []))),
 zo 3 (.own 9)] [])
  .ret) .skip)))
 (.seq (.seq (.region false [zo 10 (.faddr (.tmp 1) 0),
 zo 11 (.load (.tmp 10) 1 false)] [])
  (.block 0 (.seq (.region false [zo 13 (.bin .eql (.tmp 11) (.cst (.int .i64 1))),
 zo 12 (.own 13)] [])
  (.cond (.tmp 12) (.seq (.region false [zo 14 (.faddr (.tmp 1) 1),
 zo 15 (.load (.tmp 14) 1 false),
 zo 16 (.prim 5 40 [.tmp 15, .cst (.int .i64 10)]),
 zo 2 (.own 16),
 zo 3 (.mov (.cst (.int .i64 0)))] [])
  .ret) (.seq (.region false [zo 18 (.bin .eql (.tmp 11) (.cst (.int .i64 2))),
 zo 17 (.own 18)] [])
  (.cond (.tmp 17) (.seq (.region true [zo 19 (.faddr (.tmp 1) 1),
 zo 20 (.load (.tmp 19) 1 false),
 zo 21 (.prim 5 40 [.tmp 20, .cst (.int .i64 10)]),
 zo 22 (.bin .add (.tmp 21) (.cst (.str [47]))),
 zo 23 (.faddr (.tmp 1) 2),
 zo 24 (.load (.tmp 23) 1 false),
 zo 25 (.prim 5 40 [.tmp 24, .cst (.int .i64 10)]),
 zo 26 (.bin .add (.tmp 22) (.tmp 25)),
 zo 2 (.own 26),
 zo 3 (.mov (.cst (.int .i64 0)))] [])
  .ret) .skip))))))
 (.seq (.region false [zo 27 (.faddr (.tmp 1) 3),
 zo 28 (.load (.tmp 27) 1 false),
 zo 29 (.callq 37 [.tmp 28]),
 zo 2 (.own 29),
 zo 3 (.mov (.cst (.int .i64 0)))] [])
  .ret))))
def x41_r0 : XCode := .seq (.seq (.region false [zo 36 (.mov (.tmp 7)),
 zo 37 (.mov (.tmp 0)),
 zo 38 (.lens true (.tmp 37)),
 zo 39 (.bin .lss (.tmp 36) (.tmp 38))] [])
  (.cond (.tmp 39) .skip (.exit 0)))
 (.seq (.block 1 (.seq (.region false [zo 42 (.mov (.tmp 0)),
 zo 43 (.mov (.tmp 7)),
 zo 44 (.idxs (.tmp 42) (.tmp 43)),
 zo 45 (.bin .eql (.tmp 44) (.cst (.int .u8 47)))] [])
  (.cond (.tmp 45) (.seq (.region false [zo 46 (.faddr (.tmp 6) 0),
 ⟨none, .store (.tmp 46) (.cst (.int .i64 2)) 1, none⟩] [])
 (.seq (.region false [zo 47 (.mov (.tmp 0)),
 zo 48 (.mov (.tmp 7)),
 zo 49 (.sstr (.tmp 47) none (some (.tmp 48))),
 zo 50 (.callq 54 [.tmp 49]),
 zo 51 (.faddr (.tmp 6) 1),
 ⟨none, .store (.tmp 51) (.tmp 50) 1, none⟩] [])
 (.seq (.region false [zo 52 (.mov (.tmp 0)),
 zo 53 (.mov (.tmp 7)),
 zo 54 (.bin .add (.tmp 53) (.cst (.int .i64 1))),
 zo 55 (.sstr (.tmp 52) (some (.tmp 54)) none),
 zo 56 (.callq 54 [.tmp 55]),
 zo 57 (.faddr (.tmp 6) 2),
 ⟨none, .store (.tmp 57) (.tmp 56) 1, none⟩] [])
  (.exit 0)))) .skip)))
  (.region false [zo 40 (.mov (.tmp 7)),
 zo 41 (.bin .add (.tmp 40) (.cst (.int .i64 1))),
 zo 7 (.own 41)] []))
def x41_l0 : XCode := x41_r0
/-- custos/custosref02.Parse -/
def x41 : XFn := XFn.mk 72 [.cell 2 4 true, .tmp 3] (.seq (.region false [zo 2 (.alloc [.int .i64 0, .int .i64 0, .int .i64 0, .str []]),
 zo 3 (.mov (.cst (.int .i64 0)))] [])
 (.seq (.seq (.region false [zo 10 (.mov (.tmp 0)),
 zo 11 (.lens true (.tmp 10)),
 zo 12 (.bin .gtr (.tmp 11) (.cst (.int .i64 0))),
 zo 13 (.mov (.tmp 12)),
 zg 14 13 true (.mov (.tmp 0)),
 zg 15 13 true (.idxs (.tmp 14) (.cst (.int .i64 0))),
 zg 16 13 true (.bin .eql (.tmp 15) (.cst (.int .u8 34))),
 zo 17 (.pick (.tmp 13) (.tmp 16) (.cst (.bool false)))] [])
  (.cond (.tmp 17) (.seq (.region false [zo 18 (.mov (.tmp 0)),
 zo 19 (.callq 52 [.tmp 18]),
 zo 4 (.own 19)] [])
 (.seq (.region false [zo 20 (.mov (.tmp 4)),
 zo 21 (.callq 53 [.tmp 20]),
 zo 5 (.own 21)] [])
 (.seq (.seq (.region false [zo 22 (.mov (.tmp 5)),
 zo 23 (.mov (.tmp 0)),
 zo 24 (.bin .neq (.tmp 22) (.tmp 23))] [])
  (.cond (.tmp 24) (.seq (.region false [zo 25 (.build [.int .i64 0, .int .i64 0, .int .i64 0, .str []] []),
 ⟨none, .store (.tmp 2) (.tmp 25) 4, none⟩,
 zo 3 (.mov (.cst (.int .i64 70)))] [])
  .ret) .skip))
 (.seq (.seq (.region false [zo 26 (.mov (.tmp 4)),
 zo 27 (.lens true (.tmp 26)),
 zo 28 (.bin .gtr (.tmp 27) (.cst (.int .i64 64)))] [])
  (.cond (.tmp 28) (.seq (.region false [zo 29 (.build [.int .i64 0, .int .i64 0, .int .i64 0, .str []] []),
 ⟨none, .store (.tmp 2) (.tmp 29) 4, none⟩,
 zo 3 (.mov (.cst (.int .i64 2)))] [])
  .ret) .skip))
 (.seq (.region false [zo 30 (.mov (.tmp 4)),
 zo 31 (.build [.int .i64 0, .int .i64 0, .int .i64 0, .str []] [(0, 1, .cst (.int .i64 3)), (3, 1, .tmp 30)]),
 ⟨none, .store (.tmp 2) (.tmp 31) 4, none⟩,
 zo 3 (.mov (.cst (.int .i64 0)))] [])
  .ret))))) .skip))
 (.seq (.region false [zo 32 (.build [.int .i64 0, .int .i64 0, .int .i64 0, .str []] [(0, 1, .cst (.int .i64 1))]),
 zo 6 (.alloc [.int .i64 0, .int .i64 0, .int .i64 0, .str []]),
 ⟨none, .store (.tmp 6) (.tmp 32) 4, none⟩] [])
 (.seq (.region false [zo 33 (.mov (.tmp 0)),
 zo 34 (.callq 54 [.tmp 33]),
 zo 35 (.faddr (.tmp 6) 1),
 ⟨none, .store (.tmp 35) (.tmp 34) 1, none⟩] [])
 (.seq (.seq (.region false [zo 7 (.mov (.cst (.int .i64 0)))] [])
  (.block 0 (.loop x41_l0)))
 (.seq (.region false [zo 59 (.load (.tmp 6) 4 true),
 zo 60 (.callq 55 [.tmp 59]),
 zo 58 (.mov (.tmp 60)),
 zo 61 (.ext 58 0),
 zo 62 (.ext 58 1),
 zo 8 (.own 61),
 zo 9 (.own 62)] [])
 (.seq (.seq (.region false [zo 63 (.mov (.tmp 9)),
 zo 64 (.bin .neq (.tmp 63) (.cst (.int .i64 0))),
 zo 65 (.mov (.tmp 64)),
 zg 66 65 false (.mov (.tmp 8)),
 zg 67 65 false (.mov (.tmp 0)),
 zg 68 65 false (.bin .neq (.tmp 66) (.tmp 67)),
 zo 69 (.pick (.tmp 65) (.cst (.bool true)) (.tmp 68))] [])
  (.cond (.tmp 69) (.seq (.region false [zo 70 (.build [.int .i64 0, .int .i64 0, .int .i64 0, .str []] []),
 ⟨none, .store (.tmp 2) (.tmp 70) 4, none⟩,
 zo 3 (.mov (.cst (.int .i64 70)))] [])
  .ret) .skip))
 (.seq (.region false [zo 71 (.load (.tmp 6) 4 true),
 ⟨none, .store (.tmp 2) (.tmp 71) 4, none⟩,
 zo 3 (.mov (.cst (.int .i64 0)))] [])
  .ret))))))))
/-- internal/stringslite.IndexByte -/
def x42 : XFn := XFn.mk 8 [.tmp 4] (.seq (.region false [zo 4 (.mov (.cst (.int .i64 0)))] [])
 (.seq (.region false [zo 5 (.mov (.tmp 0)),
 zo 6 (.mov (.tmp 1)),
 zo 7 (.prim 2 56 [.tmp 5, .tmp 6]),
 zo 4 (.own 7)] [])
  .ret))
/-- strings.Index -/
def x43 : XFn := XFn.mk 8 [.tmp 4] (.seq (.region false [zo 4 (.mov (.cst (.int .i64 0)))] [])
 (.seq (.region false [zo 5 (.mov (.tmp 0)),
 zo 6 (.mov (.tmp 1)),
 zo 7 (.callq 57 [.tmp 5, .tmp 6]),
 zo 4 (.own 7)] [])
  .ret))
/-- internal/stringslite.Cut -/
def x44 : XFn := XFn.mk 23 [.tmp 4, .tmp 5, .tmp 6] (.seq (.region false [zo 4 (.mov (.cst (.str []))),
 zo 5 (.mov (.cst (.str []))),
 zo 6 (.mov (.cst (.bool false)))] [])
 (.seq (.seq (.region false [zo 8 (.mov (.tmp 0)),
 zo 9 (.mov (.tmp 1)),
 zo 10 (.callq 57 [.tmp 8, .tmp 9]),
 zo 7 (.own 10)] [])
 (.seq (.region false [zo 11 (.mov (.tmp 7)),
 zo 12 (.bin .geq (.tmp 11) (.cst (.int .i64 0)))] [])
  (.cond (.tmp 12) (.seq (.region true [zo 13 (.mov (.tmp 0)),
 zo 14 (.mov (.tmp 7)),
 zo 15 (.sstr (.tmp 13) none (some (.tmp 14))),
 zo 16 (.mov (.tmp 0)),
 zo 17 (.mov (.tmp 7)),
 zo 18 (.mov (.tmp 1)),
 zo 19 (.lens true (.tmp 18)),
 zo 20 (.bin .add (.tmp 17) (.tmp 19)),
 zo 21 (.sstr (.tmp 16) (some (.tmp 20)) none),
 zo 4 (.own 15),
 zo 5 (.own 21),
 zo 6 (.mov (.cst (.bool true)))] [])
  .ret) .skip)))
 (.seq (.region false [zo 22 (.mov (.tmp 0)),
 zo 4 (.own 22),
 zo 5 (.mov (.cst (.str []))),
 zo 6 (.mov (.cst (.bool false)))] [])
  .ret)))
/-- internal/stringslite.TrimSuffix -/
def x45 : XFn := XFn.mk 16 [.tmp 4] (.seq (.region false [zo 4 (.mov (.cst (.str [])))] [])
 (.seq (.seq (.region false [zo 5 (.mov (.tmp 0)),
 zo 6 (.mov (.tmp 1)),
 zo 7 (.callq 58 [.tmp 5, .tmp 6])] [])
  (.cond (.tmp 7) (.seq (.region false [zo 8 (.mov (.tmp 0)),
 zo 9 (.mov (.tmp 0)),
 zo 10 (.lens true (.tmp 9)),
 zo 11 (.mov (.tmp 1)),
 zo 12 (.lens true (.tmp 11)),
 zo 13 (.bin .sub (.tmp 10) (.tmp 12)),
 zo 14 (.sstr (.tmp 8) none (some (.tmp 13))),
 zo 4 (.own 14)] [])
  .ret) .skip))
 (.seq (.region false [zo 15 (.mov (.tmp 0)),
 zo 4 (.own 15)] [])
  .ret)))
/-- internal/stringslite.HasPrefix -/
def x46 : XFn := XFn.mk 18 [.tmp 4] (.seq (.region false [zo 4 (.mov (.cst (.bool false)))] [])
 (.seq (.region false [zo 5 (.mov (.tmp 0)),
 zo 6 (.lens true (.tmp 5)),
 zo 7 (.mov (.tmp 1)),
 zo 8 (.lens true (.tmp 7)),
 zo 9 (.bin .geq (.tmp 6) (.tmp 8)),
 zo 10 (.mov (.tmp 9)),
 zg 11 10 true (.mov (.tmp 0)),
 zg 12 10 true (.mov (.tmp 1)),
 zg 13 10 true (.lens true (.tmp 12)),
 zg 14 10 true (.sstr (.tmp 11) none (some (.tmp 13))),
 zg 15 10 true (.mov (.tmp 1)),
 zg 16 10 true (.bin .eql (.tmp 14) (.tmp 15)),
 zo 17 (.pick (.tmp 10) (.tmp 16) (.cst (.bool false))),
 zo 4 (.own 17)] [])
  .ret))
/-- strconv.ParseUint -/
def x47 : XFn := XFn.mk 26 [.tmp 6, .tmp 7] (.seq (.region false [zo 6 (.mov (.cst (.int .u64 0))),
 zo 7 (.mov (.cst .nilif))] [])
 (.seq (.region false [zo 11 (.mov (.tmp 0)),
 zo 12 (.mov (.tmp 1)),
 zo 13 (.mov (.tmp 2)),
 zo 14 (.callq 59 [.tmp 11, .tmp 12, .tmp 13]),
 zo 10 (.mov (.tmp 14)),
 zo 15 (.ext 10 0),
 zo 16 (.ext 10 1),
 zo 8 (.own 15),
 zo 9 (.own 16)] [])
 (.seq (.seq (.region false [zo 17 (.mov (.tmp 9)),
 zo 18 (.eqnil 0 true (.tmp 17))] [])
  (.cond (.tmp 18) (.seq (.region false [zo 19 (.mov (.tmp 8)),
 zo 20 (.mov (.tmp 0)),
 zo 21 (.mov (.tmp 1)),
 zo 22 (.mov (.tmp 2)),
 zo 23 (.mov (.tmp 9)),
 zo 24 (.callw 49 [.cst (.str [80, 97, 114, 115, 101, 85, 105, 110, 116]), .tmp 20, .tmp 21, .tmp 22, .tmp 23]),
 zo 6 (.own 19),
 zo 7 (.own 24)] [])
  .ret) .skip))
 (.seq (.region false [zo 25 (.mov (.tmp 8)),
 zo 6 (.own 25),
 zo 7 (.mov (.cst .nilif))] [])
  .ret))))
/-- strconv.toError -/
def x49 : XFn := XFn.mk 43 [.tmp 10] (.seq (.region false [zo 10 (.mov (.cst .nilif))] [])
 (.seq (.seq (.region false [zo 11 (.mov (.tmp 4))] [])
  (.block 0 (.seq (.region false [zo 13 (.mkif 80 (.cst (.int .i64 2))),
 zo 14 (.eqif false [6, 24, 80, 140, 141, 143, 144] (.tmp 11) (.tmp 13)),
 zo 12 (.own 14)] [])
  (.cond (.tmp 12) (.seq (.region false [zo 15 (.mov (.tmp 0)),
 zo 16 (.mov (.tmp 1)),
 zo 17 (.callq 60 [.tmp 15, .tmp 16]),
 zo 18 (.mkif 81 (.tmp 17)),
 zo 10 (.own 18)] [])
  .ret) (.seq (.region false [zo 20 (.mkif 80 (.cst (.int .i64 1))),
 zo 21 (.eqif false [6, 24, 80, 140, 141, 143, 144] (.tmp 11) (.tmp 20)),
 zo 19 (.own 21)] [])
  (.cond (.tmp 19) (.seq (.region false [zo 22 (.mov (.tmp 0)),
 zo 23 (.mov (.tmp 1)),
 zo 24 (.callq 61 [.tmp 22, .tmp 23]),
 zo 25 (.mkif 81 (.tmp 24)),
 zo 10 (.own 25)] [])
  .ret) (.seq (.region false [zo 27 (.mkif 80 (.cst (.int .i64 3))),
 zo 28 (.eqif false [6, 24, 80, 140, 141, 143, 144] (.tmp 11) (.tmp 27)),
 zo 26 (.own 28)] [])
  (.cond (.tmp 26) (.seq (.region false [zo 29 (.mov (.tmp 0)),
 zo 30 (.mov (.tmp 1)),
 zo 31 (.mov (.tmp 2)),
 zo 32 (.callq 62 [.tmp 29, .tmp 30, .tmp 31]),
 zo 33 (.mkif 81 (.tmp 32)),
 zo 10 (.own 33)] [])
  .ret) (.seq (.region false [zo 35 (.mkif 80 (.cst (.int .i64 4))),
 zo 36 (.eqif false [6, 24, 80, 140, 141, 143, 144] (.tmp 11) (.tmp 35)),
 zo 34 (.own 36)] [])
  (.cond (.tmp 34) (.seq (.region false [zo 37 (.mov (.tmp 0)),
 zo 38 (.mov (.tmp 1)),
 zo 39 (.mov (.tmp 3)),
 zo 40 (.callq 63 [.tmp 37, .tmp 38, .tmp 39]),
 zo 41 (.mkif 81 (.tmp 40)),
 zo 10 (.own 41)] [])
  .ret) .skip))))))))))
 (.seq (.region false [zo 42 (.mov (.tmp 4)),
 zo 10 (.own 42)] [])
  .ret)))
/-- custos/value.Check -/
def x50 : XFn := XFn.mk 58 [.tmp 2] (.seq (.region false [zo 1 (.box (.tmp 0) 4),
 zo 2 (.mov (.cst (.int .i64 0)))] [])
 (.seq (.region false [zo 3 (.mov (.cst (.bool false)))] [])
 (.seq (.seq (.region false [zo 6 (.faddr (.tmp 1) 0),
 zo 7 (.load (.tmp 6) 1 false)] [])
  (.block 0 (.seq (.region false [zo 9 (.bin .eql (.tmp 7) (.cst (.int .i64 1))),
 zo 8 (.own 9)] [])
  (.cond (.tmp 8) (.region false [zo 10 (.faddr (.tmp 1) 2),
 zo 11 (.load (.tmp 10) 1 false),
 zo 12 (.bin .neq (.tmp 11) (.cst (.int .i64 0))),
 zo 13 (.mov (.tmp 12)),
 zg 14 13 false (.faddr (.tmp 1) 3),
 zg 15 13 false (.load (.tmp 14) 1 false),
 zg 16 13 false (.bin .neq (.tmp 15) (.cst (.str []))),
 zo 17 (.pick (.tmp 13) (.cst (.bool true)) (.tmp 16)),
 zo 3 (.own 17)] []) (.seq (.region false [zo 19 (.bin .eql (.tmp 7) (.cst (.int .i64 2))),
 zo 18 (.own 19)] [])
  (.cond (.tmp 18) (.seq (.region false [zo 21 (.faddr (.tmp 1) 1),
 zo 22 (.load (.tmp 21) 1 false),
 zo 23 (.faddr (.tmp 1) 2),
 zo 24 (.load (.tmp 23) 1 false),
 zo 25 (.callq 64 [.tmp 22, .tmp 24]),
 zo 20 (.mov (.tmp 25)),
 zo 26 (.ext 20 0),
 zo 27 (.ext 20 1),
 zo 4 (.alloc [.int .i64 0, .int .i64 0]),
 ⟨none, .store (.tmp 4) (.tmp 26) 2, none⟩,
 zo 5 (.own 27)] [])
  (.region true [zo 28 (.faddr (.tmp 1) 3),
 zo 29 (.load (.tmp 28) 1 false),
 zo 30 (.bin .neq (.tmp 29) (.cst (.str []))),
 zo 31 (.mov (.tmp 30)),
 zg 32 31 false (.mov (.tmp 5)),
 zg 33 31 false (.bin .neq (.tmp 32) (.cst (.int .i64 0))),
 zo 34 (.pick (.tmp 31) (.cst (.bool true)) (.tmp 33)),
 zo 35 (.mov (.tmp 34)),
 zg 36 35 false (.load (.tmp 4) 2 true),
 zg 37 35 false (.load (.tmp 1) 4 true),
 zg 38 35 false (.callq 65 [.tmp 37]),
 zg 39 35 false (.eqagg true [1, 1] (.tmp 36) (.tmp 38)),
 zo 40 (.pick (.tmp 35) (.cst (.bool true)) (.tmp 39)),
 zo 3 (.own 40)] [])) (.seq (.region false [zo 42 (.bin .eql (.tmp 7) (.cst (.int .i64 3))),
 zo 41 (.own 42)] [])
  (.cond (.tmp 41) (.region false [zo 43 (.faddr (.tmp 1) 1),
 zo 44 (.load (.tmp 43) 1 false),
 zo 45 (.bin .neq (.tmp 44) (.cst (.int .i64 0))),
 zo 46 (.mov (.tmp 45)),
 zg 47 46 false (.faddr (.tmp 1) 2),
 zg 48 46 false (.load (.tmp 47) 1 false),
 zg 49 46 false (.bin .neq (.tmp 48) (.cst (.int .i64 0))),
 zo 50 (.pick (.tmp 46) (.cst (.bool true)) (.tmp 49)),
 zo 3 (.own 50)] []) (.region false [zo 3 (.mov (.cst (.bool true)))] [])))))))))
 (.seq (.block 1 (.seq (.region false [zo 52 (.mov (.tmp 3)),
 zo 51 (.own 52)] [])
  (.cond (.tmp 51) (.seq (.region false [zo 2 (.mov (.cst (.int .i64 20)))] [])
  .ret) (.seq (.region false [zo 54 (.faddr (.tmp 1) 3),
 zo 55 (.load (.tmp 54) 1 false),
 zo 56 (.lens true (.tmp 55)),
 zo 57 (.bin .gtr (.tmp 56) (.cst (.int .i64 64))),
 zo 53 (.own 57)] [])
  (.cond (.tmp 53) (.seq (.region false [zo 2 (.mov (.cst (.int .i64 2)))] [])
  .ret) .skip)))))
 (.seq (.region false [zo 2 (.mov (.cst (.int .i64 0)))] [])
  .ret)))))
/-- internal/strconv.FormatInt -/
def x51 : XFn := XFn.mk 54 [.tmp 4] (.seq (.region false [zo 4 (.mov (.cst (.str [])))] [])
 (.seq (.seq (.region false [zo 10 (.mov (.tmp 1)),
 zo 11 (.bin .eql (.tmp 10) (.cst (.int .i64 10)))] [])
  (.cond (.tmp 11) (.seq (.seq (.region false [zo 12 (.mov (.tmp 0)),
 zo 13 (.bin .leq (.cst (.int .i64 0)) (.tmp 12)),
 zo 14 (.mov (.tmp 13)),
 zg 15 14 true (.mov (.tmp 0)),
 zg 16 14 true (.bin .lss (.tmp 15) (.cst (.int .i64 100))),
 zo 17 (.pick (.tmp 14) (.tmp 16) (.cst (.bool false)))] [])
  (.cond (.tmp 17) (.seq (.region false [zo 18 (.mov (.tmp 0)),
 zo 19 (.callq 66 [.tmp 18]),
 zo 4 (.own 19)] [])
  .ret) .skip))
 (.seq (.region false [zo 5 (.alloc [.int .u8 0, .int .u8 0, .int .u8 0, .int .u8 0, .int .u8 0, .int .u8 0, .int .u8 0, .int .u8 0, .int .u8 0, .int .u8 0, .int .u8 0, .int .u8 0, .int .u8 0, .int .u8 0, .int .u8 0, .int .u8 0, .int .u8 0, .int .u8 0, .int .u8 0, .int .u8 0, .int .u8 0, .int .u8 0, .int .u8 0, .int .u8 0])] [])
 (.seq (.region false [zo 20 (.mov (.tmp 0)),
 zo 21 (.conv .u64 (.tmp 20)),
 zo 6 (.own 21)] [])
 (.seq (.seq (.region false [zo 22 (.mov (.tmp 0)),
 zo 23 (.bin .lss (.tmp 22) (.cst (.int .i64 0)))] [])
  (.cond (.tmp 23) (.region false [zo 24 (.mov (.tmp 6)),
 zo 25 (.neg (.tmp 24)),
 zo 6 (.own 25)] []) .skip))
 (.seq (.region false [zo 26 (.mov (.tmp 6)),
 zo 27 (.callq 67 [.tmp 26]),
 zo 7 (.own 27)] [])
 (.seq (.region false [zo 28 (.mov (.tmp 7)),
 zo 29 (.bin .add (.cst (.int .i64 1)) (.tmp 28)),
 zo 30 (.sarr 24 1 (.tmp 5) (some (.cst (.int .i64 1))) (some (.tmp 29))),
 zo 31 (.mov (.tmp 6)),
 zo 32 (.callq 68 [.tmp 30, .tmp 31])] [])
 (.seq (.seq (.region false [zo 33 (.mov (.tmp 0)),
 zo 34 (.bin .lss (.tmp 33) (.cst (.int .i64 0)))] [])
  (.cond (.tmp 34) (.seq (.region false [zo 35 (.iarr 24 1 (.tmp 5) (.cst (.int .i64 0))),
 ⟨none, .store (.tmp 35) (.cst (.int .u8 45)) 1, none⟩] [])
 (.seq (.region false [zo 36 (.mov (.tmp 7)),
 zo 37 (.bin .add (.cst (.int .i64 1)) (.tmp 36)),
 zo 38 (.sarr 24 1 (.tmp 5) none (some (.tmp 37))),
 zo 39 (.bstr (.tmp 38)),
 zo 4 (.own 39)] [])
  .ret)) .skip))
 (.seq (.region false [zo 40 (.mov (.tmp 7)),
 zo 41 (.bin .add (.cst (.int .i64 1)) (.tmp 40)),
 zo 42 (.sarr 24 1 (.tmp 5) (some (.cst (.int .i64 1))) (some (.tmp 41))),
 zo 43 (.bstr (.tmp 42)),
 zo 4 (.own 43)] [])
  .ret)))))))) .skip))
 (.seq (.region false [zo 45 (.mov (.tmp 0)),
 zo 46 (.conv .u64 (.tmp 45)),
 zo 47 (.mov (.tmp 1)),
 zo 48 (.mov (.tmp 0)),
 zo 49 (.bin .lss (.tmp 48) (.cst (.int .i64 0))),
 zo 50 (.callq 69 [.cst .nilsl, .tmp 46, .tmp 47, .tmp 49, .cst (.bool false)]),
 zo 44 (.mov (.tmp 50)),
 zo 51 (.ext 44 0),
 zo 52 (.ext 44 1),
 zo 8 (.own 51),
 zo 9 (.own 52)] [])
 (.seq (.region false [zo 53 (.mov (.tmp 9)),
 zo 4 (.own 53)] [])
  .ret))))
def x52_r0 : XCode := .seq (.seq (.region false [zo 7 (.mov (.tmp 4)),
 zo 8 (.mov (.tmp 0)),
 zo 9 (.lens true (.tmp 8)),
 zo 10 (.bin .sub (.tmp 9) (.cst (.int .i64 1))),
 zo 11 (.bin .lss (.tmp 7) (.tmp 10))] [])
  (.cond (.tmp 11) .skip (.exit 0)))
  (.block 1 (.seq (.seq (.region false [zo 12 (.mov (.tmp 0)),
 zo 13 (.mov (.tmp 4)),
 zo 14 (.idxs (.tmp 12) (.tmp 13)),
 zo 15 (.bin .neq (.tmp 14) (.cst (.int .u8 92)))] [])
  (.cond (.tmp 15) (.seq (.region false [zo 16 (.own 3),
 zo 17 (.mov (.tmp 0)),
 zo 18 (.mov (.tmp 4)),
 zo 19 (.idxs (.tmp 17) (.tmp 18)),
 zo 20 (.bslice 1 [.int .u8 0] [(0, 1, .tmp 19)]),
 zo 21 (.app false 1 1 16 (.tmp 20)),
 zo 3 (.own 21)] [])
 (.seq (.region false [zo 22 (.mov (.tmp 4)),
 zo 23 (.bin .add (.tmp 22) (.cst (.int .i64 1))),
 zo 4 (.own 23)] [])
  (.exit 1))) .skip))
 (.seq (.seq (.region false [zo 24 (.mov (.tmp 0)),
 zo 25 (.mov (.tmp 4)),
 zo 26 (.bin .add (.tmp 25) (.cst (.int .i64 1))),
 zo 27 (.idxs (.tmp 24) (.tmp 26)),
 zo 28 (.bin .neq (.tmp 27) (.cst (.int .u8 120))),
 zo 29 (.mov (.tmp 28)),
 zg 30 29 false (.mov (.tmp 4)),
 zg 31 29 false (.bin .add (.tmp 30) (.cst (.int .i64 3))),
 zg 32 29 false (.mov (.tmp 0)),
 zg 33 29 false (.lens true (.tmp 32)),
 zg 34 29 false (.bin .geq (.tmp 31) (.tmp 33)),
 zo 35 (.pick (.tmp 29) (.cst (.bool true)) (.tmp 34))] [])
  (.cond (.tmp 35) (.seq (.region false [zo 36 (.own 3),
 zo 37 (.mov (.tmp 0)),
 zo 38 (.mov (.tmp 4)),
 zo 39 (.bin .add (.tmp 38) (.cst (.int .i64 1))),
 zo 40 (.idxs (.tmp 37) (.tmp 39)),
 zo 41 (.bslice 1 [.int .u8 0] [(0, 1, .tmp 40)]),
 zo 42 (.app false 1 1 36 (.tmp 41)),
 zo 3 (.own 42)] [])
 (.seq (.region false [zo 43 (.mov (.tmp 4)),
 zo 44 (.bin .add (.tmp 43) (.cst (.int .i64 2))),
 zo 4 (.own 44)] [])
  (.exit 1))) .skip))
 (.seq (.region false [zo 45 (.mov (.tmp 0)),
 zo 46 (.mov (.tmp 4)),
 zo 47 (.bin .add (.tmp 46) (.cst (.int .i64 2))),
 zo 48 (.idxs (.tmp 45) (.tmp 47)),
 zo 49 (.callq 70 [.tmp 48]),
 zo 5 (.own 49)] [])
 (.seq (.region false [zo 50 (.mov (.tmp 0)),
 zo 51 (.mov (.tmp 4)),
 zo 52 (.bin .add (.tmp 51) (.cst (.int .i64 3))),
 zo 53 (.idxs (.tmp 50) (.tmp 52)),
 zo 54 (.callq 70 [.tmp 53]),
 zo 6 (.own 54)] [])
 (.seq (.region false [zo 55 (.own 3),
 zo 56 (.mov (.tmp 5)),
 zo 57 (.bin .mul (.cst (.int .i64 16)) (.tmp 56)),
 zo 58 (.mov (.tmp 6)),
 zo 59 (.bin .add (.tmp 57) (.tmp 58)),
 zo 60 (.conv .u8 (.tmp 59)),
 zo 61 (.bslice 1 [.int .u8 0] [(0, 1, .tmp 60)]),
 zo 62 (.app false 1 1 55 (.tmp 61)),
 zo 3 (.own 62)] [])
  (.region false [zo 63 (.mov (.tmp 4)),
 zo 64 (.bin .add (.tmp 63) (.cst (.int .i64 4))),
 zo 4 (.own 64)] [])))))))
def x52_l0 : XCode := x52_r0
/-- custos/custosref02.unquoted -/
def x52 : XFn := XFn.mk 67 [.tmp 2] (.seq (.region false [zo 2 (.mov (.cst (.str [])))] [])
 (.seq (.region false [zo 3 (.mov (.cst .nilsl))] [])
 (.seq (.region false [zo 4 (.mov (.cst (.int .i64 1)))] [])
 (.seq (.block 0 (.loop x52_l0))
 (.seq (.region false [zo 65 (.mov (.tmp 3)),
 zo 66 (.bstr (.tmp 65)),
 zo 2 (.own 66)] [])
  .ret)))))
def x53_r0 : XCode := .seq (.seq (.region false [zo 7 (.mov (.tmp 4)),
 zo 8 (.mov (.tmp 0)),
 zo 9 (.lens true (.tmp 8)),
 zo 10 (.bin .lss (.tmp 7) (.tmp 9))] [])
  (.cond (.tmp 10) .skip (.exit 0)))
 (.seq (.block 1 (.seq (.region false [zo 13 (.mov (.tmp 0)),
 zo 14 (.mov (.tmp 4)),
 zo 15 (.idxs (.tmp 13) (.tmp 14)),
 zo 5 (.own 15)] [])
  (.block 2 (.seq (.region false [zo 26 (.mov (.tmp 5)),
 zo 27 (.bin .eql (.tmp 26) (.cst (.int .u8 34))),
 zo 28 (.mov (.tmp 27)),
 zg 29 28 false (.mov (.tmp 5)),
 zg 30 28 false (.bin .eql (.tmp 29) (.cst (.int .u8 92))),
 zo 31 (.pick (.tmp 28) (.cst (.bool true)) (.tmp 30)),
 zo 25 (.own 31)] [])
  (.cond (.tmp 25) (.region false [zo 32 (.own 3),
 zo 33 (.mov (.tmp 5)),
 zo 34 (.bslice 1 [.int .u8 0, .int .u8 0] [(0, 1, .cst (.int .u8 92)), (1, 1, .tmp 33)]),
 zo 35 (.app false 1 1 32 (.tmp 34)),
 zo 3 (.own 35)] []) (.seq (.region false [zo 37 (.mov (.tmp 5)),
 zo 38 (.bin .geq (.tmp 37) (.cst (.int .u8 32))),
 zo 39 (.mov (.tmp 38)),
 zg 40 39 true (.mov (.tmp 5)),
 zg 41 39 true (.bin .leq (.tmp 40) (.cst (.int .u8 126))),
 zo 42 (.pick (.tmp 39) (.tmp 41) (.cst (.bool false))),
 zo 36 (.own 42)] [])
  (.cond (.tmp 36) (.region false [zo 43 (.own 3),
 zo 44 (.mov (.tmp 5)),
 zo 45 (.bslice 1 [.int .u8 0] [(0, 1, .tmp 44)]),
 zo 46 (.app false 1 1 43 (.tmp 45)),
 zo 3 (.own 46)] []) (.region true [zo 16 (.own 3),
 zo 17 (.mov (.tmp 5)),
 zo 18 (.bin .quo (.tmp 17) (.cst (.int .u8 16))),
 zo 19 (.idxs (.cst (.str [48, 49, 50, 51, 52, 53, 54, 55, 56, 57, 97, 98, 99, 100, 101, 102])) (.tmp 18)),
 zo 20 (.mov (.tmp 5)),
 zo 21 (.bin .rem (.tmp 20) (.cst (.int .u8 16))),
 zo 22 (.idxs (.cst (.str [48, 49, 50, 51, 52, 53, 54, 55, 56, 57, 97, 98, 99, 100, 101, 102])) (.tmp 21)),
 zo 23 (.bslice 1 [.int .u8 0, .int .u8 0, .int .u8 0, .int .u8 0] [(0, 1, .cst (.int .u8 92)), (1, 1, .cst (.int .u8 120)), (2, 1, .tmp 19), (3, 1, .tmp 22)]),
 zo 24 (.app false 1 1 16 (.tmp 23)),
 zo 3 (.own 24)] []))))))))
  (.region false [zo 11 (.mov (.tmp 4)),
 zo 12 (.bin .add (.tmp 11) (.cst (.int .i64 1))),
 zo 4 (.own 12)] []))
def x53_l0 : XCode := x53_r0
/-- custos/custosref02.Quoted -/
def x53 : XFn := XFn.mk 52 [.tmp 2] (.seq (.region false [zo 2 (.mov (.cst (.str [])))] [])
 (.seq (.region false [zo 6 (.bslice 1 [.int .u8 0] [(0, 1, .cst (.int .u8 34))]),
 zo 3 (.own 6)] [])
 (.seq (.seq (.region false [zo 4 (.mov (.cst (.int .i64 0)))] [])
  (.block 0 (.loop x53_l0)))
 (.seq (.region false [zo 47 (.own 3),
 zo 48 (.bslice 1 [.int .u8 0] [(0, 1, .cst (.int .u8 34))]),
 zo 49 (.app false 1 1 47 (.tmp 48)),
 zo 3 (.own 49)] [])
 (.seq (.region false [zo 50 (.mov (.tmp 3)),
 zo 51 (.bstr (.tmp 50)),
 zo 2 (.own 51)] [])
  .ret)))))
def x54_r0 : XCode := .seq (.seq (.region false [zo 5 (.mov (.tmp 4)),
 zo 6 (.mov (.tmp 0)),
 zo 7 (.lens true (.tmp 6)),
 zo 8 (.bin .lss (.tmp 5) (.tmp 7))] [])
  (.cond (.tmp 8) .skip (.exit 0)))
 (.seq (.block 1 (.seq (.region false [zo 11 (.mov (.tmp 0)),
 zo 12 (.mov (.tmp 4)),
 zo 13 (.idxs (.tmp 11) (.tmp 12)),
 zo 14 (.bin .geq (.tmp 13) (.cst (.int .u8 48))),
 zo 15 (.mov (.tmp 14)),
 zg 16 15 true (.mov (.tmp 0)),
 zg 17 15 true (.mov (.tmp 4)),
 zg 18 15 true (.idxs (.tmp 16) (.tmp 17)),
 zg 19 15 true (.bin .leq (.tmp 18) (.cst (.int .u8 57))),
 zo 20 (.pick (.tmp 15) (.tmp 19) (.cst (.bool false)))] [])
  (.cond (.tmp 20) (.region false [zo 21 (.mov (.tmp 3)),
 zo 22 (.bin .mul (.tmp 21) (.cst (.int .i64 10))),
 zo 23 (.mov (.tmp 0)),
 zo 24 (.mov (.tmp 4)),
 zo 25 (.idxs (.tmp 23) (.tmp 24)),
 zo 26 (.bin .sub (.tmp 25) (.cst (.int .u8 48))),
 zo 27 (.conv .i64 (.tmp 26)),
 zo 28 (.bin .sub (.tmp 22) (.tmp 27)),
 zo 3 (.own 28)] []) .skip)))
  (.region false [zo 9 (.mov (.tmp 4)),
 zo 10 (.bin .add (.tmp 9) (.cst (.int .i64 1))),
 zo 4 (.own 10)] []))
def x54_l0 : XCode := x54_r0
/-- custos/custosref02.number -/
def x54 : XFn := XFn.mk 40 [.tmp 2] (.seq (.region false [zo 2 (.mov (.cst (.int .i64 0)))] [])
 (.seq (.region false [zo 3 (.mov (.cst (.int .i64 0)))] [])
 (.seq (.seq (.region false [zo 4 (.mov (.cst (.int .i64 0)))] [])
  (.block 0 (.loop x54_l0)))
 (.seq (.seq (.region false [zo 29 (.mov (.tmp 0)),
 zo 30 (.lens true (.tmp 29)),
 zo 31 (.bin .gtr (.tmp 30) (.cst (.int .i64 0))),
 zo 32 (.mov (.tmp 31)),
 zg 33 32 true (.mov (.tmp 0)),
 zg 34 32 true (.idxs (.tmp 33) (.cst (.int .i64 0))),
 zg 35 32 true (.bin .eql (.tmp 34) (.cst (.int .u8 45))),
 zo 36 (.pick (.tmp 32) (.tmp 35) (.cst (.bool false)))] [])
  (.cond (.tmp 36) (.seq (.region false [zo 37 (.mov (.tmp 3)),
 zo 2 (.own 37)] [])
  .ret) .skip))
 (.seq (.region false [zo 38 (.mov (.tmp 3)),
 zo 39 (.neg (.tmp 38)),
 zo 2 (.own 39)] [])
  .ret)))))
/-- custos/custosref02.Print -/
def x55 : XFn := XFn.mk 30 [.tmp 2, .tmp 3] (.seq (.region false [zo 1 (.box (.tmp 0) 4),
 zo 2 (.mov (.cst (.str []))),
 zo 3 (.mov (.cst (.int .i64 0)))] [])
 (.seq (.region false [zo 5 (.load (.tmp 1) 4 true),
 zo 6 (.callq 71 [.tmp 5]),
 zo 4 (.own 6)] [])
 (.seq (.seq (.region false [zo 7 (.mov (.tmp 4)),
 zo 8 (.bin .neq (.tmp 7) (.cst (.int .i64 0)))] [])
  (.cond (.tmp 8) (.seq (.region false [zo 9 (.mov (.tmp 4)),
 zo 2 (.mov (.cst (.str []))),
 zo 3 (.own 9)] [])
  .ret) .skip))
 (.seq (.seq (.region false [zo 10 (.faddr (.tmp 1) 0),
 zo 11 (.load (.tmp 10) 1 false)] [])
  (.block 0 (.seq (.region false [zo 13 (.bin .eql (.tmp 11) (.cst (.int .i64 1))),
 zo 12 (.own 13)] [])
  (.cond (.tmp 12) (.seq (.region false [zo 14 (.faddr (.tmp 1) 1),
 zo 15 (.load (.tmp 14) 1 false),
 zo 16 (.callq 72 [.tmp 15]),
 zo 2 (.own 16),
 zo 3 (.mov (.cst (.int .i64 0)))] [])
  .ret) (.seq (.region false [zo 18 (.bin .eql (.tmp 11) (.cst (.int .i64 2))),
 zo 17 (.own 18)] [])
  (.cond (.tmp 17) (.seq (.region true [zo 19 (.faddr (.tmp 1) 1),
 zo 20 (.load (.tmp 19) 1 false),
 zo 21 (.callq 72 [.tmp 20]),
 zo 22 (.bin .add (.tmp 21) (.cst (.str [47]))),
 zo 23 (.faddr (.tmp 1) 2),
 zo 24 (.load (.tmp 23) 1 false),
 zo 25 (.callq 72 [.tmp 24]),
 zo 26 (.bin .add (.tmp 22) (.tmp 25)),
 zo 2 (.own 26),
 zo 3 (.mov (.cst (.int .i64 0)))] [])
  .ret) .skip))))))
 (.seq (.region false [zo 27 (.faddr (.tmp 1) 3),
 zo 28 (.load (.tmp 27) 1 false),
 zo 29 (.callq 53 [.tmp 28]),
 zo 2 (.own 29),
 zo 3 (.mov (.cst (.int .i64 0)))] [])
  .ret)))))
def x57_r0 : XCode := .seq (.seq (.region false [zo 57 (.mov (.tmp 8)),
 zo 58 (.mov (.tmp 9)),
 zo 59 (.bin .lss (.tmp 57) (.tmp 58))] [])
  (.cond (.tmp 59) .skip (.exit 1)))
  (.block 2 (.seq (.seq (.region false [zo 60 (.mov (.tmp 0)),
 zo 61 (.mov (.tmp 8)),
 zo 62 (.idxs (.tmp 60) (.tmp 61)),
 zo 63 (.mov (.tmp 6)),
 zo 64 (.bin .neq (.tmp 62) (.tmp 63))] [])
  (.cond (.tmp 64) (.seq (.region false [zo 65 (.mov (.tmp 0)),
 zo 66 (.mov (.tmp 8)),
 zo 67 (.bin .add (.tmp 66) (.cst (.int .i64 1))),
 zo 68 (.mov (.tmp 9)),
 zo 69 (.sstr (.tmp 65) (some (.tmp 67)) (some (.tmp 68))),
 zo 70 (.mov (.tmp 6)),
 zo 71 (.callq 42 [.tmp 69, .tmp 70]),
 zo 11 (.own 71)] [])
 (.seq (.seq (.region false [zo 72 (.mov (.tmp 11)),
 zo 73 (.bin .lss (.tmp 72) (.cst (.int .i64 0)))] [])
  (.cond (.tmp 73) (.seq (.region false [zo 4 (.mov (.cst (.int .i64 (-1))))] [])
  .ret) .skip))
  (.region false [zo 74 (.mov (.tmp 8)),
 zo 75 (.mov (.tmp 11)),
 zo 76 (.bin .add (.tmp 75) (.cst (.int .i64 1))),
 zo 77 (.bin .add (.tmp 74) (.tmp 76)),
 zo 8 (.own 77)] []))) .skip))
 (.seq (.seq (.region false [zo 78 (.mov (.tmp 0)),
 zo 79 (.mov (.tmp 8)),
 zo 80 (.bin .add (.tmp 79) (.cst (.int .i64 1))),
 zo 81 (.idxs (.tmp 78) (.tmp 80)),
 zo 82 (.mov (.tmp 7)),
 zo 83 (.bin .eql (.tmp 81) (.tmp 82)),
 zo 84 (.mov (.tmp 83)),
 zg 85 84 true (.mov (.tmp 0)),
 zg 86 84 true (.mov (.tmp 8)),
 zg 87 84 true (.mov (.tmp 8)),
 zg 88 84 true (.mov (.tmp 5)),
 zg 89 84 true (.bin .add (.tmp 87) (.tmp 88)),
 zg 90 84 true (.sstr (.tmp 85) (some (.tmp 86)) (some (.tmp 89))),
 zg 91 84 true (.mov (.tmp 1)),
 zg 92 84 true (.bin .eql (.tmp 90) (.tmp 91)),
 zo 93 (.pick (.tmp 84) (.tmp 92) (.cst (.bool false)))] [])
  (.cond (.tmp 93) (.seq (.region false [zo 94 (.mov (.tmp 8)),
 zo 4 (.own 94)] [])
  .ret) .skip))
 (.seq (.region false [zo 95 (.mov (.tmp 8)),
 zo 96 (.bin .add (.tmp 95) (.cst (.int .i64 1))),
 zo 8 (.own 96)] [])
 (.seq (.region false [zo 97 (.mov (.tmp 10)),
 zo 98 (.bin .add (.tmp 97) (.cst (.int .i64 1))),
 zo 10 (.own 98)] [])
 (.seq (.region false [zo 99 (.mov (.tmp 5)),
 zo 100 (.load (.glob 0) 1 false),
 zo 101 (.bin .leq (.tmp 99) (.tmp 100)),
 zo 102 (.mov (.tmp 101)),
 zg 103 102 true (.mov (.tmp 10)),
 zg 104 102 true (.mov (.tmp 8)),
 zg 105 102 true (.callq 74 [.tmp 104]),
 zg 106 102 true (.bin .gtr (.tmp 103) (.tmp 105)),
 zo 107 (.pick (.tmp 102) (.tmp 106) (.cst (.bool false)))] [])
  (.cond (.tmp 107) (.seq (.region false [zo 108 (.mov (.tmp 0)),
 zo 109 (.mov (.tmp 8)),
 zo 110 (.sstr (.tmp 108) (some (.tmp 109)) none),
 zo 111 (.mov (.tmp 1)),
 zo 112 (.prim 99 73 [.tmp 110, .tmp 111]),
 zo 12 (.own 112)] [])
 (.seq (.seq (.region false [zo 113 (.mov (.tmp 12)),
 zo 114 (.bin .geq (.tmp 113) (.cst (.int .i64 0)))] [])
  (.cond (.tmp 114) (.seq (.region false [zo 115 (.mov (.tmp 12)),
 zo 116 (.mov (.tmp 8)),
 zo 117 (.bin .add (.tmp 115) (.tmp 116)),
 zo 4 (.own 117)] [])
  .ret) .skip))
 (.seq (.region false [zo 4 (.mov (.cst (.int .i64 (-1))))] [])
  .ret))) (.seq (.region false [zo 118 (.mov (.tmp 5)),
 zo 119 (.load (.glob 0) 1 false),
 zo 120 (.bin .gtr (.tmp 118) (.tmp 119)),
 zo 121 (.mov (.tmp 120)),
 zg 122 121 true (.mov (.tmp 10)),
 zg 123 121 true (.mov (.tmp 8)),
 zg 124 121 true (.bin .shr (.tmp 123) (.cst (.int .u64 4))),
 zg 125 121 true (.bin .add (.cst (.int .i64 4)) (.tmp 124)),
 zg 126 121 true (.bin .geq (.tmp 122) (.tmp 125)),
 zo 127 (.pick (.tmp 121) (.tmp 126) (.cst (.bool false))),
 zo 128 (.mov (.tmp 127)),
 zg 129 128 true (.mov (.tmp 8)),
 zg 130 128 true (.mov (.tmp 9)),
 zg 131 128 true (.bin .lss (.tmp 129) (.tmp 130)),
 zo 132 (.pick (.tmp 128) (.tmp 131) (.cst (.bool false)))] [])
  (.cond (.tmp 132) (.seq (.region false [zo 133 (.mov (.tmp 0)),
 zo 134 (.mov (.tmp 8)),
 zo 135 (.sstr (.tmp 133) (some (.tmp 134)) none),
 zo 136 (.mov (.tmp 1)),
 zo 137 (.callq 75 [.tmp 135, .tmp 136]),
 zo 13 (.own 137)] [])
 (.seq (.seq (.region false [zo 138 (.mov (.tmp 13)),
 zo 139 (.bin .lss (.tmp 138) (.cst (.int .i64 0)))] [])
  (.cond (.tmp 139) (.seq (.region false [zo 4 (.mov (.cst (.int .i64 (-1))))] [])
  .ret) .skip))
 (.seq (.region false [zo 140 (.mov (.tmp 8)),
 zo 141 (.mov (.tmp 13)),
 zo 142 (.bin .add (.tmp 140) (.tmp 141)),
 zo 4 (.own 142)] [])
  .ret))) .skip)))))))))
def x57_l0 : XCode := x57_r0
/-- internal/stringslite.Index -/
def x57 : XFn := XFn.mk 143 [.tmp 4] (.seq (.region false [zo 4 (.mov (.cst (.int .i64 0)))] [])
 (.seq (.region false [zo 14 (.mov (.tmp 1)),
 zo 15 (.lens true (.tmp 14)),
 zo 5 (.own 15)] [])
 (.seq (.block 0 (.seq (.region false [zo 17 (.mov (.tmp 5)),
 zo 18 (.bin .eql (.tmp 17) (.cst (.int .i64 0))),
 zo 19 (.mov (.tmp 18)),
 zg 20 19 false (.mov (.tmp 1)),
 zg 21 19 false (.mov (.tmp 0)),
 zg 22 19 false (.bin .eql (.tmp 20) (.tmp 21)),
 zo 23 (.pick (.tmp 19) (.cst (.bool true)) (.tmp 22)),
 zo 16 (.own 23)] [])
  (.cond (.tmp 16) (.seq (.region false [zo 4 (.mov (.cst (.int .i64 0)))] [])
  .ret) (.seq (.region false [zo 25 (.mov (.tmp 5)),
 zo 26 (.bin .eql (.tmp 25) (.cst (.int .i64 1))),
 zo 24 (.own 26)] [])
  (.cond (.tmp 24) (.seq (.region false [zo 27 (.mov (.tmp 0)),
 zo 28 (.mov (.tmp 1)),
 zo 29 (.idxs (.tmp 28) (.cst (.int .i64 0))),
 zo 30 (.callq 42 [.tmp 27, .tmp 29]),
 zo 4 (.own 30)] [])
  .ret) (.seq (.region false [zo 32 (.mov (.tmp 5)),
 zo 33 (.mov (.tmp 0)),
 zo 34 (.lens true (.tmp 33)),
 zo 35 (.bin .geq (.tmp 32) (.tmp 34)),
 zo 31 (.own 35)] [])
  (.cond (.tmp 31) (.seq (.region false [zo 4 (.mov (.cst (.int .i64 (-1))))] [])
  .ret) (.seq (.region false [zo 37 (.mov (.tmp 5)),
 zo 38 (.load (.glob 0) 1 false),
 zo 39 (.bin .leq (.tmp 37) (.tmp 38)),
 zo 40 (.mov (.tmp 39)),
 zg 41 40 true (.mov (.tmp 0)),
 zg 42 40 true (.lens true (.tmp 41)),
 zg 43 40 true (.bin .leq (.tmp 42) (.cst (.int .i64 64))),
 zo 44 (.pick (.tmp 40) (.tmp 43) (.cst (.bool false))),
 zo 36 (.own 44)] [])
  (.cond (.tmp 36) (.seq (.region false [zo 45 (.mov (.tmp 0)),
 zo 46 (.mov (.tmp 1)),
 zo 47 (.prim 99 73 [.tmp 45, .tmp 46]),
 zo 4 (.own 47)] [])
  .ret) .skip)))))))))
 (.seq (.region false [zo 48 (.mov (.tmp 1)),
 zo 49 (.idxs (.tmp 48) (.cst (.int .i64 0))),
 zo 6 (.own 49)] [])
 (.seq (.region false [zo 50 (.mov (.tmp 1)),
 zo 51 (.idxs (.tmp 50) (.cst (.int .i64 1))),
 zo 7 (.own 51)] [])
 (.seq (.region false [zo 8 (.mov (.cst (.int .i64 0)))] [])
 (.seq (.region false [zo 52 (.mov (.tmp 0)),
 zo 53 (.lens true (.tmp 52)),
 zo 54 (.mov (.tmp 5)),
 zo 55 (.bin .sub (.tmp 53) (.tmp 54)),
 zo 56 (.bin .add (.tmp 55) (.cst (.int .i64 1))),
 zo 9 (.own 56)] [])
 (.seq (.region false [zo 10 (.mov (.cst (.int .i64 0)))] [])
 (.seq (.block 1 (.loop x57_l0))
 (.seq (.region false [zo 4 (.mov (.cst (.int .i64 (-1))))] [])
  .ret))))))))))
/-- internal/stringslite.HasSuffix -/
def x58 : XFn := XFn.mk 21 [.tmp 4] (.seq (.region false [zo 4 (.mov (.cst (.bool false)))] [])
 (.seq (.region false [zo 5 (.mov (.tmp 0)),
 zo 6 (.lens true (.tmp 5)),
 zo 7 (.mov (.tmp 1)),
 zo 8 (.lens true (.tmp 7)),
 zo 9 (.bin .geq (.tmp 6) (.tmp 8)),
 zo 10 (.mov (.tmp 9)),
 zg 11 10 true (.mov (.tmp 0)),
 zg 12 10 true (.mov (.tmp 0)),
 zg 13 10 true (.lens true (.tmp 12)),
 zg 14 10 true (.mov (.tmp 1)),
 zg 15 10 true (.lens true (.tmp 14)),
 zg 16 10 true (.bin .sub (.tmp 13) (.tmp 15)),
 zg 17 10 true (.sstr (.tmp 11) (some (.tmp 16)) none),
 zg 18 10 true (.mov (.tmp 1)),
 zg 19 10 true (.bin .eql (.tmp 17) (.tmp 18)),
 zo 20 (.pick (.tmp 10) (.tmp 19) (.cst (.bool false))),
 zo 4 (.own 20)] [])
  .ret))
def x59_r0 : XCode := .seq (.region false [zo 102 (.bin .lss (.tmp 101) (.tmp 100))] [])
 (.seq (.cond (.tmp 102) .skip (.exit 3))
 (.seq (.block 4 (.seq (.region false [zo 103 (.iaddr 1 (.tmp 99) (.tmp 101)),
 zo 104 (.load (.tmp 103) 1 false),
 zo 15 (.own 104)] [])
 (.seq (.region false [zo 16 (.mov (.cst (.int .u8 0)))] [])
 (.seq (.block 5 (.seq (.region false [zo 107 (.mov (.tmp 15)),
 zo 108 (.bin .eql (.tmp 107) (.cst (.int .u8 95))),
 zo 109 (.mov (.tmp 108)),
 zg 110 109 true (.mov (.tmp 8)),
 zo 111 (.pick (.tmp 109) (.tmp 110) (.cst (.bool false))),
 zo 106 (.own 111)] [])
  (.cond (.tmp 106) (.seq (.region false [zo 12 (.mov (.cst (.bool true)))] [])
  (.exit 4)) (.seq (.region false [zo 113 (.mov (.tmp 15)),
 zo 114 (.bin .leq (.cst (.int .u8 48)) (.tmp 113)),
 zo 115 (.mov (.tmp 114)),
 zg 116 115 true (.mov (.tmp 15)),
 zg 117 115 true (.bin .leq (.tmp 116) (.cst (.int .u8 57))),
 zo 118 (.pick (.tmp 115) (.tmp 117) (.cst (.bool false))),
 zo 112 (.own 118)] [])
  (.cond (.tmp 112) (.region false [zo 119 (.mov (.tmp 15)),
 zo 120 (.bin .sub (.tmp 119) (.cst (.int .u8 48))),
 zo 16 (.own 120)] []) (.seq (.region false [zo 122 (.mov (.tmp 15)),
 zo 123 (.callq 76 [.tmp 122]),
 zo 124 (.bin .leq (.cst (.int .u8 97)) (.tmp 123)),
 zo 125 (.mov (.tmp 124)),
 zg 126 125 true (.mov (.tmp 15)),
 zg 127 125 true (.callq 76 [.tmp 126]),
 zg 128 125 true (.bin .leq (.tmp 127) (.cst (.int .u8 122))),
 zo 129 (.pick (.tmp 125) (.tmp 128) (.cst (.bool false))),
 zo 121 (.own 129)] [])
  (.cond (.tmp 121) (.region false [zo 130 (.mov (.tmp 15)),
 zo 131 (.callq 76 [.tmp 130]),
 zo 132 (.bin .sub (.tmp 131) (.cst (.int .u8 97))),
 zo 133 (.bin .add (.tmp 132) (.cst (.int .u8 10))),
 zo 16 (.own 133)] []) (.seq (.region false [zo 105 (.mkif 80 (.cst (.int .i64 2))),
 zo 6 (.mov (.cst (.int .u64 0))),
 zo 7 (.own 105)] [])
  .ret))))))))
 (.seq (.seq (.region false [zo 134 (.mov (.tmp 16)),
 zo 135 (.mov (.tmp 1)),
 zo 136 (.conv .u8 (.tmp 135)),
 zo 137 (.bin .geq (.tmp 134) (.tmp 136))] [])
  (.cond (.tmp 137) (.seq (.region false [zo 138 (.mkif 80 (.cst (.int .i64 2))),
 zo 6 (.mov (.cst (.int .u64 0))),
 zo 7 (.own 138)] [])
  .ret) .skip))
 (.seq (.seq (.region false [zo 139 (.mov (.tmp 13)),
 zo 140 (.mov (.tmp 10)),
 zo 141 (.bin .geq (.tmp 139) (.tmp 140))] [])
  (.cond (.tmp 141) (.seq (.region false [zo 142 (.mov (.tmp 11)),
 zo 143 (.mkif 80 (.cst (.int .i64 1))),
 zo 6 (.own 142),
 zo 7 (.own 143)] [])
  .ret) .skip))
 (.seq (.region false [zo 144 (.mov (.tmp 13)),
 zo 145 (.mov (.tmp 1)),
 zo 146 (.conv .u64 (.tmp 145)),
 zo 147 (.bin .mul (.tmp 144) (.tmp 146)),
 zo 13 (.own 147)] [])
 (.seq (.region false [zo 148 (.mov (.tmp 13)),
 zo 149 (.mov (.tmp 16)),
 zo 150 (.conv .u64 (.tmp 149)),
 zo 151 (.bin .add (.tmp 148) (.tmp 150)),
 zo 17 (.own 151)] [])
 (.seq (.seq (.region false [zo 152 (.mov (.tmp 17)),
 zo 153 (.mov (.tmp 13)),
 zo 154 (.bin .lss (.tmp 152) (.tmp 153)),
 zo 155 (.mov (.tmp 154)),
 zg 156 155 false (.mov (.tmp 17)),
 zg 157 155 false (.mov (.tmp 11)),
 zg 158 155 false (.bin .gtr (.tmp 156) (.tmp 157)),
 zo 159 (.pick (.tmp 155) (.cst (.bool true)) (.tmp 158))] [])
  (.cond (.tmp 159) (.seq (.region false [zo 160 (.mov (.tmp 11)),
 zo 161 (.mkif 80 (.cst (.int .i64 1))),
 zo 6 (.own 160),
 zo 7 (.own 161)] [])
  .ret) .skip))
  (.region false [zo 162 (.mov (.tmp 17)),
 zo 13 (.own 162)] []))))))))))
  (.region false [zo 163 (.bin .add (.tmp 101) (.cst (.int .i64 1))),
 zo 101 (.mov (.tmp 163))] [])))
def x59_l0 : XCode := x59_r0
/-- internal/strconv.ParseUint -/
def x59 : XFn := XFn.mk 172 [.tmp 6, .tmp 7] (.seq (.region false [zo 6 (.mov (.cst (.int .u64 0))),
 zo 7 (.mov (.cst .nilif))] [])
 (.seq (.seq (.region false [zo 18 (.mov (.tmp 0)),
 zo 19 (.bin .eql (.tmp 18) (.cst (.str [])))] [])
  (.cond (.tmp 19) (.seq (.region false [zo 20 (.mkif 80 (.cst (.int .i64 2))),
 zo 6 (.mov (.cst (.int .u64 0))),
 zo 7 (.own 20)] [])
  .ret) .skip))
 (.seq (.region false [zo 21 (.mov (.tmp 1)),
 zo 22 (.bin .eql (.tmp 21) (.cst (.int .i64 0))),
 zo 8 (.own 22)] [])
 (.seq (.region false [zo 23 (.mov (.tmp 0)),
 zo 9 (.own 23)] [])
 (.seq (.block 0 (.seq (.region false [zo 26 (.mov (.tmp 1)),
 zo 27 (.bin .leq (.cst (.int .i64 2)) (.tmp 26)),
 zo 28 (.mov (.tmp 27)),
 zg 29 28 true (.mov (.tmp 1)),
 zg 30 28 true (.bin .leq (.tmp 29) (.cst (.int .i64 36))),
 zo 31 (.pick (.tmp 28) (.tmp 30) (.cst (.bool false))),
 zo 25 (.own 31)] [])
  (.cond (.tmp 25) .skip (.seq (.region false [zo 33 (.mov (.tmp 1)),
 zo 34 (.bin .eql (.tmp 33) (.cst (.int .i64 0))),
 zo 32 (.own 34)] [])
  (.cond (.tmp 32) (.seq (.region false [zo 1 (.mov (.cst (.int .i64 10)))] [])
 (.seq (.region false [zo 35 (.mov (.tmp 0)),
 zo 36 (.idxs (.tmp 35) (.cst (.int .i64 0))),
 zo 37 (.bin .eql (.tmp 36) (.cst (.int .u8 48)))] [])
  (.cond (.tmp 37) (.block 1 (.seq (.region false [zo 41 (.mov (.tmp 0)),
 zo 42 (.lens true (.tmp 41)),
 zo 43 (.bin .geq (.tmp 42) (.cst (.int .i64 3))),
 zo 44 (.mov (.tmp 43)),
 zg 45 44 true (.mov (.tmp 0)),
 zg 46 44 true (.idxs (.tmp 45) (.cst (.int .i64 1))),
 zg 47 44 true (.callq 76 [.tmp 46]),
 zg 48 44 true (.bin .eql (.tmp 47) (.cst (.int .u8 98))),
 zo 49 (.pick (.tmp 44) (.tmp 48) (.cst (.bool false))),
 zo 40 (.own 49)] [])
  (.cond (.tmp 40) (.seq (.region false [zo 1 (.mov (.cst (.int .i64 2)))] [])
  (.region false [zo 50 (.mov (.tmp 0)),
 zo 51 (.sstr (.tmp 50) (some (.cst (.int .i64 2))) none),
 zo 0 (.own 51)] [])) (.seq (.region false [zo 53 (.mov (.tmp 0)),
 zo 54 (.lens true (.tmp 53)),
 zo 55 (.bin .geq (.tmp 54) (.cst (.int .i64 3))),
 zo 56 (.mov (.tmp 55)),
 zg 57 56 true (.mov (.tmp 0)),
 zg 58 56 true (.idxs (.tmp 57) (.cst (.int .i64 1))),
 zg 59 56 true (.callq 76 [.tmp 58]),
 zg 60 56 true (.bin .eql (.tmp 59) (.cst (.int .u8 111))),
 zo 61 (.pick (.tmp 56) (.tmp 60) (.cst (.bool false))),
 zo 52 (.own 61)] [])
  (.cond (.tmp 52) (.seq (.region false [zo 1 (.mov (.cst (.int .i64 8)))] [])
  (.region false [zo 62 (.mov (.tmp 0)),
 zo 63 (.sstr (.tmp 62) (some (.cst (.int .i64 2))) none),
 zo 0 (.own 63)] [])) (.seq (.region false [zo 65 (.mov (.tmp 0)),
 zo 66 (.lens true (.tmp 65)),
 zo 67 (.bin .geq (.tmp 66) (.cst (.int .i64 3))),
 zo 68 (.mov (.tmp 67)),
 zg 69 68 true (.mov (.tmp 0)),
 zg 70 68 true (.idxs (.tmp 69) (.cst (.int .i64 1))),
 zg 71 68 true (.callq 76 [.tmp 70]),
 zg 72 68 true (.bin .eql (.tmp 71) (.cst (.int .u8 120))),
 zo 73 (.pick (.tmp 68) (.tmp 72) (.cst (.bool false))),
 zo 64 (.own 73)] [])
  (.cond (.tmp 64) (.seq (.region false [zo 1 (.mov (.cst (.int .i64 16)))] [])
  (.region false [zo 74 (.mov (.tmp 0)),
 zo 75 (.sstr (.tmp 74) (some (.cst (.int .i64 2))) none),
 zo 0 (.own 75)] [])) (.seq (.region false [zo 1 (.mov (.cst (.int .i64 8)))] [])
  (.region false [zo 38 (.mov (.tmp 0)),
 zo 39 (.sstr (.tmp 38) (some (.cst (.int .i64 1))) none),
 zo 0 (.own 39)] []))))))))) .skip))) (.seq (.region false [zo 24 (.mkif 80 (.cst (.int .i64 3))),
 zo 6 (.mov (.cst (.int .u64 0))),
 zo 7 (.own 24)] [])
  .ret))))))
 (.seq (.seq (.region false [zo 76 (.mov (.tmp 2)),
 zo 77 (.bin .eql (.tmp 76) (.cst (.int .i64 0)))] [])
  (.cond (.tmp 77) (.region false [zo 2 (.mov (.cst (.int .i64 64)))] []) (.seq (.region false [zo 78 (.mov (.tmp 2)),
 zo 79 (.bin .lss (.tmp 78) (.cst (.int .i64 0))),
 zo 80 (.mov (.tmp 79)),
 zg 81 80 false (.mov (.tmp 2)),
 zg 82 80 false (.bin .gtr (.tmp 81) (.cst (.int .i64 64))),
 zo 83 (.pick (.tmp 80) (.cst (.bool true)) (.tmp 82))] [])
  (.cond (.tmp 83) (.seq (.region false [zo 84 (.mkif 80 (.cst (.int .i64 4))),
 zo 6 (.mov (.cst (.int .u64 0))),
 zo 7 (.own 84)] [])
  .ret) .skip))))
 (.seq (.region false [zo 10 (.mov (.cst (.int .u64 0)))] [])
 (.seq (.seq (.region false [zo 85 (.mov (.tmp 1))] [])
  (.block 2 (.seq (.region false [zo 91 (.bin .eql (.tmp 85) (.cst (.int .i64 10))),
 zo 90 (.own 91)] [])
  (.cond (.tmp 90) (.region false [zo 10 (.mov (.cst (.int .u64 1844674407370955162)))] []) (.seq (.region false [zo 93 (.bin .eql (.tmp 85) (.cst (.int .i64 16))),
 zo 92 (.own 93)] [])
  (.cond (.tmp 92) (.region false [zo 10 (.mov (.cst (.int .u64 1152921504606846976)))] []) (.region false [zo 86 (.mov (.tmp 1)),
 zo 87 (.conv .u64 (.tmp 86)),
 zo 88 (.bin .quo (.cst (.int .u64 18446744073709551615)) (.tmp 87)),
 zo 89 (.bin .add (.tmp 88) (.cst (.int .u64 1))),
 zo 10 (.own 89)] [])))))))
 (.seq (.region false [zo 94 (.mov (.tmp 2)),
 zo 95 (.conv .u64 (.tmp 94)),
 zo 96 (.bin .shl (.cst (.int .u64 1)) (.tmp 95)),
 zo 97 (.bin .sub (.tmp 96) (.cst (.int .u64 1))),
 zo 11 (.own 97)] [])
 (.seq (.region false [zo 12 (.mov (.cst (.bool false)))] [])
 (.seq (.region false [zo 13 (.mov (.cst (.int .u64 0)))] [])
 (.seq (.seq (.region false [zo 98 (.mov (.tmp 0)),
 zo 99 (.strb (.tmp 98)),
 zo 100 (.lens false (.tmp 99)),
 zo 101 (.mov (.cst (.int .i64 0)))] [])
  (.block 3 (.loop x59_l0)))
 (.seq (.seq (.region false [zo 164 (.mov (.tmp 12)),
 zo 165 (.mov (.tmp 164)),
 zg 166 165 true (.mov (.tmp 9)),
 zg 167 165 true (.callq 77 [.tmp 166]),
 zg 168 165 true (.not (.tmp 167)),
 zo 169 (.pick (.tmp 165) (.tmp 168) (.cst (.bool false)))] [])
  (.cond (.tmp 169) (.seq (.region false [zo 170 (.mkif 80 (.cst (.int .i64 2))),
 zo 6 (.mov (.cst (.int .u64 0))),
 zo 7 (.own 170)] [])
  .ret) .skip))
 (.seq (.region false [zo 171 (.mov (.tmp 13)),
 zo 6 (.own 171),
 zo 7 (.mov (.cst .nilif))] [])
  .ret))))))))))))))
/-- strconv.syntaxError -/
def x60 : XFn := XFn.mk 11 [.tmp 4] (.seq (.region false [zo 4 (.mov (.cst .nilptr))] [])
 (.seq (.region true [zo 5 (.mov (.tmp 0)),
 zo 6 (.mov (.tmp 1)),
 zo 7 (.prim 4 78 [.tmp 6]),
 zo 8 (.load (.glob 1) 1 false),
 zo 9 (.build [.str [], .str [], .nilif] [(0, 1, .tmp 5), (1, 1, .tmp 7), (2, 1, .tmp 8)]),
 zo 10 (.box (.tmp 9) 3),
 zo 4 (.own 10)] [])
  .ret))
/-- strconv.rangeError -/
def x61 : XFn := XFn.mk 11 [.tmp 4] (.seq (.region false [zo 4 (.mov (.cst .nilptr))] [])
 (.seq (.region true [zo 5 (.mov (.tmp 0)),
 zo 6 (.mov (.tmp 1)),
 zo 7 (.prim 4 78 [.tmp 6]),
 zo 8 (.load (.glob 2) 1 false),
 zo 9 (.build [.str [], .str [], .nilif] [(0, 1, .tmp 5), (1, 1, .tmp 7), (2, 1, .tmp 8)]),
 zo 10 (.box (.tmp 9) 3),
 zo 4 (.own 10)] [])
  .ret))
/-- strconv.baseError -/
def x62 : XFn := XFn.mk 16 [.tmp 6] (.seq (.region false [zo 6 (.mov (.cst .nilptr))] [])
 (.seq (.region false [zo 7 (.mov (.tmp 0)),
 zo 8 (.mov (.tmp 1)),
 zo 9 (.prim 4 78 [.tmp 8]),
 zo 10 (.mov (.tmp 2)),
 zo 11 (.callq 80 [.tmp 10]),
 zo 12 (.bin .add (.cst (.str [105, 110, 118, 97, 108, 105, 100, 32, 98, 97, 115, 101, 32])) (.tmp 11)),
 zo 13 (.callq 79 [.tmp 12]),
 zo 14 (.build [.str [], .str [], .nilif] [(0, 1, .tmp 7), (1, 1, .tmp 9), (2, 1, .tmp 13)]),
 zo 15 (.box (.tmp 14) 3),
 zo 6 (.own 15)] [])
  .ret))
/-- strconv.bitSizeError -/
def x63 : XFn := XFn.mk 16 [.tmp 6] (.seq (.region false [zo 6 (.mov (.cst .nilptr))] [])
 (.seq (.region false [zo 7 (.mov (.tmp 0)),
 zo 8 (.mov (.tmp 1)),
 zo 9 (.prim 4 78 [.tmp 8]),
 zo 10 (.mov (.tmp 2)),
 zo 11 (.callq 80 [.tmp 10]),
 zo 12 (.bin .add (.cst (.str [105, 110, 118, 97, 108, 105, 100, 32, 98, 105, 116, 32, 115, 105, 122, 101, 32])) (.tmp 11)),
 zo 13 (.callq 79 [.tmp 12]),
 zo 14 (.build [.str [], .str [], .nilif] [(0, 1, .tmp 7), (1, 1, .tmp 9), (2, 1, .tmp 13)]),
 zo 15 (.box (.tmp 14) 3),
 zo 6 (.own 15)] [])
  .ret))
/-- custos/rat.Of -/
def x64 : XFn := XFn.mk 64 [.cell 4 2 true, .tmp 5] (.seq (.region false [zo 4 (.alloc [.int .i64 0, .int .i64 0]),
 zo 5 (.mov (.cst (.int .i64 0)))] [])
 (.seq (.seq (.region false [zo 10 (.mov (.tmp 1)),
 zo 11 (.bin .eql (.tmp 10) (.cst (.int .i64 0)))] [])
  (.cond (.tmp 11) (.seq (.region false [zo 12 (.build [.int .i64 0, .int .i64 0] []),
 ⟨none, .store (.tmp 4) (.tmp 12) 2, none⟩,
 zo 5 (.mov (.cst (.int .i64 11)))] [])
  .ret) .skip))
 (.seq (.region false [zo 13 (.mov (.tmp 0)),
 zo 14 (.callq 82 [.tmp 13]),
 zo 15 (.mov (.tmp 1)),
 zo 16 (.callq 82 [.tmp 15]),
 zo 17 (.callq 81 [.tmp 14, .tmp 16]),
 zo 6 (.own 17)] [])
 (.seq (.region true [zo 18 (.mov (.tmp 0)),
 zo 19 (.callq 82 [.tmp 18]),
 zo 20 (.mov (.tmp 6)),
 zo 21 (.bin .quo (.tmp 19) (.tmp 20)),
 zo 22 (.mov (.tmp 1)),
 zo 23 (.callq 82 [.tmp 22]),
 zo 24 (.mov (.tmp 6)),
 zo 25 (.bin .quo (.tmp 23) (.tmp 24)),
 zo 7 (.own 21),
 zo 8 (.own 25)] [])
 (.seq (.region false [zo 26 (.mov (.tmp 0)),
 zo 27 (.bin .neq (.tmp 26) (.cst (.int .i64 0))),
 zo 28 (.mov (.tmp 27)),
 zg 29 28 true (.mov (.tmp 0)),
 zg 30 28 true (.bin .lss (.tmp 29) (.cst (.int .i64 0))),
 zg 31 28 true (.mov (.tmp 1)),
 zg 32 28 true (.bin .lss (.tmp 31) (.cst (.int .i64 0))),
 zg 33 28 true (.beq true (.tmp 30) (.tmp 32)),
 zo 34 (.pick (.tmp 28) (.tmp 33) (.cst (.bool false))),
 zo 9 (.own 34)] [])
 (.seq (.seq (.region false [zo 35 (.mov (.tmp 8)),
 zo 36 (.bin .gtr (.tmp 35) (.cst (.int .u64 9223372036854775807))),
 zo 37 (.mov (.tmp 36)),
 zg 38 37 false (.mov (.tmp 7)),
 zg 39 37 false (.bin .gtr (.tmp 38) (.cst (.int .u64 9223372036854775808))),
 zo 40 (.pick (.tmp 37) (.cst (.bool true)) (.tmp 39)),
 zo 41 (.mov (.tmp 40)),
 zg 42 41 false (.mov (.tmp 7)),
 zg 43 41 false (.bin .eql (.tmp 42) (.cst (.int .u64 9223372036854775808))),
 zg 44 41 false (.mov (.tmp 43)),
 zg 45 44 true (.mov (.tmp 9)),
 zg 46 44 true (.not (.tmp 45)),
 zg 47 41 false (.pick (.tmp 44) (.tmp 46) (.cst (.bool false))),
 zo 48 (.pick (.tmp 41) (.cst (.bool true)) (.tmp 47))] [])
  (.cond (.tmp 48) (.seq (.region false [zo 49 (.build [.int .i64 0, .int .i64 0] []),
 ⟨none, .store (.tmp 4) (.tmp 49) 2, none⟩,
 zo 5 (.mov (.cst (.int .i64 10)))] [])
  .ret) .skip))
 (.seq (.seq (.region false [zo 50 (.mov (.tmp 9))] [])
  (.cond (.tmp 50) (.seq (.region false [zo 51 (.mov (.tmp 7)),
 zo 52 (.bin .sub (.tmp 51) (.cst (.int .u64 1))),
 zo 53 (.conv .i64 (.tmp 52)),
 zo 54 (.neg (.tmp 53)),
 zo 55 (.bin .sub (.tmp 54) (.cst (.int .i64 1))),
 zo 56 (.mov (.tmp 8)),
 zo 57 (.conv .i64 (.tmp 56)),
 zo 58 (.build [.int .i64 0, .int .i64 0] [(0, 1, .tmp 55), (1, 1, .tmp 57)]),
 ⟨none, .store (.tmp 4) (.tmp 58) 2, none⟩,
 zo 5 (.mov (.cst (.int .i64 0)))] [])
  .ret) .skip))
 (.seq (.region false [zo 59 (.mov (.tmp 7)),
 zo 60 (.conv .i64 (.tmp 59)),
 zo 61 (.mov (.tmp 8)),
 zo 62 (.conv .i64 (.tmp 61)),
 zo 63 (.build [.int .i64 0, .int .i64 0] [(0, 1, .tmp 60), (1, 1, .tmp 62)]),
 ⟨none, .store (.tmp 4) (.tmp 63) 2, none⟩,
 zo 5 (.mov (.cst (.int .i64 0)))] [])
  .ret))))))))
/-- custos/value.fraction -/
def x65 : XFn := XFn.mk 8 [.cell 2 2 true] (.seq (.region false [zo 1 (.box (.tmp 0) 4),
 zo 2 (.alloc [.int .i64 0, .int .i64 0])] [])
 (.seq (.region false [zo 3 (.faddr (.tmp 1) 1),
 zo 4 (.load (.tmp 3) 1 false),
 zo 5 (.faddr (.tmp 1) 2),
 zo 6 (.load (.tmp 5) 1 false),
 zo 7 (.build [.int .i64 0, .int .i64 0] [(0, 1, .tmp 4), (1, 1, .tmp 6)]),
 ⟨none, .store (.tmp 2) (.tmp 7) 2, none⟩] [])
  .ret))
/-- internal/strconv.small -/
def x66 : XFn := XFn.mk 15 [.tmp 2] (.seq (.region false [zo 2 (.mov (.cst (.str [])))] [])
 (.seq (.seq (.region false [zo 3 (.mov (.tmp 0)),
 zo 4 (.bin .lss (.tmp 3) (.cst (.int .i64 10)))] [])
  (.cond (.tmp 4) (.seq (.region false [zo 5 (.mov (.tmp 0)),
 zo 6 (.mov (.tmp 0)),
 zo 7 (.bin .add (.tmp 6) (.cst (.int .i64 1))),
 zo 8 (.sstr (.cst (.str [48, 49, 50, 51, 52, 53, 54, 55, 56, 57, 97, 98, 99, 100, 101, 102, 103, 104, 105, 106, 107, 108, 109, 110, 111, 112, 113, 114, 115, 116, 117, 118, 119, 120, 121, 122])) (some (.tmp 5)) (some (.tmp 7))),
 zo 2 (.own 8)] [])
  .ret) .skip))
 (.seq (.region false [zo 9 (.mov (.tmp 0)),
 zo 10 (.bin .mul (.tmp 9) (.cst (.int .i64 2))),
 zo 11 (.mov (.tmp 0)),
 zo 12 (.bin .mul (.tmp 11) (.cst (.int .i64 2))),
 zo 13 (.bin .add (.tmp 12) (.cst (.int .i64 2))),
 zo 14 (.sstr (.cst (.str [48, 48, 48, 49, 48, 50, 48, 51, 48, 52, 48, 53, 48, 54, 48, 55, 48, 56, 48, 57, 49, 48, 49, 49, 49, 50, 49, 51, 49, 52, 49, 53, 49, 54, 49, 55, 49, 56, 49, 57, 50, 48, 50, 49, 50, 50, 50, 51, 50, 52, 50, 53, 50, 54, 50, 55, 50, 56, 50, 57, 51, 48, 51, 49, 51, 50, 51, 51, 51, 52, 51, 53, 51, 54, 51, 55, 51, 56, 51, 57, 52, 48, 52, 49, 52, 50, 52, 51, 52, 52, 52, 53, 52, 54, 52, 55, 52, 56, 52, 57, 53, 48, 53, 49, 53, 50, 53, 51, 53, 52, 53, 53, 53, 54, 53, 55, 53, 56, 53, 57, 54, 48, 54, 49, 54, 50, 54, 51, 54, 52, 54, 53, 54, 54, 54, 55, 54, 56, 54, 57, 55, 48, 55, 49, 55, 50, 55, 51, 55, 52, 55, 53, 55, 54, 55, 55, 55, 56, 55, 57, 56, 48, 56, 49, 56, 50, 56, 51, 56, 52, 56, 53, 56, 54, 56, 55, 56, 56, 56, 57, 57, 48, 57, 49, 57, 50, 57, 51, 57, 52, 57, 53, 57, 54, 57, 55, 57, 56, 57, 57])) (some (.tmp 10)) (some (.tmp 13))),
 zo 2 (.own 14)] [])
  .ret)))
/-- internal/strconv.numDigits -/
def x67 : XFn := XFn.mk 15 [.tmp 2] (.seq (.region false [zo 2 (.mov (.cst (.int .i64 0)))] [])
 (.seq (.region false [zo 4 (.mov (.tmp 0)),
 zo 5 (.callq 84 [.tmp 4]),
 zo 6 (.callq 83 [.tmp 5]),
 zo 3 (.own 6)] [])
 (.seq (.region false [zo 7 (.mov (.tmp 3)),
 zo 8 (.mov (.tmp 0)),
 zo 9 (.mov (.tmp 3)),
 zo 10 (.iarr 20 1 (.glob 3) (.tmp 9)),
 zo 11 (.load (.tmp 10) 1 false),
 zo 12 (.bin .geq (.tmp 8) (.tmp 11)),
 zo 13 (.callq 85 [.tmp 12]),
 zo 14 (.bin .add (.tmp 7) (.tmp 13)),
 zo 2 (.own 14)] [])
  .ret)))
def x68_r0 : XCode := .seq (.seq (.region false [zo 19 (.mov (.tmp 4)),
 zo 20 (.bin .geq (.tmp 19) (.cst (.int .i64 8)))] [])
  (.cond (.tmp 20) .skip (.exit 0)))
  (.block 1 (.seq (.region false [zo 21 (.mov (.tmp 1)),
 zo 22 (.bin .rem (.tmp 21) (.cst (.int .u64 100000000))),
 zo 23 (.conv .u32 (.tmp 22)),
 zo 5 (.own 23)] [])
 (.seq (.region false [zo 24 (.mov (.tmp 1)),
 zo 25 (.bin .quo (.tmp 24) (.cst (.int .u64 100000000))),
 zo 1 (.own 25)] [])
 (.seq (.region false [zo 26 (.mov (.tmp 5)),
 zo 27 (.bin .quo (.tmp 26) (.cst (.int .u32 10000))),
 zo 28 (.mov (.tmp 5)),
 zo 29 (.bin .rem (.tmp 28) (.cst (.int .u32 10000))),
 zo 6 (.own 27),
 zo 7 (.own 29)] [])
 (.seq (.region false [zo 30 (.mov (.tmp 7)),
 zo 31 (.bin .quo (.tmp 30) (.cst (.int .u32 100))),
 zo 32 (.bin .mul (.tmp 31) (.cst (.int .u32 2))),
 zo 33 (.mov (.tmp 7)),
 zo 34 (.bin .rem (.tmp 33) (.cst (.int .u32 100))),
 zo 35 (.bin .mul (.tmp 34) (.cst (.int .u32 2))),
 zo 8 (.own 32),
 zo 9 (.own 35)] [])
 (.seq (.region false [zo 36 (.mov (.tmp 6)),
 zo 37 (.bin .quo (.tmp 36) (.cst (.int .u32 100))),
 zo 38 (.bin .mul (.tmp 37) (.cst (.int .u32 2))),
 zo 39 (.mov (.tmp 6)),
 zo 40 (.bin .rem (.tmp 39) (.cst (.int .u32 100))),
 zo 41 (.bin .mul (.tmp 40) (.cst (.int .u32 2))),
 zo 10 (.own 38),
 zo 11 (.own 41)] [])
 (.seq (.region true [zo 42 (.mov (.tmp 0)),
 zo 43 (.mov (.tmp 4)),
 zo 44 (.bin .sub (.tmp 43) (.cst (.int .i64 1))),
 zo 45 (.mov (.tmp 0)),
 zo 46 (.mov (.tmp 4)),
 zo 47 (.bin .sub (.tmp 46) (.cst (.int .i64 2))),
 zo 48 (.mov (.tmp 9)),
 zo 49 (.bin .add (.tmp 48) (.cst (.int .u32 1))),
 zo 50 (.idxs (.cst (.str [48, 48, 48, 49, 48, 50, 48, 51, 48, 52, 48, 53, 48, 54, 48, 55, 48, 56, 48, 57, 49, 48, 49, 49, 49, 50, 49, 51, 49, 52, 49, 53, 49, 54, 49, 55, 49, 56, 49, 57, 50, 48, 50, 49, 50, 50, 50, 51, 50, 52, 50, 53, 50, 54, 50, 55, 50, 56, 50, 57, 51, 48, 51, 49, 51, 50, 51, 51, 51, 52, 51, 53, 51, 54, 51, 55, 51, 56, 51, 57, 52, 48, 52, 49, 52, 50, 52, 51, 52, 52, 52, 53, 52, 54, 52, 55, 52, 56, 52, 57, 53, 48, 53, 49, 53, 50, 53, 51, 53, 52, 53, 53, 53, 54, 53, 55, 53, 56, 53, 57, 54, 48, 54, 49, 54, 50, 54, 51, 54, 52, 54, 53, 54, 54, 54, 55, 54, 56, 54, 57, 55, 48, 55, 49, 55, 50, 55, 51, 55, 52, 55, 53, 55, 54, 55, 55, 55, 56, 55, 57, 56, 48, 56, 49, 56, 50, 56, 51, 56, 52, 56, 53, 56, 54, 56, 55, 56, 56, 56, 57, 57, 48, 57, 49, 57, 50, 57, 51, 57, 52, 57, 53, 57, 54, 57, 55, 57, 56, 57, 57])) (.tmp 49)),
 zo 51 (.mov (.tmp 9)),
 zo 52 (.idxs (.cst (.str [48, 48, 48, 49, 48, 50, 48, 51, 48, 52, 48, 53, 48, 54, 48, 55, 48, 56, 48, 57, 49, 48, 49, 49, 49, 50, 49, 51, 49, 52, 49, 53, 49, 54, 49, 55, 49, 56, 49, 57, 50, 48, 50, 49, 50, 50, 50, 51, 50, 52, 50, 53, 50, 54, 50, 55, 50, 56, 50, 57, 51, 48, 51, 49, 51, 50, 51, 51, 51, 52, 51, 53, 51, 54, 51, 55, 51, 56, 51, 57, 52, 48, 52, 49, 52, 50, 52, 51, 52, 52, 52, 53, 52, 54, 52, 55, 52, 56, 52, 57, 53, 48, 53, 49, 53, 50, 53, 51, 53, 52, 53, 53, 53, 54, 53, 55, 53, 56, 53, 57, 54, 48, 54, 49, 54, 50, 54, 51, 54, 52, 54, 53, 54, 54, 54, 55, 54, 56, 54, 57, 55, 48, 55, 49, 55, 50, 55, 51, 55, 52, 55, 53, 55, 54, 55, 55, 55, 56, 55, 57, 56, 48, 56, 49, 56, 50, 56, 51, 56, 52, 56, 53, 56, 54, 56, 55, 56, 56, 56, 57, 57, 48, 57, 49, 57, 50, 57, 51, 57, 52, 57, 53, 57, 54, 57, 55, 57, 56, 57, 57])) (.tmp 51)),
 zo 53 (.iaddr 1 (.tmp 42) (.tmp 44)),
 ⟨none, .store (.tmp 53) (.tmp 50) 1, none⟩,
 zo 54 (.iaddr 1 (.tmp 45) (.tmp 47)),
 ⟨none, .store (.tmp 54) (.tmp 52) 1, none⟩] [])
 (.seq (.region true [zo 55 (.mov (.tmp 0)),
 zo 56 (.mov (.tmp 4)),
 zo 57 (.bin .sub (.tmp 56) (.cst (.int .i64 3))),
 zo 58 (.mov (.tmp 0)),
 zo 59 (.mov (.tmp 4)),
 zo 60 (.bin .sub (.tmp 59) (.cst (.int .i64 4))),
 zo 61 (.mov (.tmp 8)),
 zo 62 (.bin .add (.tmp 61) (.cst (.int .u32 1))),
 zo 63 (.idxs (.cst (.str [48, 48, 48, 49, 48, 50, 48, 51, 48, 52, 48, 53, 48, 54, 48, 55, 48, 56, 48, 57, 49, 48, 49, 49, 49, 50, 49, 51, 49, 52, 49, 53, 49, 54, 49, 55, 49, 56, 49, 57, 50, 48, 50, 49, 50, 50, 50, 51, 50, 52, 50, 53, 50, 54, 50, 55, 50, 56, 50, 57, 51, 48, 51, 49, 51, 50, 51, 51, 51, 52, 51, 53, 51, 54, 51, 55, 51, 56, 51, 57, 52, 48, 52, 49, 52, 50, 52, 51, 52, 52, 52, 53, 52, 54, 52, 55, 52, 56, 52, 57, 53, 48, 53, 49, 53, 50, 53, 51, 53, 52, 53, 53, 53, 54, 53, 55, 53, 56, 53, 57, 54, 48, 54, 49, 54, 50, 54, 51, 54, 52, 54, 53, 54, 54, 54, 55, 54, 56, 54, 57, 55, 48, 55, 49, 55, 50, 55, 51, 55, 52, 55, 53, 55, 54, 55, 55, 55, 56, 55, 57, 56, 48, 56, 49, 56, 50, 56, 51, 56, 52, 56, 53, 56, 54, 56, 55, 56, 56, 56, 57, 57, 48, 57, 49, 57, 50, 57, 51, 57, 52, 57, 53, 57, 54, 57, 55, 57, 56, 57, 57])) (.tmp 62)),
 zo 64 (.mov (.tmp 8)),
 zo 65 (.idxs (.cst (.str [48, 48, 48, 49, 48, 50, 48, 51, 48, 52, 48, 53, 48, 54, 48, 55, 48, 56, 48, 57, 49, 48, 49, 49, 49, 50, 49, 51, 49, 52, 49, 53, 49, 54, 49, 55, 49, 56, 49, 57, 50, 48, 50, 49, 50, 50, 50, 51, 50, 52, 50, 53, 50, 54, 50, 55, 50, 56, 50, 57, 51, 48, 51, 49, 51, 50, 51, 51, 51, 52, 51, 53, 51, 54, 51, 55, 51, 56, 51, 57, 52, 48, 52, 49, 52, 50, 52, 51, 52, 52, 52, 53, 52, 54, 52, 55, 52, 56, 52, 57, 53, 48, 53, 49, 53, 50, 53, 51, 53, 52, 53, 53, 53, 54, 53, 55, 53, 56, 53, 57, 54, 48, 54, 49, 54, 50, 54, 51, 54, 52, 54, 53, 54, 54, 54, 55, 54, 56, 54, 57, 55, 48, 55, 49, 55, 50, 55, 51, 55, 52, 55, 53, 55, 54, 55, 55, 55, 56, 55, 57, 56, 48, 56, 49, 56, 50, 56, 51, 56, 52, 56, 53, 56, 54, 56, 55, 56, 56, 56, 57, 57, 48, 57, 49, 57, 50, 57, 51, 57, 52, 57, 53, 57, 54, 57, 55, 57, 56, 57, 57])) (.tmp 64)),
 zo 66 (.iaddr 1 (.tmp 55) (.tmp 57)),
 ⟨none, .store (.tmp 66) (.tmp 63) 1, none⟩,
 zo 67 (.iaddr 1 (.tmp 58) (.tmp 60)),
 ⟨none, .store (.tmp 67) (.tmp 65) 1, none⟩] [])
 (.seq (.region true [zo 68 (.mov (.tmp 0)),
 zo 69 (.mov (.tmp 4)),
 zo 70 (.bin .sub (.tmp 69) (.cst (.int .i64 5))),
 zo 71 (.mov (.tmp 0)),
 zo 72 (.mov (.tmp 4)),
 zo 73 (.bin .sub (.tmp 72) (.cst (.int .i64 6))),
 zo 74 (.mov (.tmp 11)),
 zo 75 (.bin .add (.tmp 74) (.cst (.int .u32 1))),
 zo 76 (.idxs (.cst (.str [48, 48, 48, 49, 48, 50, 48, 51, 48, 52, 48, 53, 48, 54, 48, 55, 48, 56, 48, 57, 49, 48, 49, 49, 49, 50, 49, 51, 49, 52, 49, 53, 49, 54, 49, 55, 49, 56, 49, 57, 50, 48, 50, 49, 50, 50, 50, 51, 50, 52, 50, 53, 50, 54, 50, 55, 50, 56, 50, 57, 51, 48, 51, 49, 51, 50, 51, 51, 51, 52, 51, 53, 51, 54, 51, 55, 51, 56, 51, 57, 52, 48, 52, 49, 52, 50, 52, 51, 52, 52, 52, 53, 52, 54, 52, 55, 52, 56, 52, 57, 53, 48, 53, 49, 53, 50, 53, 51, 53, 52, 53, 53, 53, 54, 53, 55, 53, 56, 53, 57, 54, 48, 54, 49, 54, 50, 54, 51, 54, 52, 54, 53, 54, 54, 54, 55, 54, 56, 54, 57, 55, 48, 55, 49, 55, 50, 55, 51, 55, 52, 55, 53, 55, 54, 55, 55, 55, 56, 55, 57, 56, 48, 56, 49, 56, 50, 56, 51, 56, 52, 56, 53, 56, 54, 56, 55, 56, 56, 56, 57, 57, 48, 57, 49, 57, 50, 57, 51, 57, 52, 57, 53, 57, 54, 57, 55, 57, 56, 57, 57])) (.tmp 75)),
 zo 77 (.mov (.tmp 11)),
 zo 78 (.idxs (.cst (.str [48, 48, 48, 49, 48, 50, 48, 51, 48, 52, 48, 53, 48, 54, 48, 55, 48, 56, 48, 57, 49, 48, 49, 49, 49, 50, 49, 51, 49, 52, 49, 53, 49, 54, 49, 55, 49, 56, 49, 57, 50, 48, 50, 49, 50, 50, 50, 51, 50, 52, 50, 53, 50, 54, 50, 55, 50, 56, 50, 57, 51, 48, 51, 49, 51, 50, 51, 51, 51, 52, 51, 53, 51, 54, 51, 55, 51, 56, 51, 57, 52, 48, 52, 49, 52, 50, 52, 51, 52, 52, 52, 53, 52, 54, 52, 55, 52, 56, 52, 57, 53, 48, 53, 49, 53, 50, 53, 51, 53, 52, 53, 53, 53, 54, 53, 55, 53, 56, 53, 57, 54, 48, 54, 49, 54, 50, 54, 51, 54, 52, 54, 53, 54, 54, 54, 55, 54, 56, 54, 57, 55, 48, 55, 49, 55, 50, 55, 51, 55, 52, 55, 53, 55, 54, 55, 55, 55, 56, 55, 57, 56, 48, 56, 49, 56, 50, 56, 51, 56, 52, 56, 53, 56, 54, 56, 55, 56, 56, 56, 57, 57, 48, 57, 49, 57, 50, 57, 51, 57, 52, 57, 53, 57, 54, 57, 55, 57, 56, 57, 57])) (.tmp 77)),
 zo 79 (.iaddr 1 (.tmp 68) (.tmp 70)),
 ⟨none, .store (.tmp 79) (.tmp 76) 1, none⟩,
 zo 80 (.iaddr 1 (.tmp 71) (.tmp 73)),
 ⟨none, .store (.tmp 80) (.tmp 78) 1, none⟩] [])
 (.seq (.region true [zo 81 (.mov (.tmp 0)),
 zo 82 (.mov (.tmp 4)),
 zo 83 (.bin .sub (.tmp 82) (.cst (.int .i64 7))),
 zo 84 (.mov (.tmp 0)),
 zo 85 (.mov (.tmp 4)),
 zo 86 (.bin .sub (.tmp 85) (.cst (.int .i64 8))),
 zo 87 (.mov (.tmp 10)),
 zo 88 (.bin .add (.tmp 87) (.cst (.int .u32 1))),
 zo 89 (.idxs (.cst (.str [48, 48, 48, 49, 48, 50, 48, 51, 48, 52, 48, 53, 48, 54, 48, 55, 48, 56, 48, 57, 49, 48, 49, 49, 49, 50, 49, 51, 49, 52, 49, 53, 49, 54, 49, 55, 49, 56, 49, 57, 50, 48, 50, 49, 50, 50, 50, 51, 50, 52, 50, 53, 50, 54, 50, 55, 50, 56, 50, 57, 51, 48, 51, 49, 51, 50, 51, 51, 51, 52, 51, 53, 51, 54, 51, 55, 51, 56, 51, 57, 52, 48, 52, 49, 52, 50, 52, 51, 52, 52, 52, 53, 52, 54, 52, 55, 52, 56, 52, 57, 53, 48, 53, 49, 53, 50, 53, 51, 53, 52, 53, 53, 53, 54, 53, 55, 53, 56, 53, 57, 54, 48, 54, 49, 54, 50, 54, 51, 54, 52, 54, 53, 54, 54, 54, 55, 54, 56, 54, 57, 55, 48, 55, 49, 55, 50, 55, 51, 55, 52, 55, 53, 55, 54, 55, 55, 55, 56, 55, 57, 56, 48, 56, 49, 56, 50, 56, 51, 56, 52, 56, 53, 56, 54, 56, 55, 56, 56, 56, 57, 57, 48, 57, 49, 57, 50, 57, 51, 57, 52, 57, 53, 57, 54, 57, 55, 57, 56, 57, 57])) (.tmp 88)),
 zo 90 (.mov (.tmp 10)),
 zo 91 (.idxs (.cst (.str [48, 48, 48, 49, 48, 50, 48, 51, 48, 52, 48, 53, 48, 54, 48, 55, 48, 56, 48, 57, 49, 48, 49, 49, 49, 50, 49, 51, 49, 52, 49, 53, 49, 54, 49, 55, 49, 56, 49, 57, 50, 48, 50, 49, 50, 50, 50, 51, 50, 52, 50, 53, 50, 54, 50, 55, 50, 56, 50, 57, 51, 48, 51, 49, 51, 50, 51, 51, 51, 52, 51, 53, 51, 54, 51, 55, 51, 56, 51, 57, 52, 48, 52, 49, 52, 50, 52, 51, 52, 52, 52, 53, 52, 54, 52, 55, 52, 56, 52, 57, 53, 48, 53, 49, 53, 50, 53, 51, 53, 52, 53, 53, 53, 54, 53, 55, 53, 56, 53, 57, 54, 48, 54, 49, 54, 50, 54, 51, 54, 52, 54, 53, 54, 54, 54, 55, 54, 56, 54, 57, 55, 48, 55, 49, 55, 50, 55, 51, 55, 52, 55, 53, 55, 54, 55, 55, 55, 56, 55, 57, 56, 48, 56, 49, 56, 50, 56, 51, 56, 52, 56, 53, 56, 54, 56, 55, 56, 56, 56, 57, 57, 48, 57, 49, 57, 50, 57, 51, 57, 52, 57, 53, 57, 54, 57, 55, 57, 56, 57, 57])) (.tmp 90)),
 zo 92 (.iaddr 1 (.tmp 81) (.tmp 83)),
 ⟨none, .store (.tmp 92) (.tmp 89) 1, none⟩,
 zo 93 (.iaddr 1 (.tmp 84) (.tmp 86)),
 ⟨none, .store (.tmp 93) (.tmp 91) 1, none⟩] [])
  (.region false [zo 94 (.mov (.tmp 4)),
 zo 95 (.bin .sub (.tmp 94) (.cst (.int .i64 8))),
 zo 4 (.own 95)] [])))))))))))
def x68_l0 : XCode := x68_r0
/-- internal/strconv.formatBase10 -/
def x68 : XFn := XFn.mk 167 [] (.seq (.region false [zo 17 (.mov (.tmp 0)),
 zo 18 (.lens false (.tmp 17)),
 zo 4 (.own 18)] [])
 (.seq (.block 0 (.loop x68_l0))
 (.seq (.region false [zo 96 (.mov (.tmp 1)),
 zo 97 (.conv .u32 (.tmp 96)),
 zo 12 (.own 97)] [])
 (.seq (.seq (.region false [zo 98 (.mov (.tmp 4)),
 zo 99 (.bin .geq (.tmp 98) (.cst (.int .i64 4)))] [])
  (.cond (.tmp 99) (.seq (.region false [zo 100 (.mov (.tmp 12)),
 zo 101 (.bin .rem (.tmp 100) (.cst (.int .u32 10000))),
 zo 13 (.own 101)] [])
 (.seq (.region false [zo 102 (.mov (.tmp 12)),
 zo 103 (.bin .quo (.tmp 102) (.cst (.int .u32 10000))),
 zo 12 (.own 103)] [])
 (.seq (.region false [zo 104 (.mov (.tmp 13)),
 zo 105 (.bin .quo (.tmp 104) (.cst (.int .u32 100))),
 zo 106 (.bin .mul (.tmp 105) (.cst (.int .u32 2))),
 zo 107 (.mov (.tmp 13)),
 zo 108 (.bin .rem (.tmp 107) (.cst (.int .u32 100))),
 zo 109 (.bin .mul (.tmp 108) (.cst (.int .u32 2))),
 zo 14 (.own 106),
 zo 15 (.own 109)] [])
 (.seq (.region true [zo 110 (.mov (.tmp 0)),
 zo 111 (.mov (.tmp 4)),
 zo 112 (.bin .sub (.tmp 111) (.cst (.int .i64 1))),
 zo 113 (.mov (.tmp 0)),
 zo 114 (.mov (.tmp 4)),
 zo 115 (.bin .sub (.tmp 114) (.cst (.int .i64 2))),
 zo 116 (.mov (.tmp 15)),
 zo 117 (.bin .add (.tmp 116) (.cst (.int .u32 1))),
 zo 118 (.idxs (.cst (.str [48, 48, 48, 49, 48, 50, 48, 51, 48, 52, 48, 53, 48, 54, 48, 55, 48, 56, 48, 57, 49, 48, 49, 49, 49, 50, 49, 51, 49, 52, 49, 53, 49, 54, 49, 55, 49, 56, 49, 57, 50, 48, 50, 49, 50, 50, 50, 51, 50, 52, 50, 53, 50, 54, 50, 55, 50, 56, 50, 57, 51, 48, 51, 49, 51, 50, 51, 51, 51, 52, 51, 53, 51, 54, 51, 55, 51, 56, 51, 57, 52, 48, 52, 49, 52, 50, 52, 51, 52, 52, 52, 53, 52, 54, 52, 55, 52, 56, 52, 57, 53, 48, 53, 49, 53, 50, 53, 51, 53, 52, 53, 53, 53, 54, 53, 55, 53, 56, 53, 57, 54, 48, 54, 49, 54, 50, 54, 51, 54, 52, 54, 53, 54, 54, 54, 55, 54, 56, 54, 57, 55, 48, 55, 49, 55, 50, 55, 51, 55, 52, 55, 53, 55, 54, 55, 55, 55, 56, 55, 57, 56, 48, 56, 49, 56, 50, 56, 51, 56, 52, 56, 53, 56, 54, 56, 55, 56, 56, 56, 57, 57, 48, 57, 49, 57, 50, 57, 51, 57, 52, 57, 53, 57, 54, 57, 55, 57, 56, 57, 57])) (.tmp 117)),
 zo 119 (.mov (.tmp 15)),
 zo 120 (.idxs (.cst (.str [48, 48, 48, 49, 48, 50, 48, 51, 48, 52, 48, 53, 48, 54, 48, 55, 48, 56, 48, 57, 49, 48, 49, 49, 49, 50, 49, 51, 49, 52, 49, 53, 49, 54, 49, 55, 49, 56, 49, 57, 50, 48, 50, 49, 50, 50, 50, 51, 50, 52, 50, 53, 50, 54, 50, 55, 50, 56, 50, 57, 51, 48, 51, 49, 51, 50, 51, 51, 51, 52, 51, 53, 51, 54, 51, 55, 51, 56, 51, 57, 52, 48, 52, 49, 52, 50, 52, 51, 52, 52, 52, 53, 52, 54, 52, 55, 52, 56, 52, 57, 53, 48, 53, 49, 53, 50, 53, 51, 53, 52, 53, 53, 53, 54, 53, 55, 53, 56, 53, 57, 54, 48, 54, 49, 54, 50, 54, 51, 54, 52, 54, 53, 54, 54, 54, 55, 54, 56, 54, 57, 55, 48, 55, 49, 55, 50, 55, 51, 55, 52, 55, 53, 55, 54, 55, 55, 55, 56, 55, 57, 56, 48, 56, 49, 56, 50, 56, 51, 56, 52, 56, 53, 56, 54, 56, 55, 56, 56, 56, 57, 57, 48, 57, 49, 57, 50, 57, 51, 57, 52, 57, 53, 57, 54, 57, 55, 57, 56, 57, 57])) (.tmp 119)),
 zo 121 (.iaddr 1 (.tmp 110) (.tmp 112)),
 ⟨none, .store (.tmp 121) (.tmp 118) 1, none⟩,
 zo 122 (.iaddr 1 (.tmp 113) (.tmp 115)),
 ⟨none, .store (.tmp 122) (.tmp 120) 1, none⟩] [])
 (.seq (.region true [zo 123 (.mov (.tmp 0)),
 zo 124 (.mov (.tmp 4)),
 zo 125 (.bin .sub (.tmp 124) (.cst (.int .i64 3))),
 zo 126 (.mov (.tmp 0)),
 zo 127 (.mov (.tmp 4)),
 zo 128 (.bin .sub (.tmp 127) (.cst (.int .i64 4))),
 zo 129 (.mov (.tmp 14)),
 zo 130 (.bin .add (.tmp 129) (.cst (.int .u32 1))),
 zo 131 (.idxs (.cst (.str [48, 48, 48, 49, 48, 50, 48, 51, 48, 52, 48, 53, 48, 54, 48, 55, 48, 56, 48, 57, 49, 48, 49, 49, 49, 50, 49, 51, 49, 52, 49, 53, 49, 54, 49, 55, 49, 56, 49, 57, 50, 48, 50, 49, 50, 50, 50, 51, 50, 52, 50, 53, 50, 54, 50, 55, 50, 56, 50, 57, 51, 48, 51, 49, 51, 50, 51, 51, 51, 52, 51, 53, 51, 54, 51, 55, 51, 56, 51, 57, 52, 48, 52, 49, 52, 50, 52, 51, 52, 52, 52, 53, 52, 54, 52, 55, 52, 56, 52, 57, 53, 48, 53, 49, 53, 50, 53, 51, 53, 52, 53, 53, 53, 54, 53, 55, 53, 56, 53, 57, 54, 48, 54, 49, 54, 50, 54, 51, 54, 52, 54, 53, 54, 54, 54, 55, 54, 56, 54, 57, 55, 48, 55, 49, 55, 50, 55, 51, 55, 52, 55, 53, 55, 54, 55, 55, 55, 56, 55, 57, 56, 48, 56, 49, 56, 50, 56, 51, 56, 52, 56, 53, 56, 54, 56, 55, 56, 56, 56, 57, 57, 48, 57, 49, 57, 50, 57, 51, 57, 52, 57, 53, 57, 54, 57, 55, 57, 56, 57, 57])) (.tmp 130)),
 zo 132 (.mov (.tmp 14)),
 zo 133 (.idxs (.cst (.str [48, 48, 48, 49, 48, 50, 48, 51, 48, 52, 48, 53, 48, 54, 48, 55, 48, 56, 48, 57, 49, 48, 49, 49, 49, 50, 49, 51, 49, 52, 49, 53, 49, 54, 49, 55, 49, 56, 49, 57, 50, 48, 50, 49, 50, 50, 50, 51, 50, 52, 50, 53, 50, 54, 50, 55, 50, 56, 50, 57, 51, 48, 51, 49, 51, 50, 51, 51, 51, 52, 51, 53, 51, 54, 51, 55, 51, 56, 51, 57, 52, 48, 52, 49, 52, 50, 52, 51, 52, 52, 52, 53, 52, 54, 52, 55, 52, 56, 52, 57, 53, 48, 53, 49, 53, 50, 53, 51, 53, 52, 53, 53, 53, 54, 53, 55, 53, 56, 53, 57, 54, 48, 54, 49, 54, 50, 54, 51, 54, 52, 54, 53, 54, 54, 54, 55, 54, 56, 54, 57, 55, 48, 55, 49, 55, 50, 55, 51, 55, 52, 55, 53, 55, 54, 55, 55, 55, 56, 55, 57, 56, 48, 56, 49, 56, 50, 56, 51, 56, 52, 56, 53, 56, 54, 56, 55, 56, 56, 56, 57, 57, 48, 57, 49, 57, 50, 57, 51, 57, 52, 57, 53, 57, 54, 57, 55, 57, 56, 57, 57])) (.tmp 132)),
 zo 134 (.iaddr 1 (.tmp 123) (.tmp 125)),
 ⟨none, .store (.tmp 134) (.tmp 131) 1, none⟩,
 zo 135 (.iaddr 1 (.tmp 126) (.tmp 128)),
 ⟨none, .store (.tmp 135) (.tmp 133) 1, none⟩] [])
  (.region false [zo 136 (.mov (.tmp 4)),
 zo 137 (.bin .sub (.tmp 136) (.cst (.int .i64 4))),
 zo 4 (.own 137)] [])))))) .skip))
 (.seq (.seq (.region false [zo 138 (.mov (.tmp 4)),
 zo 139 (.bin .geq (.tmp 138) (.cst (.int .i64 2)))] [])
  (.cond (.tmp 139) (.seq (.region false [zo 140 (.mov (.tmp 12)),
 zo 141 (.bin .rem (.tmp 140) (.cst (.int .u32 100))),
 zo 142 (.bin .mul (.tmp 141) (.cst (.int .u32 2))),
 zo 16 (.own 142)] [])
 (.seq (.region false [zo 143 (.mov (.tmp 12)),
 zo 144 (.bin .quo (.tmp 143) (.cst (.int .u32 100))),
 zo 12 (.own 144)] [])
 (.seq (.region true [zo 145 (.mov (.tmp 0)),
 zo 146 (.mov (.tmp 4)),
 zo 147 (.bin .sub (.tmp 146) (.cst (.int .i64 1))),
 zo 148 (.mov (.tmp 0)),
 zo 149 (.mov (.tmp 4)),
 zo 150 (.bin .sub (.tmp 149) (.cst (.int .i64 2))),
 zo 151 (.mov (.tmp 16)),
 zo 152 (.bin .add (.tmp 151) (.cst (.int .u32 1))),
 zo 153 (.idxs (.cst (.str [48, 48, 48, 49, 48, 50, 48, 51, 48, 52, 48, 53, 48, 54, 48, 55, 48, 56, 48, 57, 49, 48, 49, 49, 49, 50, 49, 51, 49, 52, 49, 53, 49, 54, 49, 55, 49, 56, 49, 57, 50, 48, 50, 49, 50, 50, 50, 51, 50, 52, 50, 53, 50, 54, 50, 55, 50, 56, 50, 57, 51, 48, 51, 49, 51, 50, 51, 51, 51, 52, 51, 53, 51, 54, 51, 55, 51, 56, 51, 57, 52, 48, 52, 49, 52, 50, 52, 51, 52, 52, 52, 53, 52, 54, 52, 55, 52, 56, 52, 57, 53, 48, 53, 49, 53, 50, 53, 51, 53, 52, 53, 53, 53, 54, 53, 55, 53, 56, 53, 57, 54, 48, 54, 49, 54, 50, 54, 51, 54, 52, 54, 53, 54, 54, 54, 55, 54, 56, 54, 57, 55, 48, 55, 49, 55, 50, 55, 51, 55, 52, 55, 53, 55, 54, 55, 55, 55, 56, 55, 57, 56, 48, 56, 49, 56, 50, 56, 51, 56, 52, 56, 53, 56, 54, 56, 55, 56, 56, 56, 57, 57, 48, 57, 49, 57, 50, 57, 51, 57, 52, 57, 53, 57, 54, 57, 55, 57, 56, 57, 57])) (.tmp 152)),
 zo 154 (.mov (.tmp 16)),
 zo 155 (.idxs (.cst (.str [48, 48, 48, 49, 48, 50, 48, 51, 48, 52, 48, 53, 48, 54, 48, 55, 48, 56, 48, 57, 49, 48, 49, 49, 49, 50, 49, 51, 49, 52, 49, 53, 49, 54, 49, 55, 49, 56, 49, 57, 50, 48, 50, 49, 50, 50, 50, 51, 50, 52, 50, 53, 50, 54, 50, 55, 50, 56, 50, 57, 51, 48, 51, 49, 51, 50, 51, 51, 51, 52, 51, 53, 51, 54, 51, 55, 51, 56, 51, 57, 52, 48, 52, 49, 52, 50, 52, 51, 52, 52, 52, 53, 52, 54, 52, 55, 52, 56, 52, 57, 53, 48, 53, 49, 53, 50, 53, 51, 53, 52, 53, 53, 53, 54, 53, 55, 53, 56, 53, 57, 54, 48, 54, 49, 54, 50, 54, 51, 54, 52, 54, 53, 54, 54, 54, 55, 54, 56, 54, 57, 55, 48, 55, 49, 55, 50, 55, 51, 55, 52, 55, 53, 55, 54, 55, 55, 55, 56, 55, 57, 56, 48, 56, 49, 56, 50, 56, 51, 56, 52, 56, 53, 56, 54, 56, 55, 56, 56, 56, 57, 57, 48, 57, 49, 57, 50, 57, 51, 57, 52, 57, 53, 57, 54, 57, 55, 57, 56, 57, 57])) (.tmp 154)),
 zo 156 (.iaddr 1 (.tmp 145) (.tmp 147)),
 ⟨none, .store (.tmp 156) (.tmp 153) 1, none⟩,
 zo 157 (.iaddr 1 (.tmp 148) (.tmp 150)),
 ⟨none, .store (.tmp 157) (.tmp 155) 1, none⟩] [])
  (.region false [zo 158 (.mov (.tmp 4)),
 zo 159 (.bin .sub (.tmp 158) (.cst (.int .i64 2))),
 zo 4 (.own 159)] [])))) .skip))
 (.seq (.region false [zo 160 (.mov (.tmp 4)),
 zo 161 (.bin .gtr (.tmp 160) (.cst (.int .i64 0)))] [])
  (.cond (.tmp 161) (.region false [zo 162 (.mov (.tmp 0)),
 zo 163 (.mov (.tmp 12)),
 zo 164 (.bin .add (.cst (.int .u32 48)) (.tmp 163)),
 zo 165 (.conv .u8 (.tmp 164)),
 zo 166 (.iaddr 1 (.tmp 162) (.cst (.int .i64 0))),
 ⟨none, .store (.tmp 166) (.tmp 165) 1, none⟩] []) .skip)))))))
def x69_r0 : XCode := .seq (.seq (.region false [zo 44 (.mov (.tmp 1)),
 zo 45 (.mov (.tmp 15)),
 zo 46 (.bin .geq (.tmp 44) (.tmp 45))] [])
  (.cond (.tmp 46) .skip (.exit 0)))
  (.block 1 (.seq (.region false [zo 47 (.mov (.tmp 13)),
 zo 48 (.bin .sub (.tmp 47) (.cst (.int .i64 1))),
 zo 13 (.own 48)] [])
 (.seq (.region false [zo 49 (.mov (.tmp 13)),
 zo 50 (.mov (.tmp 1)),
 zo 51 (.mov (.tmp 16)),
 zo 52 (.bin .and (.tmp 50) (.tmp 51)),
 zo 53 (.idxs (.cst (.str [48, 49, 50, 51, 52, 53, 54, 55, 56, 57, 97, 98, 99, 100, 101, 102, 103, 104, 105, 106, 107, 108, 109, 110, 111, 112, 113, 114, 115, 116, 117, 118, 119, 120, 121, 122])) (.tmp 52)),
 zo 54 (.iarr 65 1 (.tmp 12) (.tmp 49)),
 ⟨none, .store (.tmp 54) (.tmp 53) 1, none⟩] [])
  (.region false [zo 55 (.mov (.tmp 1)),
 zo 56 (.mov (.tmp 14)),
 zo 57 (.bin .shr (.tmp 55) (.tmp 56)),
 zo 1 (.own 57)] []))))
def x69_l0 : XCode := x69_r0
def x69_r1 : XCode := .seq (.seq (.region false [zo 66 (.mov (.tmp 1)),
 zo 67 (.mov (.tmp 17)),
 zo 68 (.bin .geq (.tmp 66) (.tmp 67))] [])
  (.cond (.tmp 68) .skip (.exit 2)))
  (.block 3 (.seq (.region false [zo 69 (.mov (.tmp 13)),
 zo 70 (.bin .sub (.tmp 69) (.cst (.int .i64 1))),
 zo 13 (.own 70)] [])
 (.seq (.region false [zo 71 (.mov (.tmp 1)),
 zo 72 (.mov (.tmp 17)),
 zo 73 (.bin .quo (.tmp 71) (.tmp 72)),
 zo 18 (.own 73)] [])
 (.seq (.region false [zo 74 (.mov (.tmp 13)),
 zo 75 (.mov (.tmp 1)),
 zo 76 (.mov (.tmp 18)),
 zo 77 (.mov (.tmp 17)),
 zo 78 (.bin .mul (.tmp 76) (.tmp 77)),
 zo 79 (.bin .sub (.tmp 75) (.tmp 78)),
 zo 80 (.idxs (.cst (.str [48, 49, 50, 51, 52, 53, 54, 55, 56, 57, 97, 98, 99, 100, 101, 102, 103, 104, 105, 106, 107, 108, 109, 110, 111, 112, 113, 114, 115, 116, 117, 118, 119, 120, 121, 122])) (.tmp 79)),
 zo 81 (.iarr 65 1 (.tmp 12) (.tmp 74)),
 ⟨none, .store (.tmp 81) (.tmp 80) 1, none⟩] [])
  (.region false [zo 82 (.mov (.tmp 18)),
 zo 1 (.own 82)] [])))))
def x69_l1 : XCode := x69_r1
/-- internal/strconv.formatBits -/
def x69 : XFn := XFn.mk 102 [.tmp 10, .tmp 11] (.seq (.region false [zo 10 (.mov (.cst .nilsl)),
 zo 11 (.mov (.cst (.str [])))] [])
 (.seq (.seq (.region false [zo 19 (.mov (.tmp 2)),
 zo 20 (.bin .lss (.tmp 19) (.cst (.int .i64 2))),
 zo 21 (.mov (.tmp 20)),
 zg 22 21 false (.mov (.tmp 2)),
 zg 23 21 false (.bin .eql (.tmp 22) (.cst (.int .i64 10))),
 zo 24 (.pick (.tmp 21) (.cst (.bool true)) (.tmp 23)),
 zo 25 (.mov (.tmp 24)),
 zg 26 25 false (.mov (.tmp 2)),
 zg 27 25 false (.bin .gtr (.tmp 26) (.cst (.int .i64 36))),
 zo 28 (.pick (.tmp 25) (.cst (.bool true)) (.tmp 27))] [])
  (.cond (.tmp 28) (.region false [zo 29 (.mkif 9 (.cst (.str [115, 116, 114, 99, 111, 110, 118, 58, 32, 105, 108, 108, 101, 103, 97, 108, 32, 65, 112, 112, 101, 110, 100, 73, 110, 116, 47, 70, 111, 114, 109, 97, 116, 73, 110, 116, 32, 98, 97, 115, 101]))),
 ⟨none, .stop, none⟩] []) .skip))
 (.seq (.region false [zo 12 (.alloc [.int .u8 0, .int .u8 0, .int .u8 0, .int .u8 0, .int .u8 0, .int .u8 0, .int .u8 0, .int .u8 0, .int .u8 0, .int .u8 0, .int .u8 0, .int .u8 0, .int .u8 0, .int .u8 0, .int .u8 0, .int .u8 0, .int .u8 0, .int .u8 0, .int .u8 0, .int .u8 0, .int .u8 0, .int .u8 0, .int .u8 0, .int .u8 0, .int .u8 0, .int .u8 0, .int .u8 0, .int .u8 0, .int .u8 0, .int .u8 0, .int .u8 0, .int .u8 0, .int .u8 0, .int .u8 0, .int .u8 0, .int .u8 0, .int .u8 0, .int .u8 0, .int .u8 0, .int .u8 0, .int .u8 0, .int .u8 0, .int .u8 0, .int .u8 0, .int .u8 0, .int .u8 0, .int .u8 0, .int .u8 0, .int .u8 0, .int .u8 0, .int .u8 0, .int .u8 0, .int .u8 0, .int .u8 0, .int .u8 0, .int .u8 0, .int .u8 0, .int .u8 0, .int .u8 0, .int .u8 0, .int .u8 0, .int .u8 0, .int .u8 0, .int .u8 0, .int .u8 0])] [])
 (.seq (.region false [zo 13 (.mov (.cst (.int .i64 65)))] [])
 (.seq (.seq (.region false [zo 30 (.mov (.tmp 3))] [])
  (.cond (.tmp 30) (.region false [zo 31 (.mov (.tmp 1)),
 zo 32 (.neg (.tmp 31)),
 zo 1 (.own 32)] []) .skip))
 (.seq (.seq (.region false [zo 33 (.mov (.tmp 2)),
 zo 34 (.callq 86 [.tmp 33])] [])
  (.cond (.tmp 34) (.seq (.region false [zo 35 (.mov (.tmp 2)),
 zo 36 (.conv .u64 (.tmp 35)),
 zo 37 (.callq 87 [.tmp 36]),
 zo 38 (.conv .u64 (.tmp 37)),
 zo 14 (.own 38)] [])
 (.seq (.region false [zo 39 (.mov (.tmp 2)),
 zo 40 (.conv .u64 (.tmp 39)),
 zo 15 (.own 40)] [])
 (.seq (.region false [zo 41 (.mov (.tmp 2)),
 zo 42 (.conv .u64 (.tmp 41)),
 zo 43 (.bin .sub (.tmp 42) (.cst (.int .u64 1))),
 zo 16 (.own 43)] [])
 (.seq (.block 0 (.loop x69_l0))
 (.seq (.region false [zo 58 (.mov (.tmp 13)),
 zo 59 (.bin .sub (.tmp 58) (.cst (.int .i64 1))),
 zo 13 (.own 59)] [])
  (.region false [zo 60 (.mov (.tmp 13)),
 zo 61 (.mov (.tmp 1)),
 zo 62 (.idxs (.cst (.str [48, 49, 50, 51, 52, 53, 54, 55, 56, 57, 97, 98, 99, 100, 101, 102, 103, 104, 105, 106, 107, 108, 109, 110, 111, 112, 113, 114, 115, 116, 117, 118, 119, 120, 121, 122])) (.tmp 61)),
 zo 63 (.iarr 65 1 (.tmp 12) (.tmp 60)),
 ⟨none, .store (.tmp 63) (.tmp 62) 1, none⟩] [])))))) (.seq (.region false [zo 64 (.mov (.tmp 2)),
 zo 65 (.conv .u64 (.tmp 64)),
 zo 17 (.own 65)] [])
 (.seq (.block 2 (.loop x69_l1))
 (.seq (.region false [zo 83 (.mov (.tmp 13)),
 zo 84 (.bin .sub (.tmp 83) (.cst (.int .i64 1))),
 zo 13 (.own 84)] [])
  (.region false [zo 85 (.mov (.tmp 13)),
 zo 86 (.mov (.tmp 1)),
 zo 87 (.idxs (.cst (.str [48, 49, 50, 51, 52, 53, 54, 55, 56, 57, 97, 98, 99, 100, 101, 102, 103, 104, 105, 106, 107, 108, 109, 110, 111, 112, 113, 114, 115, 116, 117, 118, 119, 120, 121, 122])) (.tmp 86)),
 zo 88 (.iarr 65 1 (.tmp 12) (.tmp 85)),
 ⟨none, .store (.tmp 88) (.tmp 87) 1, none⟩] []))))))
 (.seq (.seq (.region false [zo 89 (.mov (.tmp 3))] [])
  (.cond (.tmp 89) (.seq (.region false [zo 90 (.mov (.tmp 13)),
 zo 91 (.bin .sub (.tmp 90) (.cst (.int .i64 1))),
 zo 13 (.own 91)] [])
  (.region false [zo 92 (.mov (.tmp 13)),
 zo 93 (.iarr 65 1 (.tmp 12) (.tmp 92)),
 ⟨none, .store (.tmp 93) (.cst (.int .u8 45)) 1, none⟩] [])) .skip))
 (.seq (.seq (.region false [zo 94 (.mov (.tmp 4))] [])
  (.cond (.tmp 94) (.seq (.region false [zo 95 (.own 0),
 zo 96 (.mov (.tmp 13)),
 zo 97 (.sarr 65 1 (.tmp 12) (some (.tmp 96)) none),
 zo 98 (.app false 1 1 95 (.tmp 97)),
 zo 10 (.own 98)] [])
  .ret) .skip))
 (.seq (.region false [zo 99 (.mov (.tmp 13)),
 zo 100 (.sarr 65 1 (.tmp 12) (some (.tmp 99)) none),
 zo 101 (.bstr (.tmp 100)),
 zo 11 (.own 101)] [])
  .ret)))))))))
def x70_r0 : XCode := .seq (.seq (.region false [zo 4 (.mov (.tmp 3)),
 zo 5 (.bin .lss (.tmp 4) (.cst (.int .i64 16)))] [])
  (.cond (.tmp 5) .skip (.exit 0)))
 (.seq (.block 1 (.seq (.region false [zo 8 (.mov (.tmp 3)),
 zo 9 (.idxs (.cst (.str [48, 49, 50, 51, 52, 53, 54, 55, 56, 57, 97, 98, 99, 100, 101, 102])) (.tmp 8)),
 zo 10 (.mov (.tmp 0)),
 zo 11 (.bin .eql (.tmp 9) (.tmp 10))] [])
  (.cond (.tmp 11) (.seq (.region false [zo 12 (.mov (.tmp 3)),
 zo 2 (.own 12)] [])
  .ret) .skip)))
  (.region false [zo 6 (.mov (.tmp 3)),
 zo 7 (.bin .add (.tmp 6) (.cst (.int .i64 1))),
 zo 3 (.own 7)] []))
def x70_l0 : XCode := x70_r0
/-- custos/custosref02.worth -/
def x70 : XFn := XFn.mk 13 [.tmp 2] (.seq (.region false [zo 2 (.mov (.cst (.int .i64 0)))] [])
 (.seq (.seq (.region false [zo 3 (.mov (.cst (.int .i64 0)))] [])
  (.block 0 (.loop x70_l0)))
 (.seq (.region false [zo 2 (.mov (.cst (.int .i64 16)))] [])
  .ret)))
/-- custos/custosref02.Check -/
def x71 : XFn := XFn.mk 42 [.tmp 2] (.seq (.region false [zo 1 (.box (.tmp 0) 4),
 zo 2 (.mov (.cst (.int .i64 0)))] [])
 (.seq (.seq (.region false [zo 4 (.faddr (.tmp 1) 0),
 zo 5 (.load (.tmp 4) 1 false)] [])
  (.block 0 (.seq (.region false [zo 7 (.bin .eql (.tmp 5) (.cst (.int .i64 1))),
 zo 6 (.own 7)] [])
  (.cond (.tmp 6) (.seq (.region false [zo 8 (.faddr (.tmp 1) 2),
 zo 9 (.load (.tmp 8) 1 false),
 zo 10 (.bin .neq (.tmp 9) (.cst (.int .i64 0))),
 zo 11 (.mov (.tmp 10)),
 zg 12 11 false (.faddr (.tmp 1) 3),
 zg 13 11 false (.load (.tmp 12) 1 false),
 zg 14 11 false (.bin .neq (.tmp 13) (.cst (.str []))),
 zo 15 (.pick (.tmp 11) (.cst (.bool true)) (.tmp 14))] [])
  (.cond (.tmp 15) (.seq (.region false [zo 2 (.mov (.cst (.int .i64 20)))] [])
  .ret) .skip)) (.seq (.region false [zo 17 (.bin .eql (.tmp 5) (.cst (.int .i64 2))),
 zo 16 (.own 17)] [])
  (.cond (.tmp 16) (.seq (.region false [zo 18 (.load (.tmp 1) 4 true),
 zo 19 (.callq 89 [.tmp 18]),
 zo 20 (.callq 88 [.tmp 19]),
 zo 3 (.own 20)] [])
 (.seq (.region false [zo 21 (.faddr (.tmp 1) 3),
 zo 22 (.load (.tmp 21) 1 false),
 zo 23 (.bin .neq (.tmp 22) (.cst (.str []))),
 zo 24 (.mov (.tmp 23)),
 zg 25 24 false (.mov (.tmp 3)),
 zg 26 24 false (.not (.tmp 25)),
 zo 27 (.pick (.tmp 24) (.cst (.bool true)) (.tmp 26))] [])
  (.cond (.tmp 27) (.seq (.region false [zo 2 (.mov (.cst (.int .i64 20)))] [])
  .ret) .skip))) (.seq (.region false [zo 29 (.bin .eql (.tmp 5) (.cst (.int .i64 3))),
 zo 28 (.own 29)] [])
  (.cond (.tmp 28) (.seq (.seq (.region false [zo 30 (.faddr (.tmp 1) 1),
 zo 31 (.load (.tmp 30) 1 false),
 zo 32 (.bin .neq (.tmp 31) (.cst (.int .i64 0))),
 zo 33 (.mov (.tmp 32)),
 zg 34 33 false (.faddr (.tmp 1) 2),
 zg 35 33 false (.load (.tmp 34) 1 false),
 zg 36 33 false (.bin .neq (.tmp 35) (.cst (.int .i64 0))),
 zo 37 (.pick (.tmp 33) (.cst (.bool true)) (.tmp 36))] [])
  (.cond (.tmp 37) (.seq (.region false [zo 2 (.mov (.cst (.int .i64 20)))] [])
  .ret) .skip))
 (.seq (.region false [zo 38 (.faddr (.tmp 1) 3),
 zo 39 (.load (.tmp 38) 1 false),
 zo 40 (.lens true (.tmp 39)),
 zo 41 (.bin .gtr (.tmp 40) (.cst (.int .i64 64)))] [])
  (.cond (.tmp 41) (.seq (.region false [zo 2 (.mov (.cst (.int .i64 2)))] [])
  .ret) .skip))) (.seq (.region false [zo 2 (.mov (.cst (.int .i64 20)))] [])
  .ret)))))))))
 (.seq (.region false [zo 2 (.mov (.cst (.int .i64 0)))] [])
  .ret)))
def x72_r0 : XCode := .block 1 (.seq (.region false [zo 7 (.mov (.tmp 4)),
 zo 8 (.bin .rem (.tmp 7) (.cst (.int .i64 10))),
 zo 5 (.own 8)] [])
 (.seq (.seq (.region false [zo 9 (.mov (.tmp 5)),
 zo 10 (.bin .lss (.tmp 9) (.cst (.int .i64 0)))] [])
  (.cond (.tmp 10) (.region false [zo 11 (.mov (.tmp 5)),
 zo 12 (.neg (.tmp 11)),
 zo 5 (.own 12)] []) .skip))
 (.seq (.region false [zo 13 (.mov (.tmp 5)),
 zo 14 (.mov (.tmp 5)),
 zo 15 (.bin .add (.tmp 14) (.cst (.int .i64 1))),
 zo 16 (.sstr (.cst (.str [48, 49, 50, 51, 52, 53, 54, 55, 56, 57, 97, 98, 99, 100, 101, 102])) (some (.tmp 13)) (some (.tmp 15))),
 zo 17 (.mov (.tmp 3)),
 zo 18 (.bin .add (.tmp 16) (.tmp 17)),
 zo 3 (.own 18)] [])
 (.seq (.region false [zo 19 (.mov (.tmp 4)),
 zo 20 (.bin .quo (.tmp 19) (.cst (.int .i64 10))),
 zo 4 (.own 20)] [])
 (.seq (.region false [zo 21 (.mov (.tmp 4)),
 zo 22 (.bin .eql (.tmp 21) (.cst (.int .i64 0)))] [])
  (.cond (.tmp 22) (.exit 0) .skip))))))
def x72_l0 : XCode := x72_r0
/-- custos/custosref02.Decimal -/
def x72 : XFn := XFn.mk 28 [.tmp 2] (.seq (.region false [zo 2 (.mov (.cst (.str [])))] [])
 (.seq (.region false [zo 3 (.mov (.cst (.str [])))] [])
 (.seq (.region false [zo 6 (.mov (.tmp 0)),
 zo 4 (.own 6)] [])
 (.seq (.block 0 (.loop x72_l0))
 (.seq (.seq (.region false [zo 23 (.mov (.tmp 0)),
 zo 24 (.bin .lss (.tmp 23) (.cst (.int .i64 0)))] [])
  (.cond (.tmp 24) (.seq (.region false [zo 25 (.mov (.tmp 3)),
 zo 26 (.bin .add (.cst (.str [45])) (.tmp 25)),
 zo 2 (.own 26)] [])
  .ret) .skip))
 (.seq (.region false [zo 27 (.mov (.tmp 3)),
 zo 2 (.own 27)] [])
  .ret))))))
/-- internal/bytealg.Cutover -/
def x74 : XFn := XFn.mk 6 [.tmp 2] (.seq (.region false [zo 2 (.mov (.cst (.int .i64 0)))] [])
 (.seq (.region false [zo 3 (.mov (.tmp 0)),
 zo 4 (.bin .add (.tmp 3) (.cst (.int .i64 16))),
 zo 5 (.bin .quo (.tmp 4) (.cst (.int .i64 8))),
 zo 2 (.own 5)] [])
  .ret))
def x75_r0 : XCode := .seq (.seq (.region false [zo 18 (.mov (.tmp 9)),
 zo 19 (.mov (.tmp 7)),
 zo 20 (.bin .lss (.tmp 18) (.tmp 19))] [])
  (.cond (.tmp 20) .skip (.exit 0)))
 (.seq (.block 1 (.region false [zo 23 (.mov (.tmp 8)),
 zo 24 (.bin .mul (.tmp 23) (.cst (.int .u32 16777619))),
 zo 25 (.mov (.tmp 0)),
 zo 26 (.mov (.tmp 9)),
 zo 27 (.idxs (.tmp 25) (.tmp 26)),
 zo 28 (.conv .u32 (.tmp 27)),
 zo 29 (.bin .add (.tmp 24) (.tmp 28)),
 zo 8 (.own 29)] []))
  (.region false [zo 21 (.mov (.tmp 9)),
 zo 22 (.bin .add (.tmp 21) (.cst (.int .i64 1))),
 zo 9 (.own 22)] []))
def x75_l0 : XCode := x75_r0
def x75_r1 : XCode := .seq (.seq (.region false [zo 41 (.mov (.tmp 10)),
 zo 42 (.mov (.tmp 0)),
 zo 43 (.lens true (.tmp 42)),
 zo 44 (.bin .lss (.tmp 41) (.tmp 43))] [])
  (.cond (.tmp 44) .skip (.exit 2)))
  (.block 3 (.seq (.region false [zo 45 (.mov (.tmp 8)),
 zo 46 (.bin .mul (.tmp 45) (.cst (.int .u32 16777619))),
 zo 8 (.own 46)] [])
 (.seq (.region false [zo 47 (.mov (.tmp 8)),
 zo 48 (.mov (.tmp 0)),
 zo 49 (.mov (.tmp 10)),
 zo 50 (.idxs (.tmp 48) (.tmp 49)),
 zo 51 (.conv .u32 (.tmp 50)),
 zo 52 (.bin .add (.tmp 47) (.tmp 51)),
 zo 8 (.own 52)] [])
 (.seq (.region false [zo 53 (.mov (.tmp 8)),
 zo 54 (.mov (.tmp 6)),
 zo 55 (.mov (.tmp 0)),
 zo 56 (.mov (.tmp 10)),
 zo 57 (.mov (.tmp 7)),
 zo 58 (.bin .sub (.tmp 56) (.tmp 57)),
 zo 59 (.idxs (.tmp 55) (.tmp 58)),
 zo 60 (.conv .u32 (.tmp 59)),
 zo 61 (.bin .mul (.tmp 54) (.tmp 60)),
 zo 62 (.bin .sub (.tmp 53) (.tmp 61)),
 zo 8 (.own 62)] [])
 (.seq (.region false [zo 63 (.mov (.tmp 10)),
 zo 64 (.bin .add (.tmp 63) (.cst (.int .i64 1))),
 zo 10 (.own 64)] [])
 (.seq (.region false [zo 65 (.mov (.tmp 8)),
 zo 66 (.mov (.tmp 5)),
 zo 67 (.bin .eql (.tmp 65) (.tmp 66)),
 zo 68 (.mov (.tmp 67)),
 zg 69 68 true (.mov (.tmp 0)),
 zg 70 68 true (.mov (.tmp 10)),
 zg 71 68 true (.mov (.tmp 7)),
 zg 72 68 true (.bin .sub (.tmp 70) (.tmp 71)),
 zg 73 68 true (.mov (.tmp 10)),
 zg 74 68 true (.sstr (.tmp 69) (some (.tmp 72)) (some (.tmp 73))),
 zg 75 68 true (.mov (.tmp 1)),
 zg 76 68 true (.bin .eql (.tmp 74) (.tmp 75)),
 zo 77 (.pick (.tmp 68) (.tmp 76) (.cst (.bool false)))] [])
  (.cond (.tmp 77) (.seq (.region false [zo 78 (.mov (.tmp 10)),
 zo 79 (.mov (.tmp 7)),
 zo 80 (.bin .sub (.tmp 78) (.tmp 79)),
 zo 4 (.own 80)] [])
  .ret) .skip)))))))
def x75_l1 : XCode := x75_r1
/-- internal/bytealg.IndexRabinKarp[string] -/
def x75 : XFn := XFn.mk 81 [.tmp 4] (.seq (.region false [zo 4 (.mov (.cst (.int .i64 0)))] [])
 (.seq (.region false [zo 12 (.mov (.tmp 1)),
 zo 13 (.callq 90 [.tmp 12]),
 zo 11 (.mov (.tmp 13)),
 zo 14 (.ext 11 0),
 zo 15 (.ext 11 1),
 zo 5 (.own 14),
 zo 6 (.own 15)] [])
 (.seq (.region false [zo 16 (.mov (.tmp 1)),
 zo 17 (.lens true (.tmp 16)),
 zo 7 (.own 17)] [])
 (.seq (.region false [zo 8 (.mov (.cst (.int .u32 0)))] [])
 (.seq (.seq (.region false [zo 9 (.mov (.cst (.int .i64 0)))] [])
  (.block 0 (.loop x75_l0)))
 (.seq (.seq (.region false [zo 30 (.mov (.tmp 8)),
 zo 31 (.mov (.tmp 5)),
 zo 32 (.bin .eql (.tmp 30) (.tmp 31)),
 zo 33 (.mov (.tmp 32)),
 zg 34 33 true (.mov (.tmp 0)),
 zg 35 33 true (.mov (.tmp 7)),
 zg 36 33 true (.sstr (.tmp 34) none (some (.tmp 35))),
 zg 37 33 true (.mov (.tmp 1)),
 zg 38 33 true (.bin .eql (.tmp 36) (.tmp 37)),
 zo 39 (.pick (.tmp 33) (.tmp 38) (.cst (.bool false)))] [])
  (.cond (.tmp 39) (.seq (.region false [zo 4 (.mov (.cst (.int .i64 0)))] [])
  .ret) .skip))
 (.seq (.seq (.region false [zo 40 (.mov (.tmp 7)),
 zo 10 (.own 40)] [])
  (.block 2 (.loop x75_l1)))
 (.seq (.region false [zo 4 (.mov (.cst (.int .i64 (-1))))] [])
  .ret))))))))
/-- internal/strconv.lower -/
def x76 : XFn := XFn.mk 5 [.tmp 2] (.seq (.region false [zo 2 (.mov (.cst (.int .u8 0)))] [])
 (.seq (.region false [zo 3 (.mov (.tmp 0)),
 zo 4 (.bin .or (.tmp 3) (.cst (.int .u8 32))),
 zo 2 (.own 4)] [])
  .ret))
def x77_r0 : XCode := .seq (.seq (.region false [zo 51 (.mov (.tmp 4)),
 zo 52 (.mov (.tmp 0)),
 zo 53 (.lens true (.tmp 52)),
 zo 54 (.bin .lss (.tmp 51) (.tmp 53))] [])
  (.cond (.tmp 54) .skip (.exit 0)))
 (.seq (.block 1 (.seq (.seq (.region false [zo 57 (.mov (.tmp 0)),
 zo 58 (.mov (.tmp 4)),
 zo 59 (.idxs (.tmp 57) (.tmp 58)),
 zo 60 (.bin .leq (.cst (.int .u8 48)) (.tmp 59)),
 zo 61 (.mov (.tmp 60)),
 zg 62 61 true (.mov (.tmp 0)),
 zg 63 61 true (.mov (.tmp 4)),
 zg 64 61 true (.idxs (.tmp 62) (.tmp 63)),
 zg 65 61 true (.bin .leq (.tmp 64) (.cst (.int .u8 57))),
 zo 66 (.pick (.tmp 61) (.tmp 65) (.cst (.bool false))),
 zo 67 (.mov (.tmp 66)),
 zg 68 67 false (.mov (.tmp 5)),
 zg 69 67 false (.mov (.tmp 68)),
 zg 70 69 true (.mov (.tmp 0)),
 zg 71 69 true (.mov (.tmp 4)),
 zg 72 69 true (.idxs (.tmp 70) (.tmp 71)),
 zg 73 69 true (.callq 76 [.tmp 72]),
 zg 74 69 true (.bin .leq (.cst (.int .u8 97)) (.tmp 73)),
 zg 75 67 false (.pick (.tmp 69) (.tmp 74) (.cst (.bool false))),
 zg 76 67 false (.mov (.tmp 75)),
 zg 77 76 true (.mov (.tmp 0)),
 zg 78 76 true (.mov (.tmp 4)),
 zg 79 76 true (.idxs (.tmp 77) (.tmp 78)),
 zg 80 76 true (.callq 76 [.tmp 79]),
 zg 81 76 true (.bin .leq (.tmp 80) (.cst (.int .u8 102))),
 zg 82 67 false (.pick (.tmp 76) (.tmp 81) (.cst (.bool false))),
 zo 83 (.pick (.tmp 67) (.cst (.bool true)) (.tmp 82))] [])
  (.cond (.tmp 83) (.seq (.region false [zo 3 (.mov (.cst (.int .i32 48)))] [])
  (.exit 1)) .skip))
 (.seq (.seq (.region false [zo 84 (.mov (.tmp 0)),
 zo 85 (.mov (.tmp 4)),
 zo 86 (.idxs (.tmp 84) (.tmp 85)),
 zo 87 (.bin .eql (.tmp 86) (.cst (.int .u8 95)))] [])
  (.cond (.tmp 87) (.seq (.seq (.region false [zo 88 (.mov (.tmp 3)),
 zo 89 (.bin .neq (.tmp 88) (.cst (.int .i32 48)))] [])
  (.cond (.tmp 89) (.seq (.region false [zo 2 (.mov (.cst (.bool false)))] [])
  .ret) .skip))
 (.seq (.region false [zo 3 (.mov (.cst (.int .i32 95)))] [])
  (.exit 1))) .skip))
 (.seq (.seq (.region false [zo 90 (.mov (.tmp 3)),
 zo 91 (.bin .eql (.tmp 90) (.cst (.int .i32 95)))] [])
  (.cond (.tmp 91) (.seq (.region false [zo 2 (.mov (.cst (.bool false)))] [])
  .ret) .skip))
  (.region false [zo 3 (.mov (.cst (.int .i32 33)))] [])))))
  (.region false [zo 55 (.mov (.tmp 4)),
 zo 56 (.bin .add (.tmp 55) (.cst (.int .i64 1))),
 zo 4 (.own 56)] []))
def x77_l0 : XCode := x77_r0
/-- internal/strconv.underscoreOK -/
def x77 : XFn := XFn.mk 94 [.tmp 2] (.seq (.region false [zo 2 (.mov (.cst (.bool false)))] [])
 (.seq (.region false [zo 3 (.mov (.cst (.int .i32 94)))] [])
 (.seq (.region false [zo 4 (.mov (.cst (.int .i64 0)))] [])
 (.seq (.seq (.region false [zo 6 (.mov (.tmp 0)),
 zo 7 (.lens true (.tmp 6)),
 zo 8 (.bin .geq (.tmp 7) (.cst (.int .i64 1))),
 zo 9 (.mov (.tmp 8)),
 zg 10 9 true (.mov (.tmp 0)),
 zg 11 9 true (.idxs (.tmp 10) (.cst (.int .i64 0))),
 zg 12 9 true (.bin .eql (.tmp 11) (.cst (.int .u8 45))),
 zg 13 9 true (.mov (.tmp 12)),
 zg 14 13 false (.mov (.tmp 0)),
 zg 15 13 false (.idxs (.tmp 14) (.cst (.int .i64 0))),
 zg 16 13 false (.bin .eql (.tmp 15) (.cst (.int .u8 43))),
 zg 17 9 true (.pick (.tmp 13) (.cst (.bool true)) (.tmp 16)),
 zo 18 (.pick (.tmp 9) (.tmp 17) (.cst (.bool false)))] [])
  (.cond (.tmp 18) (.region false [zo 19 (.mov (.tmp 0)),
 zo 20 (.sstr (.tmp 19) (some (.cst (.int .i64 1))) none),
 zo 0 (.own 20)] []) .skip))
 (.seq (.region false [zo 5 (.mov (.cst (.bool false)))] [])
 (.seq (.seq (.region false [zo 21 (.mov (.tmp 0)),
 zo 22 (.lens true (.tmp 21)),
 zo 23 (.bin .geq (.tmp 22) (.cst (.int .i64 2))),
 zo 24 (.mov (.tmp 23)),
 zg 25 24 true (.mov (.tmp 0)),
 zg 26 24 true (.idxs (.tmp 25) (.cst (.int .i64 0))),
 zg 27 24 true (.bin .eql (.tmp 26) (.cst (.int .u8 48))),
 zo 28 (.pick (.tmp 24) (.tmp 27) (.cst (.bool false))),
 zo 29 (.mov (.tmp 28)),
 zg 30 29 true (.mov (.tmp 0)),
 zg 31 29 true (.idxs (.tmp 30) (.cst (.int .i64 1))),
 zg 32 29 true (.callq 76 [.tmp 31]),
 zg 33 29 true (.bin .eql (.tmp 32) (.cst (.int .u8 98))),
 zg 34 29 true (.mov (.tmp 33)),
 zg 35 34 false (.mov (.tmp 0)),
 zg 36 34 false (.idxs (.tmp 35) (.cst (.int .i64 1))),
 zg 37 34 false (.callq 76 [.tmp 36]),
 zg 38 34 false (.bin .eql (.tmp 37) (.cst (.int .u8 111))),
 zg 39 29 true (.pick (.tmp 34) (.cst (.bool true)) (.tmp 38)),
 zg 40 29 true (.mov (.tmp 39)),
 zg 41 40 false (.mov (.tmp 0)),
 zg 42 40 false (.idxs (.tmp 41) (.cst (.int .i64 1))),
 zg 43 40 false (.callq 76 [.tmp 42]),
 zg 44 40 false (.bin .eql (.tmp 43) (.cst (.int .u8 120))),
 zg 45 29 true (.pick (.tmp 40) (.cst (.bool true)) (.tmp 44)),
 zo 46 (.pick (.tmp 29) (.tmp 45) (.cst (.bool false)))] [])
  (.cond (.tmp 46) (.seq (.region false [zo 4 (.mov (.cst (.int .i64 2)))] [])
 (.seq (.region false [zo 3 (.mov (.cst (.int .i32 48)))] [])
  (.region false [zo 47 (.mov (.tmp 0)),
 zo 48 (.idxs (.tmp 47) (.cst (.int .i64 1))),
 zo 49 (.callq 76 [.tmp 48]),
 zo 50 (.bin .eql (.tmp 49) (.cst (.int .u8 120))),
 zo 5 (.own 50)] []))) .skip))
 (.seq (.block 0 (.loop x77_l0))
 (.seq (.region false [zo 92 (.mov (.tmp 3)),
 zo 93 (.bin .neq (.tmp 92) (.cst (.int .i32 95))),
 zo 2 (.own 93)] [])
  .ret))))))))
/-- errors.New -/
def x79 : XFn := XFn.mk 7 [.tmp 2] (.seq (.region false [zo 2 (.mov (.cst .nilif))] [])
 (.seq (.region false [zo 3 (.mov (.tmp 0)),
 zo 4 (.build [.str []] [(0, 1, .tmp 3)]),
 zo 5 (.box (.tmp 4) 1),
 zo 6 (.mkif 116 (.tmp 5)),
 zo 2 (.own 6)] [])
  .ret))
/-- strconv.Itoa -/
def x80 : XFn := XFn.mk 5 [.tmp 2] (.seq (.region false [zo 2 (.mov (.cst (.str [])))] [])
 (.seq (.region false [zo 3 (.mov (.tmp 0)),
 zo 4 (.callq 91 [.tmp 3]),
 zo 2 (.own 4)] [])
  .ret))
def x81_r0 : XCode := .seq (.seq (.region false [zo 5 (.mov (.tmp 1)),
 zo 6 (.bin .neq (.tmp 5) (.cst (.int .u64 0)))] [])
  (.cond (.tmp 6) .skip (.exit 0)))
  (.block 1 (.region true [zo 7 (.mov (.tmp 1)),
 zo 8 (.mov (.tmp 0)),
 zo 9 (.mov (.tmp 1)),
 zo 10 (.bin .rem (.tmp 8) (.tmp 9)),
 zo 0 (.own 7),
 zo 1 (.own 10)] []))
def x81_l0 : XCode := x81_r0
/-- custos/rat.gcd -/
def x81 : XFn := XFn.mk 12 [.tmp 4] (.seq (.region false [zo 4 (.mov (.cst (.int .u64 0)))] [])
 (.seq (.block 0 (.loop x81_l0))
 (.seq (.region false [zo 11 (.mov (.tmp 0)),
 zo 4 (.own 11)] [])
  .ret)))
/-- custos/rat.size -/
def x82 : XFn := XFn.mk 10 [.tmp 2] (.seq (.region false [zo 2 (.mov (.cst (.int .u64 0)))] [])
 (.seq (.seq (.region false [zo 3 (.mov (.tmp 0)),
 zo 4 (.bin .lss (.tmp 3) (.cst (.int .i64 0)))] [])
  (.cond (.tmp 4) (.seq (.region false [zo 5 (.mov (.tmp 0)),
 zo 6 (.conv .u64 (.tmp 5)),
 zo 7 (.neg (.tmp 6)),
 zo 2 (.own 7)] [])
  .ret) .skip))
 (.seq (.region false [zo 8 (.mov (.tmp 0)),
 zo 9 (.conv .u64 (.tmp 8)),
 zo 2 (.own 9)] [])
  .ret)))
/-- internal/strconv.log10Pow2 -/
def x83 : XFn := XFn.mk 6 [.tmp 2] (.seq (.region false [zo 2 (.mov (.cst (.int .i64 0)))] [])
 (.seq (.region false [zo 3 (.mov (.tmp 0)),
 zo 4 (.bin .mul (.tmp 3) (.cst (.int .i64 78913))),
 zo 5 (.bin .shr (.tmp 4) (.cst (.int .u64 18))),
 zo 2 (.own 5)] [])
  .ret))
/-- math/bits.Len64 -/
def x84 : XFn := XFn.mk 25 [.tmp 2] (.seq (.region false [zo 2 (.mov (.cst (.int .i64 0)))] [])
 (.seq (.seq (.region false [zo 3 (.mov (.tmp 0)),
 zo 4 (.bin .geq (.tmp 3) (.cst (.int .u64 4294967296)))] [])
  (.cond (.tmp 4) (.seq (.region false [zo 5 (.mov (.tmp 0)),
 zo 6 (.bin .shr (.tmp 5) (.cst (.int .u64 32))),
 zo 0 (.own 6)] [])
  (.region false [zo 2 (.mov (.cst (.int .i64 32)))] [])) .skip))
 (.seq (.seq (.region false [zo 7 (.mov (.tmp 0)),
 zo 8 (.bin .geq (.tmp 7) (.cst (.int .u64 65536)))] [])
  (.cond (.tmp 8) (.seq (.region false [zo 9 (.mov (.tmp 0)),
 zo 10 (.bin .shr (.tmp 9) (.cst (.int .u64 16))),
 zo 0 (.own 10)] [])
  (.region false [zo 11 (.mov (.tmp 2)),
 zo 12 (.bin .add (.tmp 11) (.cst (.int .i64 16))),
 zo 2 (.own 12)] [])) .skip))
 (.seq (.seq (.region false [zo 13 (.mov (.tmp 0)),
 zo 14 (.bin .geq (.tmp 13) (.cst (.int .u64 256)))] [])
  (.cond (.tmp 14) (.seq (.region false [zo 15 (.mov (.tmp 0)),
 zo 16 (.bin .shr (.tmp 15) (.cst (.int .u64 8))),
 zo 0 (.own 16)] [])
  (.region false [zo 17 (.mov (.tmp 2)),
 zo 18 (.bin .add (.tmp 17) (.cst (.int .i64 8))),
 zo 2 (.own 18)] [])) .skip))
 (.seq (.region false [zo 19 (.mov (.tmp 2)),
 zo 20 (.mov (.tmp 0)),
 zo 21 (.conv .u8 (.tmp 20)),
 zo 22 (.idxs (.cst (.str [0, 1, 2, 2, 3, 3, 3, 3, 4, 4, 4, 4, 4, 4, 4, 4, 5, 5, 5, 5, 5, 5, 5, 5, 5, 5, 5, 5, 5, 5, 5, 5, 6, 6, 6, 6, 6, 6, 6, 6, 6, 6, 6, 6, 6, 6, 6, 6, 6, 6, 6, 6, 6, 6, 6, 6, 6, 6, 6, 6, 6, 6, 6, 6, 7, 7, 7, 7, 7, 7, 7, 7, 7, 7, 7, 7, 7, 7, 7, 7, 7, 7, 7, 7, 7, 7, 7, 7, 7, 7, 7, 7, 7, 7, 7, 7, 7, 7, 7, 7, 7, 7, 7, 7, 7, 7, 7, 7, 7, 7, 7, 7, 7, 7, 7, 7, 7, 7, 7, 7, 7, 7, 7, 7, 7, 7, 7, 7, 8, 8, 8, 8, 8, 8, 8, 8, 8, 8, 8, 8, 8, 8, 8, 8, 8, 8, 8, 8, 8, 8, 8, 8, 8, 8, 8, 8, 8, 8, 8, 8, 8, 8, 8, 8, 8, 8, 8, 8, 8, 8, 8, 8, 8, 8, 8, 8, 8, 8, 8, 8, 8, 8, 8, 8, 8, 8, 8, 8, 8, 8, 8, 8, 8, 8, 8, 8, 8, 8, 8, 8, 8, 8, 8, 8, 8, 8, 8, 8, 8, 8, 8, 8, 8, 8, 8, 8, 8, 8, 8, 8, 8, 8, 8, 8, 8, 8, 8, 8, 8, 8, 8, 8, 8, 8, 8, 8, 8, 8, 8, 8, 8, 8, 8, 8, 8, 8, 8, 8, 8, 8, 8, 8, 8, 8, 8, 8])) (.tmp 21)),
 zo 23 (.conv .i64 (.tmp 22)),
 zo 24 (.bin .add (.tmp 19) (.tmp 23)),
 zo 2 (.own 24)] [])
  .ret)))))
/-- internal/strconv.bool2[int] -/
def x85 : XFn := XFn.mk 4 [.tmp 2] (.seq (.region false [zo 2 (.mov (.cst (.int .i64 0)))] [])
 (.seq (.seq (.region false [zo 3 (.mov (.tmp 0))] [])
  (.cond (.tmp 3) (.seq (.region false [zo 2 (.mov (.cst (.int .i64 1)))] [])
  .ret) .skip))
 (.seq (.region false [zo 2 (.mov (.cst (.int .i64 0)))] [])
  .ret)))
/-- internal/strconv.isPowerOfTwo -/
def x86 : XFn := XFn.mk 8 [.tmp 2] (.seq (.region false [zo 2 (.mov (.cst (.bool false)))] [])
 (.seq (.region false [zo 3 (.mov (.tmp 0)),
 zo 4 (.mov (.tmp 0)),
 zo 5 (.bin .sub (.tmp 4) (.cst (.int .i64 1))),
 zo 6 (.bin .and (.tmp 3) (.tmp 5)),
 zo 7 (.bin .eql (.tmp 6) (.cst (.int .i64 0))),
 zo 2 (.own 7)] [])
  .ret))
/-- math/bits.TrailingZeros -/
def x87 : XFn := XFn.mk 8 [.tmp 2] (.seq (.region false [zo 2 (.mov (.cst (.int .i64 0)))] [])
 (.seq (.cond (.cst (.bool false)) (.seq (.region false [zo 3 (.mov (.tmp 0)),
 zo 4 (.conv .u32 (.tmp 3)),
 zo 5 (.callq 92 [.tmp 4]),
 zo 2 (.own 5)] [])
  .ret) .skip)
 (.seq (.region false [zo 6 (.mov (.tmp 0)),
 zo 7 (.callq 93 [.tmp 6]),
 zo 2 (.own 7)] [])
  .ret)))
/-- custos/custosref01.MayBe -/
def x88 : XFn := XFn.mk 23 [.tmp 2] (.seq (.region false [zo 1 (.box (.tmp 0) 2),
 zo 2 (.mov (.cst (.bool false)))] [])
 (.seq (.seq (.region false [zo 5 (.faddr (.tmp 1) 1),
 zo 6 (.load (.tmp 5) 1 false),
 zo 7 (.bin .leq (.tmp 6) (.cst (.int .i64 0)))] [])
  (.cond (.tmp 7) (.seq (.region false [zo 2 (.mov (.cst (.bool false)))] [])
  .ret) .skip))
 (.seq (.region false [zo 9 (.faddr (.tmp 1) 0),
 zo 10 (.load (.tmp 9) 1 false),
 zo 11 (.faddr (.tmp 1) 1),
 zo 12 (.load (.tmp 11) 1 false),
 zo 13 (.callq 94 [.tmp 10, .tmp 12]),
 zo 8 (.mov (.tmp 13)),
 zo 14 (.ext 8 0),
 zo 15 (.ext 8 1),
 zo 3 (.alloc [.int .i64 0, .int .i64 0]),
 ⟨none, .store (.tmp 3) (.tmp 14) 2, none⟩,
 zo 4 (.own 15)] [])
 (.seq (.region false [zo 16 (.mov (.tmp 4)),
 zo 17 (.bin .eql (.tmp 16) (.cst (.int .i64 0))),
 zo 18 (.mov (.tmp 17)),
 zg 19 18 true (.load (.tmp 3) 2 true),
 zg 20 18 true (.load (.tmp 1) 2 true),
 zg 21 18 true (.eqagg false [1, 1] (.tmp 19) (.tmp 20)),
 zo 22 (.pick (.tmp 18) (.tmp 21) (.cst (.bool false))),
 zo 2 (.own 22)] [])
  .ret))))
/-- custos/custosref02.fraction -/
def x89 : XFn := XFn.mk 8 [.cell 2 2 true] (.seq (.region false [zo 1 (.box (.tmp 0) 4),
 zo 2 (.alloc [.int .i64 0, .int .i64 0])] [])
 (.seq (.region false [zo 3 (.faddr (.tmp 1) 1),
 zo 4 (.load (.tmp 3) 1 false),
 zo 5 (.faddr (.tmp 1) 2),
 zo 6 (.load (.tmp 5) 1 false),
 zo 7 (.build [.int .i64 0, .int .i64 0] [(0, 1, .tmp 4), (1, 1, .tmp 6)]),
 ⟨none, .store (.tmp 2) (.tmp 7) 2, none⟩] [])
  .ret))
def x90_r0 : XCode := .seq (.seq (.region false [zo 9 (.mov (.tmp 5)),
 zo 10 (.mov (.tmp 0)),
 zo 11 (.lens true (.tmp 10)),
 zo 12 (.bin .lss (.tmp 9) (.tmp 11))] [])
  (.cond (.tmp 12) .skip (.exit 0)))
 (.seq (.block 1 (.region false [zo 15 (.mov (.tmp 4)),
 zo 16 (.bin .mul (.tmp 15) (.cst (.int .u32 16777619))),
 zo 17 (.mov (.tmp 0)),
 zo 18 (.mov (.tmp 5)),
 zo 19 (.idxs (.tmp 17) (.tmp 18)),
 zo 20 (.conv .u32 (.tmp 19)),
 zo 21 (.bin .add (.tmp 16) (.tmp 20)),
 zo 4 (.own 21)] []))
  (.region false [zo 13 (.mov (.tmp 5)),
 zo 14 (.bin .add (.tmp 13) (.cst (.int .i64 1))),
 zo 5 (.own 14)] []))
def x90_l0 : XCode := x90_r0
def x90_r1 : XCode := .seq (.seq (.region false [zo 24 (.mov (.tmp 8)),
 zo 25 (.bin .gtr (.tmp 24) (.cst (.int .i64 0)))] [])
  (.cond (.tmp 25) .skip (.exit 2)))
 (.seq (.block 3 (.seq (.seq (.region false [zo 28 (.mov (.tmp 8)),
 zo 29 (.bin .and (.tmp 28) (.cst (.int .i64 1))),
 zo 30 (.bin .neq (.tmp 29) (.cst (.int .i64 0)))] [])
  (.cond (.tmp 30) (.region false [zo 31 (.mov (.tmp 6)),
 zo 32 (.mov (.tmp 7)),
 zo 33 (.bin .mul (.tmp 31) (.tmp 32)),
 zo 6 (.own 33)] []) .skip))
  (.region false [zo 34 (.mov (.tmp 7)),
 zo 35 (.mov (.tmp 7)),
 zo 36 (.bin .mul (.tmp 34) (.tmp 35)),
 zo 7 (.own 36)] [])))
  (.region false [zo 26 (.mov (.tmp 8)),
 zo 27 (.bin .shr (.tmp 26) (.cst (.int .u64 1))),
 zo 8 (.own 27)] []))
def x90_l1 : XCode := x90_r1
/-- internal/bytealg.hashStr[string] -/
def x90 : XFn := XFn.mk 39 [.tmp 2, .tmp 3] (.seq (.region false [zo 2 (.mov (.cst (.int .u32 0))),
 zo 3 (.mov (.cst (.int .u32 0)))] [])
 (.seq (.region false [zo 4 (.mov (.cst (.int .u32 0)))] [])
 (.seq (.seq (.region false [zo 5 (.mov (.cst (.int .i64 0)))] [])
  (.block 0 (.loop x90_l0)))
 (.seq (.region false [zo 6 (.mov (.cst (.int .u32 1))),
 zo 7 (.mov (.cst (.int .u32 16777619)))] [])
 (.seq (.seq (.region false [zo 22 (.mov (.tmp 0)),
 zo 23 (.lens true (.tmp 22)),
 zo 8 (.own 23)] [])
  (.block 2 (.loop x90_l1)))
 (.seq (.region false [zo 37 (.mov (.tmp 4)),
 zo 38 (.mov (.tmp 6)),
 zo 2 (.own 37),
 zo 3 (.own 38)] [])
  .ret))))))
/-- internal/strconv.Itoa -/
def x91 : XFn := XFn.mk 5 [.tmp 2] (.seq (.region false [zo 2 (.mov (.cst (.str [])))] [])
 (.seq (.region false [zo 3 (.mov (.tmp 0)),
 zo 4 (.callq 51 [.tmp 3, .cst (.int .i64 10)]),
 zo 2 (.own 4)] [])
  .ret))
/-- math/bits.TrailingZeros32 -/
def x92 : XFn := XFn.mk 14 [.tmp 2] (.seq (.region false [zo 2 (.mov (.cst (.int .i64 0)))] [])
 (.seq (.seq (.region false [zo 3 (.mov (.tmp 0)),
 zo 4 (.bin .eql (.tmp 3) (.cst (.int .u32 0)))] [])
  (.cond (.tmp 4) (.seq (.region false [zo 2 (.mov (.cst (.int .i64 32)))] [])
  .ret) .skip))
 (.seq (.region false [zo 5 (.mov (.tmp 0)),
 zo 6 (.mov (.tmp 0)),
 zo 7 (.neg (.tmp 6)),
 zo 8 (.bin .and (.tmp 5) (.tmp 7)),
 zo 9 (.bin .mul (.tmp 8) (.cst (.int .u32 125613361))),
 zo 10 (.bin .shr (.tmp 9) (.cst (.int .u64 27))),
 zo 11 (.iarr 32 1 (.glob 4) (.tmp 10)),
 zo 12 (.load (.tmp 11) 1 false),
 zo 13 (.conv .i64 (.tmp 12)),
 zo 2 (.own 13)] [])
  .ret)))
/-- math/bits.TrailingZeros64 -/
def x93 : XFn := XFn.mk 14 [.tmp 2] (.seq (.region false [zo 2 (.mov (.cst (.int .i64 0)))] [])
 (.seq (.seq (.region false [zo 3 (.mov (.tmp 0)),
 zo 4 (.bin .eql (.tmp 3) (.cst (.int .u64 0)))] [])
  (.cond (.tmp 4) (.seq (.region false [zo 2 (.mov (.cst (.int .i64 64)))] [])
  .ret) .skip))
 (.seq (.region false [zo 5 (.mov (.tmp 0)),
 zo 6 (.mov (.tmp 0)),
 zo 7 (.neg (.tmp 6)),
 zo 8 (.bin .and (.tmp 5) (.tmp 7)),
 zo 9 (.bin .mul (.tmp 8) (.cst (.int .u64 285870213051353865))),
 zo 10 (.bin .shr (.tmp 9) (.cst (.int .u64 58))),
 zo 11 (.iarr 64 1 (.glob 5) (.tmp 10)),
 zo 12 (.load (.tmp 11) 1 false),
 zo 13 (.conv .i64 (.tmp 12)),
 zo 2 (.own 13)] [])
  .ret)))
/-- custos/custosref01.Of -/
def x94 : XFn := XFn.mk 31 [.cell 4 2 true, .tmp 5] (.seq (.region false [zo 4 (.alloc [.int .i64 0, .int .i64 0]),
 zo 5 (.mov (.cst (.int .i64 0)))] [])
 (.seq (.seq (.region false [zo 8 (.mov (.tmp 1)),
 zo 9 (.bin .eql (.tmp 8) (.cst (.int .i64 0)))] [])
  (.cond (.tmp 9) (.seq (.region false [zo 10 (.build [.int .i64 0, .int .i64 0] []),
 ⟨none, .store (.tmp 4) (.tmp 10) 2, none⟩,
 zo 5 (.mov (.cst (.int .i64 11)))] [])
  .ret) .skip))
 (.seq (.region false [zo 11 (.mov (.tmp 0)),
 zo 12 (.callq 96 [.tmp 11]),
 zo 13 (.callq 95 [.tmp 12]),
 zo 6 (.alloc [.int .u64 0, .int .u64 0, .int .u64 0, .int .u64 0]),
 ⟨none, .store (.tmp 6) (.tmp 13) 4, none⟩] [])
 (.seq (.region false [zo 14 (.mov (.tmp 1)),
 zo 15 (.callq 96 [.tmp 14]),
 zo 16 (.callq 95 [.tmp 15]),
 zo 7 (.alloc [.int .u64 0, .int .u64 0, .int .u64 0, .int .u64 0]),
 ⟨none, .store (.tmp 7) (.tmp 16) 4, none⟩] [])
 (.seq (.region false [zo 17 (.mov (.tmp 0)),
 zo 18 (.bin .neq (.tmp 17) (.cst (.int .i64 0))),
 zo 19 (.mov (.tmp 18)),
 zg 20 19 true (.mov (.tmp 0)),
 zg 21 19 true (.bin .lss (.tmp 20) (.cst (.int .i64 0))),
 zg 22 19 true (.mov (.tmp 1)),
 zg 23 19 true (.bin .lss (.tmp 22) (.cst (.int .i64 0))),
 zg 24 19 true (.beq true (.tmp 21) (.tmp 23)),
 zo 25 (.pick (.tmp 19) (.tmp 24) (.cst (.bool false))),
 zo 26 (.load (.tmp 6) 4 true),
 zo 27 (.load (.tmp 7) 4 true),
 zo 28 (.callq 97 [.tmp 25, .tmp 26, .tmp 27]),
 zo 29 (.ext 28 0),
 zo 30 (.ext 28 1),
 ⟨none, .store (.tmp 4) (.tmp 29) 2, none⟩,
 zo 5 (.own 30)] [])
  .ret)))))
/-- custos/custosref01.of -/
def x95 : XFn := XFn.mk 13 [.cell 2 4 true] (.seq (.region false [zo 2 (.alloc [.int .u64 0, .int .u64 0, .int .u64 0, .int .u64 0])] [])
 (.seq (.region false [zo 3 (.alloc [.int .u64 0, .int .u64 0, .int .u64 0, .int .u64 0])] [])
 (.seq (.region false [zo 4 (.mov (.tmp 0)),
 zo 5 (.bin .rem (.tmp 4) (.cst (.int .u64 4294967296))),
 zo 6 (.faddr (.tmp 3) 0),
 zo 7 (.iarr 4 1 (.tmp 6) (.cst (.int .i64 0))),
 ⟨none, .store (.tmp 7) (.tmp 5) 1, none⟩] [])
 (.seq (.region false [zo 8 (.mov (.tmp 0)),
 zo 9 (.bin .quo (.tmp 8) (.cst (.int .u64 4294967296))),
 zo 10 (.faddr (.tmp 3) 0),
 zo 11 (.iarr 4 1 (.tmp 10) (.cst (.int .i64 1))),
 ⟨none, .store (.tmp 11) (.tmp 9) 1, none⟩] [])
 (.seq (.region false [zo 12 (.load (.tmp 3) 4 true),
 ⟨none, .store (.tmp 2) (.tmp 12) 4, none⟩] [])
  .ret)))))
/-- custos/custosref01.size -/
def x96 : XFn := XFn.mk 12 [.tmp 2] (.seq (.region false [zo 2 (.mov (.cst (.int .u64 0)))] [])
 (.seq (.seq (.region false [zo 3 (.mov (.tmp 0)),
 zo 4 (.bin .lss (.tmp 3) (.cst (.int .i64 0)))] [])
  (.cond (.tmp 4) (.seq (.region false [zo 5 (.mov (.tmp 0)),
 zo 6 (.bin .add (.tmp 5) (.cst (.int .i64 1))),
 zo 7 (.neg (.tmp 6)),
 zo 8 (.conv .u64 (.tmp 7)),
 zo 9 (.bin .add (.tmp 8) (.cst (.int .u64 1))),
 zo 2 (.own 9)] [])
  .ret) .skip))
 (.seq (.region false [zo 10 (.mov (.tmp 0)),
 zo 11 (.conv .u64 (.tmp 10)),
 zo 2 (.own 11)] [])
  .ret)))
/-- custos/custosref01.made -/
def x97 : XFn := XFn.mk 84 [.cell 6 2 true, .tmp 7] (.seq (.region false [zo 4 (.box (.tmp 1) 4),
 zo 5 (.box (.tmp 2) 4),
 zo 6 (.alloc [.int .i64 0, .int .i64 0]),
 zo 7 (.mov (.cst (.int .i64 0)))] [])
 (.seq (.region false [zo 18 (.load (.tmp 4) 4 true),
 zo 19 (.load (.tmp 5) 4 true),
 zo 20 (.callq 98 [.tmp 18, .tmp 19]),
 zo 8 (.alloc [.int .u64 0, .int .u64 0, .int .u64 0, .int .u64 0]),
 ⟨none, .store (.tmp 8) (.tmp 20) 4, none⟩] [])
 (.seq (.region false [zo 22 (.load (.tmp 4) 4 true),
 zo 23 (.load (.tmp 8) 4 true),
 zo 24 (.callq 99 [.tmp 22, .tmp 23]),
 zo 21 (.mov (.tmp 24)),
 zo 25 (.ext 21 0),
 zo 26 (.ext 21 1),
 zo 9 (.alloc [.int .u64 0, .int .u64 0, .int .u64 0, .int .u64 0]),
 zo 10 (.alloc [.int .u64 0, .int .u64 0, .int .u64 0, .int .u64 0]),
 ⟨none, .store (.tmp 9) (.tmp 25) 4, none⟩,
 ⟨none, .store (.tmp 10) (.tmp 26) 4, none⟩] [])
 (.seq (.region false [zo 28 (.load (.tmp 5) 4 true),
 zo 29 (.load (.tmp 8) 4 true),
 zo 30 (.callq 99 [.tmp 28, .tmp 29]),
 zo 27 (.mov (.tmp 30)),
 zo 31 (.ext 27 0),
 zo 32 (.ext 27 1),
 zo 11 (.alloc [.int .u64 0, .int .u64 0, .int .u64 0, .int .u64 0]),
 zo 12 (.alloc [.int .u64 0, .int .u64 0, .int .u64 0, .int .u64 0]),
 ⟨none, .store (.tmp 11) (.tmp 31) 4, none⟩,
 ⟨none, .store (.tmp 12) (.tmp 32) 4, none⟩] [])
 (.seq (.region false [zo 33 (.callq 95 [.cst (.int .u64 9223372036854775808)]),
 zo 13 (.alloc [.int .u64 0, .int .u64 0, .int .u64 0, .int .u64 0]),
 ⟨none, .store (.tmp 13) (.tmp 33) 4, none⟩] [])
 (.seq (.region false [zo 34 (.load (.tmp 9) 4 true),
 zo 35 (.load (.tmp 13) 4 true),
 zo 36 (.callq 100 [.tmp 34, .tmp 35]),
 zo 14 (.own 36)] [])
 (.seq (.region false [zo 37 (.load (.tmp 11) 4 true),
 zo 38 (.load (.tmp 13) 4 true),
 zo 39 (.callq 100 [.tmp 37, .tmp 38]),
 zo 15 (.own 39)] [])
 (.seq (.seq (.region false [zo 40 (.mov (.tmp 15)),
 zo 41 (.bin .geq (.tmp 40) (.cst (.int .i64 0))),
 zo 42 (.mov (.tmp 41)),
 zg 43 42 false (.mov (.tmp 14)),
 zg 44 42 false (.bin .gtr (.tmp 43) (.cst (.int .i64 0))),
 zo 45 (.pick (.tmp 42) (.cst (.bool true)) (.tmp 44)),
 zo 46 (.mov (.tmp 45)),
 zg 47 46 false (.mov (.tmp 14)),
 zg 48 46 false (.bin .eql (.tmp 47) (.cst (.int .i64 0))),
 zg 49 46 false (.mov (.tmp 48)),
 zg 50 49 true (.mov (.tmp 0)),
 zg 51 49 true (.not (.tmp 50)),
 zg 52 46 false (.pick (.tmp 49) (.tmp 51) (.cst (.bool false))),
 zo 53 (.pick (.tmp 46) (.cst (.bool true)) (.tmp 52))] [])
  (.cond (.tmp 53) (.seq (.region false [zo 54 (.build [.int .i64 0, .int .i64 0] []),
 ⟨none, .store (.tmp 6) (.tmp 54) 2, none⟩,
 zo 7 (.mov (.cst (.int .i64 10)))] [])
  .ret) .skip))
 (.seq (.region false [zo 55 (.faddr (.tmp 9) 0),
 zo 56 (.iarr 4 1 (.tmp 55) (.cst (.int .i64 1))),
 zo 57 (.load (.tmp 56) 1 false),
 zo 58 (.bin .mul (.tmp 57) (.cst (.int .u64 4294967296))),
 zo 59 (.faddr (.tmp 9) 0),
 zo 60 (.iarr 4 1 (.tmp 59) (.cst (.int .i64 0))),
 zo 61 (.load (.tmp 60) 1 false),
 zo 62 (.bin .add (.tmp 58) (.tmp 61)),
 zo 16 (.own 62)] [])
 (.seq (.region false [zo 63 (.faddr (.tmp 11) 0),
 zo 64 (.iarr 4 1 (.tmp 63) (.cst (.int .i64 1))),
 zo 65 (.load (.tmp 64) 1 false),
 zo 66 (.bin .mul (.tmp 65) (.cst (.int .u64 4294967296))),
 zo 67 (.faddr (.tmp 11) 0),
 zo 68 (.iarr 4 1 (.tmp 67) (.cst (.int .i64 0))),
 zo 69 (.load (.tmp 68) 1 false),
 zo 70 (.bin .add (.tmp 66) (.tmp 69)),
 zo 71 (.conv .i64 (.tmp 70)),
 zo 17 (.own 71)] [])
 (.seq (.seq (.region false [zo 72 (.mov (.tmp 0))] [])
  (.cond (.tmp 72) (.seq (.region false [zo 73 (.mov (.tmp 16)),
 zo 74 (.bin .sub (.tmp 73) (.cst (.int .u64 1))),
 zo 75 (.conv .i64 (.tmp 74)),
 zo 76 (.neg (.tmp 75)),
 zo 77 (.bin .sub (.tmp 76) (.cst (.int .i64 1))),
 zo 78 (.mov (.tmp 17)),
 zo 79 (.build [.int .i64 0, .int .i64 0] [(0, 1, .tmp 77), (1, 1, .tmp 78)]),
 ⟨none, .store (.tmp 6) (.tmp 79) 2, none⟩,
 zo 7 (.mov (.cst (.int .i64 0)))] [])
  .ret) .skip))
 (.seq (.region false [zo 80 (.mov (.tmp 16)),
 zo 81 (.conv .i64 (.tmp 80)),
 zo 82 (.mov (.tmp 17)),
 zo 83 (.build [.int .i64 0, .int .i64 0] [(0, 1, .tmp 81), (1, 1, .tmp 82)]),
 ⟨none, .store (.tmp 6) (.tmp 83) 2, none⟩,
 zo 7 (.mov (.cst (.int .i64 0)))] [])
  .ret))))))))))))
def x98_r0 : XCode := .seq (.seq (.region false [zo 9 (.load (.tmp 3) 4 true),
 zo 10 (.load (.tmp 5) 4 true),
 zo 11 (.eqagg true [1, 1, 1, 1] (.tmp 9) (.tmp 10))] [])
  (.cond (.tmp 11) .skip (.exit 0)))
  (.block 1 (.seq (.region false [zo 13 (.load (.tmp 2) 4 true),
 zo 14 (.load (.tmp 3) 4 true),
 zo 15 (.callq 99 [.tmp 13, .tmp 14]),
 zo 12 (.mov (.tmp 15)),
 zo 16 (.ext 12 0),
 zo 17 (.ext 12 1),
 zo 6 (.alloc [.int .u64 0, .int .u64 0, .int .u64 0, .int .u64 0]),
 zo 7 (.alloc [.int .u64 0, .int .u64 0, .int .u64 0, .int .u64 0]),
 ⟨none, .store (.tmp 6) (.tmp 16) 4, none⟩,
 ⟨none, .store (.tmp 7) (.tmp 17) 4, none⟩] [])
 (.seq (.region false [zo 18 (.load (.tmp 3) 4 true),
 ⟨none, .store (.tmp 2) (.tmp 18) 4, none⟩] [])
  (.region false [zo 19 (.load (.tmp 7) 4 true),
 ⟨none, .store (.tmp 3) (.tmp 19) 4, none⟩] []))))
def x98_l0 : XCode := x98_r0
/-- custos/custosref01.common -/
def x98 : XFn := XFn.mk 21 [.cell 4 4 true] (.seq (.region false [zo 2 (.box (.tmp 0) 4),
 zo 3 (.box (.tmp 1) 4),
 zo 4 (.alloc [.int .u64 0, .int .u64 0, .int .u64 0, .int .u64 0])] [])
 (.seq (.region false [zo 8 (.build [.int .u64 0, .int .u64 0, .int .u64 0, .int .u64 0] []),
 zo 5 (.alloc [.int .u64 0, .int .u64 0, .int .u64 0, .int .u64 0]),
 ⟨none, .store (.tmp 5) (.tmp 8) 4, none⟩] [])
 (.seq (.block 0 (.loop x98_l0))
 (.seq (.region false [zo 20 (.load (.tmp 2) 4 true),
 ⟨none, .store (.tmp 4) (.tmp 20) 4, none⟩] [])
  .ret))))
def x99_r0 : XCode := .seq (.seq (.region false [zo 10 (.mov (.tmp 8)),
 zo 11 (.bin .geq (.tmp 10) (.cst (.int .i64 0)))] [])
  (.cond (.tmp 11) .skip (.exit 0)))
 (.seq (.block 1 (.seq (.region false [zo 14 (.load (.tmp 7) 4 true),
 zo 15 (.load (.tmp 7) 4 true),
 zo 16 (.callq 101 [.tmp 14, .tmp 15]),
 ⟨none, .store (.tmp 7) (.tmp 16) 4, none⟩] [])
 (.seq (.region true [zo 17 (.faddr (.tmp 7) 0),
 zo 18 (.iarr 4 1 (.tmp 17) (.cst (.int .i64 0))),
 zo 19 (.load (.tmp 18) 1 false),
 zo 20 (.mov (.tmp 8)),
 zo 21 (.bin .quo (.tmp 20) (.cst (.int .i64 32))),
 zo 22 (.faddr (.tmp 2) 0),
 zo 23 (.iarr 4 1 (.tmp 22) (.tmp 21)),
 zo 24 (.load (.tmp 23) 1 false),
 zo 25 (.mov (.tmp 8)),
 zo 26 (.bin .rem (.tmp 25) (.cst (.int .i64 32))),
 zo 27 (.conv .u64 (.tmp 26)),
 zo 28 (.bin .shr (.tmp 24) (.tmp 27)),
 zo 29 (.bin .rem (.tmp 28) (.cst (.int .u64 2))),
 zo 30 (.bin .add (.tmp 19) (.tmp 29)),
 zo 31 (.faddr (.tmp 7) 0),
 zo 32 (.iarr 4 1 (.tmp 31) (.cst (.int .i64 0))),
 ⟨none, .store (.tmp 32) (.tmp 30) 1, none⟩] [])
 (.seq (.region false [zo 33 (.load (.tmp 7) 4 true),
 zo 34 (.load (.tmp 3) 4 true),
 zo 35 (.callq 100 [.tmp 33, .tmp 34]),
 zo 9 (.own 35)] [])
 (.seq (.region false [zo 36 (.mov (.tmp 9)),
 zo 37 (.bin .geq (.tmp 36) (.cst (.int .i64 0)))] [])
  (.cond (.tmp 37) (.seq (.region false [zo 38 (.load (.tmp 7) 4 true),
 zo 39 (.load (.tmp 3) 4 true),
 zo 40 (.callq 102 [.tmp 38, .tmp 39]),
 ⟨none, .store (.tmp 7) (.tmp 40) 4, none⟩] [])
  (.region false [zo 41 (.mov (.tmp 8)),
 zo 42 (.bin .quo (.tmp 41) (.cst (.int .i64 32))),
 zo 43 (.mov (.tmp 8)),
 zo 44 (.bin .quo (.tmp 43) (.cst (.int .i64 32))),
 zo 45 (.faddr (.tmp 6) 0),
 zo 46 (.iarr 4 1 (.tmp 45) (.tmp 44)),
 zo 47 (.load (.tmp 46) 1 false),
 zo 48 (.mov (.tmp 8)),
 zo 49 (.bin .rem (.tmp 48) (.cst (.int .i64 32))),
 zo 50 (.conv .u64 (.tmp 49)),
 zo 51 (.bin .shl (.cst (.int .u64 1)) (.tmp 50)),
 zo 52 (.bin .add (.tmp 47) (.tmp 51)),
 zo 53 (.faddr (.tmp 6) 0),
 zo 54 (.iarr 4 1 (.tmp 53) (.tmp 42)),
 ⟨none, .store (.tmp 54) (.tmp 52) 1, none⟩] [])) .skip))))))
  (.region false [zo 12 (.mov (.tmp 8)),
 zo 13 (.bin .sub (.tmp 12) (.cst (.int .i64 1))),
 zo 8 (.own 13)] []))
def x99_l0 : XCode := x99_r0
/-- custos/custosref01.divided -/
def x99 : XFn := XFn.mk 57 [.cell 4 4 true, .cell 5 4 true] (.seq (.region false [zo 2 (.box (.tmp 0) 4),
 zo 3 (.box (.tmp 1) 4),
 zo 4 (.alloc [.int .u64 0, .int .u64 0, .int .u64 0, .int .u64 0]),
 zo 5 (.alloc [.int .u64 0, .int .u64 0, .int .u64 0, .int .u64 0])] [])
 (.seq (.region false [zo 6 (.alloc [.int .u64 0, .int .u64 0, .int .u64 0, .int .u64 0])] [])
 (.seq (.region false [zo 7 (.alloc [.int .u64 0, .int .u64 0, .int .u64 0, .int .u64 0])] [])
 (.seq (.seq (.region false [zo 8 (.mov (.cst (.int .i64 127)))] [])
  (.block 0 (.loop x99_l0)))
 (.seq (.region true [zo 55 (.load (.tmp 6) 4 true),
 zo 56 (.load (.tmp 7) 4 true),
 ⟨none, .store (.tmp 4) (.tmp 55) 4, none⟩,
 ⟨none, .store (.tmp 5) (.tmp 56) 4, none⟩] [(7, 4)])
  .ret)))))
def x100_r0 : XCode := .seq (.seq (.region false [zo 6 (.mov (.tmp 5)),
 zo 7 (.bin .geq (.tmp 6) (.cst (.int .i64 0)))] [])
  (.cond (.tmp 7) .skip (.exit 0)))
 (.seq (.block 1 (.seq (.seq (.region true [zo 10 (.mov (.tmp 5)),
 zo 11 (.faddr (.tmp 2) 0),
 zo 12 (.iarr 4 1 (.tmp 11) (.tmp 10)),
 zo 13 (.load (.tmp 12) 1 false),
 zo 14 (.mov (.tmp 5)),
 zo 15 (.faddr (.tmp 3) 0),
 zo 16 (.iarr 4 1 (.tmp 15) (.tmp 14)),
 zo 17 (.load (.tmp 16) 1 false),
 zo 18 (.bin .lss (.tmp 13) (.tmp 17))] [])
  (.cond (.tmp 18) (.seq (.region false [zo 4 (.mov (.cst (.int .i64 (-1))))] [])
  .ret) .skip))
 (.seq (.region true [zo 19 (.mov (.tmp 5)),
 zo 20 (.faddr (.tmp 2) 0),
 zo 21 (.iarr 4 1 (.tmp 20) (.tmp 19)),
 zo 22 (.load (.tmp 21) 1 false),
 zo 23 (.mov (.tmp 5)),
 zo 24 (.faddr (.tmp 3) 0),
 zo 25 (.iarr 4 1 (.tmp 24) (.tmp 23)),
 zo 26 (.load (.tmp 25) 1 false),
 zo 27 (.bin .gtr (.tmp 22) (.tmp 26))] [])
  (.cond (.tmp 27) (.seq (.region false [zo 4 (.mov (.cst (.int .i64 1)))] [])
  .ret) .skip))))
  (.region false [zo 8 (.mov (.tmp 5)),
 zo 9 (.bin .sub (.tmp 8) (.cst (.int .i64 1))),
 zo 5 (.own 9)] []))
def x100_l0 : XCode := x100_r0
/-- custos/custosref01.compare -/
def x100 : XFn := XFn.mk 28 [.tmp 4] (.seq (.region false [zo 2 (.box (.tmp 0) 4),
 zo 3 (.box (.tmp 1) 4),
 zo 4 (.mov (.cst (.int .i64 0)))] [])
 (.seq (.seq (.region false [zo 5 (.mov (.cst (.int .i64 3)))] [])
  (.block 0 (.loop x100_l0)))
 (.seq (.region false [zo 4 (.mov (.cst (.int .i64 0)))] [])
  .ret)))
def x101_r0 : XCode := .seq (.seq (.region false [zo 9 (.mov (.tmp 7)),
 zo 10 (.bin .lss (.tmp 9) (.cst (.int .i64 4)))] [])
  (.cond (.tmp 10) .skip (.exit 0)))
 (.seq (.block 1 (.seq (.region true [zo 13 (.mov (.tmp 7)),
 zo 14 (.faddr (.tmp 2) 0),
 zo 15 (.iarr 4 1 (.tmp 14) (.tmp 13)),
 zo 16 (.load (.tmp 15) 1 false),
 zo 17 (.mov (.tmp 7)),
 zo 18 (.faddr (.tmp 3) 0),
 zo 19 (.iarr 4 1 (.tmp 18) (.tmp 17)),
 zo 20 (.load (.tmp 19) 1 false),
 zo 21 (.bin .add (.tmp 16) (.tmp 20)),
 zo 22 (.mov (.tmp 6)),
 zo 23 (.bin .add (.tmp 21) (.tmp 22)),
 zo 8 (.own 23)] [])
 (.seq (.region false [zo 24 (.mov (.tmp 7)),
 zo 25 (.mov (.tmp 8)),
 zo 26 (.bin .rem (.tmp 25) (.cst (.int .u64 4294967296))),
 zo 27 (.faddr (.tmp 5) 0),
 zo 28 (.iarr 4 1 (.tmp 27) (.tmp 24)),
 ⟨none, .store (.tmp 28) (.tmp 26) 1, none⟩] [])
  (.region false [zo 29 (.mov (.tmp 8)),
 zo 30 (.bin .quo (.tmp 29) (.cst (.int .u64 4294967296))),
 zo 6 (.own 30)] []))))
  (.region false [zo 11 (.mov (.tmp 7)),
 zo 12 (.bin .add (.tmp 11) (.cst (.int .i64 1))),
 zo 7 (.own 12)] []))
def x101_l0 : XCode := x101_r0
/-- custos/custosref01.plus -/
def x101 : XFn := XFn.mk 32 [.cell 4 4 true] (.seq (.region false [zo 2 (.box (.tmp 0) 4),
 zo 3 (.box (.tmp 1) 4),
 zo 4 (.alloc [.int .u64 0, .int .u64 0, .int .u64 0, .int .u64 0])] [])
 (.seq (.region false [zo 5 (.alloc [.int .u64 0, .int .u64 0, .int .u64 0, .int .u64 0])] [])
 (.seq (.region false [zo 6 (.mov (.cst (.int .u64 0)))] [])
 (.seq (.seq (.region false [zo 7 (.mov (.cst (.int .i64 0)))] [])
  (.block 0 (.loop x101_l0)))
 (.seq (.region false [zo 31 (.load (.tmp 5) 4 true),
 ⟨none, .store (.tmp 4) (.tmp 31) 4, none⟩] [])
  .ret)))))
def x102_r0 : XCode := .seq (.seq (.region false [zo 9 (.mov (.tmp 7)),
 zo 10 (.bin .lss (.tmp 9) (.cst (.int .i64 4)))] [])
  (.cond (.tmp 10) .skip (.exit 0)))
 (.seq (.block 1 (.seq (.region true [zo 13 (.mov (.tmp 7)),
 zo 14 (.faddr (.tmp 2) 0),
 zo 15 (.iarr 4 1 (.tmp 14) (.tmp 13)),
 zo 16 (.load (.tmp 15) 1 false),
 zo 17 (.bin .add (.tmp 16) (.cst (.int .u64 4294967296))),
 zo 18 (.mov (.tmp 7)),
 zo 19 (.faddr (.tmp 3) 0),
 zo 20 (.iarr 4 1 (.tmp 19) (.tmp 18)),
 zo 21 (.load (.tmp 20) 1 false),
 zo 22 (.bin .sub (.tmp 17) (.tmp 21)),
 zo 23 (.mov (.tmp 6)),
 zo 24 (.bin .sub (.tmp 22) (.tmp 23)),
 zo 8 (.own 24)] [])
 (.seq (.region false [zo 25 (.mov (.tmp 7)),
 zo 26 (.mov (.tmp 8)),
 zo 27 (.bin .rem (.tmp 26) (.cst (.int .u64 4294967296))),
 zo 28 (.faddr (.tmp 5) 0),
 zo 29 (.iarr 4 1 (.tmp 28) (.tmp 25)),
 ⟨none, .store (.tmp 29) (.tmp 27) 1, none⟩] [])
  (.region false [zo 30 (.mov (.tmp 8)),
 zo 31 (.bin .quo (.tmp 30) (.cst (.int .u64 4294967296))),
 zo 32 (.bin .sub (.cst (.int .u64 1)) (.tmp 31)),
 zo 6 (.own 32)] []))))
  (.region false [zo 11 (.mov (.tmp 7)),
 zo 12 (.bin .add (.tmp 11) (.cst (.int .i64 1))),
 zo 7 (.own 12)] []))
def x102_l0 : XCode := x102_r0
/-- custos/custosref01.less -/
def x102 : XFn := XFn.mk 34 [.cell 4 4 true] (.seq (.region false [zo 2 (.box (.tmp 0) 4),
 zo 3 (.box (.tmp 1) 4),
 zo 4 (.alloc [.int .u64 0, .int .u64 0, .int .u64 0, .int .u64 0])] [])
 (.seq (.region false [zo 5 (.alloc [.int .u64 0, .int .u64 0, .int .u64 0, .int .u64 0])] [])
 (.seq (.region false [zo 6 (.mov (.cst (.int .u64 0)))] [])
 (.seq (.seq (.region false [zo 7 (.mov (.cst (.int .i64 0)))] [])
  (.block 0 (.loop x102_l0)))
 (.seq (.region false [zo 33 (.load (.tmp 5) 4 true),
 ⟨none, .store (.tmp 4) (.tmp 33) 4, none⟩] [])
  .ret)))))
def X : List (Option XFn) := [none, none, none, none, some x4, none, none, none, some x8, some x9, some x10, some x11, none, some x13, some x14, some x15, some x16, some x17, some x18, some x19, some x20, some x21, some x22, some x23, some x24, some x25, some x26, some x27, some x28, some x29, some x30, some x31, some x32, some x33, some x34, some x35, some x36, some x37, none, some x39, none, some x41, some x42, some x43, some x44, some x45, some x46, some x47, none, some x49, some x50, some x51, some x52, some x53, some x54, some x55, none, some x57, some x58, some x59, some x60, some x61, some x62, some x63, some x64, some x65, some x66, some x67, some x68, some x69, some x70, some x71, some x72, none, some x74, some x75, some x76, some x77, none, some x79, some x80, some x81, some x82, some x83, some x84, some x85, some x86, some x87, some x88, some x89, some x90, some x91, some x92, some x93, some x94, some x95, some x96, some x97, some x98, some x99, some x100, some x101, some x102]
end Go.Proofs.YtgfeladjpjipeaaDoor.Sx.T
