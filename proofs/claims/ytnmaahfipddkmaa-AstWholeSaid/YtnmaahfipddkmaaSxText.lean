/- The functions of this seat in the small language, printed by a program of ours. -/
import Derived.Test.YtnmaahfipddkmaaSxA
set_option linter.unusedVariables false
set_option linter.unusedSimpArgs false
namespace Go.Proofs.Ytnmaahfipddkmaa.Sx.T
open Go Go.Proofs.Ytnmaahfipddkmaa.Sx
set_option maxRecDepth 10000
def zo (d : Nat) (o : XOp) : XO := ⟨some d, o, none⟩
def zg (d g : Nat) (b : Bool) (o : XOp) : XO := ⟨some d, o, some (g, b)⟩
def x7_r0 : XCode := .seq (.seq (.region false [zo 33 (.mov (.tmp 5)),
 zo 34 (.faddr (.tmp 1) 4),
 zo 35 (.load (.tmp 34) 1 false),
 zo 36 (.lens false (.tmp 35)),
 zo 37 (.bin .lss (.tmp 33) (.tmp 36))] [])
  (.cond (.tmp 37) .skip (.exit 0)))
 (.seq (.block 1 (.region false [zo 40 (.own 4),
 zo 41 (.faddr (.tmp 1) 4),
 zo 42 (.load (.tmp 41) 1 false),
 zo 43 (.mov (.tmp 5)),
 zo 44 (.iaddr 7 (.tmp 42) (.tmp 43)),
 zo 45 (.load (.tmp 44) 7 true),
 zo 46 (.callq 20 [.tmp 45]),
 zo 47 (.app false 1 16 40 (.tmp 46)),
 zo 4 (.own 47)] []))
  (.region false [zo 38 (.mov (.tmp 5)),
 zo 39 (.bin .add (.tmp 38) (.cst (.int .i64 1))),
 zo 5 (.own 39)] []))
def x7_l0 : XCode := x7_r0
def x7_r1 : XCode := .seq (.seq (.region false [zo 48 (.mov (.tmp 6)),
 zo 49 (.bin .leq (.tmp 48) (.cst (.int .i64 256)))] [])
  (.cond (.tmp 49) .skip (.exit 2)))
 (.seq (.block 3 (.seq (.region false [zo 53 (.load (.tmp 1) 10 true),
 zo 54 (.mov (.tmp 6)),
 zo 55 (.bslice 1 [.int .i64 0] [(0, 1, .tmp 54)]),
 zo 56 (.callq 21 [.tmp 53, .tmp 55]),
 zo 52 (.mov (.tmp 56)),
 zo 57 (.ext 52 0),
 zo 58 (.ext 52 1),
 zo 7 (.alloc [.int .i64 0, .str [], .int .i64 0, .nilsl, .nilsl, .int .i64 0, .int .i64 0, .bool false, .nilsl, .nilsl]),
 ⟨none, .store (.tmp 7) (.tmp 57) 10, none⟩,
 zo 8 (.own 58)] [])
 (.seq (.seq (.region false [zo 59 (.mov (.tmp 8)),
 zo 60 (.bin .eql (.tmp 59) (.cst (.int .i64 5)))] [])
  (.cond (.tmp 60) (.exit 2) .skip))
 (.seq (.seq (.region true [zo 61 (.mov (.tmp 8)),
 zo 62 (.bin .neq (.tmp 61) (.cst (.int .i64 0))),
 zo 63 (.mov (.tmp 62)),
 zg 64 63 false (.load (.tmp 7) 10 true),
 zg 65 63 false (.callq 9 [.tmp 64]),
 zg 66 63 false (.bin .neq (.tmp 65) (.cst (.int .i64 0))),
 zo 67 (.pick (.tmp 63) (.cst (.bool true)) (.tmp 66)),
 zo 68 (.mov (.tmp 67)),
 zg 69 68 false (.load (.tmp 7) 10 true),
 zg 70 68 false (.callq 19 [.tmp 69]),
 zg 71 68 false (.load (.tmp 1) 10 true),
 zg 72 68 false (.callq 19 [.tmp 71]),
 zg 73 68 false (.bin .geq (.tmp 70) (.tmp 72)),
 zo 74 (.pick (.tmp 68) (.cst (.bool true)) (.tmp 73)),
 zo 75 (.mov (.tmp 74)),
 zg 76 75 false (.load (.tmp 7) 10 true),
 zg 77 75 false (.callq 17 [.tmp 76]),
 zg 78 75 false (.bin .lss (.tmp 77) (.cst (.int .i64 1))),
 zo 79 (.pick (.tmp 75) (.cst (.bool true)) (.tmp 78))] [])
  (.cond (.tmp 79) (.seq (.region false [zo 2 (.mov (.cst (.bool false)))] [])
  .ret) .skip))
 (.seq (.region false [zo 81 (.load (.tmp 7) 10 true),
 zo 82 (.callq 21 [.tmp 81, .cst .nilsl]),
 zo 80 (.mov (.tmp 82)),
 zo 83 (.ext 80 0),
 zo 84 (.ext 80 1),
 zo 9 (.alloc [.int .i64 0, .str [], .int .i64 0, .nilsl, .nilsl, .int .i64 0, .int .i64 0, .bool false, .nilsl, .nilsl]),
 ⟨none, .store (.tmp 9) (.tmp 83) 10, none⟩,
 zo 10 (.own 84)] [])
 (.seq (.seq (.region false [zo 85 (.mov (.tmp 10)),
 zo 86 (.bin .neq (.tmp 85) (.cst (.int .i64 0))),
 zo 87 (.mov (.tmp 86)),
 zg 88 87 false (.load (.tmp 9) 10 true),
 zg 89 87 false (.load (.tmp 7) 10 true),
 zg 90 87 false (.callq 13 [.tmp 88, .tmp 89]),
 zg 91 87 false (.not (.tmp 90)),
 zo 92 (.pick (.tmp 87) (.cst (.bool true)) (.tmp 91))] [])
  (.cond (.tmp 92) (.seq (.region false [zo 2 (.mov (.cst (.bool false)))] [])
  .ret) .skip))
 (.seq (.region false [zo 93 (.mov (.tmp 3)),
 zo 94 (.load (.tmp 7) 10 true),
 zo 95 (.callq 17 [.tmp 94]),
 zo 96 (.bin .add (.tmp 93) (.tmp 95)),
 zo 3 (.own 96)] [])
  (.region false [zo 97 (.own 4),
 zo 98 (.load (.tmp 7) 10 true),
 zo 99 (.callq 16 [.tmp 98]),
 zo 100 (.app false 1 16 97 (.tmp 99)),
 zo 4 (.own 100)] []))))))))
  (.region false [zo 50 (.mov (.tmp 6)),
 zo 51 (.bin .add (.tmp 50) (.cst (.int .i64 1))),
 zo 6 (.own 51)] []))
def x7_l1 : XCode := x7_r1
def x7_r2 : XCode := .seq (.seq (.region false [zo 107 (.mov (.tmp 12)),
 zo 108 (.mov (.tmp 11)),
 zo 109 (.lens false (.tmp 108)),
 zo 110 (.bin .lss (.tmp 107) (.tmp 109))] [])
  (.cond (.tmp 110) .skip (.exit 4)))
 (.seq (.block 5 (.seq (.region true [zo 113 (.faddr (.tmp 1) 0),
 zo 114 (.load (.tmp 113) 1 false),
 zo 115 (.bin .neq (.tmp 114) (.cst (.int .i64 19))),
 zo 116 (.mov (.tmp 115)),
 zg 117 116 true (.mov (.tmp 4)),
 zg 118 116 true (.mov (.tmp 11)),
 zg 119 116 true (.mov (.tmp 12)),
 zg 120 116 true (.iaddr 1 (.tmp 118) (.tmp 119)),
 zg 121 116 true (.load (.tmp 120) 1 false),
 zg 122 116 true (.callq 22 [.tmp 117, .tmp 121]),
 zg 123 116 true (.not (.tmp 122)),
 zo 124 (.pick (.tmp 116) (.tmp 123) (.cst (.bool false))),
 zo 125 (.mov (.tmp 124)),
 zg 126 125 false (.mov (.tmp 12)),
 zg 127 125 false (.bin .gtr (.tmp 126) (.cst (.int .i64 0))),
 zg 128 125 false (.mov (.tmp 127)),
 zg 129 128 true (.mov (.tmp 11)),
 zg 130 128 true (.mov (.tmp 12)),
 zg 131 128 true (.bin .sub (.tmp 130) (.cst (.int .i64 1))),
 zg 132 128 true (.iaddr 1 (.tmp 129) (.tmp 131)),
 zg 133 128 true (.load (.tmp 132) 1 false),
 zg 134 128 true (.mov (.tmp 11)),
 zg 135 128 true (.mov (.tmp 12)),
 zg 136 128 true (.iaddr 1 (.tmp 134) (.tmp 135)),
 zg 137 128 true (.load (.tmp 136) 1 false),
 zg 138 128 true (.bin .geq (.tmp 133) (.tmp 137)),
 zg 139 125 false (.pick (.tmp 128) (.tmp 138) (.cst (.bool false))),
 zo 140 (.pick (.tmp 125) (.cst (.bool true)) (.tmp 139))] [])
  (.cond (.tmp 140) (.seq (.region false [zo 2 (.mov (.cst (.bool false)))] [])
  .ret) .skip)))
  (.region false [zo 111 (.mov (.tmp 12)),
 zo 112 (.bin .add (.tmp 111) (.cst (.int .i64 1))),
 zo 12 (.own 112)] []))
def x7_l2 : XCode := x7_r2
/-- custos/custoslaw06.AstWhole -/
def x7 : XFn := XFn.mk 142 [.tmp 2] (.seq (.region false [zo 1 (.box (.tmp 0) 10),
 zo 2 (.mov (.cst (.bool false)))] [])
 (.seq (.seq (.region false [zo 13 (.load (.tmp 1) 10 true),
 zo 14 (.callq 9 [.tmp 13]),
 zo 15 (.bin .neq (.tmp 14) (.cst (.int .i64 0)))] [])
  (.cond (.tmp 15) (.seq (.region false [zo 16 (.callq 8 []),
 zo 17 (.mov (.tmp 16)),
 zg 18 17 true (.load (.tmp 1) 10 true),
 zg 19 17 true (.callq 17 [.tmp 18]),
 zg 20 17 true (.bin .eql (.tmp 19) (.cst (.int .i64 0))),
 zo 21 (.pick (.tmp 17) (.tmp 20) (.cst (.bool false))),
 zo 22 (.mov (.tmp 21)),
 zg 23 22 true (.load (.tmp 1) 10 true),
 zg 24 22 true (.callq 19 [.tmp 23]),
 zg 25 22 true (.bin .eql (.tmp 24) (.cst (.int .i64 0))),
 zo 26 (.pick (.tmp 22) (.tmp 25) (.cst (.bool false))),
 zo 27 (.mov (.tmp 26)),
 zg 28 27 true (.load (.tmp 1) 10 true),
 zg 29 27 true (.callq 16 [.tmp 28]),
 zg 30 27 true (.lens false (.tmp 29)),
 zg 31 27 true (.bin .eql (.tmp 30) (.cst (.int .i64 0))),
 zo 32 (.pick (.tmp 27) (.tmp 31) (.cst (.bool false))),
 zo 2 (.own 32)] [])
  .ret) .skip))
 (.seq (.region false [zo 3 (.mov (.cst (.int .i64 0)))] [])
 (.seq (.region false [zo 4 (.mov (.cst .nilsl))] [])
 (.seq (.seq (.region false [zo 5 (.mov (.cst (.int .i64 0)))] [])
  (.block 0 (.loop x7_l0)))
 (.seq (.seq (.region false [zo 6 (.mov (.cst (.int .i64 0)))] [])
  (.block 2 (.loop x7_l1)))
 (.seq (.seq (.region false [zo 101 (.mov (.tmp 3)),
 zo 102 (.load (.tmp 1) 10 true),
 zo 103 (.callq 17 [.tmp 102]),
 zo 104 (.bin .geq (.tmp 101) (.tmp 103))] [])
  (.cond (.tmp 104) (.seq (.region false [zo 2 (.mov (.cst (.bool false)))] [])
  .ret) .skip))
 (.seq (.region false [zo 105 (.load (.tmp 1) 10 true),
 zo 106 (.callq 16 [.tmp 105]),
 zo 11 (.own 106)] [])
 (.seq (.seq (.region false [zo 12 (.mov (.cst (.int .i64 0)))] [])
  (.block 4 (.loop x7_l2)))
 (.seq (.region false [zo 141 (.callq 8 []),
 zo 2 (.own 141)] [])
  .ret))))))))))
/-- custos/custoslaw06.live -/
def x8 : XFn := XFn.mk 94 [.tmp 0] (.seq (.region false [zo 0 (.mov (.cst (.bool false)))] [])
 (.seq (.region false [zo 9 (.bslice 1 [.str [], .str []] [(0, 1, .cst (.str [120])), (1, 1, .cst (.str [121]))]),
 zo 10 (.callq 24 [.tmp 9]),
 zo 11 (.callq 25 [.cst (.str [120])]),
 zo 12 (.build [.int .i64 0, .int .i64 0, .int .i64 0, .str []] [(0, 1, .cst (.int .i64 1)), (1, 1, .cst (.int .i64 3))]),
 zo 13 (.build [.int .i64 0, .str [], .int .i64 0, .int .i64 0, .int .i64 0, .str [], .nilsl] [(0, 1, .cst (.int .i64 2)), (2, 4, .tmp 12)]),
 zo 14 (.bslice 7 [.int .i64 0, .str [], .int .i64 0, .int .i64 0, .int .i64 0, .str [], .nilsl, .int .i64 0, .str [], .int .i64 0, .int .i64 0, .int .i64 0, .str [], .nilsl] [(0, 7, .tmp 11), (7, 7, .tmp 13)]),
 zo 15 (.build [.int .i64 0, .str [], .int .i64 0, .nilsl, .nilsl, .int .i64 0, .int .i64 0, .bool false, .nilsl, .nilsl] [(0, 1, .cst (.int .i64 5)), (4, 1, .tmp 14)]),
 zo 16 (.callq 23 [.tmp 10, .tmp 15]),
 zo 1 (.alloc [.int .i64 0, .str [], .int .i64 0, .nilsl, .nilsl, .int .i64 0, .int .i64 0, .bool false, .nilsl, .nilsl]),
 ⟨none, .store (.tmp 1) (.tmp 16) 10, none⟩] [])
 (.seq (.region false [zo 18 (.load (.tmp 1) 10 true),
 zo 19 (.bslice 1 [.int .i64 0] [(0, 1, .cst (.int .i64 0))]),
 zo 20 (.callq 21 [.tmp 18, .tmp 19]),
 zo 17 (.mov (.tmp 20)),
 zo 21 (.ext 17 0),
 zo 22 (.ext 17 1),
 zo 2 (.alloc [.int .i64 0, .str [], .int .i64 0, .nilsl, .nilsl, .int .i64 0, .int .i64 0, .bool false, .nilsl, .nilsl]),
 ⟨none, .store (.tmp 2) (.tmp 21) 10, none⟩,
 zo 3 (.own 22)] [])
 (.seq (.region false [zo 24 (.load (.tmp 1) 10 true),
 zo 25 (.bslice 1 [.int .i64 0] [(0, 1, .cst (.int .i64 2))]),
 zo 26 (.callq 21 [.tmp 24, .tmp 25]),
 zo 23 (.mov (.tmp 26)),
 zo 27 (.ext 23 0),
 zo 28 (.ext 23 1),
 zo 4 (.alloc [.int .i64 0, .str [], .int .i64 0, .nilsl, .nilsl, .int .i64 0, .int .i64 0, .bool false, .nilsl, .nilsl]),
 ⟨none, .store (.tmp 4) (.tmp 27) 10, none⟩,
 zo 5 (.own 28)] [])
 (.seq (.region false [zo 29 (.load (.tmp 1) 10 true),
 zo 30 (.bslice 10 [.int .i64 0, .str [], .int .i64 0, .nilsl, .nilsl, .int .i64 0, .int .i64 0, .bool false, .nilsl, .nilsl] [(0, 10, .tmp 29)]),
 zo 31 (.build [.int .i64 0, .str [], .int .i64 0, .nilsl, .nilsl, .int .i64 0, .int .i64 0, .bool false, .nilsl, .nilsl] [(0, 1, .cst (.int .i64 8)), (8, 1, .tmp 30)]),
 zo 32 (.callq 9 [.tmp 31]),
 zo 6 (.own 32)] [])
 (.seq (.region false [zo 33 (.callq 25 [.cst (.str [98])]),
 zo 34 (.callq 25 [.cst (.str [97])]),
 zo 35 (.bslice 7 [.int .i64 0, .str [], .int .i64 0, .int .i64 0, .int .i64 0, .str [], .nilsl, .int .i64 0, .str [], .int .i64 0, .int .i64 0, .int .i64 0, .str [], .nilsl] [(0, 7, .tmp 33), (7, 7, .tmp 34)]),
 zo 36 (.build [.int .i64 0, .str [], .int .i64 0, .int .i64 0, .int .i64 0, .str [], .nilsl] [(0, 1, .cst (.int .i64 3)), (6, 1, .tmp 35)]),
 zo 37 (.callq 20 [.tmp 36]),
 zo 7 (.own 37)] [])
 (.seq (.region false [zo 38 (.load (.tmp 1) 10 true),
 zo 39 (.callq 9 [.tmp 38]),
 zo 40 (.bin .eql (.tmp 39) (.cst (.int .i64 0))),
 zo 41 (.mov (.tmp 40)),
 zg 42 41 true (.mov (.tmp 6)),
 zg 43 41 true (.bin .eql (.tmp 42) (.cst (.int .i64 1))),
 zo 44 (.pick (.tmp 41) (.tmp 43) (.cst (.bool false))),
 zo 45 (.mov (.tmp 44)),
 zg 46 45 true (.mov (.tmp 3)),
 zg 47 45 true (.bin .eql (.tmp 46) (.cst (.int .i64 0))),
 zo 48 (.pick (.tmp 45) (.tmp 47) (.cst (.bool false))),
 zo 49 (.mov (.tmp 48)),
 zg 50 49 true (.mov (.tmp 5)),
 zg 51 49 true (.bin .eql (.tmp 50) (.cst (.int .i64 5))),
 zo 52 (.pick (.tmp 49) (.tmp 51) (.cst (.bool false))),
 zo 53 (.mov (.tmp 52)),
 zg 54 53 true (.mov (.tmp 7)),
 zg 55 53 true (.bslice 1 [.str [], .str []] [(0, 1, .cst (.str [97])), (1, 1, .cst (.str [98]))]),
 zg 56 53 true (.callq 15 [.tmp 54, .tmp 55]),
 zo 57 (.pick (.tmp 53) (.tmp 56) (.cst (.bool false))),
 zo 8 (.own 57)] [])
 (.seq (.region true [zo 58 (.mov (.tmp 8)),
 zo 59 (.mov (.tmp 58)),
 zg 60 59 true (.load (.tmp 1) 10 true),
 zg 61 59 true (.callq 16 [.tmp 60]),
 zg 62 59 true (.bslice 1 [.str [], .str []] [(0, 1, .cst (.str [120])), (1, 1, .cst (.str [121]))]),
 zg 63 59 true (.callq 15 [.tmp 61, .tmp 62]),
 zo 64 (.pick (.tmp 59) (.tmp 63) (.cst (.bool false))),
 zo 65 (.mov (.tmp 64)),
 zg 66 65 true (.load (.tmp 1) 10 true),
 zg 67 65 true (.callq 17 [.tmp 66]),
 zg 68 65 true (.bin .eql (.tmp 67) (.cst (.int .i64 7))),
 zo 69 (.pick (.tmp 65) (.tmp 68) (.cst (.bool false))),
 zo 70 (.mov (.tmp 69)),
 zg 71 70 true (.load (.tmp 1) 10 true),
 zg 72 70 true (.callq 19 [.tmp 71]),
 zg 73 70 true (.bin .eql (.tmp 72) (.cst (.int .i64 3))),
 zo 74 (.pick (.tmp 70) (.tmp 73) (.cst (.bool false))),
 zo 75 (.mov (.tmp 74)),
 zg 76 75 true (.load (.tmp 2) 10 true),
 zg 77 75 true (.bslice 1 [.str [], .str []] [(0, 1, .cst (.str [120])), (1, 1, .cst (.str [121]))]),
 zg 78 75 true (.callq 24 [.tmp 77]),
 zg 79 75 true (.callq 13 [.tmp 76, .tmp 78]),
 zo 80 (.pick (.tmp 75) (.tmp 79) (.cst (.bool false))),
 zo 81 (.mov (.tmp 80)),
 zg 82 81 true (.callq 10 [.cst (.str [97, 95, 57])]),
 zo 83 (.pick (.tmp 81) (.tmp 82) (.cst (.bool false))),
 zo 84 (.mov (.tmp 83)),
 zg 85 84 true (.callq 10 [.cst (.str [97, 110, 100])]),
 zg 86 84 true (.not (.tmp 85)),
 zo 87 (.pick (.tmp 84) (.tmp 86) (.cst (.bool false))),
 zo 88 (.mov (.tmp 87)),
 zg 89 88 true (.load (.tmp 1) 10 true),
 zg 90 88 true (.callq 14 [.tmp 89]),
 zg 91 88 true (.load (.tmp 1) 10 true),
 zg 92 88 true (.callq 13 [.tmp 90, .tmp 91]),
 zo 93 (.pick (.tmp 88) (.tmp 92) (.cst (.bool false))),
 zo 0 (.own 93)] [])
  .ret))))))))
/-- custos/ast.Check -/
def x9 : XFn := XFn.mk 8 [.tmp 2] (.seq (.region false [zo 1 (.box (.tmp 0) 10),
 zo 2 (.mov (.cst (.int .i64 0)))] [])
 (.seq (.region false [zo 3 (.load (.tmp 1) 10 true),
 zo 4 (.callq 26 [.tmp 3]),
 zo 5 (.nilck (.tmp 4)),
 zo 6 (.faddr (.tmp 5) 2),
 zo 7 (.load (.tmp 6) 1 false),
 zo 2 (.own 7)] [])
  .ret))
def x10_r0 : XCode := .seq (.region false [zo 19 (.nexts (.tmp 18)),
 zo 20 (.ext 19 0)] [])
 (.seq (.cond (.tmp 20) .skip (.exit 0))
  (.block 1 (.seq (.region false [zo 21 (.ext 19 1),
 zo 22 (.ext 19 2),
 zo 3 (.own 21),
 zo 4 (.own 22)] [])
 (.seq (.region false [zo 23 (.mov (.tmp 4)),
 zo 24 (.bin .geq (.tmp 23) (.cst (.int .i32 97))),
 zo 25 (.mov (.tmp 24)),
 zg 26 25 true (.mov (.tmp 4)),
 zg 27 25 true (.bin .leq (.tmp 26) (.cst (.int .i32 122))),
 zo 28 (.pick (.tmp 25) (.tmp 27) (.cst (.bool false))),
 zo 5 (.own 28)] [])
 (.seq (.region false [zo 29 (.mov (.tmp 5)),
 zo 30 (.not (.tmp 29)),
 zo 31 (.mov (.tmp 30)),
 zg 32 31 true (.mov (.tmp 3)),
 zg 33 31 true (.bin .eql (.tmp 32) (.cst (.int .i64 0))),
 zg 34 31 true (.mov (.tmp 33)),
 zg 35 34 false (.mov (.tmp 4)),
 zg 36 34 false (.bin .neq (.tmp 35) (.cst (.int .i32 95))),
 zg 37 34 false (.mov (.tmp 36)),
 zg 38 37 true (.mov (.tmp 4)),
 zg 39 37 true (.bin .lss (.tmp 38) (.cst (.int .i32 48))),
 zg 40 37 true (.mov (.tmp 39)),
 zg 41 40 false (.mov (.tmp 4)),
 zg 42 40 false (.bin .gtr (.tmp 41) (.cst (.int .i32 57))),
 zg 43 37 true (.pick (.tmp 40) (.cst (.bool true)) (.tmp 42)),
 zg 44 34 false (.pick (.tmp 37) (.tmp 43) (.cst (.bool false))),
 zg 45 31 true (.pick (.tmp 34) (.cst (.bool true)) (.tmp 44)),
 zo 46 (.pick (.tmp 31) (.tmp 45) (.cst (.bool false)))] [])
  (.cond (.tmp 46) (.seq (.region false [zo 2 (.mov (.cst (.bool false)))] [])
  .ret) .skip))))))
def x10_l0 : XCode := x10_r0
/-- custos/ast.Name -/
def x10 : XFn := XFn.mk 47 [.tmp 2] (.seq (.region false [zo 2 (.mov (.cst (.bool false)))] [])
 (.seq (.seq (.region false [zo 6 (.mov (.tmp 0)),
 zo 7 (.bin .eql (.tmp 6) (.cst (.str []))),
 zo 8 (.mov (.tmp 7)),
 zg 9 8 false (.mov (.tmp 0)),
 zg 10 8 false (.lens true (.tmp 9)),
 zg 11 8 false (.bin .gtr (.tmp 10) (.cst (.int .i64 16))),
 zo 12 (.pick (.tmp 8) (.cst (.bool true)) (.tmp 11)),
 zo 13 (.mov (.tmp 12)),
 zg 14 13 false (.mov (.tmp 0)),
 zg 15 13 false (.callq 27 [.tmp 14]),
 zo 16 (.pick (.tmp 13) (.cst (.bool true)) (.tmp 15))] [])
  (.cond (.tmp 16) (.seq (.region false [zo 2 (.mov (.cst (.bool false)))] [])
  .ret) .skip))
 (.seq (.seq (.region false [zo 17 (.mov (.tmp 0)),
 zo 18 (.rngs (.tmp 17))] [])
  (.block 0 (.loop x10_l0)))
 (.seq (.region false [zo 2 (.mov (.cst (.bool true)))] [])
  .ret))))
/-- custos/ast.Same -/
def x13 : XFn := XFn.mk 59 [.tmp 4] (.seq (.region false [zo 2 (.box (.tmp 0) 10),
 zo 3 (.box (.tmp 1) 10),
 zo 4 (.mov (.cst (.bool false)))] [])
 (.seq (.region false [zo 5 (.faddr (.tmp 2) 0),
 zo 6 (.load (.tmp 5) 1 false),
 zo 7 (.faddr (.tmp 3) 0),
 zo 8 (.load (.tmp 7) 1 false),
 zo 9 (.bin .eql (.tmp 6) (.tmp 8)),
 zo 10 (.mov (.tmp 9)),
 zg 11 10 true (.faddr (.tmp 2) 1),
 zg 12 10 true (.load (.tmp 11) 1 false),
 zg 13 10 true (.faddr (.tmp 3) 1),
 zg 14 10 true (.load (.tmp 13) 1 false),
 zg 15 10 true (.bin .eql (.tmp 12) (.tmp 14)),
 zo 16 (.pick (.tmp 10) (.tmp 15) (.cst (.bool false))),
 zo 17 (.mov (.tmp 16)),
 zg 18 17 true (.faddr (.tmp 2) 2),
 zg 19 17 true (.load (.tmp 18) 1 false),
 zg 20 17 true (.faddr (.tmp 3) 2),
 zg 21 17 true (.load (.tmp 20) 1 false),
 zg 22 17 true (.bin .eql (.tmp 19) (.tmp 21)),
 zo 23 (.pick (.tmp 17) (.tmp 22) (.cst (.bool false))),
 zo 24 (.mov (.tmp 23)),
 zg 25 24 true (.faddr (.tmp 2) 5),
 zg 26 24 true (.load (.tmp 25) 3 true),
 zg 27 24 true (.faddr (.tmp 3) 5),
 zg 28 24 true (.load (.tmp 27) 3 true),
 zg 29 24 true (.eqagg false [1, 1, 0] (.tmp 26) (.tmp 28)),
 zo 30 (.pick (.tmp 24) (.tmp 29) (.cst (.bool false))),
 zo 31 (.mov (.tmp 30)),
 zg 32 31 true (.faddr (.tmp 2) 3),
 zg 33 31 true (.load (.tmp 32) 1 false),
 zg 34 31 true (.faddr (.tmp 3) 3),
 zg 35 31 true (.load (.tmp 34) 1 false),
 zg 36 31 true (.callq 33 [.tmp 33, .tmp 35]),
 zo 37 (.pick (.tmp 31) (.tmp 36) (.cst (.bool false))),
 zo 38 (.mov (.tmp 37)),
 zg 39 38 true (.faddr (.tmp 2) 4),
 zg 40 38 true (.load (.tmp 39) 1 false),
 zg 41 38 true (.faddr (.tmp 3) 4),
 zg 42 38 true (.load (.tmp 41) 1 false),
 zg 43 38 true (.callw 34 [.tmp 40, .tmp 42, .cst (.fn 35 [] [])]),
 zo 44 (.pick (.tmp 38) (.tmp 43) (.cst (.bool false))),
 zo 45 (.mov (.tmp 44)),
 zg 46 45 true (.faddr (.tmp 2) 9),
 zg 47 45 true (.load (.tmp 46) 1 false),
 zg 48 45 true (.faddr (.tmp 3) 9),
 zg 49 45 true (.load (.tmp 48) 1 false),
 zg 50 45 true (.callw 36 [.tmp 47, .tmp 49, .cst (.fn 37 [] [])]),
 zo 51 (.pick (.tmp 45) (.tmp 50) (.cst (.bool false))),
 zo 52 (.mov (.tmp 51)),
 zg 53 52 true (.faddr (.tmp 2) 8),
 zg 54 52 true (.load (.tmp 53) 1 false),
 zg 55 52 true (.faddr (.tmp 3) 8),
 zg 56 52 true (.load (.tmp 55) 1 false),
 zg 57 52 true (.callw 38 [.tmp 54, .tmp 56, .cst (.fn 13 [] [])]),
 zo 58 (.pick (.tmp 52) (.tmp 57) (.cst (.bool false))),
 zo 4 (.own 58)] [])
  .ret))
/-- custos/ast.Clone -/
def x14 : XFn := XFn.mk 20 [.cell 2 10 true] (.seq (.region false [zo 1 (.box (.tmp 0) 10),
 zo 2 (.alloc [.int .i64 0, .str [], .int .i64 0, .nilsl, .nilsl, .int .i64 0, .int .i64 0, .bool false, .nilsl, .nilsl])] [])
 (.seq (.region false [zo 3 (.faddr (.tmp 1) 3),
 zo 4 (.load (.tmp 3) 1 false),
 zo 5 (.callqd 39 [.tmp 4]),
 zo 6 (.faddr (.tmp 1) 3),
 ⟨none, .store (.tmp 6) (.tmp 5) 1, none⟩] [])
 (.seq (.region false [zo 7 (.faddr (.tmp 1) 4),
 zo 8 (.load (.tmp 7) 1 false),
 zo 9 (.callw 40 [.tmp 8, .cst (.fn 41 [] [])]),
 zo 10 (.faddr (.tmp 1) 4),
 ⟨none, .store (.tmp 10) (.tmp 9) 1, none⟩] [])
 (.seq (.region false [zo 11 (.faddr (.tmp 1) 9),
 zo 12 (.load (.tmp 11) 1 false),
 zo 13 (.callw 42 [.tmp 12, .cst (.fn 43 [] [])]),
 zo 14 (.faddr (.tmp 1) 9),
 ⟨none, .store (.tmp 14) (.tmp 13) 1, none⟩] [])
 (.seq (.region false [zo 15 (.faddr (.tmp 1) 8),
 zo 16 (.load (.tmp 15) 1 false),
 zo 17 (.callw 44 [.tmp 16, .cst (.fn 14 [] [])]),
 zo 18 (.faddr (.tmp 1) 8),
 ⟨none, .store (.tmp 18) (.tmp 17) 1, none⟩] [])
 (.seq (.region false [zo 19 (.load (.tmp 1) 10 true),
 ⟨none, .store (.tmp 2) (.tmp 19) 10, none⟩] [])
  .ret))))))
def x15_r0 : XCode := .seq (.seq (.region false [zo 11 (.mov (.tmp 5)),
 zo 12 (.mov (.tmp 0)),
 zo 13 (.lens false (.tmp 12)),
 zo 14 (.bin .lss (.tmp 11) (.tmp 13))] [])
  (.cond (.tmp 14) .skip (.exit 0)))
 (.seq (.block 1 (.seq (.region true [zo 17 (.mov (.tmp 0)),
 zo 18 (.mov (.tmp 5)),
 zo 19 (.iaddr 1 (.tmp 17) (.tmp 18)),
 zo 20 (.load (.tmp 19) 1 false),
 zo 21 (.mov (.tmp 1)),
 zo 22 (.mov (.tmp 5)),
 zo 23 (.iaddr 1 (.tmp 21) (.tmp 22)),
 zo 24 (.load (.tmp 23) 1 false),
 zo 25 (.bin .neq (.tmp 20) (.tmp 24))] [])
  (.cond (.tmp 25) (.seq (.region false [zo 4 (.mov (.cst (.bool false)))] [])
  .ret) .skip)))
  (.region false [zo 15 (.mov (.tmp 5)),
 zo 16 (.bin .add (.tmp 15) (.cst (.int .i64 1))),
 zo 5 (.own 16)] []))
def x15_l0 : XCode := x15_r0
/-- custos/custoslaw06.same -/
def x15 : XFn := XFn.mk 26 [.tmp 4] (.seq (.region false [zo 4 (.mov (.cst (.bool false)))] [])
 (.seq (.seq (.region false [zo 6 (.mov (.tmp 0)),
 zo 7 (.lens false (.tmp 6)),
 zo 8 (.mov (.tmp 1)),
 zo 9 (.lens false (.tmp 8)),
 zo 10 (.bin .neq (.tmp 7) (.tmp 9))] [])
  (.cond (.tmp 10) (.seq (.region false [zo 4 (.mov (.cst (.bool false)))] [])
  .ret) .skip))
 (.seq (.seq (.region false [zo 5 (.mov (.cst (.int .i64 0)))] [])
  (.block 0 (.loop x15_l0)))
 (.seq (.region false [zo 4 (.mov (.cst (.bool true)))] [])
  .ret))))
/-- custos/ast.Free -/
def x16 : XFn := XFn.mk 14 [.tmp 2] (.seq (.region false [zo 1 (.box (.tmp 0) 10),
 zo 2 (.mov (.cst .nilsl))] [])
 (.seq (.seq (.region false [zo 5 (.load (.tmp 1) 10 true),
 zo 6 (.callq 9 [.tmp 5]),
 zo 7 (.bin .neq (.tmp 6) (.cst (.int .i64 0)))] [])
  (.cond (.tmp 7) (.seq (.region false [zo 2 (.mov (.cst .nilsl))] [])
  .ret) .skip))
 (.seq (.region false [zo 9 (.load (.tmp 1) 10 true),
 zo 10 (.callq 45 [.tmp 9]),
 zo 8 (.mov (.tmp 10)),
 zo 11 (.ext 8 0),
 zo 12 (.ext 8 1),
 zo 3 (.own 11),
 zo 4 (.own 12)] [])
 (.seq (.region false [zo 13 (.mov (.tmp 3)),
 zo 2 (.own 13)] [])
  .ret))))
/-- custos/ast.Nodes -/
def x17 : XFn := XFn.mk 15 [.tmp 2] (.seq (.region false [zo 1 (.box (.tmp 0) 10),
 zo 2 (.mov (.cst (.int .i64 0)))] [])
 (.seq (.seq (.region false [zo 4 (.load (.tmp 1) 10 true),
 zo 5 (.callq 26 [.tmp 4]),
 zo 3 (.own 5)] [])
 (.seq (.region false [zo 6 (.mov (.tmp 3)),
 zo 7 (.nilck (.tmp 6)),
 zo 8 (.faddr (.tmp 7) 2),
 zo 9 (.load (.tmp 8) 1 false),
 zo 10 (.bin .eql (.tmp 9) (.cst (.int .i64 0)))] [])
  (.cond (.tmp 10) (.seq (.region false [zo 11 (.mov (.tmp 3)),
 zo 12 (.nilck (.tmp 11)),
 zo 13 (.faddr (.tmp 12) 0),
 zo 14 (.load (.tmp 13) 1 false),
 zo 2 (.own 14)] [])
  .ret) .skip)))
 (.seq (.region false [zo 2 (.mov (.cst (.int .i64 0)))] [])
  .ret)))
/-- custos/ast.Depth -/
def x19 : XFn := XFn.mk 15 [.tmp 2] (.seq (.region false [zo 1 (.box (.tmp 0) 10),
 zo 2 (.mov (.cst (.int .i64 0)))] [])
 (.seq (.seq (.region false [zo 4 (.load (.tmp 1) 10 true),
 zo 5 (.callq 26 [.tmp 4]),
 zo 3 (.own 5)] [])
 (.seq (.region false [zo 6 (.mov (.tmp 3)),
 zo 7 (.nilck (.tmp 6)),
 zo 8 (.faddr (.tmp 7) 2),
 zo 9 (.load (.tmp 8) 1 false),
 zo 10 (.bin .eql (.tmp 9) (.cst (.int .i64 0)))] [])
  (.cond (.tmp 10) (.seq (.region false [zo 11 (.mov (.tmp 3)),
 zo 12 (.nilck (.tmp 11)),
 zo 13 (.faddr (.tmp 12) 1),
 zo 14 (.load (.tmp 13) 1 false),
 zo 2 (.own 14)] [])
  .ret) .skip)))
 (.seq (.region false [zo 2 (.mov (.cst (.int .i64 0)))] [])
  .ret)))
def x20_r0 : XCode := .seq (.region false [zo 18 (.bin .lss (.tmp 17) (.tmp 16))] [])
 (.seq (.cond (.tmp 18) .skip (.exit 0))
 (.seq (.block 1 (.seq (.region false [zo 19 (.iaddr 7 (.tmp 15) (.tmp 17)),
 zo 20 (.load (.tmp 19) 7 true),
 zo 5 (.alloc [.int .i64 0, .str [], .int .i64 0, .int .i64 0, .int .i64 0, .str [], .nilsl]),
 ⟨none, .store (.tmp 5) (.tmp 20) 7, none⟩] [])
  (.region false [zo 21 (.own 3),
 zo 22 (.load (.tmp 5) 7 true),
 zo 23 (.callq 20 [.tmp 22]),
 zo 24 (.app true 1 16 21 (.tmp 23)),
 zo 3 (.own 24)] [])))
  (.region false [zo 25 (.bin .add (.tmp 17) (.cst (.int .i64 1))),
 zo 17 (.mov (.tmp 25))] [])))
def x20_l0 : XCode := x20_r0
/-- custos/ast.TermVars -/
def x20 : XFn := XFn.mk 28 [.tmp 2] (.seq (.region false [zo 1 (.box (.tmp 0) 7),
 zo 2 (.mov (.cst .nilsl))] [])
 (.seq (.region false [zo 3 (.mov (.cst .nilsl))] [])
 (.seq (.seq (.region false [zo 6 (.faddr (.tmp 1) 0),
 zo 7 (.load (.tmp 6) 1 false),
 zo 8 (.bin .eql (.tmp 7) (.cst (.int .i64 1)))] [])
  (.cond (.tmp 8) (.region false [zo 9 (.own 3),
 zo 10 (.faddr (.tmp 1) 1),
 zo 11 (.load (.tmp 10) 1 false),
 zo 12 (.bslice 1 [.str []] [(0, 1, .tmp 11)]),
 zo 13 (.app true 1 16 9 (.tmp 12)),
 zo 3 (.own 13)] []) .skip))
 (.seq (.seq (.region false [zo 14 (.faddr (.tmp 1) 6),
 zo 15 (.load (.tmp 14) 1 false),
 zo 16 (.lens false (.tmp 15)),
 zo 17 (.mov (.cst (.int .i64 0)))] [])
  (.block 0 (.loop x20_l0)))
 (.seq (.region false [zo 26 (.own 3),
 zo 27 (.primm 100 46 26),
 zo 2 (.ownd 27)] [])
  .ret)))))
def x21_r0 : XCode := .seq (.region false [zo 19 (.bin .lss (.tmp 18) (.tmp 17))] [])
 (.seq (.cond (.tmp 19) .skip (.exit 0))
 (.seq (.block 1 (.seq (.region false [zo 20 (.iaddr 1 (.tmp 16) (.tmp 18)),
 zo 21 (.load (.tmp 20) 1 false),
 zo 8 (.own 21)] [])
 (.seq (.region false [zo 22 (.load (.tmp 2) 10 true),
 zo 23 (.callq 47 [.tmp 22]),
 zo 9 (.own 23)] [])
 (.seq (.seq (.region false [zo 24 (.mov (.tmp 8)),
 zo 25 (.bin .lss (.tmp 24) (.cst (.int .i64 0))),
 zo 26 (.mov (.tmp 25)),
 zg 27 26 false (.mov (.tmp 8)),
 zg 28 26 false (.mov (.tmp 9)),
 zg 29 26 false (.lens false (.tmp 28)),
 zg 30 26 false (.bin .geq (.tmp 27) (.tmp 29)),
 zo 31 (.pick (.tmp 26) (.cst (.bool true)) (.tmp 30))] [])
  (.cond (.tmp 31) (.seq (.region false [zo 32 (.build [.int .i64 0, .str [], .int .i64 0, .nilsl, .nilsl, .int .i64 0, .int .i64 0, .bool false, .nilsl, .nilsl] []),
 ⟨none, .store (.tmp 4) (.tmp 32) 10, none⟩,
 zo 5 (.mov (.cst (.int .i64 5)))] [])
  .ret) .skip))
  (.region false [zo 33 (.mov (.tmp 9)),
 zo 34 (.mov (.tmp 8)),
 zo 35 (.iaddr 10 (.tmp 33) (.tmp 34)),
 zo 36 (.load (.tmp 35) 10 true),
 ⟨none, .store (.tmp 2) (.tmp 36) 10, none⟩] [])))))
  (.region false [zo 37 (.bin .add (.tmp 18) (.cst (.int .i64 1))),
 zo 18 (.mov (.tmp 37))] [])))
def x21_l0 : XCode := x21_r0
/-- custos/ast.Part -/
def x21 : XFn := XFn.mk 40 [.cell 4 10 true, .tmp 5] (.seq (.region false [zo 2 (.box (.tmp 0) 10),
 zo 4 (.alloc [.int .i64 0, .str [], .int .i64 0, .nilsl, .nilsl, .int .i64 0, .int .i64 0, .bool false, .nilsl, .nilsl]),
 zo 5 (.mov (.cst (.int .i64 0)))] [])
 (.seq (.seq (.region false [zo 10 (.load (.tmp 2) 10 true),
 zo 11 (.callq 9 [.tmp 10]),
 zo 6 (.own 11)] [])
 (.seq (.region false [zo 12 (.mov (.tmp 6)),
 zo 13 (.bin .neq (.tmp 12) (.cst (.int .i64 0)))] [])
  (.cond (.tmp 13) (.seq (.region false [zo 14 (.build [.int .i64 0, .str [], .int .i64 0, .nilsl, .nilsl, .int .i64 0, .int .i64 0, .bool false, .nilsl, .nilsl] []),
 zo 15 (.mov (.tmp 6)),
 ⟨none, .store (.tmp 4) (.tmp 14) 10, none⟩,
 zo 5 (.own 15)] [])
  .ret) .skip)))
 (.seq (.seq (.region false [zo 16 (.mov (.tmp 1)),
 zo 17 (.lens false (.tmp 16)),
 zo 18 (.mov (.cst (.int .i64 0)))] [])
  (.block 0 (.loop x21_l0)))
 (.seq (.region false [zo 38 (.load (.tmp 2) 10 true),
 zo 39 (.callq 14 [.tmp 38]),
 ⟨none, .store (.tmp 4) (.tmp 39) 10, none⟩,
 zo 5 (.mov (.cst (.int .i64 0)))] [])
  .ret))))
def x22_r0 : XCode := .seq (.seq (.region false [zo 6 (.mov (.tmp 5)),
 zo 7 (.mov (.tmp 0)),
 zo 8 (.lens false (.tmp 7)),
 zo 9 (.bin .lss (.tmp 6) (.tmp 8))] [])
  (.cond (.tmp 9) .skip (.exit 0)))
 (.seq (.block 1 (.seq (.region false [zo 12 (.mov (.tmp 0)),
 zo 13 (.mov (.tmp 5)),
 zo 14 (.iaddr 1 (.tmp 12) (.tmp 13)),
 zo 15 (.load (.tmp 14) 1 false),
 zo 16 (.mov (.tmp 1)),
 zo 17 (.bin .eql (.tmp 15) (.tmp 16))] [])
  (.cond (.tmp 17) (.seq (.region false [zo 4 (.mov (.cst (.bool true)))] [])
  .ret) .skip)))
  (.region false [zo 10 (.mov (.tmp 5)),
 zo 11 (.bin .add (.tmp 10) (.cst (.int .i64 1))),
 zo 5 (.own 11)] []))
def x22_l0 : XCode := x22_r0
/-- custos/custosref06.Has -/
def x22 : XFn := XFn.mk 18 [.tmp 4] (.seq (.region false [zo 4 (.mov (.cst (.bool false)))] [])
 (.seq (.seq (.region false [zo 5 (.mov (.cst (.int .i64 0)))] [])
  (.block 0 (.loop x22_l0)))
 (.seq (.region false [zo 4 (.mov (.cst (.bool false)))] [])
  .ret)))
/-- custos/custoslaw06.both -/
def x23 : XFn := XFn.mk 9 [.cell 4 10 true] (.seq (.region false [zo 2 (.box (.tmp 0) 10),
 zo 3 (.box (.tmp 1) 10),
 zo 4 (.alloc [.int .i64 0, .str [], .int .i64 0, .nilsl, .nilsl, .int .i64 0, .int .i64 0, .bool false, .nilsl, .nilsl])] [])
 (.seq (.region false [zo 5 (.load (.tmp 2) 10 true),
 zo 6 (.load (.tmp 3) 10 true),
 zo 7 (.bslice 10 [.int .i64 0, .str [], .int .i64 0, .nilsl, .nilsl, .int .i64 0, .int .i64 0, .bool false, .nilsl, .nilsl, .int .i64 0, .str [], .int .i64 0, .nilsl, .nilsl, .int .i64 0, .int .i64 0, .bool false, .nilsl, .nilsl] [(0, 10, .tmp 5), (10, 10, .tmp 6)]),
 zo 8 (.build [.int .i64 0, .str [], .int .i64 0, .nilsl, .nilsl, .int .i64 0, .int .i64 0, .bool false, .nilsl, .nilsl] [(0, 1, .cst (.int .i64 8)), (8, 1, .tmp 7)]),
 ⟨none, .store (.tmp 4) (.tmp 8) 10, none⟩] [])
  .ret))
def x24_r0 : XCode := .seq (.seq (.region false [zo 6 (.mov (.tmp 4)),
 zo 7 (.mov (.tmp 0)),
 zo 8 (.lens false (.tmp 7)),
 zo 9 (.bin .lss (.tmp 6) (.tmp 8))] [])
  (.cond (.tmp 9) .skip (.exit 0)))
 (.seq (.block 1 (.region true [zo 12 (.faddr (.tmp 3) 4),
 zo 13 (.lown (.tmp 12)),
 zo 14 (.mov (.tmp 0)),
 zo 15 (.mov (.tmp 4)),
 zo 16 (.iaddr 1 (.tmp 14) (.tmp 15)),
 zo 17 (.load (.tmp 16) 1 false),
 zo 18 (.callq 25 [.tmp 17]),
 zo 19 (.bslice 7 [.int .i64 0, .str [], .int .i64 0, .int .i64 0, .int .i64 0, .str [], .nilsl] [(0, 7, .tmp 18)]),
 zo 20 (.app false 7 88 13 (.tmp 19)),
 zo 21 (.faddr (.tmp 3) 4),
 ⟨none, .store (.tmp 21) (.tmp 20) 1, none⟩] [(12, 16)]))
  (.region false [zo 10 (.mov (.tmp 4)),
 zo 11 (.bin .add (.tmp 10) (.cst (.int .i64 1))),
 zo 4 (.own 11)] []))
def x24_l0 : XCode := x24_r0
/-- custos/custoslaw06.p -/
def x24 : XFn := XFn.mk 23 [.cell 2 10 true] (.seq (.region false [zo 2 (.alloc [.int .i64 0, .str [], .int .i64 0, .nilsl, .nilsl, .int .i64 0, .int .i64 0, .bool false, .nilsl, .nilsl])] [])
 (.seq (.region false [zo 5 (.build [.int .i64 0, .str [], .int .i64 0, .nilsl, .nilsl, .int .i64 0, .int .i64 0, .bool false, .nilsl, .nilsl] [(0, 1, .cst (.int .i64 3)), (1, 1, .cst (.str [112]))]),
 zo 3 (.alloc [.int .i64 0, .str [], .int .i64 0, .nilsl, .nilsl, .int .i64 0, .int .i64 0, .bool false, .nilsl, .nilsl]),
 ⟨none, .store (.tmp 3) (.tmp 5) 10, none⟩] [])
 (.seq (.seq (.region false [zo 4 (.mov (.cst (.int .i64 0)))] [])
  (.block 0 (.loop x24_l0)))
 (.seq (.region false [zo 22 (.load (.tmp 3) 10 true),
 ⟨none, .store (.tmp 2) (.tmp 22) 10, none⟩] [])
  .ret))))
/-- custos/custoslaw06.x -/
def x25 : XFn := XFn.mk 5 [.cell 2 7 true] (.seq (.region false [zo 2 (.alloc [.int .i64 0, .str [], .int .i64 0, .int .i64 0, .int .i64 0, .str [], .nilsl])] [])
 (.seq (.region false [zo 3 (.mov (.tmp 0)),
 zo 4 (.build [.int .i64 0, .str [], .int .i64 0, .int .i64 0, .int .i64 0, .str [], .nilsl] [(0, 1, .cst (.int .i64 1)), (1, 1, .tmp 3)]),
 ⟨none, .store (.tmp 2) (.tmp 4) 7, none⟩] [])
  .ret))
/-- custos/ast.look -/
def x26 : XFn := XFn.mk 26 [.tmp 2] (.seq (.region false [zo 1 (.box (.tmp 0) 10),
 zo 2 (.mov (.cst .nilptr))] [])
 (.seq (.region false [zo 6 (.build [.int .i64 0, .int .i64 0, .int .i64 0] []),
 zo 7 (.box (.tmp 6) 3),
 zo 3 (.own 7)] [])
 (.seq (.region false [zo 8 (.mov (.tmp 3)),
 zo 9 (.load (.tmp 1) 10 true),
 zo 10 (.callw 48 [.tmp 8, .tmp 9, .cst (.int .i64 1)])] [])
 (.seq (.seq (.region false [zo 11 (.mov (.tmp 3)),
 zo 12 (.nilck (.tmp 11)),
 zo 13 (.faddr (.tmp 12) 2),
 zo 14 (.load (.tmp 13) 1 false),
 zo 15 (.bin .eql (.tmp 14) (.cst (.int .i64 0)))] [])
  (.cond (.tmp 15) (.seq (.region false [zo 17 (.load (.tmp 1) 10 true),
 zo 18 (.callq 45 [.tmp 17]),
 zo 16 (.mov (.tmp 18)),
 zo 19 (.ext 16 0),
 zo 20 (.ext 16 1),
 zo 4 (.own 19),
 zo 5 (.own 20)] [])
  (.region false [zo 21 (.mov (.tmp 3)),
 zo 22 (.mov (.tmp 5)),
 zo 23 (.bin .leq (.tmp 22) (.cst (.int .i64 8))),
 zo 24 (.callw 49 [.tmp 21, .tmp 23, .cst (.int .i64 30)])] [])) .skip))
 (.seq (.region false [zo 25 (.mov (.tmp 3)),
 zo 2 (.own 25)] [])
  .ret)))))
/-- custos/ast.keyword -/
def x27 : XFn := XFn.mk 28 [.tmp 2] (.seq (.region false [zo 2 (.mov (.cst (.bool false)))] [])
 (.seq (.seq (.region false [zo 3 (.mov (.tmp 0))] [])
  (.block 0 (.seq (.seq (.region false [zo 5 (.bin .eql (.tmp 3) (.cst (.str [116, 114, 117, 101]))),
 zo 4 (.own 5)] [])
  (.cond (.tmp 4) .skip (.seq (.region false [zo 6 (.bin .eql (.tmp 3) (.cst (.str [102, 97, 108, 115, 101]))),
 zo 4 (.own 6)] [])
  (.cond (.tmp 4) .skip (.seq (.region false [zo 7 (.bin .eql (.tmp 3) (.cst (.str [110, 111, 116]))),
 zo 4 (.own 7)] [])
  (.cond (.tmp 4) .skip (.seq (.region false [zo 8 (.bin .eql (.tmp 3) (.cst (.str [97, 110, 100]))),
 zo 4 (.own 8)] [])
  (.cond (.tmp 4) .skip (.seq (.region false [zo 9 (.bin .eql (.tmp 3) (.cst (.str [111, 114]))),
 zo 4 (.own 9)] [])
  (.cond (.tmp 4) .skip (.seq (.region false [zo 10 (.bin .eql (.tmp 3) (.cst (.str [101, 120, 105, 115, 116, 115]))),
 zo 4 (.own 10)] [])
  (.cond (.tmp 4) .skip (.seq (.region false [zo 11 (.bin .eql (.tmp 3) (.cst (.str [112, 114, 101, 118]))),
 zo 4 (.own 11)] [])
  (.cond (.tmp 4) .skip (.seq (.region false [zo 12 (.bin .eql (.tmp 3) (.cst (.str [110, 101, 120, 116]))),
 zo 4 (.own 12)] [])
  (.cond (.tmp 4) .skip (.seq (.region false [zo 13 (.bin .eql (.tmp 3) (.cst (.str [111, 110, 99, 101]))),
 zo 4 (.own 13)] [])
  (.cond (.tmp 4) .skip (.seq (.region false [zo 14 (.bin .eql (.tmp 3) (.cst (.str [115, 111, 111, 110]))),
 zo 4 (.own 14)] [])
  (.cond (.tmp 4) .skip (.seq (.region false [zo 15 (.bin .eql (.tmp 3) (.cst (.str [115, 105, 110, 99, 101]))),
 zo 4 (.own 15)] [])
  (.cond (.tmp 4) .skip (.seq (.region false [zo 16 (.bin .eql (.tmp 3) (.cst (.str [117, 110, 116, 105, 108]))),
 zo 4 (.own 16)] [])
  (.cond (.tmp 4) .skip (.seq (.region false [zo 17 (.bin .eql (.tmp 3) (.cst (.str [98, 101, 102, 111, 114, 101]))),
 zo 4 (.own 17)] [])
  (.cond (.tmp 4) .skip (.seq (.region false [zo 18 (.bin .eql (.tmp 3) (.cst (.str [97, 102, 116, 101, 114]))),
 zo 4 (.own 18)] [])
  (.cond (.tmp 4) .skip (.seq (.region false [zo 19 (.bin .eql (.tmp 3) (.cst (.str [97, 103, 103]))),
 zo 4 (.own 19)] [])
  (.cond (.tmp 4) .skip (.seq (.region false [zo 20 (.bin .eql (.tmp 3) (.cst (.str [108, 101, 116]))),
 zo 4 (.own 20)] [])
  (.cond (.tmp 4) .skip (.seq (.region false [zo 21 (.bin .eql (.tmp 3) (.cst (.str [108, 101, 116, 112, 97, 115, 116]))),
 zo 4 (.own 21)] [])
  (.cond (.tmp 4) .skip (.seq (.region false [zo 22 (.bin .eql (.tmp 3) (.cst (.str [106, 111, 105, 110]))),
 zo 4 (.own 22)] [])
  (.cond (.tmp 4) .skip (.seq (.region false [zo 23 (.bin .eql (.tmp 3) (.cst (.str [97, 110, 121]))),
 zo 4 (.own 23)] [])
  (.cond (.tmp 4) .skip (.seq (.region false [zo 24 (.bin .eql (.tmp 3) (.cst (.str [116, 101, 115, 116]))),
 zo 4 (.own 24)] [])
  (.cond (.tmp 4) .skip (.seq (.region false [zo 25 (.bin .eql (.tmp 3) (.cst (.str [97, 108, 116]))),
 zo 4 (.own 25)] [])
  (.cond (.tmp 4) .skip (.seq (.region false [zo 26 (.bin .eql (.tmp 3) (.cst (.str [115, 101, 113]))),
 zo 4 (.own 26)] [])
  (.cond (.tmp 4) .skip (.region false [zo 27 (.bin .eql (.tmp 3) (.cst (.str [115, 116, 97, 114]))),
 zo 4 (.own 27)] [])))))))))))))))))))))))))))))))))))))))))))))
  (.cond (.tmp 4) (.seq (.region false [zo 2 (.mov (.cst (.bool true)))] [])
  .ret) .skip))))
 (.seq (.region false [zo 2 (.mov (.cst (.bool false)))] [])
  .ret)))
def x33_r0 : XCode := .seq (.region false [zo 14 (.bin .lss (.tmp 13) (.tmp 12))] [])
 (.seq (.cond (.tmp 14) .skip (.exit 0))
 (.seq (.block 1 (.seq (.region false [zo 15 (.mov (.tmp 13)),
 zo 5 (.own 15)] [])
 (.seq (.region true [zo 16 (.mov (.tmp 0)),
 zo 17 (.mov (.tmp 5)),
 zo 18 (.iaddr 1 (.tmp 16) (.tmp 17)),
 zo 19 (.load (.tmp 18) 1 false),
 zo 20 (.mov (.tmp 1)),
 zo 21 (.mov (.tmp 5)),
 zo 22 (.iaddr 1 (.tmp 20) (.tmp 21)),
 zo 23 (.load (.tmp 22) 1 false),
 zo 24 (.bin .neq (.tmp 19) (.tmp 23))] [])
  (.cond (.tmp 24) (.seq (.region false [zo 4 (.mov (.cst (.bool false)))] [])
  .ret) .skip))))
  (.region false [zo 25 (.bin .add (.tmp 13) (.cst (.int .i64 1))),
 zo 13 (.mov (.tmp 25))] [])))
def x33_l0 : XCode := x33_r0
/-- slices.Equal[[]string,string] -/
def x33 : XFn := XFn.mk 26 [.tmp 4] (.seq (.region false [zo 4 (.mov (.cst (.bool false)))] [])
 (.seq (.seq (.region false [zo 6 (.mov (.tmp 0)),
 zo 7 (.lens false (.tmp 6)),
 zo 8 (.mov (.tmp 1)),
 zo 9 (.lens false (.tmp 8)),
 zo 10 (.bin .neq (.tmp 7) (.tmp 9))] [])
  (.cond (.tmp 10) (.seq (.region false [zo 4 (.mov (.cst (.bool false)))] [])
  .ret) .skip))
 (.seq (.seq (.region false [zo 11 (.mov (.tmp 0)),
 zo 12 (.lens false (.tmp 11)),
 zo 13 (.mov (.cst (.int .i64 0)))] [])
  (.block 0 (.loop x33_l0)))
 (.seq (.region false [zo 4 (.mov (.cst (.bool true)))] [])
  .ret))))
def x34_r0 : XCode := .seq (.region false [zo 18 (.bin .lss (.tmp 17) (.tmp 16))] [])
 (.seq (.cond (.tmp 18) .skip (.exit 0))
 (.seq (.block 1 (.seq (.region false [zo 19 (.mov (.tmp 17)),
 zo 20 (.iaddr 7 (.tmp 15) (.tmp 17)),
 zo 21 (.load (.tmp 20) 7 true),
 zo 8 (.alloc [.int .i64 0, .str [], .int .i64 0, .int .i64 0, .int .i64 0, .str [], .nilsl]),
 zo 7 (.own 19),
 ⟨none, .store (.tmp 8) (.tmp 21) 7, none⟩] [])
 (.seq (.region false [zo 22 (.mov (.tmp 1)),
 zo 23 (.mov (.tmp 7)),
 zo 24 (.iaddr 7 (.tmp 22) (.tmp 23)),
 zo 25 (.load (.tmp 24) 7 true),
 zo 9 (.alloc [.int .i64 0, .str [], .int .i64 0, .int .i64 0, .int .i64 0, .str [], .nilsl]),
 ⟨none, .store (.tmp 9) (.tmp 25) 7, none⟩] [])
 (.seq (.region false [zo 26 (.mov (.tmp 2)),
 zo 27 (.load (.tmp 8) 7 true),
 zo 28 (.load (.tmp 9) 7 true),
 zo 29 (.calld (.tmp 26) [.tmp 27, .tmp 28]),
 zo 30 (.not (.tmp 29))] [])
  (.cond (.tmp 30) (.seq (.region false [zo 6 (.mov (.cst (.bool false)))] [])
  .ret) .skip)))))
  (.region false [zo 31 (.bin .add (.tmp 17) (.cst (.int .i64 1))),
 zo 17 (.mov (.tmp 31))] [])))
def x34_l0 : XCode := x34_r0
/-- slices.EqualFunc[[]custos/api.Term,[]custos/api.Term,custos/api.Term,custos/api.Term] -/
def x34 : XFn := XFn.mk 32 [.tmp 6] (.seq (.region false [zo 6 (.mov (.cst (.bool false)))] [])
 (.seq (.seq (.region false [zo 10 (.mov (.tmp 0)),
 zo 11 (.lens false (.tmp 10)),
 zo 12 (.mov (.tmp 1)),
 zo 13 (.lens false (.tmp 12)),
 zo 14 (.bin .neq (.tmp 11) (.tmp 13))] [])
  (.cond (.tmp 14) (.seq (.region false [zo 6 (.mov (.cst (.bool false)))] [])
  .ret) .skip))
 (.seq (.seq (.region false [zo 15 (.mov (.tmp 0)),
 zo 16 (.lens false (.tmp 15)),
 zo 17 (.mov (.cst (.int .i64 0)))] [])
  (.block 0 (.loop x34_l0)))
 (.seq (.region false [zo 6 (.mov (.cst (.bool true)))] [])
  .ret))))
/-- custos/ast.sameTerm -/
def x35 : XFn := XFn.mk 31 [.tmp 4] (.seq (.region false [zo 2 (.box (.tmp 0) 7),
 zo 3 (.box (.tmp 1) 7),
 zo 4 (.mov (.cst (.bool false)))] [])
 (.seq (.region false [zo 5 (.faddr (.tmp 2) 0),
 zo 6 (.load (.tmp 5) 1 false),
 zo 7 (.faddr (.tmp 3) 0),
 zo 8 (.load (.tmp 7) 1 false),
 zo 9 (.bin .eql (.tmp 6) (.tmp 8)),
 zo 10 (.mov (.tmp 9)),
 zg 11 10 true (.faddr (.tmp 2) 1),
 zg 12 10 true (.load (.tmp 11) 1 false),
 zg 13 10 true (.faddr (.tmp 3) 1),
 zg 14 10 true (.load (.tmp 13) 1 false),
 zg 15 10 true (.bin .eql (.tmp 12) (.tmp 14)),
 zo 16 (.pick (.tmp 10) (.tmp 15) (.cst (.bool false))),
 zo 17 (.mov (.tmp 16)),
 zg 18 17 true (.faddr (.tmp 2) 2),
 zg 19 17 true (.load (.tmp 18) 4 true),
 zg 20 17 true (.faddr (.tmp 3) 2),
 zg 21 17 true (.load (.tmp 20) 4 true),
 zg 22 17 true (.callq 51 [.tmp 19, .tmp 21]),
 zo 23 (.pick (.tmp 17) (.tmp 22) (.cst (.bool false))),
 zo 24 (.mov (.tmp 23)),
 zg 25 24 true (.faddr (.tmp 2) 6),
 zg 26 24 true (.load (.tmp 25) 1 false),
 zg 27 24 true (.faddr (.tmp 3) 6),
 zg 28 24 true (.load (.tmp 27) 1 false),
 zg 29 24 true (.callw 34 [.tmp 26, .tmp 28, .cst (.fn 35 [] [])]),
 zo 30 (.pick (.tmp 24) (.tmp 29) (.cst (.bool false))),
 zo 4 (.own 30)] [])
  .ret))
def x36_r0 : XCode := .seq (.region false [zo 18 (.bin .lss (.tmp 17) (.tmp 16))] [])
 (.seq (.cond (.tmp 18) .skip (.exit 0))
 (.seq (.block 1 (.seq (.region false [zo 19 (.mov (.tmp 17)),
 zo 20 (.iaddr 3 (.tmp 15) (.tmp 17)),
 zo 21 (.load (.tmp 20) 3 true),
 zo 8 (.alloc [.int .i64 0, .nilsl, .nilsl]),
 zo 7 (.own 19),
 ⟨none, .store (.tmp 8) (.tmp 21) 3, none⟩] [])
 (.seq (.region false [zo 22 (.mov (.tmp 1)),
 zo 23 (.mov (.tmp 7)),
 zo 24 (.iaddr 3 (.tmp 22) (.tmp 23)),
 zo 25 (.load (.tmp 24) 3 true),
 zo 9 (.alloc [.int .i64 0, .nilsl, .nilsl]),
 ⟨none, .store (.tmp 9) (.tmp 25) 3, none⟩] [])
 (.seq (.region false [zo 26 (.mov (.tmp 2)),
 zo 27 (.load (.tmp 8) 3 true),
 zo 28 (.load (.tmp 9) 3 true),
 zo 29 (.calld (.tmp 26) [.tmp 27, .tmp 28]),
 zo 30 (.not (.tmp 29))] [])
  (.cond (.tmp 30) (.seq (.region false [zo 6 (.mov (.cst (.bool false)))] [])
  .ret) .skip)))))
  (.region false [zo 31 (.bin .add (.tmp 17) (.cst (.int .i64 1))),
 zo 17 (.mov (.tmp 31))] [])))
def x36_l0 : XCode := x36_r0
/-- slices.EqualFunc[[]custos/api.Regex,[]custos/api.Regex,custos/api.Regex,custos/api.Regex] -/
def x36 : XFn := XFn.mk 32 [.tmp 6] (.seq (.region false [zo 6 (.mov (.cst (.bool false)))] [])
 (.seq (.seq (.region false [zo 10 (.mov (.tmp 0)),
 zo 11 (.lens false (.tmp 10)),
 zo 12 (.mov (.tmp 1)),
 zo 13 (.lens false (.tmp 12)),
 zo 14 (.bin .neq (.tmp 11) (.tmp 13))] [])
  (.cond (.tmp 14) (.seq (.region false [zo 6 (.mov (.cst (.bool false)))] [])
  .ret) .skip))
 (.seq (.seq (.region false [zo 15 (.mov (.tmp 0)),
 zo 16 (.lens false (.tmp 15)),
 zo 17 (.mov (.cst (.int .i64 0)))] [])
  (.block 0 (.loop x36_l0)))
 (.seq (.region false [zo 6 (.mov (.cst (.bool true)))] [])
  .ret))))
/-- custos/ast.sameRegex -/
def x37 : XFn := XFn.mk 24 [.tmp 4] (.seq (.region false [zo 2 (.box (.tmp 0) 3),
 zo 3 (.box (.tmp 1) 3),
 zo 4 (.mov (.cst (.bool false)))] [])
 (.seq (.region false [zo 5 (.faddr (.tmp 2) 0),
 zo 6 (.load (.tmp 5) 1 false),
 zo 7 (.faddr (.tmp 3) 0),
 zo 8 (.load (.tmp 7) 1 false),
 zo 9 (.bin .eql (.tmp 6) (.tmp 8)),
 zo 10 (.mov (.tmp 9)),
 zg 11 10 true (.faddr (.tmp 2) 1),
 zg 12 10 true (.load (.tmp 11) 1 false),
 zg 13 10 true (.faddr (.tmp 3) 1),
 zg 14 10 true (.load (.tmp 13) 1 false),
 zg 15 10 true (.callw 38 [.tmp 12, .tmp 14, .cst (.fn 13 [] [])]),
 zo 16 (.pick (.tmp 10) (.tmp 15) (.cst (.bool false))),
 zo 17 (.mov (.tmp 16)),
 zg 18 17 true (.faddr (.tmp 2) 2),
 zg 19 17 true (.load (.tmp 18) 1 false),
 zg 20 17 true (.faddr (.tmp 3) 2),
 zg 21 17 true (.load (.tmp 20) 1 false),
 zg 22 17 true (.callw 36 [.tmp 19, .tmp 21, .cst (.fn 37 [] [])]),
 zo 23 (.pick (.tmp 17) (.tmp 22) (.cst (.bool false))),
 zo 4 (.own 23)] [])
  .ret))
def x38_r0 : XCode := .seq (.region false [zo 18 (.bin .lss (.tmp 17) (.tmp 16))] [])
 (.seq (.cond (.tmp 18) .skip (.exit 0))
 (.seq (.block 1 (.seq (.region false [zo 19 (.mov (.tmp 17)),
 zo 20 (.iaddr 10 (.tmp 15) (.tmp 17)),
 zo 21 (.load (.tmp 20) 10 true),
 zo 8 (.alloc [.int .i64 0, .str [], .int .i64 0, .nilsl, .nilsl, .int .i64 0, .int .i64 0, .bool false, .nilsl, .nilsl]),
 zo 7 (.own 19),
 ⟨none, .store (.tmp 8) (.tmp 21) 10, none⟩] [])
 (.seq (.region false [zo 22 (.mov (.tmp 1)),
 zo 23 (.mov (.tmp 7)),
 zo 24 (.iaddr 10 (.tmp 22) (.tmp 23)),
 zo 25 (.load (.tmp 24) 10 true),
 zo 9 (.alloc [.int .i64 0, .str [], .int .i64 0, .nilsl, .nilsl, .int .i64 0, .int .i64 0, .bool false, .nilsl, .nilsl]),
 ⟨none, .store (.tmp 9) (.tmp 25) 10, none⟩] [])
 (.seq (.region false [zo 26 (.mov (.tmp 2)),
 zo 27 (.load (.tmp 8) 10 true),
 zo 28 (.load (.tmp 9) 10 true),
 zo 29 (.calld (.tmp 26) [.tmp 27, .tmp 28]),
 zo 30 (.not (.tmp 29))] [])
  (.cond (.tmp 30) (.seq (.region false [zo 6 (.mov (.cst (.bool false)))] [])
  .ret) .skip)))))
  (.region false [zo 31 (.bin .add (.tmp 17) (.cst (.int .i64 1))),
 zo 17 (.mov (.tmp 31))] [])))
def x38_l0 : XCode := x38_r0
/-- slices.EqualFunc[[]custos/api.Formula,[]custos/api.Formula,custos/api.Formula,custos/api.Formula] -/
def x38 : XFn := XFn.mk 32 [.tmp 6] (.seq (.region false [zo 6 (.mov (.cst (.bool false)))] [])
 (.seq (.seq (.region false [zo 10 (.mov (.tmp 0)),
 zo 11 (.lens false (.tmp 10)),
 zo 12 (.mov (.tmp 1)),
 zo 13 (.lens false (.tmp 12)),
 zo 14 (.bin .neq (.tmp 11) (.tmp 13))] [])
  (.cond (.tmp 14) (.seq (.region false [zo 6 (.mov (.cst (.bool false)))] [])
  .ret) .skip))
 (.seq (.seq (.region false [zo 15 (.mov (.tmp 0)),
 zo 16 (.lens false (.tmp 15)),
 zo 17 (.mov (.cst (.int .i64 0)))] [])
  (.block 0 (.loop x38_l0)))
 (.seq (.region false [zo 6 (.mov (.cst (.bool true)))] [])
  .ret))))
/-- slices.Clone[[]string,string] -/
def x39 : XFn := XFn.mk 8 [.tmp 2] (.seq (.region false [zo 2 (.mov (.cst .nilsl))] [])
 (.seq (.seq (.region false [zo 3 (.mov (.tmp 0)),
 zo 4 (.eqnil 1 false (.tmp 3))] [])
  (.cond (.tmp 4) (.seq (.region false [zo 2 (.mov (.cst .nilsl))] [])
  .ret) .skip))
 (.seq (.region false [zo 5 (.bslice 1 [] []),
 zo 6 (.mov (.tmp 0)),
 zo 7 (.app true 1 16 5 (.tmp 6)),
 zo 2 (.own 7)] [])
  .ret)))
def x40_r0 : XCode := .seq (.region false [zo 11 (.bin .lss (.tmp 10) (.tmp 9))] [])
 (.seq (.cond (.tmp 11) .skip (.exit 0))
 (.seq (.block 1 (.seq (.region false [zo 12 (.iaddr 7 (.tmp 8) (.tmp 10)),
 zo 13 (.load (.tmp 12) 7 true),
 zo 7 (.alloc [.int .i64 0, .str [], .int .i64 0, .int .i64 0, .int .i64 0, .str [], .nilsl]),
 ⟨none, .store (.tmp 7) (.tmp 13) 7, none⟩] [])
  (.region false [zo 14 (.own 5),
 zo 15 (.mov (.tmp 1)),
 zo 16 (.load (.tmp 7) 7 true),
 zo 17 (.calld (.tmp 15) [.tmp 16]),
 zo 18 (.bslice 7 [.int .i64 0, .str [], .int .i64 0, .int .i64 0, .int .i64 0, .str [], .nilsl] [(0, 7, .tmp 17)]),
 zo 19 (.app false 7 88 14 (.tmp 18)),
 zo 5 (.own 19)] [])))
  (.region false [zo 20 (.bin .add (.tmp 10) (.cst (.int .i64 1))),
 zo 10 (.mov (.tmp 20))] [])))
def x40_l0 : XCode := x40_r0
/-- custos/ast.each[custos/api.Term] -/
def x40 : XFn := XFn.mk 22 [.tmp 4] (.seq (.region false [zo 4 (.mov (.cst .nilsl))] [])
 (.seq (.region false [zo 5 (.mov (.cst .nilsl))] [])
 (.seq (.seq (.region false [zo 8 (.mov (.tmp 0)),
 zo 9 (.lens false (.tmp 8)),
 zo 10 (.mov (.cst (.int .i64 0)))] [])
  (.block 0 (.loop x40_l0)))
 (.seq (.region false [zo 21 (.mov (.tmp 5)),
 zo 4 (.own 21)] [])
  .ret))))
/-- custos/ast.cloneTerm -/
def x41 : XFn := XFn.mk 8 [.cell 2 7 true] (.seq (.region false [zo 1 (.box (.tmp 0) 7),
 zo 2 (.alloc [.int .i64 0, .str [], .int .i64 0, .int .i64 0, .int .i64 0, .str [], .nilsl])] [])
 (.seq (.region false [zo 3 (.faddr (.tmp 1) 6),
 zo 4 (.load (.tmp 3) 1 false),
 zo 5 (.callw 40 [.tmp 4, .cst (.fn 41 [] [])]),
 zo 6 (.faddr (.tmp 1) 6),
 ⟨none, .store (.tmp 6) (.tmp 5) 1, none⟩] [])
 (.seq (.region false [zo 7 (.load (.tmp 1) 7 true),
 ⟨none, .store (.tmp 2) (.tmp 7) 7, none⟩] [])
  .ret)))
def x42_r0 : XCode := .seq (.region false [zo 11 (.bin .lss (.tmp 10) (.tmp 9))] [])
 (.seq (.cond (.tmp 11) .skip (.exit 0))
 (.seq (.block 1 (.seq (.region false [zo 12 (.iaddr 3 (.tmp 8) (.tmp 10)),
 zo 13 (.load (.tmp 12) 3 true),
 zo 7 (.alloc [.int .i64 0, .nilsl, .nilsl]),
 ⟨none, .store (.tmp 7) (.tmp 13) 3, none⟩] [])
  (.region false [zo 14 (.own 5),
 zo 15 (.mov (.tmp 1)),
 zo 16 (.load (.tmp 7) 3 true),
 zo 17 (.calld (.tmp 15) [.tmp 16]),
 zo 18 (.bslice 3 [.int .i64 0, .nilsl, .nilsl] [(0, 3, .tmp 17)]),
 zo 19 (.app false 3 56 14 (.tmp 18)),
 zo 5 (.own 19)] [])))
  (.region false [zo 20 (.bin .add (.tmp 10) (.cst (.int .i64 1))),
 zo 10 (.mov (.tmp 20))] [])))
def x42_l0 : XCode := x42_r0
/-- custos/ast.each[custos/api.Regex] -/
def x42 : XFn := XFn.mk 22 [.tmp 4] (.seq (.region false [zo 4 (.mov (.cst .nilsl))] [])
 (.seq (.region false [zo 5 (.mov (.cst .nilsl))] [])
 (.seq (.seq (.region false [zo 8 (.mov (.tmp 0)),
 zo 9 (.lens false (.tmp 8)),
 zo 10 (.mov (.cst (.int .i64 0)))] [])
  (.block 0 (.loop x42_l0)))
 (.seq (.region false [zo 21 (.mov (.tmp 5)),
 zo 4 (.own 21)] [])
  .ret))))
/-- custos/ast.cloneRegex -/
def x43 : XFn := XFn.mk 12 [.cell 2 3 true] (.seq (.region false [zo 1 (.box (.tmp 0) 3),
 zo 2 (.alloc [.int .i64 0, .nilsl, .nilsl])] [])
 (.seq (.region false [zo 3 (.faddr (.tmp 1) 1),
 zo 4 (.load (.tmp 3) 1 false),
 zo 5 (.callw 44 [.tmp 4, .cst (.fn 14 [] [])]),
 zo 6 (.faddr (.tmp 1) 1),
 ⟨none, .store (.tmp 6) (.tmp 5) 1, none⟩] [])
 (.seq (.region false [zo 7 (.faddr (.tmp 1) 2),
 zo 8 (.load (.tmp 7) 1 false),
 zo 9 (.callw 42 [.tmp 8, .cst (.fn 43 [] [])]),
 zo 10 (.faddr (.tmp 1) 2),
 ⟨none, .store (.tmp 10) (.tmp 9) 1, none⟩] [])
 (.seq (.region false [zo 11 (.load (.tmp 1) 3 true),
 ⟨none, .store (.tmp 2) (.tmp 11) 3, none⟩] [])
  .ret))))
def x44_r0 : XCode := .seq (.region false [zo 11 (.bin .lss (.tmp 10) (.tmp 9))] [])
 (.seq (.cond (.tmp 11) .skip (.exit 0))
 (.seq (.block 1 (.seq (.region false [zo 12 (.iaddr 10 (.tmp 8) (.tmp 10)),
 zo 13 (.load (.tmp 12) 10 true),
 zo 7 (.alloc [.int .i64 0, .str [], .int .i64 0, .nilsl, .nilsl, .int .i64 0, .int .i64 0, .bool false, .nilsl, .nilsl]),
 ⟨none, .store (.tmp 7) (.tmp 13) 10, none⟩] [])
  (.region false [zo 14 (.own 5),
 zo 15 (.mov (.tmp 1)),
 zo 16 (.load (.tmp 7) 10 true),
 zo 17 (.calld (.tmp 15) [.tmp 16]),
 zo 18 (.bslice 10 [.int .i64 0, .str [], .int .i64 0, .nilsl, .nilsl, .int .i64 0, .int .i64 0, .bool false, .nilsl, .nilsl] [(0, 10, .tmp 17)]),
 zo 19 (.app false 10 152 14 (.tmp 18)),
 zo 5 (.own 19)] [])))
  (.region false [zo 20 (.bin .add (.tmp 10) (.cst (.int .i64 1))),
 zo 10 (.mov (.tmp 20))] [])))
def x44_l0 : XCode := x44_r0
/-- custos/ast.each[custos/api.Formula] -/
def x44 : XFn := XFn.mk 22 [.tmp 4] (.seq (.region false [zo 4 (.mov (.cst .nilsl))] [])
 (.seq (.region false [zo 5 (.mov (.cst .nilsl))] [])
 (.seq (.seq (.region false [zo 8 (.mov (.tmp 0)),
 zo 9 (.lens false (.tmp 8)),
 zo 10 (.mov (.cst (.int .i64 0)))] [])
  (.block 0 (.loop x44_l0)))
 (.seq (.region false [zo 21 (.mov (.tmp 5)),
 zo 4 (.own 21)] [])
  .ret))))
def x45_r0 : XCode := .seq (.region false [zo 14 (.bin .lss (.tmp 13) (.tmp 12))] [])
 (.seq (.cond (.tmp 14) .skip (.exit 0))
 (.seq (.block 1 (.seq (.region false [zo 15 (.iaddr 7 (.tmp 11) (.tmp 13)),
 zo 16 (.load (.tmp 15) 7 true),
 zo 5 (.alloc [.int .i64 0, .str [], .int .i64 0, .int .i64 0, .int .i64 0, .str [], .nilsl]),
 ⟨none, .store (.tmp 5) (.tmp 16) 7, none⟩] [])
  (.region false [zo 17 (.own 2),
 zo 18 (.load (.tmp 5) 7 true),
 zo 19 (.callq 20 [.tmp 18]),
 zo 20 (.app true 1 16 17 (.tmp 19)),
 zo 2 (.own 20)] [])))
  (.region false [zo 21 (.bin .add (.tmp 13) (.cst (.int .i64 1))),
 zo 13 (.mov (.tmp 21))] [])))
def x45_l0 : XCode := x45_r0
def x45_r1 : XCode := .seq (.region false [zo 26 (.bin .lss (.tmp 25) (.tmp 24))] [])
 (.seq (.cond (.tmp 26) .skip (.exit 2))
 (.seq (.block 3 (.seq (.region false [zo 27 (.mov (.tmp 25)),
 zo 28 (.iaddr 10 (.tmp 23) (.tmp 25)),
 zo 29 (.load (.tmp 28) 10 true),
 zo 7 (.alloc [.int .i64 0, .str [], .int .i64 0, .nilsl, .nilsl, .int .i64 0, .int .i64 0, .bool false, .nilsl, .nilsl]),
 zo 6 (.own 27),
 ⟨none, .store (.tmp 7) (.tmp 29) 10, none⟩] [])
 (.seq (.region false [zo 31 (.load (.tmp 7) 10 true),
 zo 32 (.callq 45 [.tmp 31]),
 zo 30 (.mov (.tmp 32)),
 zo 33 (.ext 30 0),
 zo 34 (.ext 30 1),
 zo 8 (.own 33),
 zo 9 (.own 34)] [])
 (.seq (.region false [zo 35 (.mov (.tmp 3)),
 zo 36 (.mov (.tmp 9)),
 zo 37 (.mx (.tmp 35) (.tmp 36)),
 zo 3 (.own 37)] [])
 (.seq (.region false [zo 38 (.faddr (.tmp 1) 0),
 zo 39 (.load (.tmp 38) 1 false),
 zo 40 (.bin .neq (.tmp 39) (.cst (.int .i64 19))),
 zo 41 (.mov (.tmp 40)),
 zg 42 41 true (.faddr (.tmp 1) 0),
 zg 43 41 true (.load (.tmp 42) 1 false),
 zg 44 41 true (.bin .neq (.tmp 43) (.cst (.int .i64 20))),
 zg 45 41 true (.mov (.tmp 44)),
 zg 46 45 true (.faddr (.tmp 1) 0),
 zg 47 45 true (.load (.tmp 46) 1 false),
 zg 48 45 true (.bin .neq (.tmp 47) (.cst (.int .i64 21))),
 zg 49 41 true (.pick (.tmp 45) (.tmp 48) (.cst (.bool false))),
 zg 50 41 true (.mov (.tmp 49)),
 zg 51 50 false (.mov (.tmp 6)),
 zg 52 50 false (.bin .eql (.tmp 51) (.cst (.int .i64 1))),
 zg 53 41 true (.pick (.tmp 50) (.cst (.bool true)) (.tmp 52)),
 zo 54 (.pick (.tmp 41) (.tmp 53) (.cst (.bool false)))] [])
  (.cond (.tmp 54) (.region false [zo 55 (.own 2),
 zo 56 (.mov (.tmp 8)),
 zo 57 (.app true 1 16 55 (.tmp 56)),
 zo 2 (.own 57)] []) .skip))))))
  (.region false [zo 58 (.bin .add (.tmp 25) (.cst (.int .i64 1))),
 zo 25 (.mov (.tmp 58))] [])))
def x45_l1 : XCode := x45_r1
/-- custos/ast.free -/
def x45 : XFn := XFn.mk 83 [.tmp 2, .tmp 3] (.seq (.region false [zo 1 (.box (.tmp 0) 10),
 zo 2 (.mov (.cst .nilsl)),
 zo 3 (.mov (.cst (.int .i64 0)))] [])
 (.seq (.seq (.region false [zo 10 (.faddr (.tmp 1) 4),
 zo 11 (.load (.tmp 10) 1 false),
 zo 12 (.lens false (.tmp 11)),
 zo 13 (.mov (.cst (.int .i64 0)))] [])
  (.block 0 (.loop x45_l0)))
 (.seq (.seq (.region false [zo 22 (.load (.tmp 1) 10 true),
 zo 23 (.callq 47 [.tmp 22]),
 zo 24 (.lens false (.tmp 23)),
 zo 25 (.mov (.cst (.int .i64 0)))] [])
  (.block 2 (.loop x45_l1)))
 (.seq (.seq (.region false [zo 59 (.faddr (.tmp 1) 0),
 zo 60 (.load (.tmp 59) 1 false)] [])
  (.block 4 (.seq (.region false [zo 62 (.bin .eql (.tmp 60) (.cst (.int .i64 19))),
 zo 61 (.own 62)] [])
  (.cond (.tmp 61) (.region true [zo 63 (.faddr (.tmp 1) 3),
 zo 64 (.load (.tmp 63) 1 false),
 zo 65 (.ssl 1 (.tmp 64) (some (.cst (.int .i64 1))) none none),
 zo 66 (.callq 39 [.tmp 65]),
 zo 67 (.faddr (.tmp 1) 1),
 zo 68 (.load (.tmp 67) 1 false),
 zo 69 (.bslice 1 [.str []] [(0, 1, .tmp 68)]),
 zo 70 (.app true 1 16 66 (.tmp 69)),
 zo 2 (.own 70)] []) (.seq (.region false [zo 72 (.bin .eql (.tmp 60) (.cst (.int .i64 10))),
 zo 71 (.own 72)] [])
  (.cond (.tmp 71) (.region false [zo 73 (.own 2),
 zo 74 (.mkfn 53 [] [.tmp 1]),
 zo 75 (.callm 52 73 [.tmp 74]),
 zo 2 (.own 75)] []) .skip))))))
 (.seq (.region false [zo 76 (.own 2),
 zo 77 (.primm 100 46 76),
 zo 2 (.ownd 77)] [])
 (.seq (.region false [zo 78 (.mov (.tmp 2)),
 zo 79 (.mov (.tmp 3)),
 zo 80 (.mov (.tmp 2)),
 zo 81 (.lens false (.tmp 80)),
 zo 82 (.mx (.tmp 79) (.tmp 81)),
 zo 2 (.own 78),
 zo 3 (.own 82)] [])
  .ret))))))
/-- custos/ast.parts -/
def x47 : XFn := XFn.mk 14 [.tmp 2] (.seq (.region false [zo 1 (.box (.tmp 0) 10),
 zo 2 (.mov (.cst .nilsl))] [])
 (.seq (.seq (.region false [zo 3 (.faddr (.tmp 1) 9),
 zo 4 (.load (.tmp 3) 1 false),
 zo 5 (.lens false (.tmp 4)),
 zo 6 (.bin .gtr (.tmp 5) (.cst (.int .i64 0)))] [])
  (.cond (.tmp 6) (.seq (.region false [zo 7 (.faddr (.tmp 1) 9),
 zo 8 (.load (.tmp 7) 1 false),
 zo 9 (.iaddr 3 (.tmp 8) (.cst (.int .i64 0))),
 zo 10 (.load (.tmp 9) 3 true),
 zo 11 (.callq 57 [.tmp 10]),
 zo 2 (.own 11)] [])
  .ret) .skip))
 (.seq (.region false [zo 12 (.faddr (.tmp 1) 8),
 zo 13 (.load (.tmp 12) 1 false),
 zo 2 (.own 13)] [])
  .ret)))
/-- (*custos/ast.walk).formula -/
def x48 : XFn := XFn.mk 105 [] (.seq (.region false [zo 4 (.box (.tmp 1) 10)] [])
 (.seq (.seq (.region false [zo 8 (.mov (.tmp 0)),
 zo 9 (.mov (.tmp 2)),
 zo 10 (.callw 58 [.tmp 8, .tmp 9]),
 zo 11 (.not (.tmp 10)),
 zo 12 (.mov (.tmp 11)),
 zg 13 12 false (.mov (.tmp 0)),
 zg 14 12 false (.faddr (.tmp 4) 0),
 zg 15 12 false (.load (.tmp 14) 1 false),
 zg 16 12 false (.bin .geq (.tmp 15) (.cst (.int .i64 1))),
 zg 17 12 false (.mov (.tmp 16)),
 zg 18 17 true (.faddr (.tmp 4) 0),
 zg 19 17 true (.load (.tmp 18) 1 false),
 zg 20 17 true (.bin .leq (.tmp 19) (.cst (.int .i64 22))),
 zg 21 12 false (.pick (.tmp 17) (.tmp 20) (.cst (.bool false))),
 zg 22 12 false (.callw 49 [.tmp 13, .tmp 21, .cst (.int .i64 20)]),
 zg 23 12 false (.not (.tmp 22)),
 zo 24 (.pick (.tmp 12) (.cst (.bool true)) (.tmp 23))] [])
  (.cond (.tmp 24) .ret .skip))
 (.seq (.region false [zo 26 (.faddr (.tmp 4) 0),
 zo 27 (.load (.tmp 26) 1 false),
 zo 28 (.callq 59 [.tmp 27]),
 zo 25 (.mov (.tmp 28)),
 zo 29 (.ext 25 0),
 zo 30 (.ext 25 1),
 zo 6 (.own 29),
 zo 7 (.own 30)] [])
 (.seq (.region false [zo 31 (.mov (.tmp 0)),
 zo 32 (.mov (.tmp 6)),
 zo 33 (.bin .eql (.tmp 32) (.cst (.int .i64 0))),
 zo 34 (.mov (.tmp 33)),
 zg 35 34 false (.faddr (.tmp 4) 4),
 zg 36 34 false (.load (.tmp 35) 1 false),
 zg 37 34 false (.lens false (.tmp 36)),
 zg 38 34 false (.mov (.tmp 6)),
 zg 39 34 false (.bin .leq (.tmp 37) (.tmp 38)),
 zo 40 (.pick (.tmp 34) (.cst (.bool true)) (.tmp 39)),
 zo 41 (.callw 49 [.tmp 31, .tmp 40, .cst (.int .i64 3)])] [])
 (.seq (.region false [zo 42 (.mov (.tmp 0)),
 zo 43 (.mov (.tmp 7)),
 zo 44 (.bin .eql (.tmp 43) (.cst (.int .i64 0))),
 zo 45 (.mov (.tmp 44)),
 zg 46 45 false (.faddr (.tmp 4) 3),
 zg 47 45 false (.load (.tmp 46) 1 false),
 zg 48 45 false (.lens false (.tmp 47)),
 zg 49 45 false (.mov (.tmp 7)),
 zg 50 45 false (.bin .leq (.tmp 48) (.tmp 49)),
 zo 51 (.pick (.tmp 45) (.cst (.bool true)) (.tmp 50)),
 zo 52 (.callw 49 [.tmp 42, .tmp 51, .cst (.int .i64 3)])] [])
 (.seq (.region false [zo 53 (.mov (.tmp 0)),
 zo 54 (.load (.tmp 4) 10 true),
 zo 55 (.callq 60 [.tmp 54]),
 zo 56 (.callw 49 [.tmp 53, .tmp 55, .cst (.int .i64 1)])] [])
 (.seq (.region false [zo 57 (.mov (.tmp 0)),
 zo 58 (.faddr (.tmp 4) 3),
 zo 59 (.load (.tmp 58) 1 false),
 zo 60 (.callq 61 [.tmp 59]),
 zo 61 (.not (.tmp 60)),
 zo 62 (.callw 49 [.tmp 57, .tmp 61, .cst (.int .i64 30)])] [])
 (.seq (.seq (.region true [zo 63 (.mov (.tmp 0)),
 zo 64 (.faddr (.tmp 4) 0),
 zo 65 (.load (.tmp 64) 1 false),
 zo 66 (.bin .neq (.tmp 65) (.cst (.int .i64 19))),
 zo 67 (.mov (.tmp 66)),
 zg 68 67 false (.faddr (.tmp 4) 3),
 zg 69 67 false (.load (.tmp 68) 1 false),
 zg 70 67 false (.lens false (.tmp 69)),
 zg 71 67 false (.bin .gtr (.tmp 70) (.cst (.int .i64 0))),
 zg 72 67 false (.mov (.tmp 71)),
 zg 73 72 true (.faddr (.tmp 4) 3),
 zg 74 72 true (.load (.tmp 73) 1 false),
 zg 75 72 true (.ssl 1 (.tmp 74) (some (.cst (.int .i64 1))) none none),
 zg 76 72 true (.faddr (.tmp 4) 1),
 zg 77 72 true (.load (.tmp 76) 1 false),
 zg 78 72 true (.callq 54 [.tmp 75, .tmp 77]),
 zg 79 72 true (.not (.tmp 78)),
 zg 80 67 false (.pick (.tmp 72) (.tmp 79) (.cst (.bool false))),
 zo 81 (.pick (.tmp 67) (.cst (.bool true)) (.tmp 80)),
 zo 82 (.callw 49 [.tmp 63, .tmp 81, .cst (.int .i64 30)]),
 zo 83 (.not (.tmp 82))] [])
  (.cond (.tmp 83) .ret .skip))
 (.seq (.region false [zo 84 (.mov (.tmp 0)),
 zo 85 (.mkfn 63 [.tmp 84] []),
 zo 86 (.mov (.tmp 2)),
 zo 87 (.bin .add (.tmp 86) (.cst (.int .i64 1))),
 zo 88 (.faddr (.tmp 4) 4),
 zo 89 (.load (.tmp 88) 1 false),
 zo 90 (.callw 62 [.tmp 85, .tmp 87, .tmp 89])] [])
 (.seq (.region false [zo 91 (.mov (.tmp 0)),
 zo 92 (.mkfn 65 [.tmp 91] []),
 zo 93 (.mov (.tmp 2)),
 zo 94 (.bin .add (.tmp 93) (.cst (.int .i64 1))),
 zo 95 (.faddr (.tmp 4) 9),
 zo 96 (.load (.tmp 95) 1 false),
 zo 97 (.callw 64 [.tmp 92, .tmp 94, .tmp 96])] [])
  (.region false [zo 98 (.mov (.tmp 0)),
 zo 99 (.mkfn 48 [.tmp 98] []),
 zo 100 (.mov (.tmp 2)),
 zo 101 (.bin .add (.tmp 100) (.cst (.int .i64 1))),
 zo 102 (.faddr (.tmp 4) 8),
 zo 103 (.load (.tmp 102) 1 false),
 zo 104 (.callw 66 [.tmp 99, .tmp 101, .tmp 103])] [])))))))))))
/-- (*custos/ast.walk).must -/
def x49 : XFn := XFn.mk 25 [.tmp 6] (.seq (.region false [zo 6 (.mov (.cst (.bool false)))] [])
 (.seq (.seq (.region false [zo 7 (.mov (.tmp 1)),
 zo 8 (.not (.tmp 7)),
 zo 9 (.mov (.tmp 8)),
 zg 10 9 true (.mov (.tmp 0)),
 zg 11 9 true (.nilck (.tmp 10)),
 zg 12 9 true (.faddr (.tmp 11) 2),
 zg 13 9 true (.load (.tmp 12) 1 false),
 zg 14 9 true (.bin .eql (.tmp 13) (.cst (.int .i64 0))),
 zo 15 (.pick (.tmp 9) (.tmp 14) (.cst (.bool false)))] [])
  (.cond (.tmp 15) (.region false [zo 16 (.mov (.tmp 0)),
 zo 17 (.mov (.tmp 2)),
 zo 18 (.nilck (.tmp 16)),
 zo 19 (.faddr (.tmp 18) 2),
 ⟨none, .store (.tmp 19) (.tmp 17) 1, none⟩] []) .skip))
 (.seq (.region false [zo 20 (.mov (.tmp 0)),
 zo 21 (.nilck (.tmp 20)),
 zo 22 (.faddr (.tmp 21) 2),
 zo 23 (.load (.tmp 22) 1 false),
 zo 24 (.bin .eql (.tmp 23) (.cst (.int .i64 0))),
 zo 6 (.own 24)] [])
  .ret)))
/-- custos/value.Same -/
def x51 : XFn := XFn.mk 8 [.tmp 4] (.seq (.region false [zo 2 (.box (.tmp 0) 4),
 zo 3 (.box (.tmp 1) 4),
 zo 4 (.mov (.cst (.bool false)))] [])
 (.seq (.region false [zo 5 (.load (.tmp 2) 4 true),
 zo 6 (.load (.tmp 3) 4 true),
 zo 7 (.eqagg false [1, 1, 1, 2] (.tmp 5) (.tmp 6)),
 zo 4 (.own 7)] [])
  .ret))
def x52_r0 : XCode := .seq (.seq (.region false [zo 16 (.mov (.tmp 6)),
 zo 17 (.thw 0),
 zo 18 (.lens false (.tmp 17)),
 zo 19 (.bin .lss (.tmp 16) (.tmp 18))] [])
  (.cond (.tmp 19) .skip (.exit 0)))
 (.seq (.block 1 (.seq (.region false [zo 22 (.thw 0),
 zo 23 (.mov (.tmp 6)),
 zo 24 (.iaddr 1 (.tmp 22) (.tmp 23)),
 zo 25 (.load (.tmp 24) 1 false),
 zo 7 (.own 25)] [])
 (.seq (.region false [zo 26 (.mov (.tmp 1)),
 zo 27 (.mov (.tmp 7)),
 zo 28 (.calld (.tmp 26) [.tmp 27]),
 zo 29 (.not (.tmp 28))] [])
  (.cond (.tmp 29) (.seq (.region false [zo 30 (.thw 0),
 zo 31 (.mov (.tmp 5)),
 zo 32 (.mov (.tmp 7)),
 zo 33 (.iaddr 1 (.tmp 30) (.tmp 31)),
 ⟨none, .store (.tmp 33) (.tmp 32) 1, none⟩] [])
  (.region false [zo 34 (.mov (.tmp 5)),
 zo 35 (.bin .add (.tmp 34) (.cst (.int .i64 1))),
 zo 5 (.own 35)] [])) .skip))))
  (.region false [zo 20 (.mov (.tmp 6)),
 zo 21 (.bin .add (.tmp 20) (.cst (.int .i64 1))),
 zo 6 (.own 21)] []))
def x52_l0 : XCode := x52_r0
/-- slices.DeleteFunc[[]string,string] -/
def x52 : XFn := XFn.mk 42 [.tmp 4] (.seq (.region false [zo 4 (.mov (.cst .nilsl))] [])
 (.seq (.region false [zo 8 (.thw 0),
 zo 9 (.mov (.tmp 1)),
 zo 10 (.callw 68 [.tmp 8, .tmp 9]),
 zo 5 (.own 10)] [])
 (.seq (.seq (.region false [zo 11 (.mov (.tmp 5)),
 zo 12 (.bin .eql (.tmp 11) (.cst (.int .i64 (-1))))] [])
  (.cond (.tmp 12) (.seq (.region false [zo 13 (.thw 0),
 zo 4 (.own 13)] [])
  .ret) .skip))
 (.seq (.seq (.region false [zo 14 (.mov (.tmp 5)),
 zo 15 (.bin .add (.tmp 14) (.cst (.int .i64 1))),
 zo 6 (.own 15)] [])
  (.block 0 (.loop x52_l0)))
 (.seq (.region false [zo 36 (.thw 0),
 zo 37 (.mov (.tmp 5)),
 zo 38 (.ssl 1 (.tmp 36) (some (.tmp 37)) none none),
 ⟨none, .clr 1 [.str []] (.tmp 38), none⟩] [])
 (.seq (.region false [zo 39 (.thw 0),
 zo 40 (.mov (.tmp 5)),
 zo 41 (.ssl 1 (.tmp 39) none (some (.tmp 40)) none),
 zo 4 (.own 41)] [])
  .ret))))))
/-- custos/ast.free$1 -/
def x53 : XFn := XFn.mk 8 [.tmp 3] (.seq (.region false [zo 3 (.mov (.cst (.bool false)))] [])
 (.seq (.region false [zo 4 (.faddr (.tmp 1) 3),
 zo 5 (.load (.tmp 4) 1 false),
 zo 6 (.mov (.tmp 0)),
 zo 7 (.callq 54 [.tmp 5, .tmp 6]),
 zo 3 (.own 7)] [])
  .ret))
/-- slices.Contains[[]string,string] -/
def x54 : XFn := XFn.mk 9 [.tmp 4] (.seq (.region false [zo 4 (.mov (.cst (.bool false)))] [])
 (.seq (.region false [zo 5 (.mov (.tmp 0)),
 zo 6 (.mov (.tmp 1)),
 zo 7 (.callq 69 [.tmp 5, .tmp 6]),
 zo 8 (.bin .geq (.tmp 7) (.cst (.int .i64 0))),
 zo 4 (.own 8)] [])
  .ret))
def x57_r0 : XCode := .seq (.region false [zo 13 (.bin .lss (.tmp 12) (.tmp 11))] [])
 (.seq (.cond (.tmp 13) .skip (.exit 0))
 (.seq (.block 1 (.seq (.region false [zo 14 (.iaddr 3 (.tmp 10) (.tmp 12)),
 zo 15 (.load (.tmp 14) 3 true),
 zo 5 (.alloc [.int .i64 0, .nilsl, .nilsl]),
 ⟨none, .store (.tmp 5) (.tmp 15) 3, none⟩] [])
  (.region false [zo 16 (.own 3),
 zo 17 (.load (.tmp 5) 3 true),
 zo 18 (.callq 57 [.tmp 17]),
 zo 19 (.app false 10 152 16 (.tmp 18)),
 zo 3 (.own 19)] [])))
  (.region false [zo 20 (.bin .add (.tmp 12) (.cst (.int .i64 1))),
 zo 12 (.mov (.tmp 20))] [])))
def x57_l0 : XCode := x57_r0
/-- custos/ast.tests -/
def x57 : XFn := XFn.mk 22 [.tmp 2] (.seq (.region false [zo 1 (.box (.tmp 0) 3),
 zo 2 (.mov (.cst .nilsl))] [])
 (.seq (.region false [zo 6 (.faddr (.tmp 1) 1),
 zo 7 (.load (.tmp 6) 1 false),
 zo 8 (.callq 72 [.tmp 7]),
 zo 3 (.own 8)] [])
 (.seq (.seq (.region false [zo 9 (.faddr (.tmp 1) 2),
 zo 10 (.load (.tmp 9) 1 false),
 zo 11 (.lens false (.tmp 10)),
 zo 12 (.mov (.cst (.int .i64 0)))] [])
  (.block 0 (.loop x57_l0)))
 (.seq (.region false [zo 21 (.mov (.tmp 3)),
 zo 2 (.own 21)] [])
  .ret))))
/-- (*custos/ast.walk).enter -/
def x58 : XFn := XFn.mk 43 [.tmp 4] (.seq (.region false [zo 4 (.mov (.cst (.bool false)))] [])
 (.seq (.seq (.region false [zo 5 (.mov (.tmp 0)),
 zo 6 (.nilck (.tmp 5)),
 zo 7 (.faddr (.tmp 6) 2),
 zo 8 (.load (.tmp 7) 1 false),
 zo 9 (.bin .neq (.tmp 8) (.cst (.int .i64 0))),
 zo 10 (.mov (.tmp 9)),
 zg 11 10 false (.mov (.tmp 0)),
 zg 12 10 false (.mov (.tmp 1)),
 zg 13 10 false (.bin .leq (.tmp 12) (.cst (.int .i64 24))),
 zg 14 10 false (.callw 49 [.tmp 11, .tmp 13, .cst (.int .i64 71)]),
 zg 15 10 false (.not (.tmp 14)),
 zo 16 (.pick (.tmp 10) (.cst (.bool true)) (.tmp 15)),
 zo 17 (.mov (.tmp 16)),
 zg 18 17 false (.mov (.tmp 0)),
 zg 19 17 false (.mov (.tmp 0)),
 zg 20 17 false (.nilck (.tmp 19)),
 zg 21 17 false (.faddr (.tmp 20) 0),
 zg 22 17 false (.load (.tmp 21) 1 false),
 zg 23 17 false (.bin .lss (.tmp 22) (.cst (.int .i64 256))),
 zg 24 17 false (.callw 49 [.tmp 18, .tmp 23, .cst (.int .i64 3)]),
 zg 25 17 false (.not (.tmp 24)),
 zo 26 (.pick (.tmp 17) (.cst (.bool true)) (.tmp 25))] [])
  (.cond (.tmp 26) (.seq (.region false [zo 4 (.mov (.cst (.bool false)))] [])
  .ret) .skip))
 (.seq (.region false [zo 27 (.mov (.tmp 0)),
 zo 28 (.nilck (.tmp 27)),
 zo 29 (.faddr (.tmp 28) 0),
 zo 30 (.load (.tmp 29) 1 false),
 zo 31 (.bin .add (.tmp 30) (.cst (.int .i64 1))),
 zo 32 (.nilck (.tmp 27)),
 zo 33 (.faddr (.tmp 32) 0),
 ⟨none, .store (.tmp 33) (.tmp 31) 1, none⟩] [])
 (.seq (.region false [zo 34 (.mov (.tmp 0)),
 zo 35 (.mov (.tmp 0)),
 zo 36 (.nilck (.tmp 35)),
 zo 37 (.faddr (.tmp 36) 1),
 zo 38 (.load (.tmp 37) 1 false),
 zo 39 (.mov (.tmp 1)),
 zo 40 (.mx (.tmp 38) (.tmp 39)),
 zo 41 (.nilck (.tmp 34)),
 zo 42 (.faddr (.tmp 41) 1),
 ⟨none, .store (.tmp 42) (.tmp 40) 1, none⟩] [])
 (.seq (.region false [zo 4 (.mov (.cst (.bool true)))] [])
  .ret)))))
/-- custos/ast.most -/
def x59 : XFn := XFn.mk 13 [.tmp 2, .tmp 3] (.seq (.region false [zo 2 (.mov (.cst (.int .i64 0))),
 zo 3 (.mov (.cst (.int .i64 0)))] [])
 (.seq (.seq (.region false [zo 4 (.mov (.tmp 0))] [])
  (.block 0 (.seq (.region false [zo 6 (.bin .eql (.tmp 4) (.cst (.int .i64 3))),
 zo 5 (.own 6)] [])
  (.cond (.tmp 5) (.seq (.region false [zo 2 (.mov (.cst (.int .i64 6))),
 zo 3 (.mov (.cst (.int .i64 0)))] [])
  .ret) (.seq (.seq (.region false [zo 8 (.bin .eql (.tmp 4) (.cst (.int .i64 20))),
 zo 7 (.own 8)] [])
  (.cond (.tmp 7) .skip (.region false [zo 9 (.bin .eql (.tmp 4) (.cst (.int .i64 21))),
 zo 7 (.own 9)] [])))
  (.cond (.tmp 7) (.seq (.region false [zo 2 (.mov (.cst (.int .i64 0))),
 zo 3 (.mov (.cst (.int .i64 6)))] [])
  .ret) (.seq (.seq (.region false [zo 11 (.bin .eql (.tmp 4) (.cst (.int .i64 10))),
 zo 10 (.own 11)] [])
  (.cond (.tmp 10) .skip (.region false [zo 12 (.bin .eql (.tmp 4) (.cst (.int .i64 19))),
 zo 10 (.own 12)] [])))
  (.cond (.tmp 10) (.seq (.region false [zo 2 (.mov (.cst (.int .i64 0))),
 zo 3 (.mov (.cst (.int .i64 8)))] [])
  .ret) .skip))))))))
 (.seq (.region false [zo 2 (.mov (.cst (.int .i64 0))),
 zo 3 (.mov (.cst (.int .i64 0)))] [])
  .ret)))
/-- custos/ast.formed -/
def x60 : XFn := XFn.mk 87 [.tmp 2] (.seq (.region false [zo 1 (.box (.tmp 0) 10),
 zo 2 (.mov (.cst (.bool false)))] [])
 (.seq (.region false [zo 10 (.faddr (.tmp 1) 0),
 zo 11 (.load (.tmp 10) 1 false),
 zo 12 (.callq 73 [.tmp 11]),
 zo 9 (.mov (.tmp 12)),
 zo 13 (.ext 9 0),
 zo 14 (.ext 9 1),
 zo 15 (.ext 9 2),
 zo 16 (.ext 9 3),
 zo 17 (.ext 9 4),
 zo 3 (.own 13),
 zo 4 (.own 14),
 zo 5 (.own 15),
 zo 6 (.own 16),
 zo 7 (.own 17)] [])
 (.seq (.seq (.region false [zo 18 (.faddr (.tmp 1) 3),
 zo 19 (.load (.tmp 18) 1 false),
 zo 20 (.lens false (.tmp 19)),
 zo 21 (.mov (.tmp 4)),
 zo 22 (.faddr (.tmp 1) 4),
 zo 23 (.load (.tmp 22) 1 false),
 zo 24 (.lens false (.tmp 23)),
 zo 25 (.mov (.tmp 5)),
 zo 26 (.faddr (.tmp 1) 8),
 zo 27 (.load (.tmp 26) 1 false),
 zo 28 (.lens false (.tmp 27)),
 zo 29 (.mov (.tmp 6)),
 zo 30 (.faddr (.tmp 1) 9),
 zo 31 (.load (.tmp 30) 1 false),
 zo 32 (.lens false (.tmp 31)),
 zo 33 (.mov (.tmp 7)),
 zo 34 (.bslice 1 [.int .i64 0, .int .i64 0, .int .i64 0, .int .i64 0, .int .i64 0, .int .i64 0, .int .i64 0, .int .i64 0] [(0, 1, .tmp 20), (1, 1, .tmp 21), (2, 1, .tmp 24), (3, 1, .tmp 25), (4, 1, .tmp 28), (5, 1, .tmp 29), (6, 1, .tmp 32), (7, 1, .tmp 33)]),
 zo 35 (.callq 74 [.tmp 34]),
 zo 36 (.not (.tmp 35)),
 zo 37 (.mov (.tmp 36)),
 zg 38 37 false (.faddr (.tmp 1) 3),
 zg 39 37 false (.load (.tmp 38) 1 false),
 zg 40 37 false (.callw 75 [.tmp 39, .cst (.fn 76 [] [])]),
 zo 41 (.pick (.tmp 37) (.cst (.bool true)) (.tmp 40))] [])
  (.cond (.tmp 41) (.seq (.region false [zo 2 (.mov (.cst (.bool false)))] [])
  .ret) .skip))
 (.seq (.region false [zo 42 (.faddr (.tmp 1) 1),
 zo 43 (.load (.tmp 42) 1 false),
 zo 44 (.bin .eql (.tmp 43) (.cst (.str []))),
 zo 8 (.own 44)] [])
 (.seq (.seq (.region false [zo 45 (.mov (.tmp 3)),
 zo 46 (.bin .and (.tmp 45) (.cst (.int .i64 1))),
 zo 47 (.bin .neq (.tmp 46) (.cst (.int .i64 0)))] [])
  (.cond (.tmp 47) (.region false [zo 48 (.faddr (.tmp 1) 1),
 zo 49 (.load (.tmp 48) 1 false),
 zo 50 (.callq 10 [.tmp 49]),
 zo 8 (.own 50)] []) .skip))
 (.seq (.seq (.region false [zo 51 (.mov (.tmp 3)),
 zo 52 (.bin .and (.tmp 51) (.cst (.int .i64 2))),
 zo 53 (.bin .neq (.tmp 52) (.cst (.int .i64 0)))] [])
  (.cond (.tmp 53) (.region false [zo 54 (.mov (.tmp 8)),
 zo 55 (.mov (.tmp 54)),
 zg 56 55 true (.faddr (.tmp 1) 2),
 zg 57 55 true (.load (.tmp 56) 1 false),
 zg 58 55 true (.bin .geq (.tmp 57) (.cst (.int .i64 1))),
 zo 59 (.pick (.tmp 55) (.tmp 58) (.cst (.bool false))),
 zo 60 (.mov (.tmp 59)),
 zg 61 60 true (.faddr (.tmp 1) 2),
 zg 62 60 true (.load (.tmp 61) 1 false),
 zg 63 60 true (.bin .leq (.tmp 62) (.cst (.int .i64 6))),
 zo 64 (.pick (.tmp 60) (.tmp 63) (.cst (.bool false))),
 zo 8 (.own 64)] []) (.region false [zo 65 (.mov (.tmp 8)),
 zo 66 (.mov (.tmp 65)),
 zg 67 66 true (.faddr (.tmp 1) 2),
 zg 68 66 true (.load (.tmp 67) 1 false),
 zg 69 66 true (.bin .eql (.tmp 68) (.cst (.int .i64 0))),
 zo 70 (.pick (.tmp 66) (.tmp 69) (.cst (.bool false))),
 zo 8 (.own 70)] [])))
 (.seq (.seq (.region false [zo 71 (.mov (.tmp 3)),
 zo 72 (.bin .and (.tmp 71) (.cst (.int .i64 4))),
 zo 73 (.bin .neq (.tmp 72) (.cst (.int .i64 0)))] [])
  (.cond (.tmp 73) (.seq (.region false [zo 74 (.mov (.tmp 8)),
 zo 75 (.mov (.tmp 74)),
 zg 76 75 true (.faddr (.tmp 1) 5),
 zg 77 75 true (.load (.tmp 76) 3 true),
 zg 78 75 true (.callq 77 [.tmp 77]),
 zo 79 (.pick (.tmp 75) (.tmp 78) (.cst (.bool false))),
 zo 2 (.own 79)] [])
  .ret) .skip))
 (.seq (.region false [zo 80 (.mov (.tmp 8)),
 zo 81 (.mov (.tmp 80)),
 zg 82 81 true (.faddr (.tmp 1) 5),
 zg 83 81 true (.load (.tmp 82) 3 true),
 zg 84 81 true (.build [.int .i64 0, .int .i64 0, .bool false] []),
 zg 85 81 true (.eqagg false [1, 1, 0] (.tmp 83) (.tmp 84)),
 zo 86 (.pick (.tmp 81) (.tmp 85) (.cst (.bool false))),
 zo 2 (.own 86)] [])
  .ret))))))))
/-- custos/ast.twice -/
def x61 : XFn := XFn.mk 6 [.tmp 2] (.seq (.region false [zo 1 (.box (.tmp 0) 1),
 zo 2 (.mov (.cst (.bool false)))] [])
 (.seq (.region false [zo 3 (.load (.tmp 1) 1 false),
 zo 4 (.mkfn 78 [] [.tmp 1]),
 zo 5 (.callw 75 [.tmp 3, .tmp 4]),
 zo 2 (.own 5)] [])
  .ret))
def x62_r0 : XCode := .seq (.region false [zo 11 (.bin .lss (.tmp 10) (.tmp 9))] [])
 (.seq (.cond (.tmp 11) .skip (.exit 0))
 (.seq (.block 1 (.seq (.region false [zo 12 (.iaddr 7 (.tmp 8) (.tmp 10)),
 zo 13 (.load (.tmp 12) 7 true),
 zo 7 (.alloc [.int .i64 0, .str [], .int .i64 0, .int .i64 0, .int .i64 0, .str [], .nilsl]),
 ⟨none, .store (.tmp 7) (.tmp 13) 7, none⟩] [])
  (.region false [zo 14 (.mov (.tmp 0)),
 zo 15 (.load (.tmp 7) 7 true),
 zo 16 (.mov (.tmp 1)),
 zo 17 (.calld (.tmp 14) [.tmp 15, .tmp 16])] [])))
  (.region false [zo 18 (.bin .add (.tmp 10) (.cst (.int .i64 1))),
 zo 10 (.mov (.tmp 18))] [])))
def x62_l0 : XCode := x62_r0
/-- custos/ast.all[custos/api.Term] -/
def x62 : XFn := XFn.mk 19 [] (.seq (.region false [zo 8 (.mov (.tmp 2)),
 zo 9 (.lens false (.tmp 8)),
 zo 10 (.mov (.cst (.int .i64 0)))] [])
  (.block 0 (.loop x62_l0)))
/-- (*custos/ast.walk).term -/
def x63 : XFn := XFn.mk 82 [] (.seq (.region false [zo 4 (.box (.tmp 1) 7)] [])
 (.seq (.seq (.region false [zo 9 (.mov (.tmp 0)),
 zo 10 (.mov (.tmp 2)),
 zo 11 (.callw 58 [.tmp 9, .tmp 10]),
 zo 12 (.not (.tmp 11)),
 zo 13 (.mov (.tmp 12)),
 zg 14 13 false (.mov (.tmp 0)),
 zg 15 13 false (.faddr (.tmp 4) 0),
 zg 16 13 false (.load (.tmp 15) 1 false),
 zg 17 13 false (.bin .geq (.tmp 16) (.cst (.int .i64 1))),
 zg 18 13 false (.mov (.tmp 17)),
 zg 19 18 true (.faddr (.tmp 4) 0),
 zg 20 18 true (.load (.tmp 19) 1 false),
 zg 21 18 true (.bin .leq (.tmp 20) (.cst (.int .i64 5))),
 zg 22 13 false (.pick (.tmp 18) (.tmp 21) (.cst (.bool false))),
 zg 23 13 false (.callw 49 [.tmp 14, .tmp 22, .cst (.int .i64 20)]),
 zg 24 13 false (.not (.tmp 23)),
 zo 25 (.pick (.tmp 13) (.cst (.bool true)) (.tmp 24))] [])
  (.cond (.tmp 25) .ret .skip))
 (.seq (.region false [zo 6 (.mov (.cst (.int .i64 0)))] [])
 (.seq (.seq (.region false [zo 26 (.faddr (.tmp 4) 0),
 zo 27 (.load (.tmp 26) 1 false),
 zo 28 (.bin .geq (.tmp 27) (.cst (.int .i64 3)))] [])
  (.cond (.tmp 28) (.region false [zo 6 (.mov (.cst (.int .i64 2)))] []) .skip))
 (.seq (.region false [zo 29 (.faddr (.tmp 4) 6),
 zo 30 (.load (.tmp 29) 1 false),
 zo 31 (.lens false (.tmp 30)),
 zo 32 (.mov (.tmp 6)),
 zo 33 (.bslice 1 [.int .i64 0, .int .i64 0] [(0, 1, .tmp 31), (1, 1, .tmp 32)]),
 zo 34 (.callq 74 [.tmp 33]),
 zo 35 (.mov (.tmp 34)),
 zg 36 35 true (.faddr (.tmp 4) 0),
 zg 37 35 true (.load (.tmp 36) 1 false),
 zg 38 35 true (.bin .eql (.tmp 37) (.cst (.int .i64 2))),
 zg 39 35 true (.mov (.tmp 38)),
 zg 40 39 false (.faddr (.tmp 4) 2),
 zg 41 39 false (.load (.tmp 40) 4 true),
 zg 42 39 false (.build [.int .i64 0, .int .i64 0, .int .i64 0, .str []] []),
 zg 43 39 false (.eqagg false [1, 1, 1, 2] (.tmp 41) (.tmp 42)),
 zg 44 35 true (.pick (.tmp 39) (.cst (.bool true)) (.tmp 43)),
 zo 45 (.pick (.tmp 35) (.tmp 44) (.cst (.bool false))),
 zo 7 (.own 45)] [])
 (.seq (.seq (.region false [zo 46 (.faddr (.tmp 4) 0),
 zo 47 (.load (.tmp 46) 1 false),
 zo 48 (.bin .eql (.tmp 47) (.cst (.int .i64 1)))] [])
  (.cond (.tmp 48) (.region false [zo 49 (.mov (.tmp 7)),
 zo 50 (.mov (.tmp 49)),
 zg 51 50 true (.faddr (.tmp 4) 1),
 zg 52 50 true (.load (.tmp 51) 1 false),
 zg 53 50 true (.callq 10 [.tmp 52]),
 zo 54 (.pick (.tmp 50) (.tmp 53) (.cst (.bool false))),
 zo 7 (.own 54)] []) (.region false [zo 55 (.mov (.tmp 7)),
 zo 56 (.mov (.tmp 55)),
 zg 57 56 true (.faddr (.tmp 4) 1),
 zg 58 56 true (.load (.tmp 57) 1 false),
 zg 59 56 true (.bin .eql (.tmp 58) (.cst (.str []))),
 zo 60 (.pick (.tmp 56) (.tmp 59) (.cst (.bool false))),
 zo 7 (.own 60)] [])))
 (.seq (.region false [zo 61 (.mov (.tmp 0)),
 zo 62 (.mov (.tmp 7)),
 zo 63 (.callw 49 [.tmp 61, .tmp 62, .cst (.int .i64 1)])] [])
 (.seq (.seq (.region false [zo 64 (.faddr (.tmp 4) 0),
 zo 65 (.load (.tmp 64) 1 false),
 zo 66 (.bin .eql (.tmp 65) (.cst (.int .i64 2)))] [])
  (.cond (.tmp 66) (.seq (.region false [zo 67 (.faddr (.tmp 4) 2),
 zo 68 (.load (.tmp 67) 4 true),
 zo 69 (.callq 80 [.tmp 68]),
 zo 8 (.own 69)] [])
  (.region false [zo 70 (.mov (.tmp 0)),
 zo 71 (.mov (.tmp 8)),
 zo 72 (.bin .eql (.tmp 71) (.cst (.int .i64 0))),
 zo 73 (.mov (.tmp 8)),
 zo 74 (.callw 49 [.tmp 70, .tmp 72, .tmp 73])] [])) .skip))
  (.region false [zo 75 (.mov (.tmp 0)),
 zo 76 (.mkfn 63 [.tmp 75] []),
 zo 77 (.mov (.tmp 2)),
 zo 78 (.bin .add (.tmp 77) (.cst (.int .i64 1))),
 zo 79 (.faddr (.tmp 4) 6),
 zo 80 (.load (.tmp 79) 1 false),
 zo 81 (.callw 62 [.tmp 76, .tmp 78, .tmp 80])] [])))))))))
def x64_r0 : XCode := .seq (.region false [zo 11 (.bin .lss (.tmp 10) (.tmp 9))] [])
 (.seq (.cond (.tmp 11) .skip (.exit 0))
 (.seq (.block 1 (.seq (.region false [zo 12 (.iaddr 3 (.tmp 8) (.tmp 10)),
 zo 13 (.load (.tmp 12) 3 true),
 zo 7 (.alloc [.int .i64 0, .nilsl, .nilsl]),
 ⟨none, .store (.tmp 7) (.tmp 13) 3, none⟩] [])
  (.region false [zo 14 (.mov (.tmp 0)),
 zo 15 (.load (.tmp 7) 3 true),
 zo 16 (.mov (.tmp 1)),
 zo 17 (.calld (.tmp 14) [.tmp 15, .tmp 16])] [])))
  (.region false [zo 18 (.bin .add (.tmp 10) (.cst (.int .i64 1))),
 zo 10 (.mov (.tmp 18))] [])))
def x64_l0 : XCode := x64_r0
/-- custos/ast.all[custos/api.Regex] -/
def x64 : XFn := XFn.mk 19 [] (.seq (.region false [zo 8 (.mov (.tmp 2)),
 zo 9 (.lens false (.tmp 8)),
 zo 10 (.mov (.cst (.int .i64 0)))] [])
  (.block 0 (.loop x64_l0)))
/-- (*custos/ast.walk).regex -/
def x65 : XFn := XFn.mk 60 [] (.seq (.region false [zo 4 (.box (.tmp 1) 3)] [])
 (.seq (.seq (.region false [zo 8 (.mov (.tmp 0)),
 zo 9 (.mov (.tmp 2)),
 zo 10 (.callw 58 [.tmp 8, .tmp 9]),
 zo 11 (.not (.tmp 10)),
 zo 12 (.mov (.tmp 11)),
 zg 13 12 false (.mov (.tmp 0)),
 zg 14 12 false (.faddr (.tmp 4) 0),
 zg 15 12 false (.load (.tmp 14) 1 false),
 zg 16 12 false (.bin .geq (.tmp 15) (.cst (.int .i64 1))),
 zg 17 12 false (.mov (.tmp 16)),
 zg 18 17 true (.faddr (.tmp 4) 0),
 zg 19 17 true (.load (.tmp 18) 1 false),
 zg 20 17 true (.bin .leq (.tmp 19) (.cst (.int .i64 5))),
 zg 21 12 false (.pick (.tmp 17) (.tmp 20) (.cst (.bool false))),
 zg 22 12 false (.callw 49 [.tmp 13, .tmp 21, .cst (.int .i64 20)]),
 zg 23 12 false (.not (.tmp 22)),
 zo 24 (.pick (.tmp 12) (.cst (.bool true)) (.tmp 23))] [])
  (.cond (.tmp 24) .ret .skip))
 (.seq (.region false [zo 6 (.mov (.cst (.int .i64 0))),
 zo 7 (.mov (.cst (.int .i64 0)))] [])
 (.seq (.seq (.region false [zo 25 (.faddr (.tmp 4) 0),
 zo 26 (.load (.tmp 25) 1 false)] [])
  (.block 0 (.seq (.region false [zo 28 (.bin .eql (.tmp 26) (.cst (.int .i64 2))),
 zo 27 (.own 28)] [])
  (.cond (.tmp 27) (.region false [zo 6 (.mov (.cst (.int .i64 1)))] []) (.seq (.seq (.region false [zo 30 (.bin .eql (.tmp 26) (.cst (.int .i64 3))),
 zo 29 (.own 30)] [])
  (.cond (.tmp 29) .skip (.region false [zo 31 (.bin .eql (.tmp 26) (.cst (.int .i64 4))),
 zo 29 (.own 31)] [])))
  (.cond (.tmp 29) (.region false [zo 7 (.mov (.cst (.int .i64 2)))] []) (.seq (.region false [zo 33 (.bin .eql (.tmp 26) (.cst (.int .i64 5))),
 zo 32 (.own 33)] [])
  (.cond (.tmp 32) (.region false [zo 7 (.mov (.cst (.int .i64 1)))] []) .skip))))))))
 (.seq (.region false [zo 34 (.mov (.tmp 0)),
 zo 35 (.faddr (.tmp 4) 1),
 zo 36 (.load (.tmp 35) 1 false),
 zo 37 (.lens false (.tmp 36)),
 zo 38 (.mov (.tmp 6)),
 zo 39 (.faddr (.tmp 4) 2),
 zo 40 (.load (.tmp 39) 1 false),
 zo 41 (.lens false (.tmp 40)),
 zo 42 (.mov (.tmp 7)),
 zo 43 (.bslice 1 [.int .i64 0, .int .i64 0, .int .i64 0, .int .i64 0] [(0, 1, .tmp 37), (1, 1, .tmp 38), (2, 1, .tmp 41), (3, 1, .tmp 42)]),
 zo 44 (.callq 74 [.tmp 43]),
 zo 45 (.callw 49 [.tmp 34, .tmp 44, .cst (.int .i64 1)])] [])
  (.cond (.tmp 45) (.seq (.region false [zo 46 (.mov (.tmp 0)),
 zo 47 (.mkfn 48 [.tmp 46] []),
 zo 48 (.mov (.tmp 2)),
 zo 49 (.bin .add (.tmp 48) (.cst (.int .i64 1))),
 zo 50 (.faddr (.tmp 4) 1),
 zo 51 (.load (.tmp 50) 1 false),
 zo 52 (.callw 66 [.tmp 47, .tmp 49, .tmp 51])] [])
  (.region false [zo 53 (.mov (.tmp 0)),
 zo 54 (.mkfn 65 [.tmp 53] []),
 zo 55 (.mov (.tmp 2)),
 zo 56 (.bin .add (.tmp 55) (.cst (.int .i64 1))),
 zo 57 (.faddr (.tmp 4) 2),
 zo 58 (.load (.tmp 57) 1 false),
 zo 59 (.callw 64 [.tmp 54, .tmp 56, .tmp 58])] [])) .skip))))))
def x66_r0 : XCode := .seq (.region false [zo 11 (.bin .lss (.tmp 10) (.tmp 9))] [])
 (.seq (.cond (.tmp 11) .skip (.exit 0))
 (.seq (.block 1 (.seq (.region false [zo 12 (.iaddr 10 (.tmp 8) (.tmp 10)),
 zo 13 (.load (.tmp 12) 10 true),
 zo 7 (.alloc [.int .i64 0, .str [], .int .i64 0, .nilsl, .nilsl, .int .i64 0, .int .i64 0, .bool false, .nilsl, .nilsl]),
 ⟨none, .store (.tmp 7) (.tmp 13) 10, none⟩] [])
  (.region false [zo 14 (.mov (.tmp 0)),
 zo 15 (.load (.tmp 7) 10 true),
 zo 16 (.mov (.tmp 1)),
 zo 17 (.calld (.tmp 14) [.tmp 15, .tmp 16])] [])))
  (.region false [zo 18 (.bin .add (.tmp 10) (.cst (.int .i64 1))),
 zo 10 (.mov (.tmp 18))] [])))
def x66_l0 : XCode := x66_r0
/-- custos/ast.all[custos/api.Formula] -/
def x66 : XFn := XFn.mk 19 [] (.seq (.region false [zo 8 (.mov (.tmp 2)),
 zo 9 (.lens false (.tmp 8)),
 zo 10 (.mov (.cst (.int .i64 0)))] [])
  (.block 0 (.loop x66_l0)))
def x68_r0 : XCode := .seq (.region false [zo 9 (.bin .lss (.tmp 8) (.tmp 7))] [])
 (.seq (.cond (.tmp 9) .skip (.exit 0))
 (.seq (.block 1 (.seq (.region false [zo 10 (.mov (.tmp 8)),
 zo 5 (.own 10)] [])
 (.seq (.region false [zo 11 (.mov (.tmp 1)),
 zo 12 (.mov (.tmp 0)),
 zo 13 (.mov (.tmp 5)),
 zo 14 (.iaddr 1 (.tmp 12) (.tmp 13)),
 zo 15 (.load (.tmp 14) 1 false),
 zo 16 (.calld (.tmp 11) [.tmp 15])] [])
  (.cond (.tmp 16) (.seq (.region false [zo 17 (.mov (.tmp 5)),
 zo 4 (.own 17)] [])
  .ret) .skip))))
  (.region false [zo 18 (.bin .add (.tmp 8) (.cst (.int .i64 1))),
 zo 8 (.mov (.tmp 18))] [])))
def x68_l0 : XCode := x68_r0
/-- slices.IndexFunc[[]string,string] -/
def x68 : XFn := XFn.mk 19 [.tmp 4] (.seq (.region false [zo 4 (.mov (.cst (.int .i64 0)))] [])
 (.seq (.seq (.region false [zo 6 (.mov (.tmp 0)),
 zo 7 (.lens false (.tmp 6)),
 zo 8 (.mov (.cst (.int .i64 0)))] [])
  (.block 0 (.loop x68_l0)))
 (.seq (.region false [zo 4 (.mov (.cst (.int .i64 (-1))))] [])
  .ret)))
def x69_r0 : XCode := .seq (.region false [zo 9 (.bin .lss (.tmp 8) (.tmp 7))] [])
 (.seq (.cond (.tmp 9) .skip (.exit 0))
 (.seq (.block 1 (.seq (.region false [zo 10 (.mov (.tmp 8)),
 zo 5 (.own 10)] [])
 (.seq (.region false [zo 11 (.mov (.tmp 1)),
 zo 12 (.mov (.tmp 0)),
 zo 13 (.mov (.tmp 5)),
 zo 14 (.iaddr 1 (.tmp 12) (.tmp 13)),
 zo 15 (.load (.tmp 14) 1 false),
 zo 16 (.bin .eql (.tmp 11) (.tmp 15))] [])
  (.cond (.tmp 16) (.seq (.region false [zo 17 (.mov (.tmp 5)),
 zo 4 (.own 17)] [])
  .ret) .skip))))
  (.region false [zo 18 (.bin .add (.tmp 8) (.cst (.int .i64 1))),
 zo 8 (.mov (.tmp 18))] [])))
def x69_l0 : XCode := x69_r0
/-- slices.Index[[]string,string] -/
def x69 : XFn := XFn.mk 19 [.tmp 4] (.seq (.region false [zo 4 (.mov (.cst (.int .i64 0)))] [])
 (.seq (.seq (.region false [zo 6 (.mov (.tmp 0)),
 zo 7 (.lens false (.tmp 6)),
 zo 8 (.mov (.cst (.int .i64 0)))] [])
  (.block 0 (.loop x69_l0)))
 (.seq (.region false [zo 4 (.mov (.cst (.int .i64 (-1))))] [])
  .ret)))
/-- slices.Clone[[]custos/api.Formula,custos/api.Formula] -/
def x72 : XFn := XFn.mk 8 [.tmp 2] (.seq (.region false [zo 2 (.mov (.cst .nilsl))] [])
 (.seq (.seq (.region false [zo 3 (.mov (.tmp 0)),
 zo 4 (.eqnil 1 false (.tmp 3))] [])
  (.cond (.tmp 4) (.seq (.region false [zo 2 (.mov (.cst .nilsl))] [])
  .ret) .skip))
 (.seq (.region false [zo 5 (.bslice 10 [] []),
 zo 6 (.mov (.tmp 0)),
 zo 7 (.app false 10 152 5 (.tmp 6)),
 zo 2 (.own 7)] [])
  .ret)))
/-- custos/ast.form -/
def x73 : XFn := XFn.mk 39 [.tmp 2, .tmp 3, .tmp 4, .tmp 5, .tmp 6] (.seq (.region false [zo 2 (.mov (.cst (.int .i64 0))),
 zo 3 (.mov (.cst (.int .i64 0))),
 zo 4 (.mov (.cst (.int .i64 0))),
 zo 5 (.mov (.cst (.int .i64 0))),
 zo 6 (.mov (.cst (.int .i64 0)))] [])
 (.seq (.seq (.region false [zo 7 (.mov (.tmp 0))] [])
  (.block 0 (.seq (.region false [zo 9 (.bin .eql (.tmp 7) (.cst (.int .i64 3))),
 zo 8 (.own 9)] [])
  (.cond (.tmp 8) (.seq (.region false [zo 2 (.mov (.cst (.int .i64 1))),
 zo 3 (.mov (.cst (.int .i64 0))),
 zo 4 (.mov (.cst (.int .i64 (-2)))),
 zo 5 (.mov (.cst (.int .i64 0))),
 zo 6 (.mov (.cst (.int .i64 0)))] [])
  .ret) (.seq (.seq (.region false [zo 11 (.bin .eql (.tmp 7) (.cst (.int .i64 4))),
 zo 10 (.own 11)] [])
  (.cond (.tmp 10) .skip (.seq (.region false [zo 12 (.bin .eql (.tmp 7) (.cst (.int .i64 5))),
 zo 10 (.own 12)] [])
  (.cond (.tmp 10) .skip (.region false [zo 13 (.bin .eql (.tmp 7) (.cst (.int .i64 6))),
 zo 10 (.own 13)] [])))))
  (.cond (.tmp 10) (.seq (.region false [zo 2 (.mov (.cst (.int .i64 0))),
 zo 3 (.mov (.cst (.int .i64 0))),
 zo 4 (.mov (.cst (.int .i64 2))),
 zo 5 (.mov (.cst (.int .i64 0))),
 zo 6 (.mov (.cst (.int .i64 0)))] [])
  .ret) (.seq (.region false [zo 15 (.bin .eql (.tmp 7) (.cst (.int .i64 7))),
 zo 14 (.own 15)] [])
  (.cond (.tmp 14) (.seq (.region false [zo 2 (.mov (.cst (.int .i64 0))),
 zo 3 (.mov (.cst (.int .i64 0))),
 zo 4 (.mov (.cst (.int .i64 0))),
 zo 5 (.mov (.cst (.int .i64 1))),
 zo 6 (.mov (.cst (.int .i64 0)))] [])
  .ret) (.seq (.seq (.region false [zo 17 (.bin .eql (.tmp 7) (.cst (.int .i64 8))),
 zo 16 (.own 17)] [])
  (.cond (.tmp 16) .skip (.region false [zo 18 (.bin .eql (.tmp 7) (.cst (.int .i64 9))),
 zo 16 (.own 18)] [])))
  (.cond (.tmp 16) (.seq (.region false [zo 2 (.mov (.cst (.int .i64 0))),
 zo 3 (.mov (.cst (.int .i64 0))),
 zo 4 (.mov (.cst (.int .i64 0))),
 zo 5 (.mov (.cst (.int .i64 2))),
 zo 6 (.mov (.cst (.int .i64 0)))] [])
  .ret) (.seq (.region false [zo 20 (.bin .eql (.tmp 7) (.cst (.int .i64 10))),
 zo 19 (.own 20)] [])
  (.cond (.tmp 19) (.seq (.region false [zo 2 (.mov (.cst (.int .i64 0))),
 zo 3 (.mov (.cst (.int .i64 (-1)))),
 zo 4 (.mov (.cst (.int .i64 0))),
 zo 5 (.mov (.cst (.int .i64 1))),
 zo 6 (.mov (.cst (.int .i64 0)))] [])
  .ret) (.seq (.seq (.region false [zo 22 (.bin .eql (.tmp 7) (.cst (.int .i64 11))),
 zo 21 (.own 22)] [])
  (.cond (.tmp 21) .skip (.seq (.region false [zo 23 (.bin .eql (.tmp 7) (.cst (.int .i64 12))),
 zo 21 (.own 23)] [])
  (.cond (.tmp 21) .skip (.seq (.region false [zo 24 (.bin .eql (.tmp 7) (.cst (.int .i64 13))),
 zo 21 (.own 24)] [])
  (.cond (.tmp 21) .skip (.region false [zo 25 (.bin .eql (.tmp 7) (.cst (.int .i64 14))),
 zo 21 (.own 25)] [])))))))
  (.cond (.tmp 21) (.seq (.region false [zo 2 (.mov (.cst (.int .i64 4))),
 zo 3 (.mov (.cst (.int .i64 0))),
 zo 4 (.mov (.cst (.int .i64 0))),
 zo 5 (.mov (.cst (.int .i64 1))),
 zo 6 (.mov (.cst (.int .i64 0)))] [])
  .ret) (.seq (.seq (.region false [zo 27 (.bin .eql (.tmp 7) (.cst (.int .i64 15))),
 zo 26 (.own 27)] [])
  (.cond (.tmp 26) .skip (.region false [zo 28 (.bin .eql (.tmp 7) (.cst (.int .i64 16))),
 zo 26 (.own 28)] [])))
  (.cond (.tmp 26) (.seq (.region false [zo 2 (.mov (.cst (.int .i64 4))),
 zo 3 (.mov (.cst (.int .i64 0))),
 zo 4 (.mov (.cst (.int .i64 0))),
 zo 5 (.mov (.cst (.int .i64 2))),
 zo 6 (.mov (.cst (.int .i64 0)))] [])
  .ret) (.seq (.seq (.region false [zo 30 (.bin .eql (.tmp 7) (.cst (.int .i64 17))),
 zo 29 (.own 30)] [])
  (.cond (.tmp 29) .skip (.region false [zo 31 (.bin .eql (.tmp 7) (.cst (.int .i64 18))),
 zo 29 (.own 31)] [])))
  (.cond (.tmp 29) (.seq (.region false [zo 2 (.mov (.cst (.int .i64 4))),
 zo 3 (.mov (.cst (.int .i64 0))),
 zo 4 (.mov (.cst (.int .i64 0))),
 zo 5 (.mov (.cst (.int .i64 0))),
 zo 6 (.mov (.cst (.int .i64 1)))] [])
  .ret) (.seq (.region false [zo 33 (.bin .eql (.tmp 7) (.cst (.int .i64 19))),
 zo 32 (.own 33)] [])
  (.cond (.tmp 32) (.seq (.region false [zo 2 (.mov (.cst (.int .i64 3))),
 zo 3 (.mov (.cst (.int .i64 (-1)))),
 zo 4 (.mov (.cst (.int .i64 0))),
 zo 5 (.mov (.cst (.int .i64 1))),
 zo 6 (.mov (.cst (.int .i64 0)))] [])
  .ret) (.seq (.seq (.region false [zo 35 (.bin .eql (.tmp 7) (.cst (.int .i64 20))),
 zo 34 (.own 35)] [])
  (.cond (.tmp 34) .skip (.region false [zo 36 (.bin .eql (.tmp 7) (.cst (.int .i64 21))),
 zo 34 (.own 36)] [])))
  (.cond (.tmp 34) (.seq (.region false [zo 2 (.mov (.cst (.int .i64 1))),
 zo 3 (.mov (.cst (.int .i64 (-2)))),
 zo 4 (.mov (.cst (.int .i64 0))),
 zo 5 (.mov (.cst (.int .i64 2))),
 zo 6 (.mov (.cst (.int .i64 0)))] [])
  .ret) (.seq (.region false [zo 38 (.bin .eql (.tmp 7) (.cst (.int .i64 22))),
 zo 37 (.own 38)] [])
  (.cond (.tmp 37) (.seq (.region false [zo 2 (.mov (.cst (.int .i64 0))),
 zo 3 (.mov (.cst (.int .i64 0))),
 zo 4 (.mov (.cst (.int .i64 0))),
 zo 5 (.mov (.cst (.int .i64 (-1)))),
 zo 6 (.mov (.cst (.int .i64 0)))] [])
  .ret) .skip))))))))))))))))))))))))
 (.seq (.region false [zo 2 (.mov (.cst (.int .i64 0))),
 zo 3 (.mov (.cst (.int .i64 0))),
 zo 4 (.mov (.cst (.int .i64 0))),
 zo 5 (.mov (.cst (.int .i64 0))),
 zo 6 (.mov (.cst (.int .i64 0)))] [])
  .ret)))
def x74_r0 : XCode := .seq (.seq (.region false [zo 6 (.mov (.tmp 3)),
 zo 7 (.mov (.tmp 0)),
 zo 8 (.lens false (.tmp 7)),
 zo 9 (.bin .lss (.tmp 6) (.tmp 8))] [])
  (.cond (.tmp 9) .skip (.exit 0)))
 (.seq (.block 1 (.seq (.region true [zo 12 (.mov (.tmp 0)),
 zo 13 (.mov (.tmp 3)),
 zo 14 (.iaddr 1 (.tmp 12) (.tmp 13)),
 zo 15 (.load (.tmp 14) 1 false),
 zo 16 (.mov (.tmp 0)),
 zo 17 (.mov (.tmp 3)),
 zo 18 (.bin .add (.tmp 17) (.cst (.int .i64 1))),
 zo 19 (.iaddr 1 (.tmp 16) (.tmp 18)),
 zo 20 (.load (.tmp 19) 1 false),
 zo 4 (.own 15),
 zo 5 (.own 20)] [])
 (.seq (.region false [zo 21 (.mov (.tmp 5)),
 zo 22 (.bin .geq (.tmp 21) (.cst (.int .i64 0))),
 zo 23 (.mov (.tmp 22)),
 zg 24 23 true (.mov (.tmp 4)),
 zg 25 23 true (.mov (.tmp 5)),
 zg 26 23 true (.bin .neq (.tmp 24) (.tmp 25)),
 zo 27 (.pick (.tmp 23) (.tmp 26) (.cst (.bool false))),
 zo 28 (.mov (.tmp 27)),
 zg 29 28 false (.mov (.tmp 5)),
 zg 30 28 false (.bin .eql (.tmp 29) (.cst (.int .i64 (-1)))),
 zg 31 28 false (.mov (.tmp 30)),
 zg 32 31 true (.mov (.tmp 4)),
 zg 33 31 true (.bin .eql (.tmp 32) (.cst (.int .i64 0))),
 zg 34 28 false (.pick (.tmp 31) (.tmp 33) (.cst (.bool false))),
 zo 35 (.pick (.tmp 28) (.cst (.bool true)) (.tmp 34))] [])
  (.cond (.tmp 35) (.seq (.region false [zo 2 (.mov (.cst (.bool false)))] [])
  .ret) .skip))))
  (.region false [zo 10 (.mov (.tmp 3)),
 zo 11 (.bin .add (.tmp 10) (.cst (.int .i64 2))),
 zo 3 (.own 11)] []))
def x74_l0 : XCode := x74_r0
/-- custos/ast.count -/
def x74 : XFn := XFn.mk 36 [.tmp 2] (.seq (.region false [zo 2 (.mov (.cst (.bool false)))] [])
 (.seq (.seq (.region false [zo 3 (.mov (.cst (.int .i64 0)))] [])
  (.block 0 (.loop x74_l0)))
 (.seq (.region false [zo 2 (.mov (.cst (.bool true)))] [])
  .ret)))
/-- slices.ContainsFunc[[]string,string] -/
def x75 : XFn := XFn.mk 9 [.tmp 4] (.seq (.region false [zo 4 (.mov (.cst (.bool false)))] [])
 (.seq (.region false [zo 5 (.mov (.tmp 0)),
 zo 6 (.mov (.tmp 1)),
 zo 7 (.callw 68 [.tmp 5, .tmp 6]),
 zo 8 (.bin .geq (.tmp 7) (.cst (.int .i64 0))),
 zo 4 (.own 8)] [])
  .ret))
/-- custos/ast.formed$1 -/
def x76 : XFn := XFn.mk 6 [.tmp 2] (.seq (.region false [zo 2 (.mov (.cst (.bool false)))] [])
 (.seq (.region false [zo 3 (.mov (.tmp 0)),
 zo 4 (.callq 10 [.tmp 3]),
 zo 5 (.not (.tmp 4)),
 zo 2 (.own 5)] [])
  .ret))
/-- custos/ast.interval -/
def x77 : XFn := XFn.mk 33 [.tmp 2] (.seq (.region false [zo 1 (.box (.tmp 0) 3),
 zo 2 (.mov (.cst (.bool false)))] [])
 (.seq (.seq (.region false [zo 3 (.faddr (.tmp 1) 2),
 zo 4 (.load (.tmp 3) 1 false)] [])
  (.cond (.tmp 4) (.seq (.region false [zo 5 (.faddr (.tmp 1) 0),
 zo 6 (.load (.tmp 5) 1 false),
 zo 7 (.bin .geq (.tmp 6) (.cst (.int .i64 0))),
 zo 8 (.mov (.tmp 7)),
 zg 9 8 true (.faddr (.tmp 1) 0),
 zg 10 8 true (.load (.tmp 9) 1 false),
 zg 11 8 true (.bin .leq (.tmp 10) (.cst (.int .i64 1099511627776))),
 zo 12 (.pick (.tmp 8) (.tmp 11) (.cst (.bool false))),
 zo 13 (.mov (.tmp 12)),
 zg 14 13 true (.faddr (.tmp 1) 1),
 zg 15 13 true (.load (.tmp 14) 1 false),
 zg 16 13 true (.bin .eql (.tmp 15) (.cst (.int .i64 0))),
 zo 17 (.pick (.tmp 13) (.tmp 16) (.cst (.bool false))),
 zo 2 (.own 17)] [])
  .ret) .skip))
 (.seq (.region false [zo 18 (.faddr (.tmp 1) 0),
 zo 19 (.load (.tmp 18) 1 false),
 zo 20 (.bin .geq (.tmp 19) (.cst (.int .i64 0))),
 zo 21 (.mov (.tmp 20)),
 zg 22 21 true (.faddr (.tmp 1) 0),
 zg 23 21 true (.load (.tmp 22) 1 false),
 zg 24 21 true (.faddr (.tmp 1) 1),
 zg 25 21 true (.load (.tmp 24) 1 false),
 zg 26 21 true (.bin .leq (.tmp 23) (.tmp 25)),
 zo 27 (.pick (.tmp 21) (.tmp 26) (.cst (.bool false))),
 zo 28 (.mov (.tmp 27)),
 zg 29 28 true (.faddr (.tmp 1) 1),
 zg 30 28 true (.load (.tmp 29) 1 false),
 zg 31 28 true (.bin .leq (.tmp 30) (.cst (.int .i64 1099511627776))),
 zo 32 (.pick (.tmp 28) (.tmp 31) (.cst (.bool false))),
 zo 2 (.own 32)] [])
  .ret)))
/-- custos/ast.twice$1 -/
def x78 : XFn := XFn.mk 11 [.tmp 3] (.seq (.region false [zo 3 (.mov (.cst (.bool false)))] [])
 (.seq (.region true [zo 4 (.load (.tmp 1) 1 false),
 zo 5 (.mov (.tmp 0)),
 zo 6 (.callq 69 [.tmp 4, .tmp 5]),
 zo 7 (.load (.tmp 1) 1 false),
 zo 8 (.mov (.tmp 0)),
 zo 9 (.callq 79 [.tmp 7, .tmp 8]),
 zo 10 (.bin .neq (.tmp 6) (.tmp 9)),
 zo 3 (.own 10)] [])
  .ret))
def x79_r0 : XCode := .seq (.seq (.region false [zo 9 (.mov (.tmp 5)),
 zo 10 (.bin .geq (.tmp 9) (.cst (.int .i64 0)))] [])
  (.cond (.tmp 10) .skip (.exit 0)))
 (.seq (.block 1 (.seq (.region false [zo 13 (.mov (.tmp 0)),
 zo 14 (.mov (.tmp 5)),
 zo 15 (.iaddr 1 (.tmp 13) (.tmp 14)),
 zo 16 (.load (.tmp 15) 1 false),
 zo 17 (.mov (.tmp 1)),
 zo 18 (.bin .eql (.tmp 16) (.tmp 17))] [])
  (.cond (.tmp 18) (.seq (.region false [zo 19 (.mov (.tmp 5)),
 zo 4 (.own 19)] [])
  .ret) .skip)))
  (.region false [zo 11 (.mov (.tmp 5)),
 zo 12 (.bin .sub (.tmp 11) (.cst (.int .i64 1))),
 zo 5 (.own 12)] []))
def x79_l0 : XCode := x79_r0
/-- custos/ast.lastIndex -/
def x79 : XFn := XFn.mk 20 [.tmp 4] (.seq (.region false [zo 4 (.mov (.cst (.int .i64 0)))] [])
 (.seq (.seq (.region false [zo 6 (.mov (.tmp 0)),
 zo 7 (.lens false (.tmp 6)),
 zo 8 (.bin .sub (.tmp 7) (.cst (.int .i64 1))),
 zo 5 (.own 8)] [])
  (.block 0 (.loop x79_l0)))
 (.seq (.region false [zo 4 (.mov (.cst (.int .i64 (-1))))] [])
  .ret)))
/-- custos/value.Check -/
def x80 : XFn := XFn.mk 58 [.tmp 2] (.seq (.region false [zo 1 (.box (.tmp 0) 4),
 zo 2 (.mov (.cst (.int .i64 0)))] [])
 (.seq (.region false [zo 3 (.mov (.cst (.bool false)))] [])
 (.seq (.seq (.region false [zo 6 (.faddr (.tmp 1) 0),
 zo 7 (.load (.tmp 6) 1 false)] [])
  (.block 0 (.seq (.region false [zo 9 (.bin .eql (.tmp 7) (.cst (.int .i64 1))),
 zo 8 (.own 9)] [])
  (.cond (.tmp 8) (.region false [zo 10 (.faddr (.tmp 1) 2),
 zo 11 (.load (.tmp 10) 1 false),
 zo 12 (.bin .neq (.tmp 11) (.cst (.int .i64 0))),
 zo 13 (.mov (.tmp 12)),
 zg 14 13 false (.faddr (.tmp 1) 3),
 zg 15 13 false (.load (.tmp 14) 1 false),
 zg 16 13 false (.bin .neq (.tmp 15) (.cst (.str []))),
 zo 17 (.pick (.tmp 13) (.cst (.bool true)) (.tmp 16)),
 zo 3 (.own 17)] []) (.seq (.region false [zo 19 (.bin .eql (.tmp 7) (.cst (.int .i64 2))),
 zo 18 (.own 19)] [])
  (.cond (.tmp 18) (.seq (.region false [zo 21 (.faddr (.tmp 1) 1),
 zo 22 (.load (.tmp 21) 1 false),
 zo 23 (.faddr (.tmp 1) 2),
 zo 24 (.load (.tmp 23) 1 false),
 zo 25 (.callq 92 [.tmp 22, .tmp 24]),
 zo 20 (.mov (.tmp 25)),
 zo 26 (.ext 20 0),
 zo 27 (.ext 20 1),
 zo 4 (.alloc [.int .i64 0, .int .i64 0]),
 ⟨none, .store (.tmp 4) (.tmp 26) 2, none⟩,
 zo 5 (.own 27)] [])
  (.region true [zo 28 (.faddr (.tmp 1) 3),
 zo 29 (.load (.tmp 28) 1 false),
 zo 30 (.bin .neq (.tmp 29) (.cst (.str []))),
 zo 31 (.mov (.tmp 30)),
 zg 32 31 false (.mov (.tmp 5)),
 zg 33 31 false (.bin .neq (.tmp 32) (.cst (.int .i64 0))),
 zo 34 (.pick (.tmp 31) (.cst (.bool true)) (.tmp 33)),
 zo 35 (.mov (.tmp 34)),
 zg 36 35 false (.load (.tmp 4) 2 true),
 zg 37 35 false (.load (.tmp 1) 4 true),
 zg 38 35 false (.callq 93 [.tmp 37]),
 zg 39 35 false (.eqagg true [1, 1] (.tmp 36) (.tmp 38)),
 zo 40 (.pick (.tmp 35) (.cst (.bool true)) (.tmp 39)),
 zo 3 (.own 40)] [])) (.seq (.region false [zo 42 (.bin .eql (.tmp 7) (.cst (.int .i64 3))),
 zo 41 (.own 42)] [])
  (.cond (.tmp 41) (.region false [zo 43 (.faddr (.tmp 1) 1),
 zo 44 (.load (.tmp 43) 1 false),
 zo 45 (.bin .neq (.tmp 44) (.cst (.int .i64 0))),
 zo 46 (.mov (.tmp 45)),
 zg 47 46 false (.faddr (.tmp 1) 2),
 zg 48 46 false (.load (.tmp 47) 1 false),
 zg 49 46 false (.bin .neq (.tmp 48) (.cst (.int .i64 0))),
 zo 50 (.pick (.tmp 46) (.cst (.bool true)) (.tmp 49)),
 zo 3 (.own 50)] []) (.region false [zo 3 (.mov (.cst (.bool true)))] [])))))))))
 (.seq (.block 1 (.seq (.region false [zo 52 (.mov (.tmp 3)),
 zo 51 (.own 52)] [])
  (.cond (.tmp 51) (.seq (.region false [zo 2 (.mov (.cst (.int .i64 20)))] [])
  .ret) (.seq (.region false [zo 54 (.faddr (.tmp 1) 3),
 zo 55 (.load (.tmp 54) 1 false),
 zo 56 (.lens true (.tmp 55)),
 zo 57 (.bin .gtr (.tmp 56) (.cst (.int .i64 64))),
 zo 53 (.own 57)] [])
  (.cond (.tmp 53) (.seq (.region false [zo 2 (.mov (.cst (.int .i64 2)))] [])
  .ret) .skip)))))
 (.seq (.region false [zo 2 (.mov (.cst (.int .i64 0)))] [])
  .ret)))))
/-- custos/rat.Of -/
def x92 : XFn := XFn.mk 64 [.cell 4 2 true, .tmp 5] (.seq (.region false [zo 4 (.alloc [.int .i64 0, .int .i64 0]),
 zo 5 (.mov (.cst (.int .i64 0)))] [])
 (.seq (.seq (.region false [zo 10 (.mov (.tmp 1)),
 zo 11 (.bin .eql (.tmp 10) (.cst (.int .i64 0)))] [])
  (.cond (.tmp 11) (.seq (.region false [zo 12 (.build [.int .i64 0, .int .i64 0] []),
 ⟨none, .store (.tmp 4) (.tmp 12) 2, none⟩,
 zo 5 (.mov (.cst (.int .i64 11)))] [])
  .ret) .skip))
 (.seq (.region false [zo 13 (.mov (.tmp 0)),
 zo 14 (.callq 101 [.tmp 13]),
 zo 15 (.mov (.tmp 1)),
 zo 16 (.callq 101 [.tmp 15]),
 zo 17 (.callq 100 [.tmp 14, .tmp 16]),
 zo 6 (.own 17)] [])
 (.seq (.region true [zo 18 (.mov (.tmp 0)),
 zo 19 (.callq 101 [.tmp 18]),
 zo 20 (.mov (.tmp 6)),
 zo 21 (.bin .quo (.tmp 19) (.tmp 20)),
 zo 22 (.mov (.tmp 1)),
 zo 23 (.callq 101 [.tmp 22]),
 zo 24 (.mov (.tmp 6)),
 zo 25 (.bin .quo (.tmp 23) (.tmp 24)),
 zo 7 (.own 21),
 zo 8 (.own 25)] [])
 (.seq (.region false [zo 26 (.mov (.tmp 0)),
 zo 27 (.bin .neq (.tmp 26) (.cst (.int .i64 0))),
 zo 28 (.mov (.tmp 27)),
 zg 29 28 true (.mov (.tmp 0)),
 zg 30 28 true (.bin .lss (.tmp 29) (.cst (.int .i64 0))),
 zg 31 28 true (.mov (.tmp 1)),
 zg 32 28 true (.bin .lss (.tmp 31) (.cst (.int .i64 0))),
 zg 33 28 true (.beq true (.tmp 30) (.tmp 32)),
 zo 34 (.pick (.tmp 28) (.tmp 33) (.cst (.bool false))),
 zo 9 (.own 34)] [])
 (.seq (.seq (.region false [zo 35 (.mov (.tmp 8)),
 zo 36 (.bin .gtr (.tmp 35) (.cst (.int .u64 9223372036854775807))),
 zo 37 (.mov (.tmp 36)),
 zg 38 37 false (.mov (.tmp 7)),
 zg 39 37 false (.bin .gtr (.tmp 38) (.cst (.int .u64 9223372036854775808))),
 zo 40 (.pick (.tmp 37) (.cst (.bool true)) (.tmp 39)),
 zo 41 (.mov (.tmp 40)),
 zg 42 41 false (.mov (.tmp 7)),
 zg 43 41 false (.bin .eql (.tmp 42) (.cst (.int .u64 9223372036854775808))),
 zg 44 41 false (.mov (.tmp 43)),
 zg 45 44 true (.mov (.tmp 9)),
 zg 46 44 true (.not (.tmp 45)),
 zg 47 41 false (.pick (.tmp 44) (.tmp 46) (.cst (.bool false))),
 zo 48 (.pick (.tmp 41) (.cst (.bool true)) (.tmp 47))] [])
  (.cond (.tmp 48) (.seq (.region false [zo 49 (.build [.int .i64 0, .int .i64 0] []),
 ⟨none, .store (.tmp 4) (.tmp 49) 2, none⟩,
 zo 5 (.mov (.cst (.int .i64 10)))] [])
  .ret) .skip))
 (.seq (.seq (.region false [zo 50 (.mov (.tmp 9))] [])
  (.cond (.tmp 50) (.seq (.region false [zo 51 (.mov (.tmp 7)),
 zo 52 (.bin .sub (.tmp 51) (.cst (.int .u64 1))),
 zo 53 (.conv .i64 (.tmp 52)),
 zo 54 (.neg (.tmp 53)),
 zo 55 (.bin .sub (.tmp 54) (.cst (.int .i64 1))),
 zo 56 (.mov (.tmp 8)),
 zo 57 (.conv .i64 (.tmp 56)),
 zo 58 (.build [.int .i64 0, .int .i64 0] [(0, 1, .tmp 55), (1, 1, .tmp 57)]),
 ⟨none, .store (.tmp 4) (.tmp 58) 2, none⟩,
 zo 5 (.mov (.cst (.int .i64 0)))] [])
  .ret) .skip))
 (.seq (.region false [zo 59 (.mov (.tmp 7)),
 zo 60 (.conv .i64 (.tmp 59)),
 zo 61 (.mov (.tmp 8)),
 zo 62 (.conv .i64 (.tmp 61)),
 zo 63 (.build [.int .i64 0, .int .i64 0] [(0, 1, .tmp 60), (1, 1, .tmp 62)]),
 ⟨none, .store (.tmp 4) (.tmp 63) 2, none⟩,
 zo 5 (.mov (.cst (.int .i64 0)))] [])
  .ret))))))))
/-- custos/value.fraction -/
def x93 : XFn := XFn.mk 8 [.cell 2 2 true] (.seq (.region false [zo 1 (.box (.tmp 0) 4),
 zo 2 (.alloc [.int .i64 0, .int .i64 0])] [])
 (.seq (.region false [zo 3 (.faddr (.tmp 1) 1),
 zo 4 (.load (.tmp 3) 1 false),
 zo 5 (.faddr (.tmp 1) 2),
 zo 6 (.load (.tmp 5) 1 false),
 zo 7 (.build [.int .i64 0, .int .i64 0] [(0, 1, .tmp 4), (1, 1, .tmp 6)]),
 ⟨none, .store (.tmp 2) (.tmp 7) 2, none⟩] [])
  .ret))
def x100_r0 : XCode := .seq (.seq (.region false [zo 5 (.mov (.tmp 1)),
 zo 6 (.bin .neq (.tmp 5) (.cst (.int .u64 0)))] [])
  (.cond (.tmp 6) .skip (.exit 0)))
  (.block 1 (.region true [zo 7 (.mov (.tmp 1)),
 zo 8 (.mov (.tmp 0)),
 zo 9 (.mov (.tmp 1)),
 zo 10 (.bin .rem (.tmp 8) (.tmp 9)),
 zo 0 (.own 7),
 zo 1 (.own 10)] []))
def x100_l0 : XCode := x100_r0
/-- custos/rat.gcd -/
def x100 : XFn := XFn.mk 12 [.tmp 4] (.seq (.region false [zo 4 (.mov (.cst (.int .u64 0)))] [])
 (.seq (.block 0 (.loop x100_l0))
 (.seq (.region false [zo 11 (.mov (.tmp 0)),
 zo 4 (.own 11)] [])
  .ret)))
/-- custos/rat.size -/
def x101 : XFn := XFn.mk 10 [.tmp 2] (.seq (.region false [zo 2 (.mov (.cst (.int .u64 0)))] [])
 (.seq (.seq (.region false [zo 3 (.mov (.tmp 0)),
 zo 4 (.bin .lss (.tmp 3) (.cst (.int .i64 0)))] [])
  (.cond (.tmp 4) (.seq (.region false [zo 5 (.mov (.tmp 0)),
 zo 6 (.conv .u64 (.tmp 5)),
 zo 7 (.neg (.tmp 6)),
 zo 2 (.own 7)] [])
  .ret) .skip))
 (.seq (.region false [zo 8 (.mov (.tmp 0)),
 zo 9 (.conv .u64 (.tmp 8)),
 zo 2 (.own 9)] [])
  .ret)))
def X : List (Option XFn) := [none, none, none, none, none, none, none, some x7, some x8, some x9, some x10, none, none, some x13, some x14, some x15, some x16, some x17, none, some x19, some x20, some x21, some x22, some x23, some x24, some x25, some x26, some x27, none, none, none, none, none, some x33, some x34, some x35, some x36, some x37, some x38, some x39, some x40, some x41, some x42, some x43, some x44, some x45, none, some x47, some x48, some x49, none, some x51, some x52, some x53, some x54, none, none, some x57, some x58, some x59, some x60, some x61, some x62, some x63, some x64, some x65, some x66, none, some x68, some x69, none, none, some x72, some x73, some x74, some x75, some x76, some x77, some x78, some x79, some x80, none, none, none, none, none, none, none, none, none, none, none, some x92, some x93, none, none, none, none, none, none, some x100, some x101]
end Go.Proofs.Ytnmaahfipddkmaa.Sx.T
