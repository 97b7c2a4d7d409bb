/- The functions of this seat in the small language, printed by a program of ours. -/
import Derived.Test.YtjbgceogkgpjpaaGreatDoorSxA
set_option linter.unusedVariables false
set_option linter.unusedSimpArgs false
namespace Go.Proofs.YtjbgceogkgpjpaaGreatDoor.Sx.T
open Go Go.Proofs.YtjbgceogkgpjpaaGreatDoor.Sx
set_option maxRecDepth 10000
/-- custos/custoslaw08.TraceBack -/
def zo (d : Nat) (o : XOp) : XO := ⟨some d, o, none⟩
def zg (d g : Nat) (b : Bool) (o : XOp) : XO := ⟨some d, o, some (g, b)⟩
def x9 : XFn := XFn.mk 113 [.tmp 6] (.seq (.region false [⟨(some 4), .box (.tmp 1) 2, none⟩,
    ⟨(some 6), .mov (.cst (.bool false)), none⟩] [])
  (.seq (.region false [⟨(some 22), .mov (.tmp 0), none⟩,
    ⟨(some 23), .callq 20 [.tmp 22], none⟩,
    ⟨(some 21), .mov (.tmp 23), none⟩,
    ⟨(some 24), .ext 21 0, none⟩,
    ⟨(some 25), .ext 21 1, none⟩,
    ⟨(some 7), .own 24, none⟩,
    ⟨(some 8), .own 25, none⟩] [])
  (.seq (.seq (.region false [⟨(some 26), .mov (.tmp 8), none⟩,
    ⟨(some 27), .bin .eql (.tmp 26) (.cst (.int .i64 0)), none⟩,
    ⟨(some 28), .mov (.tmp 27), none⟩,
    ⟨(some 29), .mov (.tmp 7), (some (28, true))⟩,
    ⟨(some 30), .lens true (.tmp 29), (some (28, true))⟩,
    ⟨(some 31), .bin .leq (.tmp 30) (.cst (.int .i64 16384)), (some (28, true))⟩,
    ⟨(some 32), .pick (.tmp 28) (.tmp 31) (.cst (.bool false)), none⟩] [])
  (.cond (.tmp 32) (.seq (.region false [⟨(some 34), .mov (.tmp 7), none⟩,
    ⟨(some 35), .callq 22 [.tmp 34], none⟩,
    ⟨(some 33), .mov (.tmp 35), none⟩,
    ⟨(some 36), .ext 33 0, none⟩,
    ⟨(some 37), .ext 33 1, none⟩,
    ⟨(some 10), .alloc [.int .i64 0, .int .i64 0], none⟩,
    ⟨(some 9), .own 36, none⟩,
    ⟨none, .store (.tmp 10) (.tmp 37) 2, none⟩] [])
  (.seq (.region false [⟨(some 38), .load (.tmp 10) 2 true, none⟩,
    ⟨(some 39), .build [.int .i64 0, .int .i64 0] [], none⟩,
    ⟨(some 40), .eqagg true [1, 1] (.tmp 38) (.tmp 39), none⟩,
    ⟨(some 41), .mov (.tmp 40), none⟩,
    ⟨(some 42), .mov (.tmp 0), (some (41, false))⟩,
    ⟨(some 43), .mov (.tmp 9), (some (41, false))⟩,
    ⟨(some 44), .callq 23 [.tmp 42, .tmp 43], (some (41, false))⟩,
    ⟨(some 45), .not (.tmp 44), (some (41, false))⟩,
    ⟨(some 46), .pick (.tmp 41) (.cst (.bool true)) (.tmp 45), none⟩] [])
  (.cond (.tmp 46) (.seq (.region false [⟨(some 6), .mov (.cst (.bool false)), none⟩] [])
  .ret) .skip))) .skip))
  (.seq (.region false [⟨(some 48), .load (.tmp 4) 2 true, none⟩,
    ⟨(some 49), .callq 16 [.tmp 48], none⟩,
    ⟨(some 47), .mov (.tmp 49), none⟩,
    ⟨(some 50), .ext 47 0, none⟩,
    ⟨(some 51), .ext 47 1, none⟩,
    ⟨(some 11), .own 50, none⟩,
    ⟨(some 12), .own 51, none⟩] [])
  (.seq (.seq (.region false [⟨(some 52), .mov (.tmp 12), none⟩,
    ⟨(some 53), .bin .eql (.tmp 52) (.cst (.int .i64 0)), none⟩] [])
  (.cond (.tmp 53) (.seq (.region false [⟨(some 55), .mov (.tmp 11), none⟩,
    ⟨(some 56), .callq 13 [.tmp 55], none⟩,
    ⟨(some 54), .mov (.tmp 56), none⟩,
    ⟨(some 57), .ext 54 0, none⟩,
    ⟨(some 58), .ext 54 1, none⟩,
    ⟨(some 13), .alloc [.int .i64 0, .nilsl], none⟩,
    ⟨none, .store (.tmp 13) (.tmp 57) 2, none⟩,
    ⟨(some 14), .own 58, none⟩] [])
  (.seq (.region false [⟨(some 59), .mov (.tmp 14), none⟩,
    ⟨(some 60), .bin .neq (.tmp 59) (.cst (.int .i64 0)), none⟩,
    ⟨(some 61), .mov (.tmp 60), none⟩,
    ⟨(some 62), .load (.tmp 4) 2 true, (some (61, false))⟩,
    ⟨(some 63), .load (.tmp 13) 2 true, (some (61, false))⟩,
    ⟨(some 64), .callq 15 [.tmp 62, .tmp 63], (some (61, false))⟩,
    ⟨(some 65), .not (.tmp 64), (some (61, false))⟩,
    ⟨(some 66), .pick (.tmp 61) (.cst (.bool true)) (.tmp 65), none⟩] [])
  (.cond (.tmp 66) (.seq (.region false [⟨(some 6), .mov (.cst (.bool false)), none⟩] [])
  .ret) .skip))) .skip))
  (.seq (.region false [⟨(some 68), .mov (.tmp 2), none⟩,
    ⟨(some 69), .callq 13 [.tmp 68], none⟩,
    ⟨(some 67), .mov (.tmp 69), none⟩,
    ⟨(some 70), .ext 67 0, none⟩,
    ⟨(some 71), .ext 67 1, none⟩,
    ⟨(some 15), .alloc [.int .i64 0, .nilsl], none⟩,
    ⟨none, .store (.tmp 15) (.tmp 70) 2, none⟩,
    ⟨(some 16), .own 71, none⟩] [])
  (.seq (.seq (.region false [⟨(some 72), .mov (.tmp 16), none⟩,
    ⟨(some 73), .bin .neq (.tmp 72) (.cst (.int .i64 0)), none⟩] [])
  (.cond (.tmp 73) (.seq (.region false [⟨(some 74), .callq 11 [], none⟩,
    ⟨(some 75), .mov (.tmp 74), none⟩,
    ⟨(some 76), .faddr (.tmp 15) 1, (some (75, true))⟩,
    ⟨(some 77), .load (.tmp 76) 1 false, (some (75, true))⟩,
    ⟨(some 78), .lens false (.tmp 77), (some (75, true))⟩,
    ⟨(some 79), .bin .eql (.tmp 78) (.cst (.int .i64 0)), (some (75, true))⟩,
    ⟨(some 80), .pick (.tmp 75) (.tmp 79) (.cst (.bool false)), none⟩,
    ⟨(some 81), .mov (.tmp 80), none⟩,
    ⟨(some 82), .faddr (.tmp 15) 0, (some (81, true))⟩,
    ⟨(some 83), .load (.tmp 82) 1 false, (some (81, true))⟩,
    ⟨(some 84), .bin .eql (.tmp 83) (.cst (.int .i64 0)), (some (81, true))⟩,
    ⟨(some 85), .pick (.tmp 81) (.tmp 84) (.cst (.bool false)), none⟩,
    ⟨(some 6), .own 85, none⟩] [])
  .ret) .skip))
  (.seq (.region false [⟨(some 87), .load (.tmp 15) 2 true, none⟩,
    ⟨(some 88), .callq 16 [.tmp 87], none⟩,
    ⟨(some 86), .mov (.tmp 88), none⟩,
    ⟨(some 89), .ext 86 0, none⟩,
    ⟨(some 90), .ext 86 1, none⟩,
    ⟨(some 17), .own 89, none⟩,
    ⟨(some 18), .own 90, none⟩] [])
  (.seq (.seq (.region false [⟨(some 91), .mov (.tmp 18), none⟩,
    ⟨(some 92), .bin .eql (.tmp 91) (.cst (.int .i64 2)), none⟩] [])
  (.cond (.tmp 92) (.seq (.region false [⟨(some 93), .callq 11 [], none⟩,
    ⟨(some 6), .own 93, none⟩] [])
  .ret) .skip))
  (.seq (.region false [⟨(some 95), .mov (.tmp 17), none⟩,
    ⟨(some 96), .callq 13 [.tmp 95], none⟩,
    ⟨(some 94), .mov (.tmp 96), none⟩,
    ⟨(some 97), .ext 94 0, none⟩,
    ⟨(some 98), .ext 94 1, none⟩,
    ⟨(some 19), .alloc [.int .i64 0, .nilsl], none⟩,
    ⟨none, .store (.tmp 19) (.tmp 97) 2, none⟩,
    ⟨(some 20), .own 98, none⟩] [])
  (.seq (.region false [⟨(some 99), .callq 11 [], none⟩,
    ⟨(some 100), .mov (.tmp 99), none⟩,
    ⟨(some 101), .mov (.tmp 18), (some (100, true))⟩,
    ⟨(some 102), .bin .eql (.tmp 101) (.cst (.int .i64 0)), (some (100, true))⟩,
    ⟨(some 103), .pick (.tmp 100) (.tmp 102) (.cst (.bool false)), none⟩,
    ⟨(some 104), .mov (.tmp 103), none⟩,
    ⟨(some 105), .mov (.tmp 20), (some (104, true))⟩,
    ⟨(some 106), .bin .eql (.tmp 105) (.cst (.int .i64 0)), (some (104, true))⟩,
    ⟨(some 107), .pick (.tmp 104) (.tmp 106) (.cst (.bool false)), none⟩,
    ⟨(some 108), .mov (.tmp 107), none⟩,
    ⟨(some 109), .load (.tmp 15) 2 true, (some (108, true))⟩,
    ⟨(some 110), .load (.tmp 19) 2 true, (some (108, true))⟩,
    ⟨(some 111), .callq 15 [.tmp 109, .tmp 110], (some (108, true))⟩,
    ⟨(some 112), .pick (.tmp 108) (.tmp 111) (.cst (.bool false)), none⟩,
    ⟨(some 6), .own 112, none⟩] [])
  .ret)))))))))))
def x10_r0 : XCode := .seq (.region false [⟨(some 25), .bin .lss (.tmp 24) (.tmp 23), none⟩] [])
  (.seq (.cond (.tmp 25) .skip (.exit 0))
  (.seq (.block 1 (.seq (.region false [⟨(some 26), .iaddr 2 (.tmp 22) (.tmp 24), none⟩,
    ⟨(some 27), .load (.tmp 26) 2 true, none⟩,
    ⟨(some 8), .alloc [.str [], .nilsl], none⟩,
    ⟨none, .store (.tmp 8) (.tmp 27) 2, none⟩] [])
  (.seq (.seq (.region false [⟨(some 28), .faddr (.tmp 8) 1, none⟩,
    ⟨(some 29), .load (.tmp 28) 1 false, none⟩,
    ⟨(some 30), .callq 25 [.tmp 29], none⟩,
    ⟨(some 9), .own 30, none⟩] [])
  (.seq (.region false [⟨(some 31), .mov (.tmp 9), none⟩,
    ⟨(some 32), .bin .neq (.tmp 31) (.cst (.int .i64 0)), none⟩] [])
  (.cond (.tmp 32) (.seq (.region false [⟨(some 33), .mov (.tmp 9), none⟩,
    ⟨(some 4), .own 33, none⟩] [])
  .ret) .skip)))
  (.seq (.region false [⟨(some 34), .mov (.tmp 0), none⟩,
    ⟨(some 35), .faddr (.tmp 8) 0, none⟩,
    ⟨(some 36), .load (.tmp 35) 1 false, none⟩,
    ⟨(some 37), .callq 26 [.tmp 34, .tmp 36], none⟩,
    ⟨(some 10), .own 37, none⟩] [])
  (.seq (.region true [⟨(some 38), .mov (.tmp 10), none⟩,
    ⟨(some 39), .bin .lss (.tmp 38) (.cst (.int .i64 0)), none⟩,
    ⟨(some 40), .mov (.tmp 39), none⟩,
    ⟨(some 41), .mov (.tmp 0), (some (40, false))⟩,
    ⟨(some 42), .mov (.tmp 10), (some (40, false))⟩,
    ⟨(some 43), .iaddr 2 (.tmp 41) (.tmp 42), (some (40, false))⟩,
    ⟨(some 44), .faddr (.tmp 43) 1, (some (40, false))⟩,
    ⟨(some 45), .load (.tmp 44) 1 false, (some (40, false))⟩,
    ⟨(some 46), .faddr (.tmp 8) 1, (some (40, false))⟩,
    ⟨(some 47), .load (.tmp 46) 1 false, (some (40, false))⟩,
    ⟨(some 48), .callw 27 [.tmp 45, .tmp 47, .cst (.fn 28 [] [])], (some (40, false))⟩,
    ⟨(some 49), .not (.tmp 48), (some (40, false))⟩,
    ⟨(some 50), .pick (.tmp 40) (.cst (.bool true)) (.tmp 49), none⟩] [])
  (.cond (.tmp 50) (.seq (.region false [⟨(some 4), .mov (.cst (.int .i64 90)), none⟩] [])
  .ret) .skip))))))
  (.region false [⟨(some 51), .bin .add (.tmp 24) (.cst (.int .i64 1)), none⟩,
    ⟨(some 24), .mov (.tmp 51), none⟩] [])))
def x10_l0 : XCode := x10_r0
/-- custos/trace.CheckPoint -/
def x10 : XFn := XFn.mk 52 [.tmp 4] (.seq (.region false [⟨(some 3), .box (.tmp 1) 2, none⟩,
    ⟨(some 4), .mov (.cst (.int .i64 0)), none⟩] [])
  (.seq (.seq (.region false [⟨(some 11), .mov (.tmp 0), none⟩,
    ⟨(some 12), .callq 18 [.tmp 11], none⟩,
    ⟨(some 5), .own 12, none⟩] [])
  (.seq (.region false [⟨(some 13), .mov (.tmp 5), none⟩,
    ⟨(some 14), .bin .neq (.tmp 13) (.cst (.int .i64 0)), none⟩] [])
  (.cond (.tmp 14) (.seq (.region false [⟨(some 15), .mov (.tmp 5), none⟩,
    ⟨(some 4), .own 15, none⟩] [])
  .ret) .skip)))
  (.seq (.seq (.region false [⟨(some 16), .load (.tmp 3) 2 true, none⟩,
    ⟨(some 17), .callq 24 [.tmp 16], none⟩,
    ⟨(some 6), .own 17, none⟩] [])
  (.seq (.region false [⟨(some 18), .mov (.tmp 6), none⟩,
    ⟨(some 19), .bin .neq (.tmp 18) (.cst (.int .i64 0)), none⟩] [])
  (.cond (.tmp 19) (.seq (.region false [⟨(some 20), .mov (.tmp 6), none⟩,
    ⟨(some 4), .own 20, none⟩] [])
  .ret) .skip)))
  (.seq (.seq (.region false [⟨(some 21), .faddr (.tmp 3) 1, none⟩,
    ⟨(some 22), .load (.tmp 21) 1 false, none⟩,
    ⟨(some 23), .lens false (.tmp 22), none⟩,
    ⟨(some 24), .mov (.cst (.int .i64 0)), none⟩] [])
  (.block 0 (.loop x10_l0)))
  (.seq (.region false [⟨(some 4), .mov (.cst (.int .i64 0)), none⟩] [])
  .ret)))))
/-- custos/custoslaw08.live -/
def x11 : XFn := XFn.mk 76 [.tmp 0] (.seq (.region false [⟨(some 0), .mov (.cst (.bool false)), none⟩] [])
  (.seq (.region false [⟨(some 13), .callq 22 [.cst (.str [112, 32, 105, 110, 116, 10, 10, 113, 32, 105, 110, 116, 32, 115, 116, 114])], none⟩,
    ⟨(some 12), .mov (.tmp 13), none⟩,
    ⟨(some 14), .ext 12 0, none⟩,
    ⟨(some 15), .ext 12 1, none⟩,
    ⟨(some 2), .alloc [.int .i64 0, .int .i64 0], none⟩,
    ⟨(some 1), .own 14, none⟩,
    ⟨none, .store (.tmp 2) (.tmp 15) 2, none⟩] [])
  (.seq (.region false [⟨(some 17), .callq 22 [.cst (.str [112, 32, 105, 110, 116, 10, 112])], none⟩,
    ⟨(some 16), .mov (.tmp 17), none⟩,
    ⟨(some 18), .ext 16 0, none⟩,
    ⟨(some 19), .ext 16 1, none⟩,
    ⟨(some 4), .alloc [.int .i64 0, .int .i64 0], none⟩,
    ⟨(some 3), .own 18, none⟩,
    ⟨none, .store (.tmp 4) (.tmp 19) 2, none⟩] [])
  (.seq (.region false [⟨(some 21), .callq 13 [.cst (.str [64, 53, 32, 40, 112, 32, 49, 41, 32, 40, 113, 32, 50, 32, 34, 120, 34, 41])], none⟩,
    ⟨(some 20), .mov (.tmp 21), none⟩,
    ⟨(some 22), .ext 20 0, none⟩,
    ⟨(some 23), .ext 20 1, none⟩,
    ⟨(some 5), .alloc [.int .i64 0, .nilsl], none⟩,
    ⟨none, .store (.tmp 5) (.tmp 22) 2, none⟩,
    ⟨(some 6), .own 23, none⟩] [])
  (.seq (.region false [⟨(some 25), .load (.tmp 5) 2 true, none⟩,
    ⟨(some 26), .callq 16 [.tmp 25], none⟩,
    ⟨(some 24), .mov (.tmp 26), none⟩,
    ⟨(some 27), .ext 24 0, none⟩,
    ⟨(some 28), .ext 24 1, none⟩,
    ⟨(some 7), .own 27, none⟩,
    ⟨(some 8), .own 28, none⟩] [])
  (.seq (.region false [⟨(some 30), .callq 13 [.cst (.str [53])], none⟩,
    ⟨(some 29), .mov (.tmp 30), none⟩,
    ⟨(some 31), .ext 29 0, none⟩,
    ⟨(some 32), .ext 29 1, none⟩,
    ⟨(some 9), .alloc [.int .i64 0, .nilsl], none⟩,
    ⟨none, .store (.tmp 9) (.tmp 31) 2, none⟩,
    ⟨(some 10), .own 32, none⟩] [])
  (.seq (.region false [⟨(some 33), .load (.tmp 2) 2 true, none⟩,
    ⟨(some 34), .build [.int .i64 0, .int .i64 0] [], none⟩,
    ⟨(some 35), .eqagg false [1, 1] (.tmp 33) (.tmp 34), none⟩,
    ⟨(some 36), .mov (.tmp 35), none⟩,
    ⟨(some 37), .load (.tmp 4) 2 true, (some (36, true))⟩,
    ⟨(some 38), .build [.int .i64 0, .int .i64 0] [(0, 1, .cst (.int .i64 1)), (1, 1, .cst (.int .i64 2))], (some (36, true))⟩,
    ⟨(some 39), .eqagg false [1, 1] (.tmp 37) (.tmp 38), (some (36, true))⟩,
    ⟨(some 40), .pick (.tmp 36) (.tmp 39) (.cst (.bool false)), none⟩,
    ⟨(some 41), .mov (.tmp 40), none⟩,
    ⟨(some 42), .mov (.tmp 6), (some (41, true))⟩,
    ⟨(some 43), .bin .eql (.tmp 42) (.cst (.int .i64 0)), (some (41, true))⟩,
    ⟨(some 44), .pick (.tmp 41) (.tmp 43) (.cst (.bool false)), none⟩,
    ⟨(some 45), .mov (.tmp 44), none⟩,
    ⟨(some 46), .mov (.tmp 8), (some (45, true))⟩,
    ⟨(some 47), .bin .eql (.tmp 46) (.cst (.int .i64 0)), (some (45, true))⟩,
    ⟨(some 48), .pick (.tmp 45) (.tmp 47) (.cst (.bool false)), none⟩,
    ⟨(some 49), .mov (.tmp 48), none⟩,
    ⟨(some 50), .mov (.tmp 10), (some (49, true))⟩,
    ⟨(some 51), .bin .eql (.tmp 50) (.cst (.int .i64 70)), (some (49, true))⟩,
    ⟨(some 52), .pick (.tmp 49) (.tmp 51) (.cst (.bool false)), none⟩,
    ⟨(some 11), .own 52, none⟩] [])
  (.seq (.region true [⟨(some 53), .mov (.tmp 11), none⟩,
    ⟨(some 54), .mov (.tmp 53), none⟩,
    ⟨(some 55), .mov (.tmp 1), (some (54, true))⟩,
    ⟨(some 56), .lens false (.tmp 55), (some (54, true))⟩,
    ⟨(some 57), .bin .eql (.tmp 56) (.cst (.int .i64 2)), (some (54, true))⟩,
    ⟨(some 58), .pick (.tmp 54) (.tmp 57) (.cst (.bool false)), none⟩,
    ⟨(some 59), .mov (.tmp 58), none⟩,
    ⟨(some 60), .mov (.tmp 7), (some (59, true))⟩,
    ⟨(some 61), .bin .eql (.tmp 60) (.cst (.str [64, 53, 32, 40, 112, 32, 49, 41, 32, 40, 113, 32, 50, 32, 34, 120, 34, 41])), (some (59, true))⟩,
    ⟨(some 62), .pick (.tmp 59) (.tmp 61) (.cst (.bool false)), none⟩,
    ⟨(some 63), .mov (.tmp 62), none⟩,
    ⟨(some 64), .mov (.tmp 1), (some (63, true))⟩,
    ⟨(some 65), .load (.tmp 5) 2 true, (some (63, true))⟩,
    ⟨(some 66), .callq 10 [.tmp 64, .tmp 65], (some (63, true))⟩,
    ⟨(some 67), .bin .eql (.tmp 66) (.cst (.int .i64 0)), (some (63, true))⟩,
    ⟨(some 68), .pick (.tmp 63) (.tmp 67) (.cst (.bool false)), none⟩,
    ⟨(some 69), .mov (.tmp 68), none⟩,
    ⟨(some 70), .mov (.tmp 1), (some (69, true))⟩,
    ⟨(some 71), .ssl 2 (.tmp 70) none (some (.cst (.int .i64 1))) none, (some (69, true))⟩,
    ⟨(some 72), .load (.tmp 5) 2 true, (some (69, true))⟩,
    ⟨(some 73), .callq 10 [.tmp 71, .tmp 72], (some (69, true))⟩,
    ⟨(some 74), .bin .eql (.tmp 73) (.cst (.int .i64 90)), (some (69, true))⟩,
    ⟨(some 75), .pick (.tmp 69) (.tmp 74) (.cst (.bool false)), none⟩,
    ⟨(some 0), .own 75, none⟩] [])
  .ret))))))))
/-- custos/trace.ParsePoint -/
def x13 : XFn := XFn.mk 22 [.cell 2 2 true, .tmp 3] (.seq (.region false [⟨(some 2), .alloc [.int .i64 0, .nilsl], none⟩,
    ⟨(some 3), .mov (.cst (.int .i64 0)), none⟩] [])
  (.seq (.region false [⟨(some 8), .mov (.tmp 0), none⟩,
    ⟨(some 9), .callq 32 [.tmp 8], none⟩,
    ⟨(some 7), .mov (.tmp 9), none⟩,
    ⟨(some 10), .ext 7 0, none⟩,
    ⟨(some 11), .ext 7 1, none⟩,
    ⟨(some 4), .own 10, none⟩,
    ⟨(some 5), .own 11, none⟩] [])
  (.seq (.region false [⟨(some 6), .alloc [.int .i64 0, .nilsl], none⟩] [])
  (.seq (.seq (.region false [⟨(some 12), .mov (.tmp 5), none⟩,
    ⟨(some 13), .eqnil 0 false (.tmp 12), none⟩] [])
  (.cond (.tmp 13) (.region false [⟨(some 15), .mov (.tmp 4), none⟩,
    ⟨(some 16), .callq 33 [.tmp 15], none⟩,
    ⟨(some 14), .mov (.tmp 16), none⟩,
    ⟨(some 17), .ext 14 0, none⟩,
    ⟨(some 18), .ext 14 1, none⟩,
    ⟨none, .store (.tmp 6) (.tmp 17) 2, none⟩,
    ⟨(some 5), .own 18, none⟩] []) .skip))
  (.seq (.region true [⟨(some 19), .load (.tmp 6) 2 true, none⟩,
    ⟨(some 20), .mov (.tmp 5), none⟩,
    ⟨(some 21), .prim 2096 34 [.tmp 20], none⟩,
    ⟨none, .store (.tmp 2) (.tmp 19) 2, none⟩,
    ⟨(some 3), .own 21, none⟩] [])
  .ret)))))
def x15_r0 : XCode := .seq (.seq (.region false [⟨(some 55), .mov (.tmp 8), none⟩,
    ⟨(some 56), .faddr (.tmp 6) 1, none⟩,
    ⟨(some 57), .load (.tmp 56) 1 false, none⟩,
    ⟨(some 58), .lens false (.tmp 57), none⟩,
    ⟨(some 59), .bin .lss (.tmp 55) (.tmp 58), none⟩] [])
  (.cond (.tmp 59) .skip (.exit 2)))
  (.seq (.block 3 (.seq (.region true [⟨(some 62), .faddr (.tmp 6) 1, none⟩,
    ⟨(some 63), .load (.tmp 62) 1 false, none⟩,
    ⟨(some 64), .mov (.tmp 8), none⟩,
    ⟨(some 65), .iaddr 4 (.tmp 63) (.tmp 64), none⟩,
    ⟨(some 66), .load (.tmp 65) 4 true, none⟩,
    ⟨(some 67), .faddr (.tmp 7) 1, none⟩,
    ⟨(some 68), .load (.tmp 67) 1 false, none⟩,
    ⟨(some 69), .mov (.tmp 8), none⟩,
    ⟨(some 70), .iaddr 4 (.tmp 68) (.tmp 69), none⟩,
    ⟨(some 71), .load (.tmp 70) 4 true, none⟩,
    ⟨(some 72), .callq 37 [.tmp 66, .tmp 71], none⟩,
    ⟨(some 9), .own 72, none⟩] [])
  (.seq (.region false [⟨(some 73), .mov (.tmp 9), none⟩,
    ⟨(some 74), .not (.tmp 73), none⟩] [])
  (.cond (.tmp 74) (.seq (.region false [⟨(some 4), .mov (.cst (.bool false)), none⟩] [])
  .ret) .skip))))
  (.region false [⟨(some 60), .mov (.tmp 8), none⟩,
    ⟨(some 61), .bin .add (.tmp 60) (.cst (.int .i64 1)), none⟩,
    ⟨(some 8), .own 61, none⟩] []))
def x15_l0 : XCode := x15_r0
def x15_r1 : XCode := .seq (.seq (.region false [⟨(some 24), .mov (.tmp 5), none⟩,
    ⟨(some 25), .faddr (.tmp 2) 1, none⟩,
    ⟨(some 26), .load (.tmp 25) 1 false, none⟩,
    ⟨(some 27), .lens false (.tmp 26), none⟩,
    ⟨(some 28), .bin .lss (.tmp 24) (.tmp 27), none⟩] [])
  (.cond (.tmp 28) .skip (.exit 0)))
  (.seq (.block 1 (.seq (.region false [⟨(some 31), .faddr (.tmp 2) 1, none⟩,
    ⟨(some 32), .load (.tmp 31) 1 false, none⟩,
    ⟨(some 33), .mov (.tmp 5), none⟩,
    ⟨(some 34), .iaddr 2 (.tmp 32) (.tmp 33), none⟩,
    ⟨(some 35), .load (.tmp 34) 2 true, none⟩,
    ⟨(some 6), .alloc [.str [], .nilsl], none⟩,
    ⟨none, .store (.tmp 6) (.tmp 35) 2, none⟩] [])
  (.seq (.region false [⟨(some 36), .faddr (.tmp 3) 1, none⟩,
    ⟨(some 37), .load (.tmp 36) 1 false, none⟩,
    ⟨(some 38), .mov (.tmp 5), none⟩,
    ⟨(some 39), .iaddr 2 (.tmp 37) (.tmp 38), none⟩,
    ⟨(some 40), .load (.tmp 39) 2 true, none⟩,
    ⟨(some 7), .alloc [.str [], .nilsl], none⟩,
    ⟨none, .store (.tmp 7) (.tmp 40) 2, none⟩] [])
  (.seq (.seq (.region false [⟨(some 41), .faddr (.tmp 6) 0, none⟩,
    ⟨(some 42), .load (.tmp 41) 1 false, none⟩,
    ⟨(some 43), .faddr (.tmp 7) 0, none⟩,
    ⟨(some 44), .load (.tmp 43) 1 false, none⟩,
    ⟨(some 45), .bin .neq (.tmp 42) (.tmp 44), none⟩,
    ⟨(some 46), .mov (.tmp 45), none⟩,
    ⟨(some 47), .faddr (.tmp 6) 1, (some (46, false))⟩,
    ⟨(some 48), .load (.tmp 47) 1 false, (some (46, false))⟩,
    ⟨(some 49), .lens false (.tmp 48), (some (46, false))⟩,
    ⟨(some 50), .faddr (.tmp 7) 1, (some (46, false))⟩,
    ⟨(some 51), .load (.tmp 50) 1 false, (some (46, false))⟩,
    ⟨(some 52), .lens false (.tmp 51), (some (46, false))⟩,
    ⟨(some 53), .bin .neq (.tmp 49) (.tmp 52), (some (46, false))⟩,
    ⟨(some 54), .pick (.tmp 46) (.cst (.bool true)) (.tmp 53), none⟩] [])
  (.cond (.tmp 54) (.seq (.region false [⟨(some 4), .mov (.cst (.bool false)), none⟩] [])
  .ret) .skip))
  (.seq (.region false [⟨(some 8), .mov (.cst (.int .i64 0)), none⟩] [])
  (.block 2 (.loop x15_l0)))))))
  (.region false [⟨(some 29), .mov (.tmp 5), none⟩,
    ⟨(some 30), .bin .add (.tmp 29) (.cst (.int .i64 1)), none⟩,
    ⟨(some 5), .own 30, none⟩] []))
def x15_l1 : XCode := x15_r1
/-- custos/custosref08.SamePoint -/
def x15 : XFn := XFn.mk 75 [.tmp 4] (.seq (.region false [⟨(some 2), .box (.tmp 0) 2, none⟩,
    ⟨(some 3), .box (.tmp 1) 2, none⟩,
    ⟨(some 4), .mov (.cst (.bool false)), none⟩] [])
  (.seq (.seq (.region false [⟨(some 10), .faddr (.tmp 2) 0, none⟩,
    ⟨(some 11), .load (.tmp 10) 1 false, none⟩,
    ⟨(some 12), .faddr (.tmp 3) 0, none⟩,
    ⟨(some 13), .load (.tmp 12) 1 false, none⟩,
    ⟨(some 14), .bin .neq (.tmp 11) (.tmp 13), none⟩,
    ⟨(some 15), .mov (.tmp 14), none⟩,
    ⟨(some 16), .faddr (.tmp 2) 1, (some (15, false))⟩,
    ⟨(some 17), .load (.tmp 16) 1 false, (some (15, false))⟩,
    ⟨(some 18), .lens false (.tmp 17), (some (15, false))⟩,
    ⟨(some 19), .faddr (.tmp 3) 1, (some (15, false))⟩,
    ⟨(some 20), .load (.tmp 19) 1 false, (some (15, false))⟩,
    ⟨(some 21), .lens false (.tmp 20), (some (15, false))⟩,
    ⟨(some 22), .bin .neq (.tmp 18) (.tmp 21), (some (15, false))⟩,
    ⟨(some 23), .pick (.tmp 15) (.cst (.bool true)) (.tmp 22), none⟩] [])
  (.cond (.tmp 23) (.seq (.region false [⟨(some 4), .mov (.cst (.bool false)), none⟩] [])
  .ret) .skip))
  (.seq (.seq (.region false [⟨(some 5), .mov (.cst (.int .i64 0)), none⟩] [])
  (.block 0 (.loop x15_l1)))
  (.seq (.region false [⟨(some 4), .mov (.cst (.bool true)), none⟩] [])
  .ret))))
def x16_r0 : XCode := .seq (.region false [⟨(some 42), .bin .lss (.tmp 41) (.tmp 40), none⟩] [])
  (.seq (.cond (.tmp 42) .skip (.exit 2))
  (.seq (.block 3 (.seq (.region false [⟨(some 43), .iaddr 4 (.tmp 39) (.tmp 41), none⟩,
    ⟨(some 44), .load (.tmp 43) 4 true, none⟩,
    ⟨(some 9), .alloc [.int .i64 0, .int .i64 0, .int .i64 0, .str []], none⟩,
    ⟨none, .store (.tmp 9) (.tmp 44) 4, none⟩] [])
  (.seq (.region false [⟨(some 46), .load (.tmp 9) 4 true, none⟩,
    ⟨(some 47), .callq 40 [.tmp 46], none⟩,
    ⟨(some 45), .mov (.tmp 47), none⟩,
    ⟨(some 48), .ext 45 0, none⟩,
    ⟨(some 49), .ext 45 1, none⟩,
    ⟨(some 10), .own 48, none⟩,
    ⟨(some 11), .own 49, none⟩] [])
  (.seq (.seq (.region false [⟨(some 50), .mov (.tmp 11), none⟩,
    ⟨(some 51), .bin .neq (.tmp 50) (.cst (.int .i64 0)), none⟩] [])
  (.cond (.tmp 51) (.seq (.region false [⟨(some 52), .mov (.tmp 11), none⟩,
    ⟨(some 2), .mov (.cst (.str [])), none⟩,
    ⟨(some 3), .own 52, none⟩] [])
  .ret) .skip))
  (.region false [⟨(some 53), .own 5, none⟩,
    ⟨(some 54), .mov (.tmp 10), none⟩,
    ⟨(some 55), .bin .add (.cst (.str [32])) (.tmp 54), none⟩,
    ⟨(some 56), .appstr false 53 (.tmp 55), none⟩,
    ⟨(some 5), .own 56, none⟩] [])))))
  (.region false [⟨(some 57), .bin .add (.tmp 41) (.cst (.int .i64 1)), none⟩,
    ⟨(some 41), .mov (.tmp 57), none⟩] [])))
def x16_l0 : XCode := x16_r0
def x16_r1 : XCode := .seq (.region false [⟨(some 26), .bin .lss (.tmp 25) (.tmp 24), none⟩] [])
  (.seq (.cond (.tmp 26) .skip (.exit 0))
  (.seq (.block 1 (.seq (.region false [⟨(some 27), .iaddr 2 (.tmp 23) (.tmp 25), none⟩,
    ⟨(some 28), .load (.tmp 27) 2 true, none⟩,
    ⟨(some 7), .alloc [.str [], .nilsl], none⟩,
    ⟨none, .store (.tmp 7) (.tmp 28) 2, none⟩] [])
  (.seq (.seq (.region false [⟨(some 29), .faddr (.tmp 7) 0, none⟩,
    ⟨(some 30), .load (.tmp 29) 1 false, none⟩,
    ⟨(some 31), .callq 39 [.tmp 30], none⟩,
    ⟨(some 32), .not (.tmp 31), none⟩] [])
  (.cond (.tmp 32) (.seq (.region false [⟨(some 2), .mov (.cst (.str [])), none⟩,
    ⟨(some 3), .mov (.cst (.int .i64 1)), none⟩] [])
  .ret) .skip))
  (.seq (.region false [⟨(some 33), .own 5, none⟩,
    ⟨(some 34), .faddr (.tmp 7) 0, none⟩,
    ⟨(some 35), .load (.tmp 34) 1 false, none⟩,
    ⟨(some 36), .bin .add (.cst (.str [32, 40])) (.tmp 35), none⟩,
    ⟨(some 37), .appstr false 33 (.tmp 36), none⟩,
    ⟨(some 5), .own 37, none⟩] [])
  (.seq (.seq (.region false [⟨(some 38), .faddr (.tmp 7) 1, none⟩,
    ⟨(some 39), .load (.tmp 38) 1 false, none⟩,
    ⟨(some 40), .lens false (.tmp 39), none⟩,
    ⟨(some 41), .mov (.cst (.int .i64 0)), none⟩] [])
  (.block 2 (.loop x16_l0)))
  (.region false [⟨(some 58), .own 5, none⟩,
    ⟨(some 59), .bslice 1 [.int .u8 0] [(0, 1, .cst (.int .u8 41))], none⟩,
    ⟨(some 60), .app false 1 1 58 (.tmp 59), none⟩,
    ⟨(some 5), .own 60, none⟩] []))))))
  (.region false [⟨(some 61), .bin .add (.tmp 25) (.cst (.int .i64 1)), none⟩,
    ⟨(some 25), .mov (.tmp 61), none⟩] [])))
def x16_l1 : XCode := x16_r1
/-- custos/trace.PrintPoint -/
def x16 : XFn := XFn.mk 67 [.tmp 2, .tmp 3] (.seq (.region false [⟨(some 1), .box (.tmp 0) 2, none⟩,
    ⟨(some 2), .mov (.cst (.str [])), none⟩,
    ⟨(some 3), .mov (.cst (.int .i64 0)), none⟩] [])
  (.seq (.seq (.region false [⟨(some 12), .load (.tmp 1) 2 true, none⟩,
    ⟨(some 13), .callq 24 [.tmp 12], none⟩,
    ⟨(some 4), .own 13, none⟩] [])
  (.seq (.region false [⟨(some 14), .mov (.tmp 4), none⟩,
    ⟨(some 15), .bin .neq (.tmp 14) (.cst (.int .i64 0)), none⟩] [])
  (.cond (.tmp 15) (.seq (.region false [⟨(some 16), .mov (.tmp 4), none⟩,
    ⟨(some 2), .mov (.cst (.str [])), none⟩,
    ⟨(some 3), .own 16, none⟩] [])
  .ret) .skip)))
  (.seq (.region false [⟨(some 17), .faddr (.tmp 1) 0, none⟩,
    ⟨(some 18), .load (.tmp 17) 1 false, none⟩,
    ⟨(some 19), .prim 5 38 [.tmp 18, .cst (.int .i64 10)], none⟩,
    ⟨(some 20), .bin .add (.cst (.str [64])) (.tmp 19), none⟩,
    ⟨(some 21), .strb (.tmp 20), none⟩,
    ⟨(some 5), .own 21, none⟩] [])
  (.seq (.seq (.region false [⟨(some 22), .faddr (.tmp 1) 1, none⟩,
    ⟨(some 23), .load (.tmp 22) 1 false, none⟩,
    ⟨(some 24), .lens false (.tmp 23), none⟩,
    ⟨(some 25), .mov (.cst (.int .i64 0)), none⟩] [])
  (.block 0 (.loop x16_l1)))
  (.seq (.seq (.region false [⟨(some 62), .mov (.tmp 5), none⟩,
    ⟨(some 63), .lens false (.tmp 62), none⟩,
    ⟨(some 64), .bin .gtr (.tmp 63) (.cst (.int .i64 4096)), none⟩] [])
  (.cond (.tmp 64) (.seq (.region false [⟨(some 2), .mov (.cst (.str [])), none⟩,
    ⟨(some 3), .mov (.cst (.int .i64 2)), none⟩] [])
  .ret) .skip))
  (.seq (.region false [⟨(some 65), .mov (.tmp 5), none⟩,
    ⟨(some 66), .bstr (.tmp 65), none⟩,
    ⟨(some 2), .own 66, none⟩,
    ⟨(some 3), .mov (.cst (.int .i64 0)), none⟩] [])
  .ret))))))
def x18_r0 : XCode := .seq (.region false [⟨(some 11), .bin .lss (.tmp 10) (.tmp 9), none⟩] [])
  (.seq (.cond (.tmp 11) .skip (.exit 0))
  (.seq (.block 1 (.seq (.region false [⟨(some 12), .mov (.tmp 10), none⟩,
    ⟨(some 13), .iaddr 2 (.tmp 8) (.tmp 10), none⟩,
    ⟨(some 14), .load (.tmp 13) 2 true, none⟩,
    ⟨(some 4), .alloc [.str [], .nilsl], none⟩,
    ⟨(some 3), .own 12, none⟩,
    ⟨none, .store (.tmp 4) (.tmp 14) 2, none⟩] [])
  (.block 2 (.seq (.region false [⟨(some 16), .faddr (.tmp 4) 0, none⟩,
    ⟨(some 17), .load (.tmp 16) 1 false, none⟩,
    ⟨(some 18), .callq 39 [.tmp 17], none⟩,
    ⟨(some 19), .not (.tmp 18), none⟩,
    ⟨(some 20), .mov (.tmp 19), none⟩,
    ⟨(some 21), .mov (.tmp 0), (some (20, false))⟩,
    ⟨(some 22), .faddr (.tmp 4) 0, (some (20, false))⟩,
    ⟨(some 23), .load (.tmp 22) 1 false, (some (20, false))⟩,
    ⟨(some 24), .callq 26 [.tmp 21, .tmp 23], (some (20, false))⟩,
    ⟨(some 25), .mov (.tmp 3), (some (20, false))⟩,
    ⟨(some 26), .bin .lss (.tmp 24) (.tmp 25), (some (20, false))⟩,
    ⟨(some 27), .pick (.tmp 20) (.cst (.bool true)) (.tmp 26), none⟩,
    ⟨(some 15), .own 27, none⟩] [])
  (.cond (.tmp 15) (.seq (.region false [⟨(some 2), .mov (.cst (.int .i64 1)), none⟩] [])
  .ret) (.seq (.region false [⟨(some 29), .faddr (.tmp 4) 1, none⟩,
    ⟨(some 30), .load (.tmp 29) 1 false, none⟩,
    ⟨(some 31), .lens false (.tmp 30), none⟩,
    ⟨(some 32), .bin .gtr (.tmp 31) (.cst (.int .i64 6)), none⟩,
    ⟨(some 28), .own 32, none⟩] [])
  (.cond (.tmp 28) (.seq (.region false [⟨(some 2), .mov (.cst (.int .i64 3)), none⟩] [])
  .ret) (.seq (.region false [⟨(some 34), .faddr (.tmp 4) 1, none⟩,
    ⟨(some 35), .load (.tmp 34) 1 false, none⟩,
    ⟨(some 36), .callw 43 [.tmp 35, .cst (.fn 44 [] [])], none⟩,
    ⟨(some 33), .own 36, none⟩] [])
  (.cond (.tmp 33) (.seq (.region false [⟨(some 2), .mov (.cst (.int .i64 20)), none⟩] [])
  .ret) .skip)))))))))
  (.region false [⟨(some 37), .bin .add (.tmp 10) (.cst (.int .i64 1)), none⟩,
    ⟨(some 10), .mov (.tmp 37), none⟩] [])))
def x18_l0 : XCode := x18_r0
/-- custos/trace.CheckSignature -/
def x18 : XFn := XFn.mk 38 [.tmp 2] (.seq (.region false [⟨(some 2), .mov (.cst (.int .i64 0)), none⟩] [])
  (.seq (.seq (.region false [⟨(some 5), .mov (.tmp 0), none⟩,
    ⟨(some 6), .lens false (.tmp 5), none⟩,
    ⟨(some 7), .bin .gtr (.tmp 6) (.cst (.int .i64 32)), none⟩] [])
  (.cond (.tmp 7) (.seq (.region false [⟨(some 2), .mov (.cst (.int .i64 3)), none⟩] [])
  .ret) .skip))
  (.seq (.seq (.region false [⟨(some 8), .mov (.tmp 0), none⟩,
    ⟨(some 9), .lens false (.tmp 8), none⟩,
    ⟨(some 10), .mov (.cst (.int .i64 0)), none⟩] [])
  (.block 0 (.loop x18_l0)))
  (.seq (.region false [⟨(some 2), .mov (.cst (.int .i64 0)), none⟩] [])
  .ret))))
def x20_r0 : XCode := .seq (.region false [⟨(some 28), .bin .lss (.tmp 27) (.tmp 26), none⟩] [])
  (.seq (.cond (.tmp 28) .skip (.exit 2))
  (.seq (.block 3 (.seq (.region false [⟨(some 29), .iaddr 1 (.tmp 25) (.tmp 27), none⟩,
    ⟨(some 30), .load (.tmp 29) 1 false, none⟩,
    ⟨(some 9), .own 30, none⟩] [])
  (.region false [⟨(some 31), .callq 47 [], none⟩,
    ⟨(some 32), .mov (.tmp 9), none⟩,
    ⟨(some 33), .iaddr 1 (.tmp 31) (.tmp 32), none⟩,
    ⟨(some 34), .load (.tmp 33) 1 false, none⟩,
    ⟨(some 35), .bin .add (.cst (.str [32])) (.tmp 34), none⟩,
    ⟨(some 36), .callw 46 [.tmp 5, .tmp 35], none⟩] [])))
  (.region false [⟨(some 37), .bin .add (.tmp 27) (.cst (.int .i64 1)), none⟩,
    ⟨(some 27), .mov (.tmp 37), none⟩] [])))
def x20_l0 : XCode := x20_r0
def x20_r1 : XCode := .seq (.region false [⟨(some 18), .bin .lss (.tmp 17) (.tmp 16), none⟩] [])
  (.seq (.cond (.tmp 18) .skip (.exit 0))
  (.seq (.block 1 (.seq (.region false [⟨(some 19), .iaddr 2 (.tmp 15) (.tmp 17), none⟩,
    ⟨(some 20), .load (.tmp 19) 2 true, none⟩,
    ⟨(some 7), .alloc [.str [], .nilsl], none⟩,
    ⟨none, .store (.tmp 7) (.tmp 20) 2, none⟩] [])
  (.seq (.region false [⟨(some 21), .faddr (.tmp 7) 0, none⟩,
    ⟨(some 22), .load (.tmp 21) 1 false, none⟩,
    ⟨(some 23), .callw 46 [.tmp 5, .tmp 22], none⟩] [])
  (.seq (.seq (.region false [⟨(some 24), .faddr (.tmp 7) 1, none⟩,
    ⟨(some 25), .load (.tmp 24) 1 false, none⟩,
    ⟨(some 26), .lens false (.tmp 25), none⟩,
    ⟨(some 27), .mov (.cst (.int .i64 0)), none⟩] [])
  (.block 2 (.loop x20_l0)))
  (.region false [⟨(some 38), .callw 46 [.tmp 5, .cst (.str [10])], none⟩] [])))))
  (.region false [⟨(some 39), .bin .add (.tmp 17) (.cst (.int .i64 1)), none⟩,
    ⟨(some 17), .mov (.tmp 39), none⟩] [])))
def x20_l1 : XCode := x20_r1
/-- custos/trace.PrintSignature -/
def x20 : XFn := XFn.mk 41 [.tmp 2, .tmp 3] (.seq (.region false [⟨(some 2), .mov (.cst (.str [])), none⟩,
    ⟨(some 3), .mov (.cst (.int .i64 0)), none⟩] [])
  (.seq (.seq (.region false [⟨(some 10), .mov (.tmp 0), none⟩,
    ⟨(some 11), .callq 18 [.tmp 10], none⟩,
    ⟨(some 4), .own 11, none⟩] [])
  (.seq (.region false [⟨(some 12), .mov (.tmp 4), none⟩,
    ⟨(some 13), .bin .neq (.tmp 12) (.cst (.int .i64 0)), none⟩] [])
  (.cond (.tmp 13) (.seq (.region false [⟨(some 14), .mov (.tmp 4), none⟩,
    ⟨(some 2), .mov (.cst (.str [])), none⟩,
    ⟨(some 3), .own 14, none⟩] [])
  .ret) .skip)))
  (.seq (.region false [⟨(some 5), .allocb 83 5, none⟩] [])
  (.seq (.seq (.region false [⟨(some 15), .mov (.tmp 0), none⟩,
    ⟨(some 16), .lens false (.tmp 15), none⟩,
    ⟨(some 17), .mov (.cst (.int .i64 0)), none⟩] [])
  (.block 0 (.loop x20_l1)))
  (.seq (.region false [⟨(some 40), .callw 48 [.tmp 5], none⟩,
    ⟨(some 2), .own 40, none⟩,
    ⟨(some 3), .mov (.cst (.int .i64 0)), none⟩] [])
  .ret)))))
def x22_r0 : XCode := .seq (.region false [⟨(some 18), .bin .lss (.tmp 17) (.tmp 16), none⟩] [])
  (.seq (.cond (.tmp 18) .skip (.exit 0))
  (.seq (.block 1 (.seq (.region false [⟨(some 19), .mov (.tmp 17), none⟩,
    ⟨(some 20), .iaddr 1 (.tmp 15) (.tmp 17), none⟩,
    ⟨(some 21), .load (.tmp 20) 1 false, none⟩,
    ⟨(some 5), .own 19, none⟩,
    ⟨(some 6), .own 21, none⟩] [])
  (.seq (.region false [⟨(some 23), .mov (.tmp 4), none⟩,
    ⟨(some 24), .mov (.tmp 6), none⟩,
    ⟨(some 25), .callq 51 [.tmp 23, .tmp 24], none⟩,
    ⟨(some 22), .mov (.tmp 25), none⟩,
    ⟨(some 26), .ext 22 0, none⟩,
    ⟨(some 27), .ext 22 1, none⟩,
    ⟨(some 28), .ext 22 2, none⟩,
    ⟨(some 7), .alloc [.str [], .nilsl], none⟩,
    ⟨none, .store (.tmp 7) (.tmp 26) 2, none⟩,
    ⟨(some 8), .own 27, none⟩,
    ⟨(some 9), .own 28, none⟩] [])
  (.seq (.seq (.region false [⟨(some 29), .mov (.tmp 9), none⟩,
    ⟨(some 30), .eqnil 0 true (.tmp 29), none⟩] [])
  (.cond (.tmp 30) (.seq (.region false [⟨(some 31), .mov (.tmp 9), none⟩,
    ⟨(some 32), .prim 2096 34 [.tmp 31], none⟩,
    ⟨(some 33), .mov (.tmp 5), none⟩,
    ⟨(some 34), .bin .add (.tmp 33) (.cst (.int .i64 1)), none⟩,
    ⟨(some 35), .build [.int .i64 0, .int .i64 0] [(0, 1, .tmp 32), (1, 1, .tmp 34)], none⟩,
    ⟨(some 2), .mov (.cst .nilsl), none⟩,
    ⟨none, .store (.tmp 3) (.tmp 35) 2, none⟩] [])
  .ret) .skip))
  (.seq (.region false [⟨(some 36), .mov (.tmp 8), none⟩] [])
  (.cond (.tmp 36) (.region false [⟨(some 37), .own 4, none⟩,
    ⟨(some 38), .load (.tmp 7) 2 true, none⟩,
    ⟨(some 39), .bslice 2 [.str [], .nilsl] [(0, 2, .tmp 38)], none⟩,
    ⟨(some 40), .app false 2 40 37 (.tmp 39), none⟩,
    ⟨(some 4), .own 40, none⟩] []) .skip))))))
  (.region false [⟨(some 41), .bin .add (.tmp 17) (.cst (.int .i64 1)), none⟩,
    ⟨(some 17), .mov (.tmp 41), none⟩] [])))
def x22_l0 : XCode := x22_r0
/-- custos/trace.ParseSignature -/
def x22 : XFn := XFn.mk 44 [.tmp 2, .cell 3 2 true] (.seq (.region false [⟨(some 2), .mov (.cst .nilsl), none⟩,
    ⟨(some 3), .alloc [.int .i64 0, .int .i64 0], none⟩] [])
  (.seq (.seq (.region false [⟨(some 10), .mov (.tmp 0), none⟩,
    ⟨(some 11), .lens true (.tmp 10), none⟩,
    ⟨(some 12), .bin .gtr (.tmp 11) (.cst (.int .i64 16384)), none⟩] [])
  (.cond (.tmp 12) (.seq (.region false [⟨(some 13), .build [.int .i64 0, .int .i64 0] [(0, 1, .cst (.int .i64 2))], none⟩,
    ⟨(some 2), .mov (.cst .nilsl), none⟩,
    ⟨none, .store (.tmp 3) (.tmp 13) 2, none⟩] [])
  .ret) .skip))
  (.seq (.region false [⟨(some 4), .mov (.cst .nilsl), none⟩] [])
  (.seq (.seq (.region false [⟨(some 14), .mov (.tmp 0), none⟩,
    ⟨(some 15), .prim 7 50 [.tmp 14, .cst (.str [10])], none⟩,
    ⟨(some 16), .lens false (.tmp 15), none⟩,
    ⟨(some 17), .mov (.cst (.int .i64 0)), none⟩] [])
  (.block 0 (.loop x22_l0)))
  (.seq (.region false [⟨(some 42), .mov (.tmp 4), none⟩,
    ⟨(some 43), .build [.int .i64 0, .int .i64 0] [], none⟩,
    ⟨(some 2), .own 42, none⟩,
    ⟨none, .store (.tmp 3) (.tmp 43) 2, none⟩] [])
  .ret)))))
def x23_r0 : XCode := .seq (.seq (.region false [⟨(some 44), .mov (.tmp 6), none⟩,
    ⟨(some 45), .mov (.tmp 0), none⟩,
    ⟨(some 46), .mov (.tmp 5), none⟩,
    ⟨(some 47), .iaddr 2 (.tmp 45) (.tmp 46), none⟩,
    ⟨(some 48), .faddr (.tmp 47) 1, none⟩,
    ⟨(some 49), .load (.tmp 48) 1 false, none⟩,
    ⟨(some 50), .lens false (.tmp 49), none⟩,
    ⟨(some 51), .bin .lss (.tmp 44) (.tmp 50), none⟩] [])
  (.cond (.tmp 51) .skip (.exit 2)))
  (.seq (.block 3 (.seq (.region true [⟨(some 54), .mov (.tmp 0), none⟩,
    ⟨(some 55), .mov (.tmp 5), none⟩,
    ⟨(some 56), .iaddr 2 (.tmp 54) (.tmp 55), none⟩,
    ⟨(some 57), .faddr (.tmp 56) 1, none⟩,
    ⟨(some 58), .load (.tmp 57) 1 false, none⟩,
    ⟨(some 59), .mov (.tmp 6), none⟩,
    ⟨(some 60), .iaddr 1 (.tmp 58) (.tmp 59), none⟩,
    ⟨(some 61), .load (.tmp 60) 1 false, none⟩,
    ⟨(some 62), .mov (.tmp 1), none⟩,
    ⟨(some 63), .mov (.tmp 5), none⟩,
    ⟨(some 64), .iaddr 2 (.tmp 62) (.tmp 63), none⟩,
    ⟨(some 65), .faddr (.tmp 64) 1, none⟩,
    ⟨(some 66), .load (.tmp 65) 1 false, none⟩,
    ⟨(some 67), .mov (.tmp 6), none⟩,
    ⟨(some 68), .iaddr 1 (.tmp 66) (.tmp 67), none⟩,
    ⟨(some 69), .load (.tmp 68) 1 false, none⟩,
    ⟨(some 70), .bin .neq (.tmp 61) (.tmp 69), none⟩] [])
  (.cond (.tmp 70) (.seq (.region false [⟨(some 4), .mov (.cst (.bool false)), none⟩] [])
  .ret) .skip)))
  (.region false [⟨(some 52), .mov (.tmp 6), none⟩,
    ⟨(some 53), .bin .add (.tmp 52) (.cst (.int .i64 1)), none⟩,
    ⟨(some 6), .own 53, none⟩] []))
def x23_l0 : XCode := x23_r0
def x23_r1 : XCode := .seq (.seq (.region false [⟨(some 12), .mov (.tmp 5), none⟩,
    ⟨(some 13), .mov (.tmp 0), none⟩,
    ⟨(some 14), .lens false (.tmp 13), none⟩,
    ⟨(some 15), .bin .lss (.tmp 12) (.tmp 14), none⟩] [])
  (.cond (.tmp 15) .skip (.exit 0)))
  (.seq (.block 1 (.seq (.seq (.region true [⟨(some 18), .mov (.tmp 0), none⟩,
    ⟨(some 19), .mov (.tmp 5), none⟩,
    ⟨(some 20), .iaddr 2 (.tmp 18) (.tmp 19), none⟩,
    ⟨(some 21), .faddr (.tmp 20) 0, none⟩,
    ⟨(some 22), .load (.tmp 21) 1 false, none⟩,
    ⟨(some 23), .mov (.tmp 1), none⟩,
    ⟨(some 24), .mov (.tmp 5), none⟩,
    ⟨(some 25), .iaddr 2 (.tmp 23) (.tmp 24), none⟩,
    ⟨(some 26), .faddr (.tmp 25) 0, none⟩,
    ⟨(some 27), .load (.tmp 26) 1 false, none⟩,
    ⟨(some 28), .bin .neq (.tmp 22) (.tmp 27), none⟩,
    ⟨(some 29), .mov (.tmp 28), none⟩,
    ⟨(some 30), .mov (.tmp 0), (some (29, false))⟩,
    ⟨(some 31), .mov (.tmp 5), (some (29, false))⟩,
    ⟨(some 32), .iaddr 2 (.tmp 30) (.tmp 31), (some (29, false))⟩,
    ⟨(some 33), .faddr (.tmp 32) 1, (some (29, false))⟩,
    ⟨(some 34), .load (.tmp 33) 1 false, (some (29, false))⟩,
    ⟨(some 35), .lens false (.tmp 34), (some (29, false))⟩,
    ⟨(some 36), .mov (.tmp 1), (some (29, false))⟩,
    ⟨(some 37), .mov (.tmp 5), (some (29, false))⟩,
    ⟨(some 38), .iaddr 2 (.tmp 36) (.tmp 37), (some (29, false))⟩,
    ⟨(some 39), .faddr (.tmp 38) 1, (some (29, false))⟩,
    ⟨(some 40), .load (.tmp 39) 1 false, (some (29, false))⟩,
    ⟨(some 41), .lens false (.tmp 40), (some (29, false))⟩,
    ⟨(some 42), .bin .neq (.tmp 35) (.tmp 41), (some (29, false))⟩,
    ⟨(some 43), .pick (.tmp 29) (.cst (.bool true)) (.tmp 42), none⟩] [])
  (.cond (.tmp 43) (.seq (.region false [⟨(some 4), .mov (.cst (.bool false)), none⟩] [])
  .ret) .skip))
  (.seq (.region false [⟨(some 6), .mov (.cst (.int .i64 0)), none⟩] [])
  (.block 2 (.loop x23_l0)))))
  (.region false [⟨(some 16), .mov (.tmp 5), none⟩,
    ⟨(some 17), .bin .add (.tmp 16) (.cst (.int .i64 1)), none⟩,
    ⟨(some 5), .own 17, none⟩] []))
def x23_l1 : XCode := x23_r1
/-- custos/custosref08.SameSignature -/
def x23 : XFn := XFn.mk 71 [.tmp 4] (.seq (.region false [⟨(some 4), .mov (.cst (.bool false)), none⟩] [])
  (.seq (.seq (.region false [⟨(some 7), .mov (.tmp 0), none⟩,
    ⟨(some 8), .lens false (.tmp 7), none⟩,
    ⟨(some 9), .mov (.tmp 1), none⟩,
    ⟨(some 10), .lens false (.tmp 9), none⟩,
    ⟨(some 11), .bin .neq (.tmp 8) (.tmp 10), none⟩] [])
  (.cond (.tmp 11) (.seq (.region false [⟨(some 4), .mov (.cst (.bool false)), none⟩] [])
  .ret) .skip))
  (.seq (.seq (.region false [⟨(some 5), .mov (.cst (.int .i64 0)), none⟩] [])
  (.block 0 (.loop x23_l1)))
  (.seq (.region false [⟨(some 4), .mov (.cst (.bool true)), none⟩] [])
  .ret))))
/-- custos/trace.sizes -/
def x24 : XFn := XFn.mk 17 [.tmp 2] (.seq (.region false [⟨(some 1), .box (.tmp 0) 2, none⟩,
    ⟨(some 2), .mov (.cst (.int .i64 0)), none⟩] [])
  (.seq (.block 0 (.seq (.region false [⟨(some 4), .faddr (.tmp 1) 0, none⟩,
    ⟨(some 5), .load (.tmp 4) 1 false, none⟩,
    ⟨(some 6), .bin .lss (.tmp 5) (.cst (.int .i64 0)), none⟩,
    ⟨(some 7), .mov (.tmp 6), none⟩,
    ⟨(some 8), .faddr (.tmp 1) 0, (some (7, false))⟩,
    ⟨(some 9), .load (.tmp 8) 1 false, (some (7, false))⟩,
    ⟨(some 10), .bin .gtr (.tmp 9) (.cst (.int .i64 1099511627776)), (some (7, false))⟩,
    ⟨(some 11), .pick (.tmp 7) (.cst (.bool true)) (.tmp 10), none⟩,
    ⟨(some 3), .own 11, none⟩] [])
  (.cond (.tmp 3) (.seq (.region false [⟨(some 2), .mov (.cst (.int .i64 5)), none⟩] [])
  .ret) (.seq (.region false [⟨(some 13), .faddr (.tmp 1) 1, none⟩,
    ⟨(some 14), .load (.tmp 13) 1 false, none⟩,
    ⟨(some 15), .lens false (.tmp 14), none⟩,
    ⟨(some 16), .bin .gtr (.tmp 15) (.cst (.int .i64 64)), none⟩,
    ⟨(some 12), .own 16, none⟩] [])
  (.cond (.tmp 12) (.seq (.region false [⟨(some 2), .mov (.cst (.int .i64 3)), none⟩] [])
  .ret) .skip)))))
  (.seq (.region false [⟨(some 2), .mov (.cst (.int .i64 0)), none⟩] [])
  .ret)))
def x25_r0 : XCode := .seq (.region false [⟨(some 9), .bin .lss (.tmp 8) (.tmp 7), none⟩] [])
  (.seq (.cond (.tmp 9) .skip (.exit 0))
  (.seq (.block 1 (.seq (.region false [⟨(some 10), .iaddr 4 (.tmp 6) (.tmp 8), none⟩,
    ⟨(some 11), .load (.tmp 10) 4 true, none⟩,
    ⟨(some 4), .alloc [.int .i64 0, .int .i64 0, .int .i64 0, .str []], none⟩,
    ⟨none, .store (.tmp 4) (.tmp 11) 4, none⟩] [])
  (.seq (.region false [⟨(some 12), .load (.tmp 4) 4 true, none⟩,
    ⟨(some 13), .callq 52 [.tmp 12], none⟩,
    ⟨(some 5), .own 13, none⟩] [])
  (.seq (.region false [⟨(some 14), .mov (.tmp 5), none⟩,
    ⟨(some 15), .bin .neq (.tmp 14) (.cst (.int .i64 0)), none⟩] [])
  (.cond (.tmp 15) (.seq (.region false [⟨(some 16), .mov (.tmp 5), none⟩,
    ⟨(some 2), .own 16, none⟩] [])
  .ret) .skip)))))
  (.region false [⟨(some 17), .bin .add (.tmp 8) (.cst (.int .i64 1)), none⟩,
    ⟨(some 8), .mov (.tmp 17), none⟩] [])))
def x25_l0 : XCode := x25_r0
/-- custos/trace.values -/
def x25 : XFn := XFn.mk 18 [.tmp 2] (.seq (.region false [⟨(some 2), .mov (.cst (.int .i64 0)), none⟩] [])
  (.seq (.seq (.region false [⟨(some 6), .mov (.tmp 0), none⟩,
    ⟨(some 7), .lens false (.tmp 6), none⟩,
    ⟨(some 8), .mov (.cst (.int .i64 0)), none⟩] [])
  (.block 0 (.loop x25_l0)))
  (.seq (.region false [⟨(some 2), .mov (.cst (.int .i64 0)), none⟩] [])
  .ret)))
/-- custos/trace.declared -/
def x26 : XFn := XFn.mk 8 [.tmp 4] (.seq (.region false [⟨(some 3), .box (.tmp 1) 1, none⟩,
    ⟨(some 4), .mov (.cst (.int .i64 0)), none⟩] [])
  (.seq (.region false [⟨(some 5), .mov (.tmp 0), none⟩,
    ⟨(some 6), .mkfn 54 [] [.tmp 3], none⟩,
    ⟨(some 7), .callw 53 [.tmp 5, .tmp 6], none⟩,
    ⟨(some 4), .own 7, none⟩] [])
  .ret))
def x27_r0 : XCode := .seq (.region false [⟨(some 18), .bin .lss (.tmp 17) (.tmp 16), none⟩] [])
  (.seq (.cond (.tmp 18) .skip (.exit 0))
  (.seq (.block 1 (.seq (.region false [⟨(some 19), .mov (.tmp 17), none⟩,
    ⟨(some 20), .iaddr 1 (.tmp 15) (.tmp 17), none⟩,
    ⟨(some 21), .load (.tmp 20) 1 false, none⟩,
    ⟨(some 7), .own 19, none⟩,
    ⟨(some 8), .own 21, none⟩] [])
  (.seq (.region false [⟨(some 22), .mov (.tmp 1), none⟩,
    ⟨(some 23), .mov (.tmp 7), none⟩,
    ⟨(some 24), .iaddr 4 (.tmp 22) (.tmp 23), none⟩,
    ⟨(some 25), .load (.tmp 24) 4 true, none⟩,
    ⟨(some 9), .alloc [.int .i64 0, .int .i64 0, .int .i64 0, .str []], none⟩,
    ⟨none, .store (.tmp 9) (.tmp 25) 4, none⟩] [])
  (.seq (.region false [⟨(some 26), .mov (.tmp 2), none⟩,
    ⟨(some 27), .mov (.tmp 8), none⟩,
    ⟨(some 28), .load (.tmp 9) 4 true, none⟩,
    ⟨(some 29), .calld (.tmp 26) [.tmp 27, .tmp 28], none⟩,
    ⟨(some 30), .not (.tmp 29), none⟩] [])
  (.cond (.tmp 30) (.seq (.region false [⟨(some 6), .mov (.cst (.bool false)), none⟩] [])
  .ret) .skip)))))
  (.region false [⟨(some 31), .bin .add (.tmp 17) (.cst (.int .i64 1)), none⟩,
    ⟨(some 17), .mov (.tmp 31), none⟩] [])))
def x27_l0 : XCode := x27_r0
/-- slices.EqualFunc[[]int,[]custos/api.Value,int,custos/api.Value] -/
def x27 : XFn := XFn.mk 32 [.tmp 6] (.seq (.region false [⟨(some 6), .mov (.cst (.bool false)), none⟩] [])
  (.seq (.seq (.region false [⟨(some 10), .mov (.tmp 0), none⟩,
    ⟨(some 11), .lens false (.tmp 10), none⟩,
    ⟨(some 12), .mov (.tmp 1), none⟩,
    ⟨(some 13), .lens false (.tmp 12), none⟩,
    ⟨(some 14), .bin .neq (.tmp 11) (.tmp 13), none⟩] [])
  (.cond (.tmp 14) (.seq (.region false [⟨(some 6), .mov (.cst (.bool false)), none⟩] [])
  .ret) .skip))
  (.seq (.seq (.region false [⟨(some 15), .mov (.tmp 0), none⟩,
    ⟨(some 16), .lens false (.tmp 15), none⟩,
    ⟨(some 17), .mov (.cst (.int .i64 0)), none⟩] [])
  (.block 0 (.loop x27_l0)))
  (.seq (.region false [⟨(some 6), .mov (.cst (.bool true)), none⟩] [])
  .ret))))
/-- custos/trace.CheckPoint$1 -/
def x28 : XFn := XFn.mk 9 [.tmp 4] (.seq (.region false [⟨(some 3), .box (.tmp 1) 4, none⟩,
    ⟨(some 4), .mov (.cst (.bool false)), none⟩] [])
  (.seq (.region false [⟨(some 5), .faddr (.tmp 3) 0, none⟩,
    ⟨(some 6), .load (.tmp 5) 1 false, none⟩,
    ⟨(some 7), .mov (.tmp 0), none⟩,
    ⟨(some 8), .bin .eql (.tmp 6) (.tmp 7), none⟩,
    ⟨(some 4), .own 8, none⟩] [])
  .ret))
/-- custos/trace.tokens -/
def x32 : XFn := XFn.mk 24 [.tmp 2, .tmp 3] (.seq (.region false [⟨(some 2), .mov (.cst .nilsl), none⟩,
    ⟨(some 3), .mov (.cst .nilif), none⟩] [])
  (.seq (.seq (.region false [⟨(some 7), .mov (.tmp 0), none⟩,
    ⟨(some 8), .lens true (.tmp 7), none⟩,
    ⟨(some 9), .bin .gtr (.tmp 8) (.cst (.int .i64 4096)), none⟩] [])
  (.cond (.tmp 9) (.seq (.region false [⟨(some 10), .build [.int .i64 0] [(0, 1, .cst (.int .i64 2))], none⟩,
    ⟨(some 11), .mkif 96 (.tmp 10), none⟩,
    ⟨(some 2), .mov (.cst .nilsl), none⟩,
    ⟨(some 3), .own 11, none⟩] [])
  .ret) .skip))
  (.seq (.region false [⟨(some 13), .mov (.tmp 0), none⟩,
    ⟨(some 14), .callq 56 [.tmp 13], none⟩,
    ⟨(some 12), .mov (.tmp 14), none⟩,
    ⟨(some 15), .ext 12 0, none⟩,
    ⟨(some 16), .ext 12 1, none⟩,
    ⟨(some 17), .ext 12 2, none⟩,
    ⟨(some 4), .own 15, none⟩,
    ⟨(some 5), .own 16, none⟩,
    ⟨(some 6), .own 17, none⟩] [])
  (.seq (.seq (.region false [⟨(some 18), .mov (.tmp 5), none⟩,
    ⟨(some 19), .bin .neq (.tmp 18) (.cst (.int .i64 0)), none⟩] [])
  (.cond (.tmp 19) (.seq (.region false [⟨(some 20), .mov (.tmp 5), none⟩,
    ⟨(some 21), .build [.int .i64 0] [(0, 1, .tmp 20)], none⟩,
    ⟨(some 22), .mkif 96 (.tmp 21), none⟩,
    ⟨(some 2), .mov (.cst .nilsl), none⟩,
    ⟨(some 3), .own 22, none⟩] [])
  .ret) .skip))
  (.seq (.region false [⟨(some 23), .mov (.tmp 4), none⟩,
    ⟨(some 2), .own 23, none⟩,
    ⟨(some 3), .mov (.cst .nilif), none⟩] [])
  .ret)))))
def x33_r0 : XCode := .seq (.seq (.region false [⟨(some 67), .mov (.tmp 0), none⟩,
    ⟨(some 68), .lens false (.tmp 67), none⟩,
    ⟨(some 69), .bin .gtr (.tmp 68) (.cst (.int .i64 0)), none⟩,
    ⟨(some 70), .mov (.tmp 69), none⟩,
    ⟨(some 71), .mov (.tmp 0), (some (70, true))⟩,
    ⟨(some 72), .iaddr 7 (.tmp 71) (.cst (.int .i64 0)), (some (70, true))⟩,
    ⟨(some 73), .faddr (.tmp 72) 0, (some (70, true))⟩,
    ⟨(some 74), .load (.tmp 73) 1 false, (some (70, true))⟩,
    ⟨(some 75), .bin .eql (.tmp 74) (.cst (.int .i64 6)), (some (70, true))⟩,
    ⟨(some 76), .pick (.tmp 70) (.tmp 75) (.cst (.bool false)), none⟩] [])
  (.cond (.tmp 76) .skip (.exit 2)))
  (.block 3 (.seq (.region true [⟨(some 77), .faddr (.tmp 6) 1, none⟩,
    ⟨(some 78), .lown (.tmp 77), none⟩,
    ⟨(some 79), .mov (.tmp 0), none⟩,
    ⟨(some 80), .iaddr 7 (.tmp 79) (.cst (.int .i64 0)), none⟩,
    ⟨(some 81), .faddr (.tmp 80) 3, none⟩,
    ⟨(some 82), .load (.tmp 81) 4 true, none⟩,
    ⟨(some 83), .bslice 4 [.int .i64 0, .int .i64 0, .int .i64 0, .str []] [(0, 4, .tmp 82)], none⟩,
    ⟨(some 84), .app false 4 40 78 (.tmp 83), none⟩,
    ⟨(some 85), .faddr (.tmp 6) 1, none⟩,
    ⟨none, .store (.tmp 85) (.tmp 84) 1, none⟩] [(77, 81)])
  (.region false [⟨(some 86), .mov (.tmp 0), none⟩,
    ⟨(some 87), .ssl 7 (.tmp 86) (some (.cst (.int .i64 1))) none none, none⟩,
    ⟨(some 0), .own 87, none⟩] [])))
def x33_l0 : XCode := x33_r0
def x33_r1 : XCode := .seq (.seq (.region false [⟨(some 29), .mov (.tmp 0), none⟩,
    ⟨(some 30), .lens false (.tmp 29), none⟩,
    ⟨(some 31), .bin .gtr (.tmp 30) (.cst (.int .i64 0)), none⟩] [])
  (.cond (.tmp 31) .skip (.exit 0)))
  (.block 1 (.seq (.seq (.region false [⟨(some 32), .mov (.tmp 0), none⟩,
    ⟨(some 33), .lens false (.tmp 32), none⟩,
    ⟨(some 34), .bin .lss (.tmp 33) (.cst (.int .i64 3)), none⟩,
    ⟨(some 35), .mov (.tmp 34), none⟩,
    ⟨(some 36), .mov (.tmp 0), (some (35, false))⟩,
    ⟨(some 37), .iaddr 7 (.tmp 36) (.cst (.int .i64 0)), (some (35, false))⟩,
    ⟨(some 38), .faddr (.tmp 37) 0, (some (35, false))⟩,
    ⟨(some 39), .load (.tmp 38) 1 false, (some (35, false))⟩,
    ⟨(some 40), .bin .neq (.tmp 39) (.cst (.int .i64 1)), (some (35, false))⟩,
    ⟨(some 41), .pick (.tmp 35) (.cst (.bool true)) (.tmp 40), none⟩,
    ⟨(some 42), .mov (.tmp 41), none⟩,
    ⟨(some 43), .mov (.tmp 0), (some (42, false))⟩,
    ⟨(some 44), .iaddr 7 (.tmp 43) (.cst (.int .i64 1)), (some (42, false))⟩,
    ⟨(some 45), .faddr (.tmp 44) 0, (some (42, false))⟩,
    ⟨(some 46), .load (.tmp 45) 1 false, (some (42, false))⟩,
    ⟨(some 47), .bin .neq (.tmp 46) (.cst (.int .i64 3)), (some (42, false))⟩,
    ⟨(some 48), .pick (.tmp 42) (.cst (.bool true)) (.tmp 47), none⟩,
    ⟨(some 49), .mov (.tmp 48), none⟩,
    ⟨(some 50), .mov (.tmp 0), (some (49, false))⟩,
    ⟨(some 51), .iaddr 7 (.tmp 50) (.cst (.int .i64 1)), (some (49, false))⟩,
    ⟨(some 52), .faddr (.tmp 51) 2, (some (49, false))⟩,
    ⟨(some 53), .load (.tmp 52) 1 false, (some (49, false))⟩,
    ⟨(some 54), .callq 39 [.tmp 53], (some (49, false))⟩,
    ⟨(some 55), .not (.tmp 54), (some (49, false))⟩,
    ⟨(some 56), .pick (.tmp 49) (.cst (.bool true)) (.tmp 55), none⟩] [])
  (.cond (.tmp 56) (.seq (.region true [⟨(some 57), .build [.int .i64 0, .nilsl] [], none⟩,
    ⟨(some 58), .load (.tmp 4) 1 true, none⟩,
    ⟨(some 59), .mkif 96 (.tmp 58), none⟩,
    ⟨none, .store (.tmp 2) (.tmp 57) 2, none⟩,
    ⟨(some 3), .own 59, none⟩] [(4, 2)])
  .ret) .skip))
  (.seq (.region false [⟨(some 60), .mov (.tmp 0), none⟩,
    ⟨(some 61), .iaddr 7 (.tmp 60) (.cst (.int .i64 1)), none⟩,
    ⟨(some 62), .faddr (.tmp 61) 2, none⟩,
    ⟨(some 63), .load (.tmp 62) 1 false, none⟩,
    ⟨(some 64), .build [.str [], .nilsl] [(0, 1, .tmp 63)], none⟩,
    ⟨(some 6), .alloc [.str [], .nilsl], none⟩,
    ⟨none, .store (.tmp 6) (.tmp 64) 2, none⟩] [])
  (.seq (.region false [⟨(some 65), .mov (.tmp 0), none⟩,
    ⟨(some 66), .ssl 7 (.tmp 65) (some (.cst (.int .i64 2))) none none, none⟩,
    ⟨(some 0), .own 66, none⟩] [])
  (.seq (.block 2 (.loop x33_l0))
  (.seq (.seq (.region false [⟨(some 88), .mov (.tmp 0), none⟩,
    ⟨(some 89), .lens false (.tmp 88), none⟩,
    ⟨(some 90), .bin .eql (.tmp 89) (.cst (.int .i64 0)), none⟩,
    ⟨(some 91), .mov (.tmp 90), none⟩,
    ⟨(some 92), .mov (.tmp 0), (some (91, false))⟩,
    ⟨(some 93), .iaddr 7 (.tmp 92) (.cst (.int .i64 0)), (some (91, false))⟩,
    ⟨(some 94), .faddr (.tmp 93) 0, (some (91, false))⟩,
    ⟨(some 95), .load (.tmp 94) 1 false, (some (91, false))⟩,
    ⟨(some 96), .bin .neq (.tmp 95) (.cst (.int .i64 2)), (some (91, false))⟩,
    ⟨(some 97), .pick (.tmp 91) (.cst (.bool true)) (.tmp 96), none⟩] [])
  (.cond (.tmp 97) (.seq (.region true [⟨(some 98), .build [.int .i64 0, .nilsl] [], none⟩,
    ⟨(some 99), .load (.tmp 4) 1 true, none⟩,
    ⟨(some 100), .mkif 96 (.tmp 99), none⟩,
    ⟨none, .store (.tmp 2) (.tmp 98) 2, none⟩,
    ⟨(some 3), .own 100, none⟩] [(4, 2)])
  .ret) .skip))
  (.seq (.region false [⟨(some 101), .mov (.tmp 0), none⟩,
    ⟨(some 102), .ssl 7 (.tmp 101) (some (.cst (.int .i64 1))) none none, none⟩,
    ⟨(some 0), .own 102, none⟩] [])
  (.region false [⟨(some 103), .faddr (.tmp 5) 1, none⟩,
    ⟨(some 104), .lown (.tmp 103), none⟩,
    ⟨(some 105), .load (.tmp 6) 2 true, none⟩,
    ⟨(some 106), .bslice 2 [.str [], .nilsl] [(0, 2, .tmp 105)], none⟩,
    ⟨(some 107), .app false 2 40 104 (.tmp 106), none⟩,
    ⟨(some 108), .faddr (.tmp 5) 1, none⟩,
    ⟨none, .store (.tmp 108) (.tmp 107) 1, none⟩] []))))))))
def x33_l1 : XCode := x33_r1
/-- custos/trace.points -/
def x33 : XFn := XFn.mk 117 [.cell 2 2 true, .tmp 3] (.seq (.region false [⟨(some 2), .alloc [.int .i64 0, .nilsl], none⟩,
    ⟨(some 3), .mov (.cst .nilif), none⟩] [])
  (.seq (.region false [⟨(some 7), .build [.int .i64 0] [(0, 1, .cst (.int .i64 70))], none⟩,
    ⟨(some 4), .alloc [.int .i64 0], none⟩,
    ⟨none, .store (.tmp 4) (.tmp 7) 1, none⟩] [])
  (.seq (.seq (.region false [⟨(some 8), .mov (.tmp 0), none⟩,
    ⟨(some 9), .lens false (.tmp 8), none⟩,
    ⟨(some 10), .bin .eql (.tmp 9) (.cst (.int .i64 0)), none⟩,
    ⟨(some 11), .mov (.tmp 10), none⟩,
    ⟨(some 12), .mov (.tmp 0), (some (11, false))⟩,
    ⟨(some 13), .iaddr 7 (.tmp 12) (.cst (.int .i64 0)), (some (11, false))⟩,
    ⟨(some 14), .faddr (.tmp 13) 0, (some (11, false))⟩,
    ⟨(some 15), .load (.tmp 14) 1 false, (some (11, false))⟩,
    ⟨(some 16), .bin .neq (.tmp 15) (.cst (.int .i64 7)), (some (11, false))⟩,
    ⟨(some 17), .pick (.tmp 11) (.cst (.bool true)) (.tmp 16), none⟩] [])
  (.cond (.tmp 17) (.seq (.region true [⟨(some 18), .build [.int .i64 0, .nilsl] [], none⟩,
    ⟨(some 19), .load (.tmp 4) 1 true, none⟩,
    ⟨(some 20), .mkif 96 (.tmp 19), none⟩,
    ⟨none, .store (.tmp 2) (.tmp 18) 2, none⟩,
    ⟨(some 3), .own 20, none⟩] [(4, 2)])
  .ret) .skip))
  (.seq (.region false [⟨(some 21), .mov (.tmp 0), none⟩,
    ⟨(some 22), .iaddr 7 (.tmp 21) (.cst (.int .i64 0)), none⟩,
    ⟨(some 23), .faddr (.tmp 22) 3, none⟩,
    ⟨(some 24), .faddr (.tmp 23) 1, none⟩,
    ⟨(some 25), .load (.tmp 24) 1 false, none⟩,
    ⟨(some 26), .build [.int .i64 0, .nilsl] [(0, 1, .tmp 25)], none⟩,
    ⟨(some 5), .alloc [.int .i64 0, .nilsl], none⟩,
    ⟨none, .store (.tmp 5) (.tmp 26) 2, none⟩] [])
  (.seq (.region false [⟨(some 27), .mov (.tmp 0), none⟩,
    ⟨(some 28), .ssl 7 (.tmp 27) (some (.cst (.int .i64 1))) none none, none⟩,
    ⟨(some 0), .own 28, none⟩] [])
  (.seq (.block 0 (.loop x33_l1))
  (.seq (.seq (.region false [⟨(some 109), .faddr (.tmp 5) 1, none⟩,
    ⟨(some 110), .load (.tmp 109) 1 false, none⟩,
    ⟨(some 111), .lens false (.tmp 110), none⟩,
    ⟨(some 112), .bin .gtr (.tmp 111) (.cst (.int .i64 64)), none⟩] [])
  (.cond (.tmp 112) (.seq (.region false [⟨(some 113), .build [.int .i64 0, .nilsl] [], none⟩,
    ⟨(some 114), .build [.int .i64 0] [(0, 1, .cst (.int .i64 3))], none⟩,
    ⟨(some 115), .mkif 96 (.tmp 114), none⟩,
    ⟨none, .store (.tmp 2) (.tmp 113) 2, none⟩,
    ⟨(some 3), .own 115, none⟩] [])
  .ret) .skip))
  (.seq (.region false [⟨(some 116), .load (.tmp 5) 2 true, none⟩,
    ⟨none, .store (.tmp 2) (.tmp 116) 2, none⟩,
    ⟨(some 3), .mov (.cst .nilif), none⟩] [])
  .ret))))))))
/-- custos/custosref02.Same -/
def x37 : XFn := XFn.mk 31 [.tmp 4] (.seq (.region false [⟨(some 2), .box (.tmp 0) 4, none⟩,
    ⟨(some 3), .box (.tmp 1) 4, none⟩,
    ⟨(some 4), .mov (.cst (.bool false)), none⟩] [])
  (.seq (.region false [⟨(some 5), .faddr (.tmp 2) 0, none⟩,
    ⟨(some 6), .load (.tmp 5) 1 false, none⟩,
    ⟨(some 7), .faddr (.tmp 3) 0, none⟩,
    ⟨(some 8), .load (.tmp 7) 1 false, none⟩,
    ⟨(some 9), .bin .eql (.tmp 6) (.tmp 8), none⟩,
    ⟨(some 10), .mov (.tmp 9), none⟩,
    ⟨(some 11), .faddr (.tmp 2) 1, (some (10, true))⟩,
    ⟨(some 12), .load (.tmp 11) 1 false, (some (10, true))⟩,
    ⟨(some 13), .faddr (.tmp 3) 1, (some (10, true))⟩,
    ⟨(some 14), .load (.tmp 13) 1 false, (some (10, true))⟩,
    ⟨(some 15), .bin .eql (.tmp 12) (.tmp 14), (some (10, true))⟩,
    ⟨(some 16), .pick (.tmp 10) (.tmp 15) (.cst (.bool false)), none⟩,
    ⟨(some 17), .mov (.tmp 16), none⟩,
    ⟨(some 18), .faddr (.tmp 2) 2, (some (17, true))⟩,
    ⟨(some 19), .load (.tmp 18) 1 false, (some (17, true))⟩,
    ⟨(some 20), .faddr (.tmp 3) 2, (some (17, true))⟩,
    ⟨(some 21), .load (.tmp 20) 1 false, (some (17, true))⟩,
    ⟨(some 22), .bin .eql (.tmp 19) (.tmp 21), (some (17, true))⟩,
    ⟨(some 23), .pick (.tmp 17) (.tmp 22) (.cst (.bool false)), none⟩,
    ⟨(some 24), .mov (.tmp 23), none⟩,
    ⟨(some 25), .faddr (.tmp 2) 3, (some (24, true))⟩,
    ⟨(some 26), .load (.tmp 25) 1 false, (some (24, true))⟩,
    ⟨(some 27), .faddr (.tmp 3) 3, (some (24, true))⟩,
    ⟨(some 28), .load (.tmp 27) 1 false, (some (24, true))⟩,
    ⟨(some 29), .bin .eql (.tmp 26) (.tmp 28), (some (24, true))⟩,
    ⟨(some 30), .pick (.tmp 24) (.tmp 29) (.cst (.bool false)), none⟩,
    ⟨(some 4), .own 30, none⟩] [])
  .ret))
def x39_r0 : XCode := .seq (.region false [⟨(some 19), .nexts (.tmp 18), none⟩,
    ⟨(some 20), .ext 19 0, none⟩] [])
  (.seq (.cond (.tmp 20) .skip (.exit 0))
  (.block 1 (.seq (.region false [⟨(some 21), .ext 19 1, none⟩,
    ⟨(some 22), .ext 19 2, none⟩,
    ⟨(some 3), .own 21, none⟩,
    ⟨(some 4), .own 22, none⟩] [])
  (.seq (.region false [⟨(some 23), .mov (.tmp 4), none⟩,
    ⟨(some 24), .bin .geq (.tmp 23) (.cst (.int .i32 97)), none⟩,
    ⟨(some 25), .mov (.tmp 24), none⟩,
    ⟨(some 26), .mov (.tmp 4), (some (25, true))⟩,
    ⟨(some 27), .bin .leq (.tmp 26) (.cst (.int .i32 122)), (some (25, true))⟩,
    ⟨(some 28), .pick (.tmp 25) (.tmp 27) (.cst (.bool false)), none⟩,
    ⟨(some 5), .own 28, none⟩] [])
  (.seq (.region false [⟨(some 29), .mov (.tmp 5), none⟩,
    ⟨(some 30), .not (.tmp 29), none⟩,
    ⟨(some 31), .mov (.tmp 30), none⟩,
    ⟨(some 32), .mov (.tmp 3), (some (31, true))⟩,
    ⟨(some 33), .bin .eql (.tmp 32) (.cst (.int .i64 0)), (some (31, true))⟩,
    ⟨(some 34), .mov (.tmp 33), (some (31, true))⟩,
    ⟨(some 35), .mov (.tmp 4), (some (34, false))⟩,
    ⟨(some 36), .bin .neq (.tmp 35) (.cst (.int .i32 95)), (some (34, false))⟩,
    ⟨(some 37), .mov (.tmp 36), (some (34, false))⟩,
    ⟨(some 38), .mov (.tmp 4), (some (37, true))⟩,
    ⟨(some 39), .bin .lss (.tmp 38) (.cst (.int .i32 48)), (some (37, true))⟩,
    ⟨(some 40), .mov (.tmp 39), (some (37, true))⟩,
    ⟨(some 41), .mov (.tmp 4), (some (40, false))⟩,
    ⟨(some 42), .bin .gtr (.tmp 41) (.cst (.int .i32 57)), (some (40, false))⟩,
    ⟨(some 43), .pick (.tmp 40) (.cst (.bool true)) (.tmp 42), (some (37, true))⟩,
    ⟨(some 44), .pick (.tmp 37) (.tmp 43) (.cst (.bool false)), (some (34, false))⟩,
    ⟨(some 45), .pick (.tmp 34) (.cst (.bool true)) (.tmp 44), (some (31, true))⟩,
    ⟨(some 46), .pick (.tmp 31) (.tmp 45) (.cst (.bool false)), none⟩] [])
  (.cond (.tmp 46) (.seq (.region false [⟨(some 2), .mov (.cst (.bool false)), none⟩] [])
  .ret) .skip))))))
def x39_l0 : XCode := x39_r0
/-- custos/ast.Name -/
def x39 : XFn := XFn.mk 47 [.tmp 2] (.seq (.region false [⟨(some 2), .mov (.cst (.bool false)), none⟩] [])
  (.seq (.seq (.region false [⟨(some 6), .mov (.tmp 0), none⟩,
    ⟨(some 7), .bin .eql (.tmp 6) (.cst (.str [])), none⟩,
    ⟨(some 8), .mov (.tmp 7), none⟩,
    ⟨(some 9), .mov (.tmp 0), (some (8, false))⟩,
    ⟨(some 10), .lens true (.tmp 9), (some (8, false))⟩,
    ⟨(some 11), .bin .gtr (.tmp 10) (.cst (.int .i64 16)), (some (8, false))⟩,
    ⟨(some 12), .pick (.tmp 8) (.cst (.bool true)) (.tmp 11), none⟩,
    ⟨(some 13), .mov (.tmp 12), none⟩,
    ⟨(some 14), .mov (.tmp 0), (some (13, false))⟩,
    ⟨(some 15), .callq 62 [.tmp 14], (some (13, false))⟩,
    ⟨(some 16), .pick (.tmp 13) (.cst (.bool true)) (.tmp 15), none⟩] [])
  (.cond (.tmp 16) (.seq (.region false [⟨(some 2), .mov (.cst (.bool false)), none⟩] [])
  .ret) .skip))
  (.seq (.seq (.region false [⟨(some 17), .mov (.tmp 0), none⟩,
    ⟨(some 18), .rngs (.tmp 17), none⟩] [])
  (.block 0 (.loop x39_l0)))
  (.seq (.region false [⟨(some 2), .mov (.cst (.bool true)), none⟩] [])
  .ret))))
/-- custos/value.Print -/
def x40 : XFn := XFn.mk 30 [.tmp 2, .tmp 3] (.seq (.region false [⟨(some 1), .box (.tmp 0) 4, none⟩,
    ⟨(some 2), .mov (.cst (.str [])), none⟩,
    ⟨(some 3), .mov (.cst (.int .i64 0)), none⟩] [])
  (.seq (.seq (.region false [⟨(some 5), .load (.tmp 1) 4 true, none⟩,
    ⟨(some 6), .callq 52 [.tmp 5], none⟩,
    ⟨(some 4), .own 6, none⟩] [])
  (.seq (.region false [⟨(some 7), .mov (.tmp 4), none⟩,
    ⟨(some 8), .bin .neq (.tmp 7) (.cst (.int .i64 0)), none⟩] [])
  (.cond (.tmp 8) (.seq (.region false [⟨(some 9), .mov (.tmp 4), none⟩,
    ⟨(some 2), .mov (.cst (.str [])), none⟩,
    ⟨(some 3), .own 9, none⟩] [])
  .ret) .skip)))
  (.seq (.seq (.region false [⟨(some 10), .faddr (.tmp 1) 0, none⟩,
    ⟨(some 11), .load (.tmp 10) 1 false, none⟩] [])
  (.block 0 (.seq (.region false [⟨(some 13), .bin .eql (.tmp 11) (.cst (.int .i64 1)), none⟩,
    ⟨(some 12), .own 13, none⟩] [])
  (.cond (.tmp 12) (.seq (.region false [⟨(some 14), .faddr (.tmp 1) 1, none⟩,
    ⟨(some 15), .load (.tmp 14) 1 false, none⟩,
    ⟨(some 16), .prim 5 38 [.tmp 15, .cst (.int .i64 10)], none⟩,
    ⟨(some 2), .own 16, none⟩,
    ⟨(some 3), .mov (.cst (.int .i64 0)), none⟩] [])
  .ret) (.seq (.region false [⟨(some 18), .bin .eql (.tmp 11) (.cst (.int .i64 2)), none⟩,
    ⟨(some 17), .own 18, none⟩] [])
  (.cond (.tmp 17) (.seq (.region true [⟨(some 19), .faddr (.tmp 1) 1, none⟩,
    ⟨(some 20), .load (.tmp 19) 1 false, none⟩,
    ⟨(some 21), .prim 5 38 [.tmp 20, .cst (.int .i64 10)], none⟩,
    ⟨(some 22), .bin .add (.tmp 21) (.cst (.str [47])), none⟩,
    ⟨(some 23), .faddr (.tmp 1) 2, none⟩,
    ⟨(some 24), .load (.tmp 23) 1 false, none⟩,
    ⟨(some 25), .prim 5 38 [.tmp 24, .cst (.int .i64 10)], none⟩,
    ⟨(some 26), .bin .add (.tmp 22) (.tmp 25), none⟩,
    ⟨(some 2), .own 26, none⟩,
    ⟨(some 3), .mov (.cst (.int .i64 0)), none⟩] [])
  .ret) .skip))))))
  (.seq (.region false [⟨(some 27), .faddr (.tmp 1) 3, none⟩,
    ⟨(some 28), .load (.tmp 27) 1 false, none⟩,
    ⟨(some 29), .callq 63 [.tmp 28], none⟩,
    ⟨(some 2), .own 29, none⟩,
    ⟨(some 3), .mov (.cst (.int .i64 0)), none⟩] [])
  .ret))))
/-- slices.ContainsFunc[[]int,int] -/
def x43 : XFn := XFn.mk 9 [.tmp 4] (.seq (.region false [⟨(some 4), .mov (.cst (.bool false)), none⟩] [])
  (.seq (.region false [⟨(some 5), .mov (.tmp 0), none⟩,
    ⟨(some 6), .mov (.tmp 1), none⟩,
    ⟨(some 7), .callw 65 [.tmp 5, .tmp 6], none⟩,
    ⟨(some 8), .bin .geq (.tmp 7) (.cst (.int .i64 0)), none⟩,
    ⟨(some 4), .own 8, none⟩] [])
  .ret))
/-- custos/trace.CheckSignature$1 -/
def x44 : XFn := XFn.mk 9 [.tmp 2] (.seq (.region false [⟨(some 2), .mov (.cst (.bool false)), none⟩] [])
  (.seq (.region false [⟨(some 3), .mov (.tmp 0), none⟩,
    ⟨(some 4), .bin .lss (.tmp 3) (.cst (.int .i64 1)), none⟩,
    ⟨(some 5), .mov (.tmp 4), none⟩,
    ⟨(some 6), .mov (.tmp 0), (some (5, false))⟩,
    ⟨(some 7), .bin .gtr (.tmp 6) (.cst (.int .i64 3)), (some (5, false))⟩,
    ⟨(some 8), .pick (.tmp 5) (.cst (.bool true)) (.tmp 7), none⟩,
    ⟨(some 2), .own 8, none⟩] [])
  .ret))
/-- (*strings.Builder).WriteString -/
def x46 : XFn := XFn.mk 0 [] (.exit 1083005)
/-- custos/trace.kinds -/
def x47 : XFn := XFn.mk 2 [.tmp 0] (.seq (.region false [⟨(some 0), .mov (.cst .nilsl), none⟩] [])
  (.seq (.region false [⟨(some 1), .bslice 1 [.str [], .str [], .str [], .str []] [(1, 1, .cst (.str [105, 110, 116])), (2, 1, .cst (.str [114, 97, 116])), (3, 1, .cst (.str [115, 116, 114]))], none⟩,
    ⟨(some 0), .own 1, none⟩] [])
  .ret))
/-- (*strings.Builder).String -/
def x48 : XFn := XFn.mk 0 [] (.exit 2083005)
def x51_r0 : XCode := .seq (.region false [⟨(some 50), .bin .lss (.tmp 49) (.tmp 48), none⟩] [])
  (.seq (.cond (.tmp 50) .skip (.exit 0))
  (.seq (.block 1 (.seq (.region false [⟨(some 51), .iaddr 7 (.tmp 47) (.tmp 49), none⟩,
    ⟨(some 52), .load (.tmp 51) 7 true, none⟩,
    ⟨(some 11), .alloc [.int .i64 0, .int .i64 0, .str [], .int .i64 0, .int .i64 0, .int .i64 0, .str []], none⟩,
    ⟨none, .store (.tmp 11) (.tmp 52) 7, none⟩] [])
  (.seq (.region true [⟨(some 53), .callq 47 [], none⟩,
    ⟨(some 54), .faddr (.tmp 11) 2, none⟩,
    ⟨(some 55), .load (.tmp 54) 1 false, none⟩,
    ⟨(some 56), .callq 68 [.tmp 53, .tmp 55], none⟩,
    ⟨(some 12), .own 56, none⟩] [])
  (.seq (.seq (.region false [⟨(some 57), .faddr (.tmp 11) 0, none⟩,
    ⟨(some 58), .load (.tmp 57) 1 false, none⟩,
    ⟨(some 59), .bin .neq (.tmp 58) (.cst (.int .i64 3)), none⟩,
    ⟨(some 60), .mov (.tmp 59), none⟩,
    ⟨(some 61), .mov (.tmp 12), (some (60, false))⟩,
    ⟨(some 62), .bin .lss (.tmp 61) (.cst (.int .i64 1)), (some (60, false))⟩,
    ⟨(some 63), .pick (.tmp 60) (.cst (.bool true)) (.tmp 62), none⟩] [])
  (.cond (.tmp 63) (.seq (.region false [⟨(some 64), .load (.tmp 9) 2 true, none⟩,
    ⟨(some 65), .build [.int .i64 0] [(0, 1, .cst (.int .i64 70))], none⟩,
    ⟨(some 66), .mkif 96 (.tmp 65), none⟩,
    ⟨none, .store (.tmp 4) (.tmp 64) 2, none⟩,
    ⟨(some 5), .mov (.cst (.bool false)), none⟩,
    ⟨(some 6), .own 66, none⟩] [])
  .ret) .skip))
  (.region false [⟨(some 67), .faddr (.tmp 9) 1, none⟩,
    ⟨(some 68), .lown (.tmp 67), none⟩,
    ⟨(some 69), .mov (.tmp 12), none⟩,
    ⟨(some 70), .bslice 1 [.int .i64 0] [(0, 1, .tmp 69)], none⟩,
    ⟨(some 71), .app false 1 8 68 (.tmp 70), none⟩,
    ⟨(some 72), .faddr (.tmp 9) 1, none⟩,
    ⟨none, .store (.tmp 72) (.tmp 71) 1, none⟩] [])))))
  (.region false [⟨(some 73), .bin .add (.tmp 49) (.cst (.int .i64 1)), none⟩,
    ⟨(some 49), .mov (.tmp 73), none⟩] [])))
def x51_l0 : XCode := x51_r0
/-- custos/trace.declares -/
def x51 : XFn := XFn.mk 97 [.cell 4 2 true, .tmp 5, .tmp 6] (.seq (.region false [⟨(some 4), .alloc [.str [], .nilsl], none⟩,
    ⟨(some 5), .mov (.cst (.bool false)), none⟩,
    ⟨(some 6), .mov (.cst .nilif), none⟩] [])
  (.seq (.region false [⟨(some 14), .mov (.tmp 1), none⟩,
    ⟨(some 15), .callq 32 [.tmp 14], none⟩,
    ⟨(some 13), .mov (.tmp 15), none⟩,
    ⟨(some 16), .ext 13 0, none⟩,
    ⟨(some 17), .ext 13 1, none⟩,
    ⟨(some 7), .own 16, none⟩,
    ⟨(some 8), .own 17, none⟩] [])
  (.seq (.seq (.region false [⟨(some 18), .mov (.tmp 8), none⟩,
    ⟨(some 19), .eqnil 0 true (.tmp 18), none⟩,
    ⟨(some 20), .mov (.tmp 19), none⟩,
    ⟨(some 21), .mov (.tmp 7), (some (20, false))⟩,
    ⟨(some 22), .lens false (.tmp 21), (some (20, false))⟩,
    ⟨(some 23), .bin .eql (.tmp 22) (.cst (.int .i64 0)), (some (20, false))⟩,
    ⟨(some 24), .pick (.tmp 20) (.cst (.bool true)) (.tmp 23), none⟩] [])
  (.cond (.tmp 24) (.seq (.region false [⟨(some 25), .build [.str [], .nilsl] [], none⟩,
    ⟨(some 26), .mov (.tmp 8), none⟩,
    ⟨none, .store (.tmp 4) (.tmp 25) 2, none⟩,
    ⟨(some 5), .mov (.cst (.bool false)), none⟩,
    ⟨(some 6), .own 26, none⟩] [])
  .ret) .skip))
  (.seq (.region false [⟨(some 27), .mov (.tmp 7), none⟩,
    ⟨(some 28), .iaddr 7 (.tmp 27) (.cst (.int .i64 0)), none⟩,
    ⟨(some 29), .faddr (.tmp 28) 2, none⟩,
    ⟨(some 30), .load (.tmp 29) 1 false, none⟩,
    ⟨(some 31), .build [.str [], .nilsl] [(0, 1, .tmp 30)], none⟩,
    ⟨(some 9), .alloc [.str [], .nilsl], none⟩,
    ⟨none, .store (.tmp 9) (.tmp 31) 2, none⟩] [])
  (.seq (.seq (.region false [⟨(some 32), .mov (.tmp 7), none⟩,
    ⟨(some 33), .iaddr 7 (.tmp 32) (.cst (.int .i64 0)), none⟩,
    ⟨(some 34), .faddr (.tmp 33) 0, none⟩,
    ⟨(some 35), .load (.tmp 34) 1 false, none⟩,
    ⟨(some 36), .bin .neq (.tmp 35) (.cst (.int .i64 3)), none⟩,
    ⟨(some 37), .mov (.tmp 36), none⟩,
    ⟨(some 38), .faddr (.tmp 9) 0, (some (37, false))⟩,
    ⟨(some 39), .load (.tmp 38) 1 false, (some (37, false))⟩,
    ⟨(some 40), .callq 39 [.tmp 39], (some (37, false))⟩,
    ⟨(some 41), .not (.tmp 40), (some (37, false))⟩,
    ⟨(some 42), .pick (.tmp 37) (.cst (.bool true)) (.tmp 41), none⟩] [])
  (.cond (.tmp 42) (.seq (.region false [⟨(some 43), .load (.tmp 9) 2 true, none⟩,
    ⟨(some 44), .build [.int .i64 0] [(0, 1, .cst (.int .i64 70))], none⟩,
    ⟨(some 45), .mkif 96 (.tmp 44), none⟩,
    ⟨none, .store (.tmp 4) (.tmp 43) 2, none⟩,
    ⟨(some 5), .mov (.cst (.bool false)), none⟩,
    ⟨(some 6), .own 45, none⟩] [])
  .ret) .skip))
  (.seq (.seq (.region false [⟨(some 46), .mov (.tmp 7), none⟩,
    ⟨(some 47), .ssl 7 (.tmp 46) (some (.cst (.int .i64 1))) none none, none⟩,
    ⟨(some 48), .lens false (.tmp 47), none⟩,
    ⟨(some 49), .mov (.cst (.int .i64 0)), none⟩] [])
  (.block 0 (.loop x51_l0)))
  (.seq (.block 2 (.seq (.region false [⟨(some 75), .faddr (.tmp 9) 1, none⟩,
    ⟨(some 76), .load (.tmp 75) 1 false, none⟩,
    ⟨(some 77), .lens false (.tmp 76), none⟩,
    ⟨(some 78), .bin .gtr (.tmp 77) (.cst (.int .i64 6)), none⟩,
    ⟨(some 79), .mov (.tmp 78), none⟩,
    ⟨(some 80), .mov (.tmp 0), (some (79, false))⟩,
    ⟨(some 81), .lens false (.tmp 80), (some (79, false))⟩,
    ⟨(some 82), .bin .geq (.tmp 81) (.cst (.int .i64 32)), (some (79, false))⟩,
    ⟨(some 83), .pick (.tmp 79) (.cst (.bool true)) (.tmp 82), none⟩,
    ⟨(some 74), .own 83, none⟩] [])
  (.cond (.tmp 74) (.seq (.region false [⟨(some 84), .load (.tmp 9) 2 true, none⟩,
    ⟨(some 85), .build [.int .i64 0] [(0, 1, .cst (.int .i64 3))], none⟩,
    ⟨(some 86), .mkif 96 (.tmp 85), none⟩,
    ⟨none, .store (.tmp 4) (.tmp 84) 2, none⟩,
    ⟨(some 5), .mov (.cst (.bool false)), none⟩,
    ⟨(some 6), .own 86, none⟩] [])
  .ret) (.seq (.region false [⟨(some 88), .mov (.tmp 0), none⟩,
    ⟨(some 89), .faddr (.tmp 9) 0, none⟩,
    ⟨(some 90), .load (.tmp 89) 1 false, none⟩,
    ⟨(some 91), .callq 26 [.tmp 88, .tmp 90], none⟩,
    ⟨(some 92), .bin .geq (.tmp 91) (.cst (.int .i64 0)), none⟩,
    ⟨(some 87), .own 92, none⟩] [])
  (.cond (.tmp 87) (.seq (.region false [⟨(some 93), .load (.tmp 9) 2 true, none⟩,
    ⟨(some 94), .build [.int .i64 0] [(0, 1, .cst (.int .i64 1))], none⟩,
    ⟨(some 95), .mkif 96 (.tmp 94), none⟩,
    ⟨none, .store (.tmp 4) (.tmp 93) 2, none⟩,
    ⟨(some 5), .mov (.cst (.bool false)), none⟩,
    ⟨(some 6), .own 95, none⟩] [])
  .ret) .skip)))))
  (.seq (.region false [⟨(some 96), .load (.tmp 9) 2 true, none⟩,
    ⟨none, .store (.tmp 4) (.tmp 96) 2, none⟩,
    ⟨(some 5), .mov (.cst (.bool true)), none⟩,
    ⟨(some 6), .mov (.cst .nilif), none⟩] [])
  .ret))))))))
/-- custos/value.Check -/
def x52 : XFn := XFn.mk 58 [.tmp 2] (.seq (.region false [⟨(some 1), .box (.tmp 0) 4, none⟩,
    ⟨(some 2), .mov (.cst (.int .i64 0)), none⟩] [])
  (.seq (.region false [⟨(some 3), .mov (.cst (.bool false)), none⟩] [])
  (.seq (.seq (.region false [⟨(some 6), .faddr (.tmp 1) 0, none⟩,
    ⟨(some 7), .load (.tmp 6) 1 false, none⟩] [])
  (.block 0 (.seq (.region false [⟨(some 9), .bin .eql (.tmp 7) (.cst (.int .i64 1)), none⟩,
    ⟨(some 8), .own 9, none⟩] [])
  (.cond (.tmp 8) (.region false [⟨(some 10), .faddr (.tmp 1) 2, none⟩,
    ⟨(some 11), .load (.tmp 10) 1 false, none⟩,
    ⟨(some 12), .bin .neq (.tmp 11) (.cst (.int .i64 0)), none⟩,
    ⟨(some 13), .mov (.tmp 12), none⟩,
    ⟨(some 14), .faddr (.tmp 1) 3, (some (13, false))⟩,
    ⟨(some 15), .load (.tmp 14) 1 false, (some (13, false))⟩,
    ⟨(some 16), .bin .neq (.tmp 15) (.cst (.str [])), (some (13, false))⟩,
    ⟨(some 17), .pick (.tmp 13) (.cst (.bool true)) (.tmp 16), none⟩,
    ⟨(some 3), .own 17, none⟩] []) (.seq (.region false [⟨(some 19), .bin .eql (.tmp 7) (.cst (.int .i64 2)), none⟩,
    ⟨(some 18), .own 19, none⟩] [])
  (.cond (.tmp 18) (.seq (.region false [⟨(some 21), .faddr (.tmp 1) 1, none⟩,
    ⟨(some 22), .load (.tmp 21) 1 false, none⟩,
    ⟨(some 23), .faddr (.tmp 1) 2, none⟩,
    ⟨(some 24), .load (.tmp 23) 1 false, none⟩,
    ⟨(some 25), .callq 69 [.tmp 22, .tmp 24], none⟩,
    ⟨(some 20), .mov (.tmp 25), none⟩,
    ⟨(some 26), .ext 20 0, none⟩,
    ⟨(some 27), .ext 20 1, none⟩,
    ⟨(some 4), .alloc [.int .i64 0, .int .i64 0], none⟩,
    ⟨none, .store (.tmp 4) (.tmp 26) 2, none⟩,
    ⟨(some 5), .own 27, none⟩] [])
  (.region true [⟨(some 28), .faddr (.tmp 1) 3, none⟩,
    ⟨(some 29), .load (.tmp 28) 1 false, none⟩,
    ⟨(some 30), .bin .neq (.tmp 29) (.cst (.str [])), none⟩,
    ⟨(some 31), .mov (.tmp 30), none⟩,
    ⟨(some 32), .mov (.tmp 5), (some (31, false))⟩,
    ⟨(some 33), .bin .neq (.tmp 32) (.cst (.int .i64 0)), (some (31, false))⟩,
    ⟨(some 34), .pick (.tmp 31) (.cst (.bool true)) (.tmp 33), none⟩,
    ⟨(some 35), .mov (.tmp 34), none⟩,
    ⟨(some 36), .load (.tmp 4) 2 true, (some (35, false))⟩,
    ⟨(some 37), .load (.tmp 1) 4 true, (some (35, false))⟩,
    ⟨(some 38), .callq 70 [.tmp 37], (some (35, false))⟩,
    ⟨(some 39), .eqagg true [1, 1] (.tmp 36) (.tmp 38), (some (35, false))⟩,
    ⟨(some 40), .pick (.tmp 35) (.cst (.bool true)) (.tmp 39), none⟩,
    ⟨(some 3), .own 40, none⟩] [])) (.seq (.region false [⟨(some 42), .bin .eql (.tmp 7) (.cst (.int .i64 3)), none⟩,
    ⟨(some 41), .own 42, none⟩] [])
  (.cond (.tmp 41) (.region false [⟨(some 43), .faddr (.tmp 1) 1, none⟩,
    ⟨(some 44), .load (.tmp 43) 1 false, none⟩,
    ⟨(some 45), .bin .neq (.tmp 44) (.cst (.int .i64 0)), none⟩,
    ⟨(some 46), .mov (.tmp 45), none⟩,
    ⟨(some 47), .faddr (.tmp 1) 2, (some (46, false))⟩,
    ⟨(some 48), .load (.tmp 47) 1 false, (some (46, false))⟩,
    ⟨(some 49), .bin .neq (.tmp 48) (.cst (.int .i64 0)), (some (46, false))⟩,
    ⟨(some 50), .pick (.tmp 46) (.cst (.bool true)) (.tmp 49), none⟩,
    ⟨(some 3), .own 50, none⟩] []) (.region false [⟨(some 3), .mov (.cst (.bool true)), none⟩] [])))))))))
  (.seq (.block 1 (.seq (.region false [⟨(some 52), .mov (.tmp 3), none⟩,
    ⟨(some 51), .own 52, none⟩] [])
  (.cond (.tmp 51) (.seq (.region false [⟨(some 2), .mov (.cst (.int .i64 20)), none⟩] [])
  .ret) (.seq (.region false [⟨(some 54), .faddr (.tmp 1) 3, none⟩,
    ⟨(some 55), .load (.tmp 54) 1 false, none⟩,
    ⟨(some 56), .lens true (.tmp 55), none⟩,
    ⟨(some 57), .bin .gtr (.tmp 56) (.cst (.int .i64 64)), none⟩,
    ⟨(some 53), .own 57, none⟩] [])
  (.cond (.tmp 53) (.seq (.region false [⟨(some 2), .mov (.cst (.int .i64 2)), none⟩] [])
  .ret) .skip)))))
  (.seq (.region false [⟨(some 2), .mov (.cst (.int .i64 0)), none⟩] [])
  .ret)))))
def x53_r0 : XCode := .seq (.region false [⟨(some 9), .bin .lss (.tmp 8) (.tmp 7), none⟩] [])
  (.seq (.cond (.tmp 9) .skip (.exit 0))
  (.seq (.block 1 (.seq (.region false [⟨(some 10), .mov (.tmp 8), none⟩,
    ⟨(some 5), .own 10, none⟩] [])
  (.seq (.region false [⟨(some 11), .mov (.tmp 1), none⟩,
    ⟨(some 12), .mov (.tmp 0), none⟩,
    ⟨(some 13), .mov (.tmp 5), none⟩,
    ⟨(some 14), .iaddr 2 (.tmp 12) (.tmp 13), none⟩,
    ⟨(some 15), .load (.tmp 14) 2 true, none⟩,
    ⟨(some 16), .calld (.tmp 11) [.tmp 15], none⟩] [])
  (.cond (.tmp 16) (.seq (.region false [⟨(some 17), .mov (.tmp 5), none⟩,
    ⟨(some 4), .own 17, none⟩] [])
  .ret) .skip))))
  (.region false [⟨(some 18), .bin .add (.tmp 8) (.cst (.int .i64 1)), none⟩,
    ⟨(some 8), .mov (.tmp 18), none⟩] [])))
def x53_l0 : XCode := x53_r0
/-- slices.IndexFunc[[]custos/api.Decl,custos/api.Decl] -/
def x53 : XFn := XFn.mk 19 [.tmp 4] (.seq (.region false [⟨(some 4), .mov (.cst (.int .i64 0)), none⟩] [])
  (.seq (.seq (.region false [⟨(some 6), .mov (.tmp 0), none⟩,
    ⟨(some 7), .lens false (.tmp 6), none⟩,
    ⟨(some 8), .mov (.cst (.int .i64 0)), none⟩] [])
  (.block 0 (.loop x53_l0)))
  (.seq (.region false [⟨(some 4), .mov (.cst (.int .i64 (-1))), none⟩] [])
  .ret)))
/-- custos/trace.declared$1 -/
def x54 : XFn := XFn.mk 8 [.tmp 3] (.seq (.region false [⟨(some 2), .box (.tmp 0) 2, none⟩,
    ⟨(some 3), .mov (.cst (.bool false)), none⟩] [])
  (.seq (.region false [⟨(some 4), .faddr (.tmp 2) 0, none⟩,
    ⟨(some 5), .load (.tmp 4) 1 false, none⟩,
    ⟨(some 6), .load (.tmp 1) 1 false, none⟩,
    ⟨(some 7), .bin .eql (.tmp 5) (.tmp 6), none⟩,
    ⟨(some 3), .own 7, none⟩] [])
  .ret))
def x56_r0 : XCode := .seq (.seq (.region false [⟨(some 12), .mov (.tmp 6), none⟩,
    ⟨(some 13), .mov (.tmp 0), none⟩,
    ⟨(some 14), .lens true (.tmp 13), none⟩,
    ⟨(some 15), .bin .lss (.tmp 12) (.tmp 14), none⟩] [])
  (.cond (.tmp 15) .skip (.exit 0)))
  (.block 1 (.seq (.seq (.region false [⟨(some 16), .mov (.tmp 0), none⟩,
    ⟨(some 17), .mov (.tmp 6), none⟩,
    ⟨(some 18), .idxs (.tmp 16) (.tmp 17), none⟩,
    ⟨(some 19), .bin .eql (.tmp 18) (.cst (.int .u8 32)), none⟩,
    ⟨(some 20), .mov (.tmp 19), none⟩,
    ⟨(some 21), .mov (.tmp 0), (some (20, false))⟩,
    ⟨(some 22), .mov (.tmp 6), (some (20, false))⟩,
    ⟨(some 23), .idxs (.tmp 21) (.tmp 22), (some (20, false))⟩,
    ⟨(some 24), .bin .eql (.tmp 23) (.cst (.int .u8 10)), (some (20, false))⟩,
    ⟨(some 25), .pick (.tmp 20) (.cst (.bool true)) (.tmp 24), none⟩] [])
  (.cond (.tmp 25) (.seq (.region false [⟨(some 26), .mov (.tmp 6), none⟩,
    ⟨(some 27), .bin .add (.tmp 26) (.cst (.int .i64 1)), none⟩,
    ⟨(some 6), .own 27, none⟩] [])
  (.exit 1)) .skip))
  (.seq (.region false [⟨(some 29), .mov (.tmp 0), none⟩,
    ⟨(some 30), .mov (.tmp 6), none⟩,
    ⟨(some 31), .callq 73 [.tmp 29, .tmp 30], none⟩,
    ⟨(some 28), .mov (.tmp 31), none⟩,
    ⟨(some 32), .ext 28 0, none⟩,
    ⟨(some 33), .ext 28 1, none⟩,
    ⟨(some 7), .alloc [.int .i64 0, .int .i64 0, .str [], .int .i64 0, .int .i64 0, .int .i64 0, .str []], none⟩,
    ⟨none, .store (.tmp 7) (.tmp 32) 7, none⟩,
    ⟨(some 8), .own 33, none⟩] [])
  (.seq (.seq (.region false [⟨(some 34), .mov (.tmp 8), none⟩,
    ⟨(some 35), .not (.tmp 34), none⟩] [])
  (.cond (.tmp 35) (.seq (.region false [⟨(some 36), .mov (.tmp 6), none⟩,
    ⟨(some 2), .mov (.cst .nilsl), none⟩,
    ⟨(some 3), .mov (.cst (.int .i64 50)), none⟩,
    ⟨(some 4), .own 36, none⟩] [])
  .ret) .skip))
  (.seq (.region false [⟨(some 37), .own 5, none⟩,
    ⟨(some 38), .load (.tmp 7) 7 true, none⟩,
    ⟨(some 39), .bslice 7 [.int .i64 0, .int .i64 0, .str [], .int .i64 0, .int .i64 0, .int .i64 0, .str []] [(0, 7, .tmp 38)], none⟩,
    ⟨(some 40), .app false 7 72 37 (.tmp 39), none⟩,
    ⟨(some 5), .own 40, none⟩] [])
  (.region false [⟨(some 41), .mov (.tmp 6), none⟩,
    ⟨(some 42), .faddr (.tmp 7) 2, none⟩,
    ⟨(some 43), .load (.tmp 42) 1 false, none⟩,
    ⟨(some 44), .lens true (.tmp 43), none⟩,
    ⟨(some 45), .bin .add (.tmp 41) (.tmp 44), none⟩,
    ⟨(some 6), .own 45, none⟩] []))))))
def x56_l0 : XCode := x56_r0
/-- custos/lex.Tokens -/
def x56 : XFn := XFn.mk 47 [.tmp 2, .tmp 3, .tmp 4] (.seq (.region false [⟨(some 2), .mov (.cst .nilsl), none⟩,
    ⟨(some 3), .mov (.cst (.int .i64 0)), none⟩,
    ⟨(some 4), .mov (.cst (.int .i64 0)), none⟩] [])
  (.seq (.seq (.region false [⟨(some 9), .mov (.tmp 0), none⟩,
    ⟨(some 10), .lens true (.tmp 9), none⟩,
    ⟨(some 11), .bin .gtr (.tmp 10) (.cst (.int .i64 16384)), none⟩] [])
  (.cond (.tmp 11) (.seq (.region false [⟨(some 2), .mov (.cst .nilsl), none⟩,
    ⟨(some 3), .mov (.cst (.int .i64 2)), none⟩,
    ⟨(some 4), .mov (.cst (.int .i64 0)), none⟩] [])
  .ret) .skip))
  (.seq (.region false [⟨(some 5), .mov (.cst .nilsl), none⟩] [])
  (.seq (.seq (.region false [⟨(some 6), .mov (.cst (.int .i64 0)), none⟩] [])
  (.block 0 (.loop x56_l0)))
  (.seq (.region false [⟨(some 46), .mov (.tmp 5), none⟩,
    ⟨(some 2), .own 46, none⟩,
    ⟨(some 3), .mov (.cst (.int .i64 0)), none⟩,
    ⟨(some 4), .mov (.cst (.int .i64 0)), none⟩] [])
  .ret)))))
/-- custos/ast.keyword -/
def x62 : XFn := XFn.mk 28 [.tmp 2] (.seq (.region false [⟨(some 2), .mov (.cst (.bool false)), none⟩] [])
  (.seq (.seq (.region false [⟨(some 3), .mov (.tmp 0), none⟩] [])
  (.block 0 (.seq (.seq (.region false [⟨(some 5), .bin .eql (.tmp 3) (.cst (.str [116, 114, 117, 101])), none⟩,
    ⟨(some 4), .own 5, none⟩] [])
  (.cond (.tmp 4) .skip (.seq (.region false [⟨(some 6), .bin .eql (.tmp 3) (.cst (.str [102, 97, 108, 115, 101])), none⟩,
    ⟨(some 4), .own 6, none⟩] [])
  (.cond (.tmp 4) .skip (.seq (.region false [⟨(some 7), .bin .eql (.tmp 3) (.cst (.str [110, 111, 116])), none⟩,
    ⟨(some 4), .own 7, none⟩] [])
  (.cond (.tmp 4) .skip (.seq (.region false [⟨(some 8), .bin .eql (.tmp 3) (.cst (.str [97, 110, 100])), none⟩,
    ⟨(some 4), .own 8, none⟩] [])
  (.cond (.tmp 4) .skip (.seq (.region false [⟨(some 9), .bin .eql (.tmp 3) (.cst (.str [111, 114])), none⟩,
    ⟨(some 4), .own 9, none⟩] [])
  (.cond (.tmp 4) .skip (.seq (.region false [⟨(some 10), .bin .eql (.tmp 3) (.cst (.str [101, 120, 105, 115, 116, 115])), none⟩,
    ⟨(some 4), .own 10, none⟩] [])
  (.cond (.tmp 4) .skip (.seq (.region false [⟨(some 11), .bin .eql (.tmp 3) (.cst (.str [112, 114, 101, 118])), none⟩,
    ⟨(some 4), .own 11, none⟩] [])
  (.cond (.tmp 4) .skip (.seq (.region false [⟨(some 12), .bin .eql (.tmp 3) (.cst (.str [110, 101, 120, 116])), none⟩,
    ⟨(some 4), .own 12, none⟩] [])
  (.cond (.tmp 4) .skip (.seq (.region false [⟨(some 13), .bin .eql (.tmp 3) (.cst (.str [111, 110, 99, 101])), none⟩,
    ⟨(some 4), .own 13, none⟩] [])
  (.cond (.tmp 4) .skip (.seq (.region false [⟨(some 14), .bin .eql (.tmp 3) (.cst (.str [115, 111, 111, 110])), none⟩,
    ⟨(some 4), .own 14, none⟩] [])
  (.cond (.tmp 4) .skip (.seq (.region false [⟨(some 15), .bin .eql (.tmp 3) (.cst (.str [115, 105, 110, 99, 101])), none⟩,
    ⟨(some 4), .own 15, none⟩] [])
  (.cond (.tmp 4) .skip (.seq (.region false [⟨(some 16), .bin .eql (.tmp 3) (.cst (.str [117, 110, 116, 105, 108])), none⟩,
    ⟨(some 4), .own 16, none⟩] [])
  (.cond (.tmp 4) .skip (.seq (.region false [⟨(some 17), .bin .eql (.tmp 3) (.cst (.str [98, 101, 102, 111, 114, 101])), none⟩,
    ⟨(some 4), .own 17, none⟩] [])
  (.cond (.tmp 4) .skip (.seq (.region false [⟨(some 18), .bin .eql (.tmp 3) (.cst (.str [97, 102, 116, 101, 114])), none⟩,
    ⟨(some 4), .own 18, none⟩] [])
  (.cond (.tmp 4) .skip (.seq (.region false [⟨(some 19), .bin .eql (.tmp 3) (.cst (.str [97, 103, 103])), none⟩,
    ⟨(some 4), .own 19, none⟩] [])
  (.cond (.tmp 4) .skip (.seq (.region false [⟨(some 20), .bin .eql (.tmp 3) (.cst (.str [108, 101, 116])), none⟩,
    ⟨(some 4), .own 20, none⟩] [])
  (.cond (.tmp 4) .skip (.seq (.region false [⟨(some 21), .bin .eql (.tmp 3) (.cst (.str [108, 101, 116, 112, 97, 115, 116])), none⟩,
    ⟨(some 4), .own 21, none⟩] [])
  (.cond (.tmp 4) .skip (.seq (.region false [⟨(some 22), .bin .eql (.tmp 3) (.cst (.str [106, 111, 105, 110])), none⟩,
    ⟨(some 4), .own 22, none⟩] [])
  (.cond (.tmp 4) .skip (.seq (.region false [⟨(some 23), .bin .eql (.tmp 3) (.cst (.str [97, 110, 121])), none⟩,
    ⟨(some 4), .own 23, none⟩] [])
  (.cond (.tmp 4) .skip (.seq (.region false [⟨(some 24), .bin .eql (.tmp 3) (.cst (.str [116, 101, 115, 116])), none⟩,
    ⟨(some 4), .own 24, none⟩] [])
  (.cond (.tmp 4) .skip (.seq (.region false [⟨(some 25), .bin .eql (.tmp 3) (.cst (.str [97, 108, 116])), none⟩,
    ⟨(some 4), .own 25, none⟩] [])
  (.cond (.tmp 4) .skip (.seq (.region false [⟨(some 26), .bin .eql (.tmp 3) (.cst (.str [115, 101, 113])), none⟩,
    ⟨(some 4), .own 26, none⟩] [])
  (.cond (.tmp 4) .skip (.region false [⟨(some 27), .bin .eql (.tmp 3) (.cst (.str [115, 116, 97, 114])), none⟩,
    ⟨(some 4), .own 27, none⟩] [])))))))))))))))))))))))))))))))))))))))))))))
  (.cond (.tmp 4) (.seq (.region false [⟨(some 2), .mov (.cst (.bool true)), none⟩] [])
  .ret) .skip))))
  (.seq (.region false [⟨(some 2), .mov (.cst (.bool false)), none⟩] [])
  .ret)))
def x63_r0 : XCode := .seq (.region false [⟨(some 11), .bin .lss (.tmp 10) (.tmp 9), none⟩] [])
  (.seq (.cond (.tmp 11) .skip (.exit 0))
  (.seq (.block 1 (.seq (.region false [⟨(some 12), .iaddr 1 (.tmp 8) (.tmp 10), none⟩,
    ⟨(some 13), .load (.tmp 12) 1 false, none⟩,
    ⟨(some 5), .own 13, none⟩] [])
  (.block 2 (.seq (.region false [⟨(some 24), .mov (.tmp 5), none⟩,
    ⟨(some 25), .bin .eql (.tmp 24) (.cst (.int .u8 34)), none⟩,
    ⟨(some 26), .mov (.tmp 25), none⟩,
    ⟨(some 27), .mov (.tmp 5), (some (26, false))⟩,
    ⟨(some 28), .bin .eql (.tmp 27) (.cst (.int .u8 92)), (some (26, false))⟩,
    ⟨(some 29), .pick (.tmp 26) (.cst (.bool true)) (.tmp 28), none⟩,
    ⟨(some 23), .own 29, none⟩] [])
  (.cond (.tmp 23) (.region false [⟨(some 30), .own 3, none⟩,
    ⟨(some 31), .mov (.tmp 5), none⟩,
    ⟨(some 32), .bslice 1 [.int .u8 0, .int .u8 0] [(0, 1, .cst (.int .u8 92)), (1, 1, .tmp 31)], none⟩,
    ⟨(some 33), .app false 1 1 30 (.tmp 32), none⟩,
    ⟨(some 3), .own 33, none⟩] []) (.seq (.region false [⟨(some 35), .mov (.tmp 5), none⟩,
    ⟨(some 36), .bin .geq (.tmp 35) (.cst (.int .u8 32)), none⟩,
    ⟨(some 37), .mov (.tmp 36), none⟩,
    ⟨(some 38), .mov (.tmp 5), (some (37, true))⟩,
    ⟨(some 39), .bin .leq (.tmp 38) (.cst (.int .u8 126)), (some (37, true))⟩,
    ⟨(some 40), .pick (.tmp 37) (.tmp 39) (.cst (.bool false)), none⟩,
    ⟨(some 34), .own 40, none⟩] [])
  (.cond (.tmp 34) (.region false [⟨(some 41), .own 3, none⟩,
    ⟨(some 42), .mov (.tmp 5), none⟩,
    ⟨(some 43), .bslice 1 [.int .u8 0] [(0, 1, .tmp 42)], none⟩,
    ⟨(some 44), .app false 1 1 41 (.tmp 43), none⟩,
    ⟨(some 3), .own 44, none⟩] []) (.region true [⟨(some 14), .own 3, none⟩,
    ⟨(some 15), .mov (.tmp 5), none⟩,
    ⟨(some 16), .bin .shr (.tmp 15) (.cst (.int .u64 4)), none⟩,
    ⟨(some 17), .idxs (.cst (.str [48, 49, 50, 51, 52, 53, 54, 55, 56, 57, 97, 98, 99, 100, 101, 102])) (.tmp 16), none⟩,
    ⟨(some 18), .mov (.tmp 5), none⟩,
    ⟨(some 19), .bin .and (.tmp 18) (.cst (.int .u8 15)), none⟩,
    ⟨(some 20), .idxs (.cst (.str [48, 49, 50, 51, 52, 53, 54, 55, 56, 57, 97, 98, 99, 100, 101, 102])) (.tmp 19), none⟩,
    ⟨(some 21), .bslice 1 [.int .u8 0, .int .u8 0, .int .u8 0, .int .u8 0] [(0, 1, .cst (.int .u8 92)), (1, 1, .cst (.int .u8 120)), (2, 1, .tmp 17), (3, 1, .tmp 20)], none⟩,
    ⟨(some 22), .app false 1 1 14 (.tmp 21), none⟩,
    ⟨(some 3), .own 22, none⟩] []))))))))
  (.region false [⟨(some 45), .bin .add (.tmp 10) (.cst (.int .i64 1)), none⟩,
    ⟨(some 10), .mov (.tmp 45), none⟩] [])))
def x63_l0 : XCode := x63_r0
/-- custos/value.quoted -/
def x63 : XFn := XFn.mk 50 [.tmp 2] (.seq (.region false [⟨(some 2), .mov (.cst (.str [])), none⟩] [])
  (.seq (.region false [⟨(some 6), .bslice 1 [.int .u8 0] [(0, 1, .cst (.int .u8 34))], none⟩,
    ⟨(some 3), .own 6, none⟩] [])
  (.seq (.seq (.region false [⟨(some 7), .mov (.tmp 0), none⟩,
    ⟨(some 8), .strb (.tmp 7), none⟩,
    ⟨(some 9), .lens false (.tmp 8), none⟩,
    ⟨(some 10), .mov (.cst (.int .i64 0)), none⟩] [])
  (.block 0 (.loop x63_l0)))
  (.seq (.region false [⟨(some 46), .own 3, none⟩,
    ⟨(some 47), .bslice 1 [.int .u8 0] [(0, 1, .cst (.int .u8 34))], none⟩,
    ⟨(some 48), .app false 1 1 46 (.tmp 47), none⟩,
    ⟨(some 49), .bstr (.tmp 48), none⟩,
    ⟨(some 2), .own 49, none⟩] [])
  .ret))))
def x65_r0 : XCode := .seq (.region false [⟨(some 9), .bin .lss (.tmp 8) (.tmp 7), none⟩] [])
  (.seq (.cond (.tmp 9) .skip (.exit 0))
  (.seq (.block 1 (.seq (.region false [⟨(some 10), .mov (.tmp 8), none⟩,
    ⟨(some 5), .own 10, none⟩] [])
  (.seq (.region false [⟨(some 11), .mov (.tmp 1), none⟩,
    ⟨(some 12), .mov (.tmp 0), none⟩,
    ⟨(some 13), .mov (.tmp 5), none⟩,
    ⟨(some 14), .iaddr 1 (.tmp 12) (.tmp 13), none⟩,
    ⟨(some 15), .load (.tmp 14) 1 false, none⟩,
    ⟨(some 16), .calld (.tmp 11) [.tmp 15], none⟩] [])
  (.cond (.tmp 16) (.seq (.region false [⟨(some 17), .mov (.tmp 5), none⟩,
    ⟨(some 4), .own 17, none⟩] [])
  .ret) .skip))))
  (.region false [⟨(some 18), .bin .add (.tmp 8) (.cst (.int .i64 1)), none⟩,
    ⟨(some 8), .mov (.tmp 18), none⟩] [])))
def x65_l0 : XCode := x65_r0
/-- slices.IndexFunc[[]int,int] -/
def x65 : XFn := XFn.mk 19 [.tmp 4] (.seq (.region false [⟨(some 4), .mov (.cst (.int .i64 0)), none⟩] [])
  (.seq (.seq (.region false [⟨(some 6), .mov (.tmp 0), none⟩,
    ⟨(some 7), .lens false (.tmp 6), none⟩,
    ⟨(some 8), .mov (.cst (.int .i64 0)), none⟩] [])
  (.block 0 (.loop x65_l0)))
  (.seq (.region false [⟨(some 4), .mov (.cst (.int .i64 (-1))), none⟩] [])
  .ret)))
def x68_r0 : XCode := .seq (.region false [⟨(some 9), .bin .lss (.tmp 8) (.tmp 7), none⟩] [])
  (.seq (.cond (.tmp 9) .skip (.exit 0))
  (.seq (.block 1 (.seq (.region false [⟨(some 10), .mov (.tmp 8), none⟩,
    ⟨(some 5), .own 10, none⟩] [])
  (.seq (.region false [⟨(some 11), .mov (.tmp 1), none⟩,
    ⟨(some 12), .mov (.tmp 0), none⟩,
    ⟨(some 13), .mov (.tmp 5), none⟩,
    ⟨(some 14), .iaddr 1 (.tmp 12) (.tmp 13), none⟩,
    ⟨(some 15), .load (.tmp 14) 1 false, none⟩,
    ⟨(some 16), .bin .eql (.tmp 11) (.tmp 15), none⟩] [])
  (.cond (.tmp 16) (.seq (.region false [⟨(some 17), .mov (.tmp 5), none⟩,
    ⟨(some 4), .own 17, none⟩] [])
  .ret) .skip))))
  (.region false [⟨(some 18), .bin .add (.tmp 8) (.cst (.int .i64 1)), none⟩,
    ⟨(some 8), .mov (.tmp 18), none⟩] [])))
def x68_l0 : XCode := x68_r0
/-- slices.Index[[]string,string] -/
def x68 : XFn := XFn.mk 19 [.tmp 4] (.seq (.region false [⟨(some 4), .mov (.cst (.int .i64 0)), none⟩] [])
  (.seq (.seq (.region false [⟨(some 6), .mov (.tmp 0), none⟩,
    ⟨(some 7), .lens false (.tmp 6), none⟩,
    ⟨(some 8), .mov (.cst (.int .i64 0)), none⟩] [])
  (.block 0 (.loop x68_l0)))
  (.seq (.region false [⟨(some 4), .mov (.cst (.int .i64 (-1))), none⟩] [])
  .ret)))
/-- custos/rat.Of -/
def x69 : XFn := XFn.mk 64 [.cell 4 2 true, .tmp 5] (.seq (.region false [⟨(some 4), .alloc [.int .i64 0, .int .i64 0], none⟩,
    ⟨(some 5), .mov (.cst (.int .i64 0)), none⟩] [])
  (.seq (.seq (.region false [⟨(some 10), .mov (.tmp 1), none⟩,
    ⟨(some 11), .bin .eql (.tmp 10) (.cst (.int .i64 0)), none⟩] [])
  (.cond (.tmp 11) (.seq (.region false [⟨(some 12), .build [.int .i64 0, .int .i64 0] [], none⟩,
    ⟨none, .store (.tmp 4) (.tmp 12) 2, none⟩,
    ⟨(some 5), .mov (.cst (.int .i64 11)), none⟩] [])
  .ret) .skip))
  (.seq (.region false [⟨(some 13), .mov (.tmp 0), none⟩,
    ⟨(some 14), .callq 97 [.tmp 13], none⟩,
    ⟨(some 15), .mov (.tmp 1), none⟩,
    ⟨(some 16), .callq 97 [.tmp 15], none⟩,
    ⟨(some 17), .callq 96 [.tmp 14, .tmp 16], none⟩,
    ⟨(some 6), .own 17, none⟩] [])
  (.seq (.region true [⟨(some 18), .mov (.tmp 0), none⟩,
    ⟨(some 19), .callq 97 [.tmp 18], none⟩,
    ⟨(some 20), .mov (.tmp 6), none⟩,
    ⟨(some 21), .bin .quo (.tmp 19) (.tmp 20), none⟩,
    ⟨(some 22), .mov (.tmp 1), none⟩,
    ⟨(some 23), .callq 97 [.tmp 22], none⟩,
    ⟨(some 24), .mov (.tmp 6), none⟩,
    ⟨(some 25), .bin .quo (.tmp 23) (.tmp 24), none⟩,
    ⟨(some 7), .own 21, none⟩,
    ⟨(some 8), .own 25, none⟩] [])
  (.seq (.region false [⟨(some 26), .mov (.tmp 0), none⟩,
    ⟨(some 27), .bin .neq (.tmp 26) (.cst (.int .i64 0)), none⟩,
    ⟨(some 28), .mov (.tmp 27), none⟩,
    ⟨(some 29), .mov (.tmp 0), (some (28, true))⟩,
    ⟨(some 30), .bin .lss (.tmp 29) (.cst (.int .i64 0)), (some (28, true))⟩,
    ⟨(some 31), .mov (.tmp 1), (some (28, true))⟩,
    ⟨(some 32), .bin .lss (.tmp 31) (.cst (.int .i64 0)), (some (28, true))⟩,
    ⟨(some 33), .beq true (.tmp 30) (.tmp 32), (some (28, true))⟩,
    ⟨(some 34), .pick (.tmp 28) (.tmp 33) (.cst (.bool false)), none⟩,
    ⟨(some 9), .own 34, none⟩] [])
  (.seq (.seq (.region false [⟨(some 35), .mov (.tmp 8), none⟩,
    ⟨(some 36), .bin .gtr (.tmp 35) (.cst (.int .u64 9223372036854775807)), none⟩,
    ⟨(some 37), .mov (.tmp 36), none⟩,
    ⟨(some 38), .mov (.tmp 7), (some (37, false))⟩,
    ⟨(some 39), .bin .gtr (.tmp 38) (.cst (.int .u64 9223372036854775808)), (some (37, false))⟩,
    ⟨(some 40), .pick (.tmp 37) (.cst (.bool true)) (.tmp 39), none⟩,
    ⟨(some 41), .mov (.tmp 40), none⟩,
    ⟨(some 42), .mov (.tmp 7), (some (41, false))⟩,
    ⟨(some 43), .bin .eql (.tmp 42) (.cst (.int .u64 9223372036854775808)), (some (41, false))⟩,
    ⟨(some 44), .mov (.tmp 43), (some (41, false))⟩,
    ⟨(some 45), .mov (.tmp 9), (some (44, true))⟩,
    ⟨(some 46), .not (.tmp 45), (some (44, true))⟩,
    ⟨(some 47), .pick (.tmp 44) (.tmp 46) (.cst (.bool false)), (some (41, false))⟩,
    ⟨(some 48), .pick (.tmp 41) (.cst (.bool true)) (.tmp 47), none⟩] [])
  (.cond (.tmp 48) (.seq (.region false [⟨(some 49), .build [.int .i64 0, .int .i64 0] [], none⟩,
    ⟨none, .store (.tmp 4) (.tmp 49) 2, none⟩,
    ⟨(some 5), .mov (.cst (.int .i64 10)), none⟩] [])
  .ret) .skip))
  (.seq (.seq (.region false [⟨(some 50), .mov (.tmp 9), none⟩] [])
  (.cond (.tmp 50) (.seq (.region false [⟨(some 51), .mov (.tmp 7), none⟩,
    ⟨(some 52), .bin .sub (.tmp 51) (.cst (.int .u64 1)), none⟩,
    ⟨(some 53), .conv .i64 (.tmp 52), none⟩,
    ⟨(some 54), .neg (.tmp 53), none⟩,
    ⟨(some 55), .bin .sub (.tmp 54) (.cst (.int .i64 1)), none⟩,
    ⟨(some 56), .mov (.tmp 8), none⟩,
    ⟨(some 57), .conv .i64 (.tmp 56), none⟩,
    ⟨(some 58), .build [.int .i64 0, .int .i64 0] [(0, 1, .tmp 55), (1, 1, .tmp 57)], none⟩,
    ⟨none, .store (.tmp 4) (.tmp 58) 2, none⟩,
    ⟨(some 5), .mov (.cst (.int .i64 0)), none⟩] [])
  .ret) .skip))
  (.seq (.region false [⟨(some 59), .mov (.tmp 7), none⟩,
    ⟨(some 60), .conv .i64 (.tmp 59), none⟩,
    ⟨(some 61), .mov (.tmp 8), none⟩,
    ⟨(some 62), .conv .i64 (.tmp 61), none⟩,
    ⟨(some 63), .build [.int .i64 0, .int .i64 0] [(0, 1, .tmp 60), (1, 1, .tmp 62)], none⟩,
    ⟨none, .store (.tmp 4) (.tmp 63) 2, none⟩,
    ⟨(some 5), .mov (.cst (.int .i64 0)), none⟩] [])
  .ret))))))))
/-- custos/value.fraction -/
def x70 : XFn := XFn.mk 8 [.cell 2 2 true] (.seq (.region false [⟨(some 1), .box (.tmp 0) 4, none⟩,
    ⟨(some 2), .alloc [.int .i64 0, .int .i64 0], none⟩] [])
  (.seq (.region false [⟨(some 3), .faddr (.tmp 1) 1, none⟩,
    ⟨(some 4), .load (.tmp 3) 1 false, none⟩,
    ⟨(some 5), .faddr (.tmp 1) 2, none⟩,
    ⟨(some 6), .load (.tmp 5) 1 false, none⟩,
    ⟨(some 7), .build [.int .i64 0, .int .i64 0] [(0, 1, .tmp 4), (1, 1, .tmp 6)], none⟩,
    ⟨none, .store (.tmp 2) (.tmp 7) 2, none⟩] [])
  .ret))
/-- custos/lex.one -/
def x73 : XFn := XFn.mk 70 [.cell 4 7 true, .tmp 5] (.seq (.region false [⟨(some 4), .alloc [.int .i64 0, .int .i64 0, .str [], .int .i64 0, .int .i64 0, .int .i64 0, .str []], none⟩,
    ⟨(some 5), .mov (.cst (.bool false)), none⟩] [])
  (.seq (.region false [⟨(some 15), .mov (.tmp 0), none⟩,
    ⟨(some 16), .mov (.tmp 1), none⟩,
    ⟨(some 17), .callq 99 [.tmp 15, .tmp 16], none⟩,
    ⟨(some 14), .mov (.tmp 17), none⟩,
    ⟨(some 18), .ext 14 0, none⟩,
    ⟨(some 19), .ext 14 1, none⟩,
    ⟨(some 6), .own 18, none⟩,
    ⟨(some 7), .own 19, none⟩] [])
  (.seq (.region false [⟨(some 20), .mov (.tmp 6), none⟩,
    ⟨(some 21), .mov (.tmp 1), none⟩,
    ⟨(some 22), .mov (.tmp 0), none⟩,
    ⟨(some 23), .mov (.tmp 1), none⟩,
    ⟨(some 24), .mov (.tmp 1), none⟩,
    ⟨(some 25), .mov (.tmp 7), none⟩,
    ⟨(some 26), .mx (.tmp 24) (.tmp 25), none⟩,
    ⟨(some 27), .sstr (.tmp 22) (some (.tmp 23)) (some (.tmp 26)), none⟩,
    ⟨(some 28), .build [.int .i64 0, .int .i64 0, .str [], .int .i64 0, .int .i64 0, .int .i64 0, .str []] [(0, 1, .tmp 20), (1, 1, .tmp 21), (2, 1, .tmp 27)], none⟩,
    ⟨(some 8), .alloc [.int .i64 0, .int .i64 0, .str [], .int .i64 0, .int .i64 0, .int .i64 0, .str []], none⟩,
    ⟨none, .store (.tmp 8) (.tmp 28) 7, none⟩] [])
  (.seq (.region false [⟨(some 29), .mov (.tmp 6), none⟩,
    ⟨(some 30), .bin .neq (.tmp 29) (.cst (.int .i64 0)), none⟩,
    ⟨(some 9), .own 30, none⟩] [])
  (.seq (.seq (.region false [⟨(some 31), .mov (.tmp 6), none⟩] [])
  (.block 0 (.seq (.region false [⟨(some 33), .bin .eql (.tmp 31) (.cst (.int .i64 3)), none⟩,
    ⟨(some 32), .own 33, none⟩] [])
  (.cond (.tmp 32) (.region false [⟨(some 34), .faddr (.tmp 8) 2, none⟩,
    ⟨(some 35), .load (.tmp 34) 1 false, none⟩,
    ⟨(some 36), .lens true (.tmp 35), none⟩,
    ⟨(some 37), .bin .leq (.tmp 36) (.cst (.int .i64 16)), none⟩,
    ⟨(some 9), .own 37, none⟩] []) (.seq (.region false [⟨(some 39), .bin .eql (.tmp 31) (.cst (.int .i64 5)), none⟩,
    ⟨(some 38), .own 39, none⟩] [])
  (.cond (.tmp 38) (.region false [⟨(some 40), .faddr (.tmp 8) 2, none⟩,
    ⟨(some 41), .load (.tmp 40) 1 false, none⟩,
    ⟨(some 42), .callq 100 [.tmp 41], none⟩,
    ⟨(some 9), .own 42, none⟩] []) (.seq (.region false [⟨(some 44), .bin .eql (.tmp 31) (.cst (.int .i64 6)), none⟩,
    ⟨(some 43), .own 44, none⟩] [])
  (.cond (.tmp 43) (.seq (.region false [⟨(some 46), .faddr (.tmp 8) 2, none⟩,
    ⟨(some 47), .load (.tmp 46) 1 false, none⟩,
    ⟨(some 48), .callq 101 [.tmp 47], none⟩,
    ⟨(some 45), .mov (.tmp 48), none⟩,
    ⟨(some 49), .ext 45 0, none⟩,
    ⟨(some 50), .ext 45 1, none⟩,
    ⟨(some 10), .alloc [.int .i64 0, .int .i64 0, .int .i64 0, .str []], none⟩,
    ⟨none, .store (.tmp 10) (.tmp 49) 4, none⟩,
    ⟨(some 11), .own 50, none⟩] [])
  (.seq (.region false [⟨(some 51), .load (.tmp 10) 4 true, none⟩,
    ⟨(some 52), .faddr (.tmp 8) 3, none⟩,
    ⟨none, .store (.tmp 52) (.tmp 51) 4, none⟩] [])
  (.region false [⟨(some 53), .mov (.tmp 11), none⟩,
    ⟨(some 54), .bin .eql (.tmp 53) (.cst (.int .i64 0)), none⟩,
    ⟨(some 9), .own 54, none⟩] []))) (.seq (.region false [⟨(some 56), .bin .eql (.tmp 31) (.cst (.int .i64 7)), none⟩,
    ⟨(some 55), .own 56, none⟩] [])
  (.cond (.tmp 55) (.seq (.region false [⟨(some 58), .faddr (.tmp 8) 2, none⟩,
    ⟨(some 59), .load (.tmp 58) 1 false, none⟩,
    ⟨(some 60), .sstr (.tmp 59) (some (.cst (.int .i64 1))) none, none⟩,
    ⟨(some 61), .callq 102 [.tmp 60], none⟩,
    ⟨(some 57), .mov (.tmp 61), none⟩,
    ⟨(some 62), .ext 57 0, none⟩,
    ⟨(some 63), .ext 57 1, none⟩,
    ⟨(some 12), .own 62, none⟩,
    ⟨(some 13), .own 63, none⟩] [])
  (.seq (.region false [⟨(some 64), .mov (.tmp 12), none⟩,
    ⟨(some 65), .build [.int .i64 0, .int .i64 0, .int .i64 0, .str []] [(0, 1, .cst (.int .i64 1)), (1, 1, .tmp 64)], none⟩,
    ⟨(some 66), .faddr (.tmp 8) 3, none⟩,
    ⟨none, .store (.tmp 66) (.tmp 65) 4, none⟩] [])
  (.region false [⟨(some 67), .mov (.tmp 13), none⟩,
    ⟨(some 9), .own 67, none⟩] []))) .skip))))))))))
  (.seq (.region false [⟨(some 68), .load (.tmp 8) 7 true, none⟩,
    ⟨(some 69), .mov (.tmp 9), none⟩,
    ⟨none, .store (.tmp 4) (.tmp 68) 7, none⟩,
    ⟨(some 5), .own 69, none⟩] [])
  .ret))))))
/-- strings.Index -/
def x95 : XFn := XFn.mk 8 [.tmp 4] (.seq (.region false [⟨(some 4), .mov (.cst (.int .i64 0)), none⟩] [])
  (.seq (.region false [⟨(some 5), .mov (.tmp 0), none⟩,
    ⟨(some 6), .mov (.tmp 1), none⟩,
    ⟨(some 7), .callq 115 [.tmp 5, .tmp 6], none⟩,
    ⟨(some 4), .own 7, none⟩] [])
  .ret))
def x96_r0 : XCode := .seq (.seq (.region false [⟨(some 5), .mov (.tmp 1), none⟩,
    ⟨(some 6), .bin .neq (.tmp 5) (.cst (.int .u64 0)), none⟩] [])
  (.cond (.tmp 6) .skip (.exit 0)))
  (.block 1 (.region true [⟨(some 7), .mov (.tmp 1), none⟩,
    ⟨(some 8), .mov (.tmp 0), none⟩,
    ⟨(some 9), .mov (.tmp 1), none⟩,
    ⟨(some 10), .bin .rem (.tmp 8) (.tmp 9), none⟩,
    ⟨(some 0), .own 7, none⟩,
    ⟨(some 1), .own 10, none⟩] []))
def x96_l0 : XCode := x96_r0
/-- custos/rat.gcd -/
def x96 : XFn := XFn.mk 12 [.tmp 4] (.seq (.region false [⟨(some 4), .mov (.cst (.int .u64 0)), none⟩] [])
  (.seq (.block 0 (.loop x96_l0))
  (.seq (.region false [⟨(some 11), .mov (.tmp 0), none⟩,
    ⟨(some 4), .own 11, none⟩] [])
  .ret)))
/-- custos/rat.size -/
def x97 : XFn := XFn.mk 10 [.tmp 2] (.seq (.region false [⟨(some 2), .mov (.cst (.int .u64 0)), none⟩] [])
  (.seq (.seq (.region false [⟨(some 3), .mov (.tmp 0), none⟩,
    ⟨(some 4), .bin .lss (.tmp 3) (.cst (.int .i64 0)), none⟩] [])
  (.cond (.tmp 4) (.seq (.region false [⟨(some 5), .mov (.tmp 0), none⟩,
    ⟨(some 6), .conv .u64 (.tmp 5), none⟩,
    ⟨(some 7), .neg (.tmp 6), none⟩,
    ⟨(some 2), .own 7, none⟩] [])
  .ret) .skip))
  (.seq (.region false [⟨(some 8), .mov (.tmp 0), none⟩,
    ⟨(some 9), .conv .u64 (.tmp 8), none⟩,
    ⟨(some 2), .own 9, none⟩] [])
  .ret)))
/-- custos/lex.behind -/
def x99 : XFn := XFn.mk 184 [.tmp 4, .tmp 5] (.seq (.region false [⟨(some 4), .mov (.cst (.int .i64 0)), none⟩,
    ⟨(some 5), .mov (.cst (.int .i64 0)), none⟩] [])
  (.scope (.seq (.region false [⟨(some 9), .mov (.tmp 1), none⟩,
    ⟨(some 10), .bin .add (.tmp 9) (.cst (.int .i64 1)), none⟩,
    ⟨(some 6), .own 10, none⟩] [])
  (.seq (.region false [⟨(some 7), .mov (.cst (.int .i64 4)), none⟩] [])
  (.seq (.seq (.region false [⟨(some 11), .mov (.tmp 0), none⟩,
    ⟨(some 12), .mov (.tmp 1), none⟩,
    ⟨(some 13), .idxs (.tmp 11) (.tmp 12), none⟩,
    ⟨(some 8), .own 13, none⟩] [])
  (.block 0 (.seq (.region false [⟨(some 15), .mov (.tmp 8), none⟩,
    ⟨(some 16), .bin .eql (.tmp 15) (.cst (.int .u8 40)), none⟩,
    ⟨(some 14), .own 16, none⟩] [])
  (.cond (.tmp 14) (.seq (.region false [⟨(some 17), .mov (.tmp 6), none⟩,
    ⟨(some 4), .mov (.cst (.int .i64 1)), none⟩,
    ⟨(some 5), .own 17, none⟩] [])
  .ret) (.seq (.region false [⟨(some 19), .mov (.tmp 8), none⟩,
    ⟨(some 20), .bin .eql (.tmp 19) (.cst (.int .u8 41)), none⟩,
    ⟨(some 18), .own 20, none⟩] [])
  (.cond (.tmp 18) (.seq (.region false [⟨(some 21), .mov (.tmp 6), none⟩,
    ⟨(some 4), .mov (.cst (.int .i64 2)), none⟩,
    ⟨(some 5), .own 21, none⟩] [])
  .ret) (.seq (.region false [⟨(some 23), .mov (.tmp 8), none⟩,
    ⟨(some 24), .bin .geq (.tmp 23) (.cst (.int .u8 97)), none⟩,
    ⟨(some 25), .mov (.tmp 24), none⟩,
    ⟨(some 26), .mov (.tmp 8), (some (25, true))⟩,
    ⟨(some 27), .bin .leq (.tmp 26) (.cst (.int .u8 122)), (some (25, true))⟩,
    ⟨(some 28), .pick (.tmp 25) (.tmp 27) (.cst (.bool false)), none⟩,
    ⟨(some 22), .own 28, none⟩] [])
  (.cond (.tmp 22) (.goto 0) (.seq (.seq (.region false [⟨(some 30), .mov (.tmp 8), none⟩,
    ⟨(some 31), .callq 119 [.tmp 30], none⟩,
    ⟨(some 29), .own 31, none⟩] [])
  (.cond (.tmp 29) .skip (.region false [⟨(some 32), .mov (.tmp 8), none⟩,
    ⟨(some 33), .bin .eql (.tmp 32) (.cst (.int .u8 45)), none⟩,
    ⟨(some 34), .mov (.tmp 33), none⟩,
    ⟨(some 35), .mov (.tmp 6), (some (34, true))⟩,
    ⟨(some 36), .mov (.tmp 0), (some (34, true))⟩,
    ⟨(some 37), .lens true (.tmp 36), (some (34, true))⟩,
    ⟨(some 38), .bin .lss (.tmp 35) (.tmp 37), (some (34, true))⟩,
    ⟨(some 39), .pick (.tmp 34) (.tmp 38) (.cst (.bool false)), none⟩,
    ⟨(some 40), .mov (.tmp 39), none⟩,
    ⟨(some 41), .mov (.tmp 0), (some (40, true))⟩,
    ⟨(some 42), .mov (.tmp 6), (some (40, true))⟩,
    ⟨(some 43), .idxs (.tmp 41) (.tmp 42), (some (40, true))⟩,
    ⟨(some 44), .callq 119 [.tmp 43], (some (40, true))⟩,
    ⟨(some 45), .pick (.tmp 40) (.tmp 44) (.cst (.bool false)), none⟩,
    ⟨(some 29), .own 45, none⟩] [])))
  (.cond (.tmp 29) (.seq (.region false [⟨(some 7), .mov (.cst (.int .i64 6)), none⟩] [])
  (.goto 1)) (.seq (.region false [⟨(some 47), .mov (.tmp 8), none⟩,
    ⟨(some 48), .bin .eql (.tmp 47) (.cst (.int .u8 60)), none⟩,
    ⟨(some 49), .mov (.tmp 48), none⟩,
    ⟨(some 50), .mov (.tmp 6), (some (49, true))⟩,
    ⟨(some 51), .mov (.tmp 0), (some (49, true))⟩,
    ⟨(some 52), .lens true (.tmp 51), (some (49, true))⟩,
    ⟨(some 53), .bin .lss (.tmp 50) (.tmp 52), (some (49, true))⟩,
    ⟨(some 54), .pick (.tmp 49) (.tmp 53) (.cst (.bool false)), none⟩,
    ⟨(some 55), .mov (.tmp 54), none⟩,
    ⟨(some 56), .mov (.tmp 0), (some (55, true))⟩,
    ⟨(some 57), .mov (.tmp 6), (some (55, true))⟩,
    ⟨(some 58), .idxs (.tmp 56) (.tmp 57), (some (55, true))⟩,
    ⟨(some 59), .bin .eql (.tmp 58) (.cst (.int .u8 61)), (some (55, true))⟩,
    ⟨(some 60), .pick (.tmp 55) (.tmp 59) (.cst (.bool false)), none⟩,
    ⟨(some 46), .own 60, none⟩] [])
  (.cond (.tmp 46) (.seq (.region false [⟨(some 61), .mov (.tmp 6), none⟩,
    ⟨(some 62), .bin .add (.tmp 61) (.cst (.int .i64 1)), none⟩,
    ⟨(some 4), .mov (.cst (.int .i64 4)), none⟩,
    ⟨(some 5), .own 62, none⟩] [])
  .ret) (.seq (.region false [⟨(some 64), .mov (.tmp 8), none⟩,
    ⟨(some 65), .callq 120 [.cst (.str [61, 43, 42, 60, 45]), .tmp 64], none⟩,
    ⟨(some 66), .bin .geq (.tmp 65) (.cst (.int .i64 0)), none⟩,
    ⟨(some 63), .own 66, none⟩] [])
  (.cond (.tmp 63) (.seq (.region false [⟨(some 67), .mov (.tmp 6), none⟩,
    ⟨(some 4), .mov (.cst (.int .i64 4)), none⟩,
    ⟨(some 5), .own 67, none⟩] [])
  .ret) (.seq (.region false [⟨(some 69), .mov (.tmp 8), none⟩,
    ⟨(some 70), .bin .eql (.tmp 69) (.cst (.int .u8 91)), none⟩,
    ⟨(some 68), .own 70, none⟩] [])
  (.cond (.tmp 68) (.goto 2) (.seq (.region false [⟨(some 72), .mov (.tmp 8), none⟩,
    ⟨(some 73), .bin .eql (.tmp 72) (.cst (.int .u8 34)), none⟩,
    ⟨(some 71), .own 73, none⟩] [])
  (.cond (.tmp 71) (.goto 3) (.seq (.region false [⟨(some 75), .mov (.tmp 8), none⟩,
    ⟨(some 76), .bin .eql (.tmp 75) (.cst (.int .u8 64)), none⟩,
    ⟨(some 74), .own 76, none⟩] [])
  (.cond (.tmp 74) (.seq (.region false [⟨(some 7), .mov (.cst (.int .i64 7)), none⟩] [])
  (.goto 1)) .skip))))))))))))))))))))
  (.seq (.seq (.region false [⟨(some 4), .mov (.cst (.int .i64 0)), none⟩,
    ⟨(some 5), .mov (.cst (.int .i64 0)), none⟩] [])
  .ret)
  (.seq (.label 0)
  (.seq (.seq (.region false [⟨(some 77), .mov (.tmp 6), none⟩,
    ⟨(some 78), .mov (.tmp 0), none⟩,
    ⟨(some 79), .lens true (.tmp 78), none⟩,
    ⟨(some 80), .bin .lss (.tmp 77) (.tmp 79), none⟩,
    ⟨(some 81), .mov (.tmp 80), none⟩,
    ⟨(some 82), .mov (.tmp 0), (some (81, true))⟩,
    ⟨(some 83), .mov (.tmp 6), (some (81, true))⟩,
    ⟨(some 84), .idxs (.tmp 82) (.tmp 83), (some (81, true))⟩,
    ⟨(some 85), .bin .geq (.tmp 84) (.cst (.int .u8 97)), (some (81, true))⟩,
    ⟨(some 86), .mov (.tmp 85), (some (81, true))⟩,
    ⟨(some 87), .mov (.tmp 0), (some (86, true))⟩,
    ⟨(some 88), .mov (.tmp 6), (some (86, true))⟩,
    ⟨(some 89), .idxs (.tmp 87) (.tmp 88), (some (86, true))⟩,
    ⟨(some 90), .bin .leq (.tmp 89) (.cst (.int .u8 122)), (some (86, true))⟩,
    ⟨(some 91), .pick (.tmp 86) (.tmp 90) (.cst (.bool false)), (some (81, true))⟩,
    ⟨(some 92), .mov (.tmp 91), (some (81, true))⟩,
    ⟨(some 93), .mov (.tmp 0), (some (92, false))⟩,
    ⟨(some 94), .mov (.tmp 6), (some (92, false))⟩,
    ⟨(some 95), .idxs (.tmp 93) (.tmp 94), (some (92, false))⟩,
    ⟨(some 96), .callq 119 [.tmp 95], (some (92, false))⟩,
    ⟨(some 97), .pick (.tmp 92) (.cst (.bool true)) (.tmp 96), (some (81, true))⟩,
    ⟨(some 98), .mov (.tmp 97), (some (81, true))⟩,
    ⟨(some 99), .mov (.tmp 0), (some (98, false))⟩,
    ⟨(some 100), .mov (.tmp 6), (some (98, false))⟩,
    ⟨(some 101), .idxs (.tmp 99) (.tmp 100), (some (98, false))⟩,
    ⟨(some 102), .bin .eql (.tmp 101) (.cst (.int .u8 95)), (some (98, false))⟩,
    ⟨(some 103), .pick (.tmp 98) (.cst (.bool true)) (.tmp 102), (some (81, true))⟩,
    ⟨(some 104), .pick (.tmp 81) (.tmp 103) (.cst (.bool false)), none⟩] [])
  (.cond (.tmp 104) (.seq (.region false [⟨(some 105), .mov (.tmp 6), none⟩,
    ⟨(some 106), .bin .add (.tmp 105) (.cst (.int .i64 1)), none⟩,
    ⟨(some 6), .own 106, none⟩] [])
  (.goto 0)) .skip))
  (.seq (.seq (.region false [⟨(some 107), .mov (.tmp 6), none⟩,
    ⟨(some 4), .mov (.cst (.int .i64 3)), none⟩,
    ⟨(some 5), .own 107, none⟩] [])
  .ret)
  (.seq (.label 1)
  (.seq (.seq (.region false [⟨(some 108), .mov (.tmp 6), none⟩,
    ⟨(some 109), .mov (.tmp 0), none⟩,
    ⟨(some 110), .lens true (.tmp 109), none⟩,
    ⟨(some 111), .bin .lss (.tmp 108) (.tmp 110), none⟩,
    ⟨(some 112), .mov (.tmp 111), none⟩,
    ⟨(some 113), .mov (.tmp 0), (some (112, true))⟩,
    ⟨(some 114), .mov (.tmp 6), (some (112, true))⟩,
    ⟨(some 115), .idxs (.tmp 113) (.tmp 114), (some (112, true))⟩,
    ⟨(some 116), .callq 119 [.tmp 115], (some (112, true))⟩,
    ⟨(some 117), .pick (.tmp 112) (.tmp 116) (.cst (.bool false)), none⟩] [])
  (.cond (.tmp 117) (.seq (.region false [⟨(some 118), .mov (.tmp 6), none⟩,
    ⟨(some 119), .bin .add (.tmp 118) (.cst (.int .i64 1)), none⟩,
    ⟨(some 6), .own 119, none⟩] [])
  (.goto 1)) .skip))
  (.seq (.seq (.region false [⟨(some 120), .mov (.tmp 7), none⟩,
    ⟨(some 121), .bin .eql (.tmp 120) (.cst (.int .i64 6)), none⟩,
    ⟨(some 122), .mov (.tmp 121), none⟩,
    ⟨(some 123), .mov (.tmp 6), (some (122, true))⟩,
    ⟨(some 124), .bin .add (.tmp 123) (.cst (.int .i64 1)), (some (122, true))⟩,
    ⟨(some 125), .mov (.tmp 0), (some (122, true))⟩,
    ⟨(some 126), .lens true (.tmp 125), (some (122, true))⟩,
    ⟨(some 127), .bin .lss (.tmp 124) (.tmp 126), (some (122, true))⟩,
    ⟨(some 128), .pick (.tmp 122) (.tmp 127) (.cst (.bool false)), none⟩,
    ⟨(some 129), .mov (.tmp 128), none⟩,
    ⟨(some 130), .mov (.tmp 0), (some (129, true))⟩,
    ⟨(some 131), .mov (.tmp 6), (some (129, true))⟩,
    ⟨(some 132), .idxs (.tmp 130) (.tmp 131), (some (129, true))⟩,
    ⟨(some 133), .bin .eql (.tmp 132) (.cst (.int .u8 47)), (some (129, true))⟩,
    ⟨(some 134), .pick (.tmp 129) (.tmp 133) (.cst (.bool false)), none⟩,
    ⟨(some 135), .mov (.tmp 134), none⟩,
    ⟨(some 136), .mov (.tmp 0), (some (135, true))⟩,
    ⟨(some 137), .mov (.tmp 6), (some (135, true))⟩,
    ⟨(some 138), .bin .add (.tmp 137) (.cst (.int .i64 1)), (some (135, true))⟩,
    ⟨(some 139), .idxs (.tmp 136) (.tmp 138), (some (135, true))⟩,
    ⟨(some 140), .callq 119 [.tmp 139], (some (135, true))⟩,
    ⟨(some 141), .pick (.tmp 135) (.tmp 140) (.cst (.bool false)), none⟩,
    ⟨(some 142), .mov (.tmp 141), none⟩,
    ⟨(some 143), .mov (.tmp 0), (some (142, true))⟩,
    ⟨(some 144), .mov (.tmp 1), (some (142, true))⟩,
    ⟨(some 145), .mov (.tmp 6), (some (142, true))⟩,
    ⟨(some 146), .sstr (.tmp 143) (some (.tmp 144)) (some (.tmp 145)), (some (142, true))⟩,
    ⟨(some 147), .callq 121 [.tmp 146, .cst (.str [47])], (some (142, true))⟩,
    ⟨(some 148), .not (.tmp 147), (some (142, true))⟩,
    ⟨(some 149), .pick (.tmp 142) (.tmp 148) (.cst (.bool false)), none⟩] [])
  (.cond (.tmp 149) (.seq (.region false [⟨(some 150), .mov (.tmp 6), none⟩,
    ⟨(some 151), .bin .add (.tmp 150) (.cst (.int .i64 1)), none⟩,
    ⟨(some 6), .own 151, none⟩] [])
  (.goto 1)) .skip))
  (.seq (.seq (.region false [⟨(some 152), .mov (.tmp 7), none⟩,
    ⟨(some 153), .mov (.tmp 6), none⟩,
    ⟨(some 4), .own 152, none⟩,
    ⟨(some 5), .own 153, none⟩] [])
  .ret)
  (.seq (.label 3)
  (.seq (.seq (.region false [⟨(some 154), .mov (.tmp 6), none⟩,
    ⟨(some 155), .mov (.tmp 0), none⟩,
    ⟨(some 156), .lens true (.tmp 155), none⟩,
    ⟨(some 157), .bin .geq (.tmp 154) (.tmp 156), none⟩] [])
  (.cond (.tmp 157) (.seq (.region false [⟨(some 4), .mov (.cst (.int .i64 0)), none⟩,
    ⟨(some 5), .mov (.cst (.int .i64 0)), none⟩] [])
  .ret) .skip))
  (.seq (.seq (.region false [⟨(some 158), .mov (.tmp 0), none⟩,
    ⟨(some 159), .mov (.tmp 6), none⟩,
    ⟨(some 160), .idxs (.tmp 158) (.tmp 159), none⟩,
    ⟨(some 161), .bin .neq (.tmp 160) (.cst (.int .u8 34)), none⟩] [])
  (.cond (.tmp 161) (.seq (.seq (.region false [⟨(some 162), .mov (.tmp 0), none⟩,
    ⟨(some 163), .mov (.tmp 6), none⟩,
    ⟨(some 164), .idxs (.tmp 162) (.tmp 163), none⟩,
    ⟨(some 165), .bin .eql (.tmp 164) (.cst (.int .u8 92)), none⟩] [])
  (.cond (.tmp 165) (.region false [⟨(some 166), .mov (.tmp 6), none⟩,
    ⟨(some 167), .bin .add (.tmp 166) (.cst (.int .i64 1)), none⟩,
    ⟨(some 6), .own 167, none⟩] []) .skip))
  (.seq (.region false [⟨(some 168), .mov (.tmp 6), none⟩,
    ⟨(some 169), .bin .add (.tmp 168) (.cst (.int .i64 1)), none⟩,
    ⟨(some 6), .own 169, none⟩] [])
  (.goto 3))) .skip))
  (.seq (.seq (.region false [⟨(some 170), .mov (.tmp 6), none⟩,
    ⟨(some 171), .bin .add (.tmp 170) (.cst (.int .i64 1)), none⟩,
    ⟨(some 4), .mov (.cst (.int .i64 6)), none⟩,
    ⟨(some 5), .own 171, none⟩] [])
  .ret)
  (.seq (.label 2)
  (.seq (.seq (.region false [⟨(some 172), .mov (.tmp 6), none⟩,
    ⟨(some 173), .mov (.tmp 0), none⟩,
    ⟨(some 174), .lens true (.tmp 173), none⟩,
    ⟨(some 175), .bin .eql (.tmp 172) (.tmp 174), none⟩] [])
  (.cond (.tmp 175) (.seq (.region false [⟨(some 4), .mov (.cst (.int .i64 0)), none⟩,
    ⟨(some 5), .mov (.cst (.int .i64 0)), none⟩] [])
  .ret) .skip))
  (.seq (.region false [⟨(some 176), .mov (.tmp 6), none⟩,
    ⟨(some 177), .bin .add (.tmp 176) (.cst (.int .i64 1)), none⟩,
    ⟨(some 6), .own 177, none⟩] [])
  (.seq (.seq (.region false [⟨(some 178), .mov (.tmp 0), none⟩,
    ⟨(some 179), .mov (.tmp 6), none⟩,
    ⟨(some 180), .bin .sub (.tmp 179) (.cst (.int .i64 1)), none⟩,
    ⟨(some 181), .idxs (.tmp 178) (.tmp 180), none⟩,
    ⟨(some 182), .bin .neq (.tmp 181) (.cst (.int .u8 93)), none⟩] [])
  (.cond (.tmp 182) (.goto 2) .skip))
  (.seq (.region false [⟨(some 183), .mov (.tmp 6), none⟩,
    ⟨(some 4), .mov (.cst (.int .i64 5)), none⟩,
    ⟨(some 5), .own 183, none⟩] [])
  .ret))))))))))))))))))))))
/-- custos/lex.ends -/
def x100 : XFn := XFn.mk 44 [.tmp 2] (.seq (.region false [⟨(some 2), .mov (.cst (.bool false)), none⟩] [])
  (.seq (.region false [⟨(some 11), .mov (.tmp 0), none⟩,
    ⟨(some 12), .sstr (.tmp 11) (some (.cst (.int .i64 1))) none, none⟩,
    ⟨(some 13), .callq 123 [.tmp 12, .cst (.str [93])], none⟩,
    ⟨(some 14), .callq 122 [.tmp 13, .cst (.str [44])], none⟩,
    ⟨(some 10), .mov (.tmp 14), none⟩,
    ⟨(some 15), .ext 10 0, none⟩,
    ⟨(some 16), .ext 10 1, none⟩,
    ⟨(some 17), .ext 10 2, none⟩,
    ⟨(some 3), .own 15, none⟩,
    ⟨(some 4), .own 16, none⟩,
    ⟨(some 5), .own 17, none⟩] [])
  (.seq (.region false [⟨(some 19), .mov (.tmp 3), none⟩,
    ⟨(some 20), .callq 102 [.tmp 19], none⟩,
    ⟨(some 18), .mov (.tmp 20), none⟩,
    ⟨(some 21), .ext 18 0, none⟩,
    ⟨(some 22), .ext 18 1, none⟩,
    ⟨(some 6), .own 21, none⟩,
    ⟨(some 7), .own 22, none⟩] [])
  (.seq (.seq (.region false [⟨(some 23), .mov (.tmp 5), none⟩,
    ⟨(some 24), .not (.tmp 23), none⟩,
    ⟨(some 25), .mov (.tmp 24), none⟩,
    ⟨(some 26), .mov (.tmp 7), (some (25, false))⟩,
    ⟨(some 27), .not (.tmp 26), (some (25, false))⟩,
    ⟨(some 28), .pick (.tmp 25) (.cst (.bool true)) (.tmp 27), none⟩] [])
  (.cond (.tmp 28) (.seq (.region false [⟨(some 2), .mov (.cst (.bool false)), none⟩] [])
  .ret) .skip))
  (.seq (.region false [⟨(some 30), .mov (.tmp 4), none⟩,
    ⟨(some 31), .callq 102 [.tmp 30], none⟩,
    ⟨(some 29), .mov (.tmp 31), none⟩,
    ⟨(some 32), .ext 29 0, none⟩,
    ⟨(some 33), .ext 29 1, none⟩,
    ⟨(some 8), .own 32, none⟩,
    ⟨(some 9), .own 33, none⟩] [])
  (.seq (.region false [⟨(some 34), .mov (.tmp 4), none⟩,
    ⟨(some 35), .bin .eql (.tmp 34) (.cst (.str [42])), none⟩,
    ⟨(some 36), .mov (.tmp 35), none⟩,
    ⟨(some 37), .mov (.tmp 9), (some (36, false))⟩,
    ⟨(some 38), .mov (.tmp 37), (some (36, false))⟩,
    ⟨(some 39), .mov (.tmp 6), (some (38, true))⟩,
    ⟨(some 40), .mov (.tmp 8), (some (38, true))⟩,
    ⟨(some 41), .bin .leq (.tmp 39) (.tmp 40), (some (38, true))⟩,
    ⟨(some 42), .pick (.tmp 38) (.tmp 41) (.cst (.bool false)), (some (36, false))⟩,
    ⟨(some 43), .pick (.tmp 36) (.cst (.bool true)) (.tmp 42), none⟩,
    ⟨(some 2), .own 43, none⟩] [])
  .ret))))))
/-- custos/value.Parse -/
def x101 : XFn := XFn.mk 63 [.cell 2 4 true, .tmp 3] (.seq (.region false [⟨(some 2), .alloc [.int .i64 0, .int .i64 0, .int .i64 0, .str []], none⟩,
    ⟨(some 3), .mov (.cst (.int .i64 0)), none⟩] [])
  (.seq (.seq (.region false [⟨(some 11), .mov (.tmp 0), none⟩,
    ⟨(some 12), .callq 124 [.tmp 11, .cst (.str [34])], none⟩] [])
  (.cond (.tmp 12) (.seq (.region false [⟨(some 13), .mov (.tmp 0), none⟩,
    ⟨(some 14), .callq 125 [.tmp 13], none⟩,
    ⟨(some 4), .own 14, none⟩] [])
  (.seq (.block 0 (.seq (.region false [⟨(some 16), .mov (.tmp 4), none⟩,
    ⟨(some 17), .callq 63 [.tmp 16], none⟩,
    ⟨(some 18), .mov (.tmp 0), none⟩,
    ⟨(some 19), .bin .neq (.tmp 17) (.tmp 18), none⟩,
    ⟨(some 15), .own 19, none⟩] [])
  (.cond (.tmp 15) (.seq (.region false [⟨(some 20), .build [.int .i64 0, .int .i64 0, .int .i64 0, .str []] [], none⟩,
    ⟨none, .store (.tmp 2) (.tmp 20) 4, none⟩,
    ⟨(some 3), .mov (.cst (.int .i64 70)), none⟩] [])
  .ret) (.seq (.region false [⟨(some 22), .mov (.tmp 4), none⟩,
    ⟨(some 23), .lens true (.tmp 22), none⟩,
    ⟨(some 24), .bin .gtr (.tmp 23) (.cst (.int .i64 64)), none⟩,
    ⟨(some 21), .own 24, none⟩] [])
  (.cond (.tmp 21) (.seq (.region false [⟨(some 25), .build [.int .i64 0, .int .i64 0, .int .i64 0, .str []] [], none⟩,
    ⟨none, .store (.tmp 2) (.tmp 25) 4, none⟩,
    ⟨(some 3), .mov (.cst (.int .i64 2)), none⟩] [])
  .ret) .skip)))))
  (.seq (.region false [⟨(some 26), .mov (.tmp 4), none⟩,
    ⟨(some 27), .build [.int .i64 0, .int .i64 0, .int .i64 0, .str []] [(0, 1, .cst (.int .i64 3)), (3, 1, .tmp 26)], none⟩,
    ⟨none, .store (.tmp 2) (.tmp 27) 4, none⟩,
    ⟨(some 3), .mov (.cst (.int .i64 0)), none⟩] [])
  .ret))) .skip))
  (.seq (.region false [⟨(some 28), .build [.int .i64 0, .int .i64 0, .int .i64 0, .str []] [(0, 1, .cst (.int .i64 1))], none⟩,
    ⟨(some 5), .alloc [.int .i64 0, .int .i64 0, .int .i64 0, .str []], none⟩,
    ⟨none, .store (.tmp 5) (.tmp 28) 4, none⟩] [])
  (.seq (.region false [⟨(some 30), .mov (.tmp 0), none⟩,
    ⟨(some 31), .callq 122 [.tmp 30, .cst (.str [47])], none⟩,
    ⟨(some 29), .mov (.tmp 31), none⟩,
    ⟨(some 32), .ext 29 0, none⟩,
    ⟨(some 33), .ext 29 1, none⟩,
    ⟨(some 34), .ext 29 2, none⟩,
    ⟨(some 6), .own 32, none⟩,
    ⟨(some 7), .own 33, none⟩,
    ⟨(some 8), .own 34, none⟩] [])
  (.seq (.region false [⟨(some 36), .mov (.tmp 6), none⟩,
    ⟨(some 37), .prim 1214 126 [.tmp 36, .cst (.int .i64 10), .cst (.int .i64 64)], none⟩,
    ⟨(some 35), .mov (.tmp 37), none⟩,
    ⟨(some 38), .ext 35 0, none⟩,
    ⟨(some 39), .ext 35 1, none⟩,
    ⟨(some 40), .faddr (.tmp 5) 1, none⟩,
    ⟨none, .store (.tmp 40) (.tmp 38) 1, none⟩] [])
  (.seq (.seq (.region false [⟨(some 41), .mov (.tmp 8), none⟩] [])
  (.cond (.tmp 41) (.seq (.region false [⟨(some 42), .faddr (.tmp 5) 0, none⟩,
    ⟨none, .store (.tmp 42) (.cst (.int .i64 2)) 1, none⟩] [])
  (.region false [⟨(some 44), .mov (.tmp 7), none⟩,
    ⟨(some 45), .prim 1214 126 [.tmp 44, .cst (.int .i64 10), .cst (.int .i64 64)], none⟩,
    ⟨(some 43), .mov (.tmp 45), none⟩,
    ⟨(some 46), .ext 43 0, none⟩,
    ⟨(some 47), .ext 43 1, none⟩,
    ⟨(some 48), .faddr (.tmp 5) 2, none⟩,
    ⟨none, .store (.tmp 48) (.tmp 46) 1, none⟩] [])) .skip))
  (.seq (.seq (.region false [⟨(some 50), .load (.tmp 5) 4 true, none⟩,
    ⟨(some 51), .callq 40 [.tmp 50], none⟩,
    ⟨(some 49), .mov (.tmp 51), none⟩,
    ⟨(some 52), .ext 49 0, none⟩,
    ⟨(some 53), .ext 49 1, none⟩,
    ⟨(some 9), .own 52, none⟩,
    ⟨(some 10), .own 53, none⟩] [])
  (.seq (.region false [⟨(some 54), .mov (.tmp 10), none⟩,
    ⟨(some 55), .bin .neq (.tmp 54) (.cst (.int .i64 0)), none⟩,
    ⟨(some 56), .mov (.tmp 55), none⟩,
    ⟨(some 57), .mov (.tmp 9), (some (56, false))⟩,
    ⟨(some 58), .mov (.tmp 0), (some (56, false))⟩,
    ⟨(some 59), .bin .neq (.tmp 57) (.tmp 58), (some (56, false))⟩,
    ⟨(some 60), .pick (.tmp 56) (.cst (.bool true)) (.tmp 59), none⟩] [])
  (.cond (.tmp 60) (.seq (.region false [⟨(some 61), .build [.int .i64 0, .int .i64 0, .int .i64 0, .str []] [], none⟩,
    ⟨none, .store (.tmp 2) (.tmp 61) 4, none⟩,
    ⟨(some 3), .mov (.cst (.int .i64 70)), none⟩] [])
  .ret) .skip)))
  (.seq (.region false [⟨(some 62), .load (.tmp 5) 4 true, none⟩,
    ⟨none, .store (.tmp 2) (.tmp 62) 4, none⟩,
    ⟨(some 3), .mov (.cst (.int .i64 0)), none⟩] [])
  .ret))))))))
/-- custos/lex.number -/
def x102 : XFn := XFn.mk 28 [.tmp 2, .tmp 3] (.seq (.region false [⟨(some 2), .mov (.cst (.int .i64 0)), none⟩,
    ⟨(some 3), .mov (.cst (.bool false)), none⟩] [])
  (.seq (.region false [⟨(some 7), .mov (.tmp 0), none⟩,
    ⟨(some 8), .prim 1214 126 [.tmp 7, .cst (.int .i64 10), .cst (.int .i64 64)], none⟩,
    ⟨(some 6), .mov (.tmp 8), none⟩,
    ⟨(some 9), .ext 6 0, none⟩,
    ⟨(some 10), .ext 6 1, none⟩,
    ⟨(some 4), .own 9, none⟩,
    ⟨(some 5), .own 10, none⟩] [])
  (.seq (.region false [⟨(some 11), .mov (.tmp 4), none⟩,
    ⟨(some 12), .mov (.tmp 5), none⟩,
    ⟨(some 13), .eqnil 0 false (.tmp 12), none⟩,
    ⟨(some 14), .mov (.tmp 13), none⟩,
    ⟨(some 15), .mov (.tmp 4), (some (14, true))⟩,
    ⟨(some 16), .bin .leq (.tmp 15) (.cst (.int .i64 1099511627776)), (some (14, true))⟩,
    ⟨(some 17), .pick (.tmp 14) (.tmp 16) (.cst (.bool false)), none⟩,
    ⟨(some 18), .mov (.tmp 17), none⟩,
    ⟨(some 19), .mov (.tmp 4), (some (18, true))⟩,
    ⟨(some 20), .prim 5 38 [.tmp 19, .cst (.int .i64 10)], (some (18, true))⟩,
    ⟨(some 21), .mov (.tmp 0), (some (18, true))⟩,
    ⟨(some 22), .bin .eql (.tmp 20) (.tmp 21), (some (18, true))⟩,
    ⟨(some 23), .pick (.tmp 18) (.tmp 22) (.cst (.bool false)), none⟩,
    ⟨(some 24), .mov (.tmp 23), none⟩,
    ⟨(some 25), .mov (.tmp 4), (some (24, true))⟩,
    ⟨(some 26), .bin .geq (.tmp 25) (.cst (.int .i64 0)), (some (24, true))⟩,
    ⟨(some 27), .pick (.tmp 24) (.tmp 26) (.cst (.bool false)), none⟩,
    ⟨(some 2), .own 11, none⟩,
    ⟨(some 3), .own 27, none⟩] [])
  .ret)))
def x115_r0 : XCode := .seq (.seq (.region false [⟨(some 57), .mov (.tmp 8), none⟩,
    ⟨(some 58), .mov (.tmp 9), none⟩,
    ⟨(some 59), .bin .lss (.tmp 57) (.tmp 58), none⟩] [])
  (.cond (.tmp 59) .skip (.exit 1)))
  (.block 2 (.seq (.seq (.region false [⟨(some 60), .mov (.tmp 0), none⟩,
    ⟨(some 61), .mov (.tmp 8), none⟩,
    ⟨(some 62), .idxs (.tmp 60) (.tmp 61), none⟩,
    ⟨(some 63), .mov (.tmp 6), none⟩,
    ⟨(some 64), .bin .neq (.tmp 62) (.tmp 63), none⟩] [])
  (.cond (.tmp 64) (.seq (.region false [⟨(some 65), .mov (.tmp 0), none⟩,
    ⟨(some 66), .mov (.tmp 8), none⟩,
    ⟨(some 67), .bin .add (.tmp 66) (.cst (.int .i64 1)), none⟩,
    ⟨(some 68), .mov (.tmp 9), none⟩,
    ⟨(some 69), .sstr (.tmp 65) (some (.tmp 67)) (some (.tmp 68)), none⟩,
    ⟨(some 70), .mov (.tmp 6), none⟩,
    ⟨(some 71), .callq 132 [.tmp 69, .tmp 70], none⟩,
    ⟨(some 11), .own 71, none⟩] [])
  (.seq (.seq (.region false [⟨(some 72), .mov (.tmp 11), none⟩,
    ⟨(some 73), .bin .lss (.tmp 72) (.cst (.int .i64 0)), none⟩] [])
  (.cond (.tmp 73) (.seq (.region false [⟨(some 4), .mov (.cst (.int .i64 (-1))), none⟩] [])
  .ret) .skip))
  (.region false [⟨(some 74), .mov (.tmp 8), none⟩,
    ⟨(some 75), .mov (.tmp 11), none⟩,
    ⟨(some 76), .bin .add (.tmp 75) (.cst (.int .i64 1)), none⟩,
    ⟨(some 77), .bin .add (.tmp 74) (.tmp 76), none⟩,
    ⟨(some 8), .own 77, none⟩] []))) .skip))
  (.seq (.seq (.region false [⟨(some 78), .mov (.tmp 0), none⟩,
    ⟨(some 79), .mov (.tmp 8), none⟩,
    ⟨(some 80), .bin .add (.tmp 79) (.cst (.int .i64 1)), none⟩,
    ⟨(some 81), .idxs (.tmp 78) (.tmp 80), none⟩,
    ⟨(some 82), .mov (.tmp 7), none⟩,
    ⟨(some 83), .bin .eql (.tmp 81) (.tmp 82), none⟩,
    ⟨(some 84), .mov (.tmp 83), none⟩,
    ⟨(some 85), .mov (.tmp 0), (some (84, true))⟩,
    ⟨(some 86), .mov (.tmp 8), (some (84, true))⟩,
    ⟨(some 87), .mov (.tmp 8), (some (84, true))⟩,
    ⟨(some 88), .mov (.tmp 5), (some (84, true))⟩,
    ⟨(some 89), .bin .add (.tmp 87) (.tmp 88), (some (84, true))⟩,
    ⟨(some 90), .sstr (.tmp 85) (some (.tmp 86)) (some (.tmp 89)), (some (84, true))⟩,
    ⟨(some 91), .mov (.tmp 1), (some (84, true))⟩,
    ⟨(some 92), .bin .eql (.tmp 90) (.tmp 91), (some (84, true))⟩,
    ⟨(some 93), .pick (.tmp 84) (.tmp 92) (.cst (.bool false)), none⟩] [])
  (.cond (.tmp 93) (.seq (.region false [⟨(some 94), .mov (.tmp 8), none⟩,
    ⟨(some 4), .own 94, none⟩] [])
  .ret) .skip))
  (.seq (.region false [⟨(some 95), .mov (.tmp 8), none⟩,
    ⟨(some 96), .bin .add (.tmp 95) (.cst (.int .i64 1)), none⟩,
    ⟨(some 8), .own 96, none⟩] [])
  (.seq (.region false [⟨(some 97), .mov (.tmp 10), none⟩,
    ⟨(some 98), .bin .add (.tmp 97) (.cst (.int .i64 1)), none⟩,
    ⟨(some 10), .own 98, none⟩] [])
  (.seq (.region false [⟨(some 99), .mov (.tmp 5), none⟩,
    ⟨(some 100), .load (.glob 2) 1 false, none⟩,
    ⟨(some 101), .bin .leq (.tmp 99) (.tmp 100), none⟩,
    ⟨(some 102), .mov (.tmp 101), none⟩,
    ⟨(some 103), .mov (.tmp 10), (some (102, true))⟩,
    ⟨(some 104), .mov (.tmp 8), (some (102, true))⟩,
    ⟨(some 105), .callq 134 [.tmp 104], (some (102, true))⟩,
    ⟨(some 106), .bin .gtr (.tmp 103) (.tmp 105), (some (102, true))⟩,
    ⟨(some 107), .pick (.tmp 102) (.tmp 106) (.cst (.bool false)), none⟩] [])
  (.cond (.tmp 107) (.seq (.region false [⟨(some 108), .mov (.tmp 0), none⟩,
    ⟨(some 109), .mov (.tmp 8), none⟩,
    ⟨(some 110), .sstr (.tmp 108) (some (.tmp 109)) none, none⟩,
    ⟨(some 111), .mov (.tmp 1), none⟩,
    ⟨(some 112), .prim 99 133 [.tmp 110, .tmp 111], none⟩,
    ⟨(some 12), .own 112, none⟩] [])
  (.seq (.seq (.region false [⟨(some 113), .mov (.tmp 12), none⟩,
    ⟨(some 114), .bin .geq (.tmp 113) (.cst (.int .i64 0)), none⟩] [])
  (.cond (.tmp 114) (.seq (.region false [⟨(some 115), .mov (.tmp 12), none⟩,
    ⟨(some 116), .mov (.tmp 8), none⟩,
    ⟨(some 117), .bin .add (.tmp 115) (.tmp 116), none⟩,
    ⟨(some 4), .own 117, none⟩] [])
  .ret) .skip))
  (.seq (.region false [⟨(some 4), .mov (.cst (.int .i64 (-1))), none⟩] [])
  .ret))) (.seq (.region false [⟨(some 118), .mov (.tmp 5), none⟩,
    ⟨(some 119), .load (.glob 2) 1 false, none⟩,
    ⟨(some 120), .bin .gtr (.tmp 118) (.tmp 119), none⟩,
    ⟨(some 121), .mov (.tmp 120), none⟩,
    ⟨(some 122), .mov (.tmp 10), (some (121, true))⟩,
    ⟨(some 123), .mov (.tmp 8), (some (121, true))⟩,
    ⟨(some 124), .bin .shr (.tmp 123) (.cst (.int .u64 4)), (some (121, true))⟩,
    ⟨(some 125), .bin .add (.cst (.int .i64 4)) (.tmp 124), (some (121, true))⟩,
    ⟨(some 126), .bin .geq (.tmp 122) (.tmp 125), (some (121, true))⟩,
    ⟨(some 127), .pick (.tmp 121) (.tmp 126) (.cst (.bool false)), none⟩,
    ⟨(some 128), .mov (.tmp 127), none⟩,
    ⟨(some 129), .mov (.tmp 8), (some (128, true))⟩,
    ⟨(some 130), .mov (.tmp 9), (some (128, true))⟩,
    ⟨(some 131), .bin .lss (.tmp 129) (.tmp 130), (some (128, true))⟩,
    ⟨(some 132), .pick (.tmp 128) (.tmp 131) (.cst (.bool false)), none⟩] [])
  (.cond (.tmp 132) (.seq (.region false [⟨(some 133), .mov (.tmp 0), none⟩,
    ⟨(some 134), .mov (.tmp 8), none⟩,
    ⟨(some 135), .sstr (.tmp 133) (some (.tmp 134)) none, none⟩,
    ⟨(some 136), .mov (.tmp 1), none⟩,
    ⟨(some 137), .callq 135 [.tmp 135, .tmp 136], none⟩,
    ⟨(some 13), .own 137, none⟩] [])
  (.seq (.seq (.region false [⟨(some 138), .mov (.tmp 13), none⟩,
    ⟨(some 139), .bin .lss (.tmp 138) (.cst (.int .i64 0)), none⟩] [])
  (.cond (.tmp 139) (.seq (.region false [⟨(some 4), .mov (.cst (.int .i64 (-1))), none⟩] [])
  .ret) .skip))
  (.seq (.region false [⟨(some 140), .mov (.tmp 8), none⟩,
    ⟨(some 141), .mov (.tmp 13), none⟩,
    ⟨(some 142), .bin .add (.tmp 140) (.tmp 141), none⟩,
    ⟨(some 4), .own 142, none⟩] [])
  .ret))) .skip)))))))))
def x115_l0 : XCode := x115_r0
/-- internal/stringslite.Index -/
def x115 : XFn := XFn.mk 143 [.tmp 4] (.seq (.region false [⟨(some 4), .mov (.cst (.int .i64 0)), none⟩] [])
  (.seq (.region false [⟨(some 14), .mov (.tmp 1), none⟩,
    ⟨(some 15), .lens true (.tmp 14), none⟩,
    ⟨(some 5), .own 15, none⟩] [])
  (.seq (.block 0 (.seq (.region false [⟨(some 17), .mov (.tmp 5), none⟩,
    ⟨(some 18), .bin .eql (.tmp 17) (.cst (.int .i64 0)), none⟩,
    ⟨(some 19), .mov (.tmp 18), none⟩,
    ⟨(some 20), .mov (.tmp 1), (some (19, false))⟩,
    ⟨(some 21), .mov (.tmp 0), (some (19, false))⟩,
    ⟨(some 22), .bin .eql (.tmp 20) (.tmp 21), (some (19, false))⟩,
    ⟨(some 23), .pick (.tmp 19) (.cst (.bool true)) (.tmp 22), none⟩,
    ⟨(some 16), .own 23, none⟩] [])
  (.cond (.tmp 16) (.seq (.region false [⟨(some 4), .mov (.cst (.int .i64 0)), none⟩] [])
  .ret) (.seq (.region false [⟨(some 25), .mov (.tmp 5), none⟩,
    ⟨(some 26), .bin .eql (.tmp 25) (.cst (.int .i64 1)), none⟩,
    ⟨(some 24), .own 26, none⟩] [])
  (.cond (.tmp 24) (.seq (.region false [⟨(some 27), .mov (.tmp 0), none⟩,
    ⟨(some 28), .mov (.tmp 1), none⟩,
    ⟨(some 29), .idxs (.tmp 28) (.cst (.int .i64 0)), none⟩,
    ⟨(some 30), .callq 132 [.tmp 27, .tmp 29], none⟩,
    ⟨(some 4), .own 30, none⟩] [])
  .ret) (.seq (.region false [⟨(some 32), .mov (.tmp 5), none⟩,
    ⟨(some 33), .mov (.tmp 0), none⟩,
    ⟨(some 34), .lens true (.tmp 33), none⟩,
    ⟨(some 35), .bin .geq (.tmp 32) (.tmp 34), none⟩,
    ⟨(some 31), .own 35, none⟩] [])
  (.cond (.tmp 31) (.seq (.region false [⟨(some 4), .mov (.cst (.int .i64 (-1))), none⟩] [])
  .ret) (.seq (.region false [⟨(some 37), .mov (.tmp 5), none⟩,
    ⟨(some 38), .load (.glob 2) 1 false, none⟩,
    ⟨(some 39), .bin .leq (.tmp 37) (.tmp 38), none⟩,
    ⟨(some 40), .mov (.tmp 39), none⟩,
    ⟨(some 41), .mov (.tmp 0), (some (40, true))⟩,
    ⟨(some 42), .lens true (.tmp 41), (some (40, true))⟩,
    ⟨(some 43), .bin .leq (.tmp 42) (.cst (.int .i64 64)), (some (40, true))⟩,
    ⟨(some 44), .pick (.tmp 40) (.tmp 43) (.cst (.bool false)), none⟩,
    ⟨(some 36), .own 44, none⟩] [])
  (.cond (.tmp 36) (.seq (.region false [⟨(some 45), .mov (.tmp 0), none⟩,
    ⟨(some 46), .mov (.tmp 1), none⟩,
    ⟨(some 47), .prim 99 133 [.tmp 45, .tmp 46], none⟩,
    ⟨(some 4), .own 47, none⟩] [])
  .ret) .skip)))))))))
  (.seq (.region false [⟨(some 48), .mov (.tmp 1), none⟩,
    ⟨(some 49), .idxs (.tmp 48) (.cst (.int .i64 0)), none⟩,
    ⟨(some 6), .own 49, none⟩] [])
  (.seq (.region false [⟨(some 50), .mov (.tmp 1), none⟩,
    ⟨(some 51), .idxs (.tmp 50) (.cst (.int .i64 1)), none⟩,
    ⟨(some 7), .own 51, none⟩] [])
  (.seq (.region false [⟨(some 8), .mov (.cst (.int .i64 0)), none⟩] [])
  (.seq (.region false [⟨(some 52), .mov (.tmp 0), none⟩,
    ⟨(some 53), .lens true (.tmp 52), none⟩,
    ⟨(some 54), .mov (.tmp 5), none⟩,
    ⟨(some 55), .bin .sub (.tmp 53) (.tmp 54), none⟩,
    ⟨(some 56), .bin .add (.tmp 55) (.cst (.int .i64 1)), none⟩,
    ⟨(some 9), .own 56, none⟩] [])
  (.seq (.region false [⟨(some 10), .mov (.cst (.int .i64 0)), none⟩] [])
  (.seq (.block 1 (.loop x115_l0))
  (.seq (.region false [⟨(some 4), .mov (.cst (.int .i64 (-1))), none⟩] [])
  .ret))))))))))
/-- custos/lex.digit -/
def x119 : XFn := XFn.mk 9 [.tmp 2] (.seq (.region false [⟨(some 2), .mov (.cst (.bool false)), none⟩] [])
  (.seq (.region false [⟨(some 3), .mov (.tmp 0), none⟩,
    ⟨(some 4), .bin .geq (.tmp 3) (.cst (.int .u8 48)), none⟩,
    ⟨(some 5), .mov (.tmp 4), none⟩,
    ⟨(some 6), .mov (.tmp 0), (some (5, true))⟩,
    ⟨(some 7), .bin .leq (.tmp 6) (.cst (.int .u8 57)), (some (5, true))⟩,
    ⟨(some 8), .pick (.tmp 5) (.tmp 7) (.cst (.bool false)), none⟩,
    ⟨(some 2), .own 8, none⟩] [])
  .ret))
/-- strings.IndexByte -/
def x120 : XFn := XFn.mk 8 [.tmp 4] (.seq (.region false [⟨(some 4), .mov (.cst (.int .i64 0)), none⟩] [])
  (.seq (.region false [⟨(some 5), .mov (.tmp 0), none⟩,
    ⟨(some 6), .mov (.tmp 1), none⟩,
    ⟨(some 7), .callq 132 [.tmp 5, .tmp 6], none⟩,
    ⟨(some 4), .own 7, none⟩] [])
  .ret))
/-- strings.Contains -/
def x121 : XFn := XFn.mk 9 [.tmp 4] (.seq (.region false [⟨(some 4), .mov (.cst (.bool false)), none⟩] [])
  (.seq (.region false [⟨(some 5), .mov (.tmp 0), none⟩,
    ⟨(some 6), .mov (.tmp 1), none⟩,
    ⟨(some 7), .callq 95 [.tmp 5, .tmp 6], none⟩,
    ⟨(some 8), .bin .geq (.tmp 7) (.cst (.int .i64 0)), none⟩,
    ⟨(some 4), .own 8, none⟩] [])
  .ret))
/-- strings.Cut -/
def x122 : XFn := XFn.mk 13 [.tmp 4, .tmp 5, .tmp 6] (.seq (.region false [⟨(some 4), .mov (.cst (.str [])), none⟩,
    ⟨(some 5), .mov (.cst (.str [])), none⟩,
    ⟨(some 6), .mov (.cst (.bool false)), none⟩] [])
  (.seq (.region false [⟨(some 7), .mov (.tmp 0), none⟩,
    ⟨(some 8), .mov (.tmp 1), none⟩,
    ⟨(some 9), .callq 139 [.tmp 7, .tmp 8], none⟩,
    ⟨(some 10), .ext 9 0, none⟩,
    ⟨(some 11), .ext 9 1, none⟩,
    ⟨(some 12), .ext 9 2, none⟩,
    ⟨(some 4), .own 10, none⟩,
    ⟨(some 5), .own 11, none⟩,
    ⟨(some 6), .own 12, none⟩] [])
  .ret))
/-- strings.TrimSuffix -/
def x123 : XFn := XFn.mk 8 [.tmp 4] (.seq (.region false [⟨(some 4), .mov (.cst (.str [])), none⟩] [])
  (.seq (.region false [⟨(some 5), .mov (.tmp 0), none⟩,
    ⟨(some 6), .mov (.tmp 1), none⟩,
    ⟨(some 7), .callq 140 [.tmp 5, .tmp 6], none⟩,
    ⟨(some 4), .own 7, none⟩] [])
  .ret))
/-- strings.HasPrefix -/
def x124 : XFn := XFn.mk 8 [.tmp 4] (.seq (.region false [⟨(some 4), .mov (.cst (.bool false)), none⟩] [])
  (.seq (.region false [⟨(some 5), .mov (.tmp 0), none⟩,
    ⟨(some 6), .mov (.tmp 1), none⟩,
    ⟨(some 7), .callq 141 [.tmp 5, .tmp 6], none⟩,
    ⟨(some 4), .own 7, none⟩] [])
  .ret))
def x125_r0 : XCode := .seq (.seq (.region false [⟨(some 11), .mov (.tmp 0), none⟩,
    ⟨(some 12), .lens true (.tmp 11), none⟩,
    ⟨(some 13), .bin .gtr (.tmp 12) (.cst (.int .i64 0)), none⟩] [])
  (.cond (.tmp 13) .skip (.exit 0)))
  (.block 1 (.seq (.region false [⟨(some 14), .mov (.tmp 0), none⟩,
    ⟨(some 15), .idxs (.tmp 14) (.cst (.int .i64 0)), none⟩,
    ⟨(some 4), .own 15, none⟩,
    ⟨(some 5), .mov (.cst (.int .i64 1)), none⟩] [])
  (.seq (.seq (.region false [⟨(some 16), .mov (.tmp 4), none⟩,
    ⟨(some 17), .bin .eql (.tmp 16) (.cst (.int .u8 92)), none⟩,
    ⟨(some 18), .mov (.tmp 17), none⟩,
    ⟨(some 19), .mov (.tmp 0), (some (18, true))⟩,
    ⟨(some 20), .lens true (.tmp 19), (some (18, true))⟩,
    ⟨(some 21), .bin .gtr (.tmp 20) (.cst (.int .i64 1)), (some (18, true))⟩,
    ⟨(some 22), .pick (.tmp 18) (.tmp 21) (.cst (.bool false)), none⟩] [])
  (.cond (.tmp 22) (.seq (.region false [⟨(some 23), .mov (.tmp 0), none⟩,
    ⟨(some 24), .idxs (.tmp 23) (.cst (.int .i64 1)), none⟩,
    ⟨(some 4), .own 24, none⟩,
    ⟨(some 5), .mov (.cst (.int .i64 2)), none⟩] [])
  (.seq (.region false [⟨(some 25), .mov (.tmp 4), none⟩,
    ⟨(some 26), .bin .eql (.tmp 25) (.cst (.int .u8 120)), none⟩,
    ⟨(some 27), .mov (.tmp 26), none⟩,
    ⟨(some 28), .mov (.tmp 0), (some (27, true))⟩,
    ⟨(some 29), .lens true (.tmp 28), (some (27, true))⟩,
    ⟨(some 30), .bin .gtr (.tmp 29) (.cst (.int .i64 3)), (some (27, true))⟩,
    ⟨(some 31), .pick (.tmp 27) (.tmp 30) (.cst (.bool false)), none⟩] [])
  (.cond (.tmp 31) (.seq (.region false [⟨(some 33), .mov (.tmp 0), none⟩,
    ⟨(some 34), .sstr (.tmp 33) (some (.cst (.int .i64 2))) (some (.cst (.int .i64 4))), none⟩,
    ⟨(some 35), .callq 142 [.tmp 34, .cst (.int .i64 16), .cst (.int .i64 8)], none⟩,
    ⟨(some 32), .mov (.tmp 35), none⟩,
    ⟨(some 36), .ext 32 0, none⟩,
    ⟨(some 37), .ext 32 1, none⟩,
    ⟨(some 6), .own 36, none⟩,
    ⟨(some 7), .own 37, none⟩] [])
  (.region false [⟨(some 38), .mov (.tmp 6), none⟩,
    ⟨(some 39), .conv .u8 (.tmp 38), none⟩,
    ⟨(some 4), .own 39, none⟩,
    ⟨(some 5), .mov (.cst (.int .i64 4)), none⟩] [])) .skip))) .skip))
  (.seq (.region false [⟨(some 40), .own 3, none⟩,
    ⟨(some 41), .mov (.tmp 4), none⟩,
    ⟨(some 42), .bslice 1 [.int .u8 0] [(0, 1, .tmp 41)], none⟩,
    ⟨(some 43), .app false 1 1 40 (.tmp 42), none⟩,
    ⟨(some 3), .own 43, none⟩] [])
  (.region false [⟨(some 44), .mov (.tmp 0), none⟩,
    ⟨(some 45), .mov (.tmp 5), none⟩,
    ⟨(some 46), .sstr (.tmp 44) (some (.tmp 45)) none, none⟩,
    ⟨(some 0), .own 46, none⟩] [])))))
def x125_l0 : XCode := x125_r0
/-- custos/value.unquoted -/
def x125 : XFn := XFn.mk 49 [.tmp 2] (.seq (.region false [⟨(some 2), .mov (.cst (.str [])), none⟩] [])
  (.seq (.region false [⟨(some 8), .mov (.tmp 0), none⟩,
    ⟨(some 9), .sstr (.tmp 8) (some (.cst (.int .i64 1))) none, none⟩,
    ⟨(some 10), .callq 123 [.tmp 9, .cst (.str [34])], none⟩,
    ⟨(some 0), .own 10, none⟩] [])
  (.seq (.region false [⟨(some 3), .mov (.cst .nilsl), none⟩] [])
  (.seq (.block 0 (.loop x125_l0))
  (.seq (.region false [⟨(some 47), .mov (.tmp 3), none⟩,
    ⟨(some 48), .bstr (.tmp 47), none⟩,
    ⟨(some 2), .own 48, none⟩] [])
  .ret)))))
/-- internal/stringslite.IndexByte -/
def x132 : XFn := XFn.mk 8 [.tmp 4] (.seq (.region false [⟨(some 4), .mov (.cst (.int .i64 0)), none⟩] [])
  (.seq (.region false [⟨(some 5), .mov (.tmp 0), none⟩,
    ⟨(some 6), .mov (.tmp 1), none⟩,
    ⟨(some 7), .prim 2 146 [.tmp 5, .tmp 6], none⟩,
    ⟨(some 4), .own 7, none⟩] [])
  .ret))
/-- internal/bytealg.Cutover -/
def x134 : XFn := XFn.mk 6 [.tmp 2] (.seq (.region false [⟨(some 2), .mov (.cst (.int .i64 0)), none⟩] [])
  (.seq (.region false [⟨(some 3), .mov (.tmp 0), none⟩,
    ⟨(some 4), .bin .add (.tmp 3) (.cst (.int .i64 16)), none⟩,
    ⟨(some 5), .bin .quo (.tmp 4) (.cst (.int .i64 8)), none⟩,
    ⟨(some 2), .own 5, none⟩] [])
  .ret))
def x135_r0 : XCode := .seq (.seq (.region false [⟨(some 18), .mov (.tmp 9), none⟩,
    ⟨(some 19), .mov (.tmp 7), none⟩,
    ⟨(some 20), .bin .lss (.tmp 18) (.tmp 19), none⟩] [])
  (.cond (.tmp 20) .skip (.exit 0)))
  (.seq (.block 1 (.region false [⟨(some 23), .mov (.tmp 8), none⟩,
    ⟨(some 24), .bin .mul (.tmp 23) (.cst (.int .u32 16777619)), none⟩,
    ⟨(some 25), .mov (.tmp 0), none⟩,
    ⟨(some 26), .mov (.tmp 9), none⟩,
    ⟨(some 27), .idxs (.tmp 25) (.tmp 26), none⟩,
    ⟨(some 28), .conv .u32 (.tmp 27), none⟩,
    ⟨(some 29), .bin .add (.tmp 24) (.tmp 28), none⟩,
    ⟨(some 8), .own 29, none⟩] []))
  (.region false [⟨(some 21), .mov (.tmp 9), none⟩,
    ⟨(some 22), .bin .add (.tmp 21) (.cst (.int .i64 1)), none⟩,
    ⟨(some 9), .own 22, none⟩] []))
def x135_l0 : XCode := x135_r0
def x135_r1 : XCode := .seq (.seq (.region false [⟨(some 41), .mov (.tmp 10), none⟩,
    ⟨(some 42), .mov (.tmp 0), none⟩,
    ⟨(some 43), .lens true (.tmp 42), none⟩,
    ⟨(some 44), .bin .lss (.tmp 41) (.tmp 43), none⟩] [])
  (.cond (.tmp 44) .skip (.exit 2)))
  (.block 3 (.seq (.region false [⟨(some 45), .mov (.tmp 8), none⟩,
    ⟨(some 46), .bin .mul (.tmp 45) (.cst (.int .u32 16777619)), none⟩,
    ⟨(some 8), .own 46, none⟩] [])
  (.seq (.region false [⟨(some 47), .mov (.tmp 8), none⟩,
    ⟨(some 48), .mov (.tmp 0), none⟩,
    ⟨(some 49), .mov (.tmp 10), none⟩,
    ⟨(some 50), .idxs (.tmp 48) (.tmp 49), none⟩,
    ⟨(some 51), .conv .u32 (.tmp 50), none⟩,
    ⟨(some 52), .bin .add (.tmp 47) (.tmp 51), none⟩,
    ⟨(some 8), .own 52, none⟩] [])
  (.seq (.region false [⟨(some 53), .mov (.tmp 8), none⟩,
    ⟨(some 54), .mov (.tmp 6), none⟩,
    ⟨(some 55), .mov (.tmp 0), none⟩,
    ⟨(some 56), .mov (.tmp 10), none⟩,
    ⟨(some 57), .mov (.tmp 7), none⟩,
    ⟨(some 58), .bin .sub (.tmp 56) (.tmp 57), none⟩,
    ⟨(some 59), .idxs (.tmp 55) (.tmp 58), none⟩,
    ⟨(some 60), .conv .u32 (.tmp 59), none⟩,
    ⟨(some 61), .bin .mul (.tmp 54) (.tmp 60), none⟩,
    ⟨(some 62), .bin .sub (.tmp 53) (.tmp 61), none⟩,
    ⟨(some 8), .own 62, none⟩] [])
  (.seq (.region false [⟨(some 63), .mov (.tmp 10), none⟩,
    ⟨(some 64), .bin .add (.tmp 63) (.cst (.int .i64 1)), none⟩,
    ⟨(some 10), .own 64, none⟩] [])
  (.seq (.region false [⟨(some 65), .mov (.tmp 8), none⟩,
    ⟨(some 66), .mov (.tmp 5), none⟩,
    ⟨(some 67), .bin .eql (.tmp 65) (.tmp 66), none⟩,
    ⟨(some 68), .mov (.tmp 67), none⟩,
    ⟨(some 69), .mov (.tmp 0), (some (68, true))⟩,
    ⟨(some 70), .mov (.tmp 10), (some (68, true))⟩,
    ⟨(some 71), .mov (.tmp 7), (some (68, true))⟩,
    ⟨(some 72), .bin .sub (.tmp 70) (.tmp 71), (some (68, true))⟩,
    ⟨(some 73), .mov (.tmp 10), (some (68, true))⟩,
    ⟨(some 74), .sstr (.tmp 69) (some (.tmp 72)) (some (.tmp 73)), (some (68, true))⟩,
    ⟨(some 75), .mov (.tmp 1), (some (68, true))⟩,
    ⟨(some 76), .bin .eql (.tmp 74) (.tmp 75), (some (68, true))⟩,
    ⟨(some 77), .pick (.tmp 68) (.tmp 76) (.cst (.bool false)), none⟩] [])
  (.cond (.tmp 77) (.seq (.region false [⟨(some 78), .mov (.tmp 10), none⟩,
    ⟨(some 79), .mov (.tmp 7), none⟩,
    ⟨(some 80), .bin .sub (.tmp 78) (.tmp 79), none⟩,
    ⟨(some 4), .own 80, none⟩] [])
  .ret) .skip)))))))
def x135_l1 : XCode := x135_r1
/-- internal/bytealg.IndexRabinKarp[string] -/
def x135 : XFn := XFn.mk 81 [.tmp 4] (.seq (.region false [⟨(some 4), .mov (.cst (.int .i64 0)), none⟩] [])
  (.seq (.region false [⟨(some 12), .mov (.tmp 1), none⟩,
    ⟨(some 13), .callq 147 [.tmp 12], none⟩,
    ⟨(some 11), .mov (.tmp 13), none⟩,
    ⟨(some 14), .ext 11 0, none⟩,
    ⟨(some 15), .ext 11 1, none⟩,
    ⟨(some 5), .own 14, none⟩,
    ⟨(some 6), .own 15, none⟩] [])
  (.seq (.region false [⟨(some 16), .mov (.tmp 1), none⟩,
    ⟨(some 17), .lens true (.tmp 16), none⟩,
    ⟨(some 7), .own 17, none⟩] [])
  (.seq (.region false [⟨(some 8), .mov (.cst (.int .u32 0)), none⟩] [])
  (.seq (.seq (.region false [⟨(some 9), .mov (.cst (.int .i64 0)), none⟩] [])
  (.block 0 (.loop x135_l0)))
  (.seq (.seq (.region false [⟨(some 30), .mov (.tmp 8), none⟩,
    ⟨(some 31), .mov (.tmp 5), none⟩,
    ⟨(some 32), .bin .eql (.tmp 30) (.tmp 31), none⟩,
    ⟨(some 33), .mov (.tmp 32), none⟩,
    ⟨(some 34), .mov (.tmp 0), (some (33, true))⟩,
    ⟨(some 35), .mov (.tmp 7), (some (33, true))⟩,
    ⟨(some 36), .sstr (.tmp 34) none (some (.tmp 35)), (some (33, true))⟩,
    ⟨(some 37), .mov (.tmp 1), (some (33, true))⟩,
    ⟨(some 38), .bin .eql (.tmp 36) (.tmp 37), (some (33, true))⟩,
    ⟨(some 39), .pick (.tmp 33) (.tmp 38) (.cst (.bool false)), none⟩] [])
  (.cond (.tmp 39) (.seq (.region false [⟨(some 4), .mov (.cst (.int .i64 0)), none⟩] [])
  .ret) .skip))
  (.seq (.seq (.region false [⟨(some 40), .mov (.tmp 7), none⟩,
    ⟨(some 10), .own 40, none⟩] [])
  (.block 2 (.loop x135_l1)))
  (.seq (.region false [⟨(some 4), .mov (.cst (.int .i64 (-1))), none⟩] [])
  .ret))))))))
/-- internal/stringslite.Cut -/
def x139 : XFn := XFn.mk 23 [.tmp 4, .tmp 5, .tmp 6] (.seq (.region false [⟨(some 4), .mov (.cst (.str [])), none⟩,
    ⟨(some 5), .mov (.cst (.str [])), none⟩,
    ⟨(some 6), .mov (.cst (.bool false)), none⟩] [])
  (.seq (.seq (.region false [⟨(some 8), .mov (.tmp 0), none⟩,
    ⟨(some 9), .mov (.tmp 1), none⟩,
    ⟨(some 10), .callq 115 [.tmp 8, .tmp 9], none⟩,
    ⟨(some 7), .own 10, none⟩] [])
  (.seq (.region false [⟨(some 11), .mov (.tmp 7), none⟩,
    ⟨(some 12), .bin .geq (.tmp 11) (.cst (.int .i64 0)), none⟩] [])
  (.cond (.tmp 12) (.seq (.region true [⟨(some 13), .mov (.tmp 0), none⟩,
    ⟨(some 14), .mov (.tmp 7), none⟩,
    ⟨(some 15), .sstr (.tmp 13) none (some (.tmp 14)), none⟩,
    ⟨(some 16), .mov (.tmp 0), none⟩,
    ⟨(some 17), .mov (.tmp 7), none⟩,
    ⟨(some 18), .mov (.tmp 1), none⟩,
    ⟨(some 19), .lens true (.tmp 18), none⟩,
    ⟨(some 20), .bin .add (.tmp 17) (.tmp 19), none⟩,
    ⟨(some 21), .sstr (.tmp 16) (some (.tmp 20)) none, none⟩,
    ⟨(some 4), .own 15, none⟩,
    ⟨(some 5), .own 21, none⟩,
    ⟨(some 6), .mov (.cst (.bool true)), none⟩] [])
  .ret) .skip)))
  (.seq (.region false [⟨(some 22), .mov (.tmp 0), none⟩,
    ⟨(some 4), .own 22, none⟩,
    ⟨(some 5), .mov (.cst (.str [])), none⟩,
    ⟨(some 6), .mov (.cst (.bool false)), none⟩] [])
  .ret)))
/-- internal/stringslite.TrimSuffix -/
def x140 : XFn := XFn.mk 16 [.tmp 4] (.seq (.region false [⟨(some 4), .mov (.cst (.str [])), none⟩] [])
  (.seq (.seq (.region false [⟨(some 5), .mov (.tmp 0), none⟩,
    ⟨(some 6), .mov (.tmp 1), none⟩,
    ⟨(some 7), .callq 150 [.tmp 5, .tmp 6], none⟩] [])
  (.cond (.tmp 7) (.seq (.region false [⟨(some 8), .mov (.tmp 0), none⟩,
    ⟨(some 9), .mov (.tmp 0), none⟩,
    ⟨(some 10), .lens true (.tmp 9), none⟩,
    ⟨(some 11), .mov (.tmp 1), none⟩,
    ⟨(some 12), .lens true (.tmp 11), none⟩,
    ⟨(some 13), .bin .sub (.tmp 10) (.tmp 12), none⟩,
    ⟨(some 14), .sstr (.tmp 8) none (some (.tmp 13)), none⟩,
    ⟨(some 4), .own 14, none⟩] [])
  .ret) .skip))
  (.seq (.region false [⟨(some 15), .mov (.tmp 0), none⟩,
    ⟨(some 4), .own 15, none⟩] [])
  .ret)))
/-- internal/stringslite.HasPrefix -/
def x141 : XFn := XFn.mk 18 [.tmp 4] (.seq (.region false [⟨(some 4), .mov (.cst (.bool false)), none⟩] [])
  (.seq (.region false [⟨(some 5), .mov (.tmp 0), none⟩,
    ⟨(some 6), .lens true (.tmp 5), none⟩,
    ⟨(some 7), .mov (.tmp 1), none⟩,
    ⟨(some 8), .lens true (.tmp 7), none⟩,
    ⟨(some 9), .bin .geq (.tmp 6) (.tmp 8), none⟩,
    ⟨(some 10), .mov (.tmp 9), none⟩,
    ⟨(some 11), .mov (.tmp 0), (some (10, true))⟩,
    ⟨(some 12), .mov (.tmp 1), (some (10, true))⟩,
    ⟨(some 13), .lens true (.tmp 12), (some (10, true))⟩,
    ⟨(some 14), .sstr (.tmp 11) none (some (.tmp 13)), (some (10, true))⟩,
    ⟨(some 15), .mov (.tmp 1), (some (10, true))⟩,
    ⟨(some 16), .bin .eql (.tmp 14) (.tmp 15), (some (10, true))⟩,
    ⟨(some 17), .pick (.tmp 10) (.tmp 16) (.cst (.bool false)), none⟩,
    ⟨(some 4), .own 17, none⟩] [])
  .ret))
/-- strconv.ParseUint -/
def x142 : XFn := XFn.mk 26 [.tmp 6, .tmp 7] (.seq (.region false [⟨(some 6), .mov (.cst (.int .u64 0)), none⟩,
    ⟨(some 7), .mov (.cst .nilif), none⟩] [])
  (.seq (.region false [⟨(some 11), .mov (.tmp 0), none⟩,
    ⟨(some 12), .mov (.tmp 1), none⟩,
    ⟨(some 13), .mov (.tmp 2), none⟩,
    ⟨(some 14), .callq 151 [.tmp 11, .tmp 12, .tmp 13], none⟩,
    ⟨(some 10), .mov (.tmp 14), none⟩,
    ⟨(some 15), .ext 10 0, none⟩,
    ⟨(some 16), .ext 10 1, none⟩,
    ⟨(some 8), .own 15, none⟩,
    ⟨(some 9), .own 16, none⟩] [])
  (.seq (.seq (.region false [⟨(some 17), .mov (.tmp 9), none⟩,
    ⟨(some 18), .eqnil 0 true (.tmp 17), none⟩] [])
  (.cond (.tmp 18) (.seq (.region false [⟨(some 19), .mov (.tmp 8), none⟩,
    ⟨(some 20), .mov (.tmp 0), none⟩,
    ⟨(some 21), .mov (.tmp 1), none⟩,
    ⟨(some 22), .mov (.tmp 2), none⟩,
    ⟨(some 23), .mov (.tmp 9), none⟩,
    ⟨(some 24), .callw 144 [.cst (.str [80, 97, 114, 115, 101, 85, 105, 110, 116]), .tmp 20, .tmp 21, .tmp 22, .tmp 23], none⟩,
    ⟨(some 6), .own 19, none⟩,
    ⟨(some 7), .own 24, none⟩] [])
  .ret) .skip))
  (.seq (.region false [⟨(some 25), .mov (.tmp 8), none⟩,
    ⟨(some 6), .own 25, none⟩,
    ⟨(some 7), .mov (.cst .nilif), none⟩] [])
  .ret))))
/-- strconv.toError -/
def x144 : XFn := XFn.mk 43 [.tmp 10] (.seq (.region false [⟨(some 10), .mov (.cst .nilif), none⟩] [])
  (.seq (.seq (.region false [⟨(some 11), .mov (.tmp 4), none⟩] [])
  (.block 0 (.seq (.region false [⟨(some 13), .mkif 213 (.cst (.int .i64 2)), none⟩,
    ⟨(some 14), .eqif false [6, 22, 121, 128, 213, 231, 233, 234, 247] (.tmp 11) (.tmp 13), none⟩,
    ⟨(some 12), .own 14, none⟩] [])
  (.cond (.tmp 12) (.seq (.region false [⟨(some 15), .mov (.tmp 0), none⟩,
    ⟨(some 16), .mov (.tmp 1), none⟩,
    ⟨(some 17), .callq 152 [.tmp 15, .tmp 16], none⟩,
    ⟨(some 18), .mkif 214 (.tmp 17), none⟩,
    ⟨(some 10), .own 18, none⟩] [])
  .ret) (.seq (.region false [⟨(some 20), .mkif 213 (.cst (.int .i64 1)), none⟩,
    ⟨(some 21), .eqif false [6, 22, 121, 128, 213, 231, 233, 234, 247] (.tmp 11) (.tmp 20), none⟩,
    ⟨(some 19), .own 21, none⟩] [])
  (.cond (.tmp 19) (.seq (.region false [⟨(some 22), .mov (.tmp 0), none⟩,
    ⟨(some 23), .mov (.tmp 1), none⟩,
    ⟨(some 24), .callq 153 [.tmp 22, .tmp 23], none⟩,
    ⟨(some 25), .mkif 214 (.tmp 24), none⟩,
    ⟨(some 10), .own 25, none⟩] [])
  .ret) (.seq (.region false [⟨(some 27), .mkif 213 (.cst (.int .i64 3)), none⟩,
    ⟨(some 28), .eqif false [6, 22, 121, 128, 213, 231, 233, 234, 247] (.tmp 11) (.tmp 27), none⟩,
    ⟨(some 26), .own 28, none⟩] [])
  (.cond (.tmp 26) (.seq (.region false [⟨(some 29), .mov (.tmp 0), none⟩,
    ⟨(some 30), .mov (.tmp 1), none⟩,
    ⟨(some 31), .mov (.tmp 2), none⟩,
    ⟨(some 32), .callq 154 [.tmp 29, .tmp 30, .tmp 31], none⟩,
    ⟨(some 33), .mkif 214 (.tmp 32), none⟩,
    ⟨(some 10), .own 33, none⟩] [])
  .ret) (.seq (.region false [⟨(some 35), .mkif 213 (.cst (.int .i64 4)), none⟩,
    ⟨(some 36), .eqif false [6, 22, 121, 128, 213, 231, 233, 234, 247] (.tmp 11) (.tmp 35), none⟩,
    ⟨(some 34), .own 36, none⟩] [])
  (.cond (.tmp 34) (.seq (.region false [⟨(some 37), .mov (.tmp 0), none⟩,
    ⟨(some 38), .mov (.tmp 1), none⟩,
    ⟨(some 39), .mov (.tmp 3), none⟩,
    ⟨(some 40), .callq 155 [.tmp 37, .tmp 38, .tmp 39], none⟩,
    ⟨(some 41), .mkif 214 (.tmp 40), none⟩,
    ⟨(some 10), .own 41, none⟩] [])
  .ret) .skip))))))))))
  (.seq (.region false [⟨(some 42), .mov (.tmp 4), none⟩,
    ⟨(some 10), .own 42, none⟩] [])
  .ret)))
def x147_r0 : XCode := .seq (.seq (.region false [⟨(some 9), .mov (.tmp 5), none⟩,
    ⟨(some 10), .mov (.tmp 0), none⟩,
    ⟨(some 11), .lens true (.tmp 10), none⟩,
    ⟨(some 12), .bin .lss (.tmp 9) (.tmp 11), none⟩] [])
  (.cond (.tmp 12) .skip (.exit 0)))
  (.seq (.block 1 (.region false [⟨(some 15), .mov (.tmp 4), none⟩,
    ⟨(some 16), .bin .mul (.tmp 15) (.cst (.int .u32 16777619)), none⟩,
    ⟨(some 17), .mov (.tmp 0), none⟩,
    ⟨(some 18), .mov (.tmp 5), none⟩,
    ⟨(some 19), .idxs (.tmp 17) (.tmp 18), none⟩,
    ⟨(some 20), .conv .u32 (.tmp 19), none⟩,
    ⟨(some 21), .bin .add (.tmp 16) (.tmp 20), none⟩,
    ⟨(some 4), .own 21, none⟩] []))
  (.region false [⟨(some 13), .mov (.tmp 5), none⟩,
    ⟨(some 14), .bin .add (.tmp 13) (.cst (.int .i64 1)), none⟩,
    ⟨(some 5), .own 14, none⟩] []))
def x147_l0 : XCode := x147_r0
def x147_r1 : XCode := .seq (.seq (.region false [⟨(some 24), .mov (.tmp 8), none⟩,
    ⟨(some 25), .bin .gtr (.tmp 24) (.cst (.int .i64 0)), none⟩] [])
  (.cond (.tmp 25) .skip (.exit 2)))
  (.seq (.block 3 (.seq (.seq (.region false [⟨(some 28), .mov (.tmp 8), none⟩,
    ⟨(some 29), .bin .and (.tmp 28) (.cst (.int .i64 1)), none⟩,
    ⟨(some 30), .bin .neq (.tmp 29) (.cst (.int .i64 0)), none⟩] [])
  (.cond (.tmp 30) (.region false [⟨(some 31), .mov (.tmp 6), none⟩,
    ⟨(some 32), .mov (.tmp 7), none⟩,
    ⟨(some 33), .bin .mul (.tmp 31) (.tmp 32), none⟩,
    ⟨(some 6), .own 33, none⟩] []) .skip))
  (.region false [⟨(some 34), .mov (.tmp 7), none⟩,
    ⟨(some 35), .mov (.tmp 7), none⟩,
    ⟨(some 36), .bin .mul (.tmp 34) (.tmp 35), none⟩,
    ⟨(some 7), .own 36, none⟩] [])))
  (.region false [⟨(some 26), .mov (.tmp 8), none⟩,
    ⟨(some 27), .bin .shr (.tmp 26) (.cst (.int .u64 1)), none⟩,
    ⟨(some 8), .own 27, none⟩] []))
def x147_l1 : XCode := x147_r1
/-- internal/bytealg.hashStr[string] -/
def x147 : XFn := XFn.mk 39 [.tmp 2, .tmp 3] (.seq (.region false [⟨(some 2), .mov (.cst (.int .u32 0)), none⟩,
    ⟨(some 3), .mov (.cst (.int .u32 0)), none⟩] [])
  (.seq (.region false [⟨(some 4), .mov (.cst (.int .u32 0)), none⟩] [])
  (.seq (.seq (.region false [⟨(some 5), .mov (.cst (.int .i64 0)), none⟩] [])
  (.block 0 (.loop x147_l0)))
  (.seq (.region false [⟨(some 6), .mov (.cst (.int .u32 1)), none⟩,
    ⟨(some 7), .mov (.cst (.int .u32 16777619)), none⟩] [])
  (.seq (.seq (.region false [⟨(some 22), .mov (.tmp 0), none⟩,
    ⟨(some 23), .lens true (.tmp 22), none⟩,
    ⟨(some 8), .own 23, none⟩] [])
  (.block 2 (.loop x147_l1)))
  (.seq (.region false [⟨(some 37), .mov (.tmp 4), none⟩,
    ⟨(some 38), .mov (.tmp 6), none⟩,
    ⟨(some 2), .own 37, none⟩,
    ⟨(some 3), .own 38, none⟩] [])
  .ret))))))
/-- internal/stringslite.HasSuffix -/
def x150 : XFn := XFn.mk 21 [.tmp 4] (.seq (.region false [⟨(some 4), .mov (.cst (.bool false)), none⟩] [])
  (.seq (.region false [⟨(some 5), .mov (.tmp 0), none⟩,
    ⟨(some 6), .lens true (.tmp 5), none⟩,
    ⟨(some 7), .mov (.tmp 1), none⟩,
    ⟨(some 8), .lens true (.tmp 7), none⟩,
    ⟨(some 9), .bin .geq (.tmp 6) (.tmp 8), none⟩,
    ⟨(some 10), .mov (.tmp 9), none⟩,
    ⟨(some 11), .mov (.tmp 0), (some (10, true))⟩,
    ⟨(some 12), .mov (.tmp 0), (some (10, true))⟩,
    ⟨(some 13), .lens true (.tmp 12), (some (10, true))⟩,
    ⟨(some 14), .mov (.tmp 1), (some (10, true))⟩,
    ⟨(some 15), .lens true (.tmp 14), (some (10, true))⟩,
    ⟨(some 16), .bin .sub (.tmp 13) (.tmp 15), (some (10, true))⟩,
    ⟨(some 17), .sstr (.tmp 11) (some (.tmp 16)) none, (some (10, true))⟩,
    ⟨(some 18), .mov (.tmp 1), (some (10, true))⟩,
    ⟨(some 19), .bin .eql (.tmp 17) (.tmp 18), (some (10, true))⟩,
    ⟨(some 20), .pick (.tmp 10) (.tmp 19) (.cst (.bool false)), none⟩,
    ⟨(some 4), .own 20, none⟩] [])
  .ret))
def x151_r0 : XCode := .seq (.region false [⟨(some 102), .bin .lss (.tmp 101) (.tmp 100), none⟩] [])
  (.seq (.cond (.tmp 102) .skip (.exit 3))
  (.seq (.block 4 (.seq (.region false [⟨(some 103), .iaddr 1 (.tmp 99) (.tmp 101), none⟩,
    ⟨(some 104), .load (.tmp 103) 1 false, none⟩,
    ⟨(some 15), .own 104, none⟩] [])
  (.seq (.region false [⟨(some 16), .mov (.cst (.int .u8 0)), none⟩] [])
  (.seq (.block 5 (.seq (.region false [⟨(some 107), .mov (.tmp 15), none⟩,
    ⟨(some 108), .bin .eql (.tmp 107) (.cst (.int .u8 95)), none⟩,
    ⟨(some 109), .mov (.tmp 108), none⟩,
    ⟨(some 110), .mov (.tmp 8), (some (109, true))⟩,
    ⟨(some 111), .pick (.tmp 109) (.tmp 110) (.cst (.bool false)), none⟩,
    ⟨(some 106), .own 111, none⟩] [])
  (.cond (.tmp 106) (.seq (.region false [⟨(some 12), .mov (.cst (.bool true)), none⟩] [])
  (.exit 4)) (.seq (.region false [⟨(some 113), .mov (.tmp 15), none⟩,
    ⟨(some 114), .bin .leq (.cst (.int .u8 48)) (.tmp 113), none⟩,
    ⟨(some 115), .mov (.tmp 114), none⟩,
    ⟨(some 116), .mov (.tmp 15), (some (115, true))⟩,
    ⟨(some 117), .bin .leq (.tmp 116) (.cst (.int .u8 57)), (some (115, true))⟩,
    ⟨(some 118), .pick (.tmp 115) (.tmp 117) (.cst (.bool false)), none⟩,
    ⟨(some 112), .own 118, none⟩] [])
  (.cond (.tmp 112) (.region false [⟨(some 119), .mov (.tmp 15), none⟩,
    ⟨(some 120), .bin .sub (.tmp 119) (.cst (.int .u8 48)), none⟩,
    ⟨(some 16), .own 120, none⟩] []) (.seq (.region false [⟨(some 122), .mov (.tmp 15), none⟩,
    ⟨(some 123), .callq 156 [.tmp 122], none⟩,
    ⟨(some 124), .bin .leq (.cst (.int .u8 97)) (.tmp 123), none⟩,
    ⟨(some 125), .mov (.tmp 124), none⟩,
    ⟨(some 126), .mov (.tmp 15), (some (125, true))⟩,
    ⟨(some 127), .callq 156 [.tmp 126], (some (125, true))⟩,
    ⟨(some 128), .bin .leq (.tmp 127) (.cst (.int .u8 122)), (some (125, true))⟩,
    ⟨(some 129), .pick (.tmp 125) (.tmp 128) (.cst (.bool false)), none⟩,
    ⟨(some 121), .own 129, none⟩] [])
  (.cond (.tmp 121) (.region false [⟨(some 130), .mov (.tmp 15), none⟩,
    ⟨(some 131), .callq 156 [.tmp 130], none⟩,
    ⟨(some 132), .bin .sub (.tmp 131) (.cst (.int .u8 97)), none⟩,
    ⟨(some 133), .bin .add (.tmp 132) (.cst (.int .u8 10)), none⟩,
    ⟨(some 16), .own 133, none⟩] []) (.seq (.region false [⟨(some 105), .mkif 213 (.cst (.int .i64 2)), none⟩,
    ⟨(some 6), .mov (.cst (.int .u64 0)), none⟩,
    ⟨(some 7), .own 105, none⟩] [])
  .ret))))))))
  (.seq (.seq (.region false [⟨(some 134), .mov (.tmp 16), none⟩,
    ⟨(some 135), .mov (.tmp 1), none⟩,
    ⟨(some 136), .conv .u8 (.tmp 135), none⟩,
    ⟨(some 137), .bin .geq (.tmp 134) (.tmp 136), none⟩] [])
  (.cond (.tmp 137) (.seq (.region false [⟨(some 138), .mkif 213 (.cst (.int .i64 2)), none⟩,
    ⟨(some 6), .mov (.cst (.int .u64 0)), none⟩,
    ⟨(some 7), .own 138, none⟩] [])
  .ret) .skip))
  (.seq (.seq (.region false [⟨(some 139), .mov (.tmp 13), none⟩,
    ⟨(some 140), .mov (.tmp 10), none⟩,
    ⟨(some 141), .bin .geq (.tmp 139) (.tmp 140), none⟩] [])
  (.cond (.tmp 141) (.seq (.region false [⟨(some 142), .mov (.tmp 11), none⟩,
    ⟨(some 143), .mkif 213 (.cst (.int .i64 1)), none⟩,
    ⟨(some 6), .own 142, none⟩,
    ⟨(some 7), .own 143, none⟩] [])
  .ret) .skip))
  (.seq (.region false [⟨(some 144), .mov (.tmp 13), none⟩,
    ⟨(some 145), .mov (.tmp 1), none⟩,
    ⟨(some 146), .conv .u64 (.tmp 145), none⟩,
    ⟨(some 147), .bin .mul (.tmp 144) (.tmp 146), none⟩,
    ⟨(some 13), .own 147, none⟩] [])
  (.seq (.region false [⟨(some 148), .mov (.tmp 13), none⟩,
    ⟨(some 149), .mov (.tmp 16), none⟩,
    ⟨(some 150), .conv .u64 (.tmp 149), none⟩,
    ⟨(some 151), .bin .add (.tmp 148) (.tmp 150), none⟩,
    ⟨(some 17), .own 151, none⟩] [])
  (.seq (.seq (.region false [⟨(some 152), .mov (.tmp 17), none⟩,
    ⟨(some 153), .mov (.tmp 13), none⟩,
    ⟨(some 154), .bin .lss (.tmp 152) (.tmp 153), none⟩,
    ⟨(some 155), .mov (.tmp 154), none⟩,
    ⟨(some 156), .mov (.tmp 17), (some (155, false))⟩,
    ⟨(some 157), .mov (.tmp 11), (some (155, false))⟩,
    ⟨(some 158), .bin .gtr (.tmp 156) (.tmp 157), (some (155, false))⟩,
    ⟨(some 159), .pick (.tmp 155) (.cst (.bool true)) (.tmp 158), none⟩] [])
  (.cond (.tmp 159) (.seq (.region false [⟨(some 160), .mov (.tmp 11), none⟩,
    ⟨(some 161), .mkif 213 (.cst (.int .i64 1)), none⟩,
    ⟨(some 6), .own 160, none⟩,
    ⟨(some 7), .own 161, none⟩] [])
  .ret) .skip))
  (.region false [⟨(some 162), .mov (.tmp 17), none⟩,
    ⟨(some 13), .own 162, none⟩] []))))))))))
  (.region false [⟨(some 163), .bin .add (.tmp 101) (.cst (.int .i64 1)), none⟩,
    ⟨(some 101), .mov (.tmp 163), none⟩] [])))
def x151_l0 : XCode := x151_r0
/-- internal/strconv.ParseUint -/
def x151 : XFn := XFn.mk 172 [.tmp 6, .tmp 7] (.seq (.region false [⟨(some 6), .mov (.cst (.int .u64 0)), none⟩,
    ⟨(some 7), .mov (.cst .nilif), none⟩] [])
  (.seq (.seq (.region false [⟨(some 18), .mov (.tmp 0), none⟩,
    ⟨(some 19), .bin .eql (.tmp 18) (.cst (.str [])), none⟩] [])
  (.cond (.tmp 19) (.seq (.region false [⟨(some 20), .mkif 213 (.cst (.int .i64 2)), none⟩,
    ⟨(some 6), .mov (.cst (.int .u64 0)), none⟩,
    ⟨(some 7), .own 20, none⟩] [])
  .ret) .skip))
  (.seq (.region false [⟨(some 21), .mov (.tmp 1), none⟩,
    ⟨(some 22), .bin .eql (.tmp 21) (.cst (.int .i64 0)), none⟩,
    ⟨(some 8), .own 22, none⟩] [])
  (.seq (.region false [⟨(some 23), .mov (.tmp 0), none⟩,
    ⟨(some 9), .own 23, none⟩] [])
  (.seq (.block 0 (.seq (.region false [⟨(some 26), .mov (.tmp 1), none⟩,
    ⟨(some 27), .bin .leq (.cst (.int .i64 2)) (.tmp 26), none⟩,
    ⟨(some 28), .mov (.tmp 27), none⟩,
    ⟨(some 29), .mov (.tmp 1), (some (28, true))⟩,
    ⟨(some 30), .bin .leq (.tmp 29) (.cst (.int .i64 36)), (some (28, true))⟩,
    ⟨(some 31), .pick (.tmp 28) (.tmp 30) (.cst (.bool false)), none⟩,
    ⟨(some 25), .own 31, none⟩] [])
  (.cond (.tmp 25) .skip (.seq (.region false [⟨(some 33), .mov (.tmp 1), none⟩,
    ⟨(some 34), .bin .eql (.tmp 33) (.cst (.int .i64 0)), none⟩,
    ⟨(some 32), .own 34, none⟩] [])
  (.cond (.tmp 32) (.seq (.region false [⟨(some 1), .mov (.cst (.int .i64 10)), none⟩] [])
  (.seq (.region false [⟨(some 35), .mov (.tmp 0), none⟩,
    ⟨(some 36), .idxs (.tmp 35) (.cst (.int .i64 0)), none⟩,
    ⟨(some 37), .bin .eql (.tmp 36) (.cst (.int .u8 48)), none⟩] [])
  (.cond (.tmp 37) (.block 1 (.seq (.region false [⟨(some 41), .mov (.tmp 0), none⟩,
    ⟨(some 42), .lens true (.tmp 41), none⟩,
    ⟨(some 43), .bin .geq (.tmp 42) (.cst (.int .i64 3)), none⟩,
    ⟨(some 44), .mov (.tmp 43), none⟩,
    ⟨(some 45), .mov (.tmp 0), (some (44, true))⟩,
    ⟨(some 46), .idxs (.tmp 45) (.cst (.int .i64 1)), (some (44, true))⟩,
    ⟨(some 47), .callq 156 [.tmp 46], (some (44, true))⟩,
    ⟨(some 48), .bin .eql (.tmp 47) (.cst (.int .u8 98)), (some (44, true))⟩,
    ⟨(some 49), .pick (.tmp 44) (.tmp 48) (.cst (.bool false)), none⟩,
    ⟨(some 40), .own 49, none⟩] [])
  (.cond (.tmp 40) (.seq (.region false [⟨(some 1), .mov (.cst (.int .i64 2)), none⟩] [])
  (.region false [⟨(some 50), .mov (.tmp 0), none⟩,
    ⟨(some 51), .sstr (.tmp 50) (some (.cst (.int .i64 2))) none, none⟩,
    ⟨(some 0), .own 51, none⟩] [])) (.seq (.region false [⟨(some 53), .mov (.tmp 0), none⟩,
    ⟨(some 54), .lens true (.tmp 53), none⟩,
    ⟨(some 55), .bin .geq (.tmp 54) (.cst (.int .i64 3)), none⟩,
    ⟨(some 56), .mov (.tmp 55), none⟩,
    ⟨(some 57), .mov (.tmp 0), (some (56, true))⟩,
    ⟨(some 58), .idxs (.tmp 57) (.cst (.int .i64 1)), (some (56, true))⟩,
    ⟨(some 59), .callq 156 [.tmp 58], (some (56, true))⟩,
    ⟨(some 60), .bin .eql (.tmp 59) (.cst (.int .u8 111)), (some (56, true))⟩,
    ⟨(some 61), .pick (.tmp 56) (.tmp 60) (.cst (.bool false)), none⟩,
    ⟨(some 52), .own 61, none⟩] [])
  (.cond (.tmp 52) (.seq (.region false [⟨(some 1), .mov (.cst (.int .i64 8)), none⟩] [])
  (.region false [⟨(some 62), .mov (.tmp 0), none⟩,
    ⟨(some 63), .sstr (.tmp 62) (some (.cst (.int .i64 2))) none, none⟩,
    ⟨(some 0), .own 63, none⟩] [])) (.seq (.region false [⟨(some 65), .mov (.tmp 0), none⟩,
    ⟨(some 66), .lens true (.tmp 65), none⟩,
    ⟨(some 67), .bin .geq (.tmp 66) (.cst (.int .i64 3)), none⟩,
    ⟨(some 68), .mov (.tmp 67), none⟩,
    ⟨(some 69), .mov (.tmp 0), (some (68, true))⟩,
    ⟨(some 70), .idxs (.tmp 69) (.cst (.int .i64 1)), (some (68, true))⟩,
    ⟨(some 71), .callq 156 [.tmp 70], (some (68, true))⟩,
    ⟨(some 72), .bin .eql (.tmp 71) (.cst (.int .u8 120)), (some (68, true))⟩,
    ⟨(some 73), .pick (.tmp 68) (.tmp 72) (.cst (.bool false)), none⟩,
    ⟨(some 64), .own 73, none⟩] [])
  (.cond (.tmp 64) (.seq (.region false [⟨(some 1), .mov (.cst (.int .i64 16)), none⟩] [])
  (.region false [⟨(some 74), .mov (.tmp 0), none⟩,
    ⟨(some 75), .sstr (.tmp 74) (some (.cst (.int .i64 2))) none, none⟩,
    ⟨(some 0), .own 75, none⟩] [])) (.seq (.region false [⟨(some 1), .mov (.cst (.int .i64 8)), none⟩] [])
  (.region false [⟨(some 38), .mov (.tmp 0), none⟩,
    ⟨(some 39), .sstr (.tmp 38) (some (.cst (.int .i64 1))) none, none⟩,
    ⟨(some 0), .own 39, none⟩] []))))))))) .skip))) (.seq (.region false [⟨(some 24), .mkif 213 (.cst (.int .i64 3)), none⟩,
    ⟨(some 6), .mov (.cst (.int .u64 0)), none⟩,
    ⟨(some 7), .own 24, none⟩] [])
  .ret))))))
  (.seq (.seq (.region false [⟨(some 76), .mov (.tmp 2), none⟩,
    ⟨(some 77), .bin .eql (.tmp 76) (.cst (.int .i64 0)), none⟩] [])
  (.cond (.tmp 77) (.region false [⟨(some 2), .mov (.cst (.int .i64 64)), none⟩] []) (.seq (.region false [⟨(some 78), .mov (.tmp 2), none⟩,
    ⟨(some 79), .bin .lss (.tmp 78) (.cst (.int .i64 0)), none⟩,
    ⟨(some 80), .mov (.tmp 79), none⟩,
    ⟨(some 81), .mov (.tmp 2), (some (80, false))⟩,
    ⟨(some 82), .bin .gtr (.tmp 81) (.cst (.int .i64 64)), (some (80, false))⟩,
    ⟨(some 83), .pick (.tmp 80) (.cst (.bool true)) (.tmp 82), none⟩] [])
  (.cond (.tmp 83) (.seq (.region false [⟨(some 84), .mkif 213 (.cst (.int .i64 4)), none⟩,
    ⟨(some 6), .mov (.cst (.int .u64 0)), none⟩,
    ⟨(some 7), .own 84, none⟩] [])
  .ret) .skip))))
  (.seq (.region false [⟨(some 10), .mov (.cst (.int .u64 0)), none⟩] [])
  (.seq (.seq (.region false [⟨(some 85), .mov (.tmp 1), none⟩] [])
  (.block 2 (.seq (.region false [⟨(some 91), .bin .eql (.tmp 85) (.cst (.int .i64 10)), none⟩,
    ⟨(some 90), .own 91, none⟩] [])
  (.cond (.tmp 90) (.region false [⟨(some 10), .mov (.cst (.int .u64 1844674407370955162)), none⟩] []) (.seq (.region false [⟨(some 93), .bin .eql (.tmp 85) (.cst (.int .i64 16)), none⟩,
    ⟨(some 92), .own 93, none⟩] [])
  (.cond (.tmp 92) (.region false [⟨(some 10), .mov (.cst (.int .u64 1152921504606846976)), none⟩] []) (.region false [⟨(some 86), .mov (.tmp 1), none⟩,
    ⟨(some 87), .conv .u64 (.tmp 86), none⟩,
    ⟨(some 88), .bin .quo (.cst (.int .u64 18446744073709551615)) (.tmp 87), none⟩,
    ⟨(some 89), .bin .add (.tmp 88) (.cst (.int .u64 1)), none⟩,
    ⟨(some 10), .own 89, none⟩] [])))))))
  (.seq (.region false [⟨(some 94), .mov (.tmp 2), none⟩,
    ⟨(some 95), .conv .u64 (.tmp 94), none⟩,
    ⟨(some 96), .bin .shl (.cst (.int .u64 1)) (.tmp 95), none⟩,
    ⟨(some 97), .bin .sub (.tmp 96) (.cst (.int .u64 1)), none⟩,
    ⟨(some 11), .own 97, none⟩] [])
  (.seq (.region false [⟨(some 12), .mov (.cst (.bool false)), none⟩] [])
  (.seq (.region false [⟨(some 13), .mov (.cst (.int .u64 0)), none⟩] [])
  (.seq (.seq (.region false [⟨(some 98), .mov (.tmp 0), none⟩,
    ⟨(some 99), .strb (.tmp 98), none⟩,
    ⟨(some 100), .lens false (.tmp 99), none⟩,
    ⟨(some 101), .mov (.cst (.int .i64 0)), none⟩] [])
  (.block 3 (.loop x151_l0)))
  (.seq (.seq (.region false [⟨(some 164), .mov (.tmp 12), none⟩,
    ⟨(some 165), .mov (.tmp 164), none⟩,
    ⟨(some 166), .mov (.tmp 9), (some (165, true))⟩,
    ⟨(some 167), .callq 157 [.tmp 166], (some (165, true))⟩,
    ⟨(some 168), .not (.tmp 167), (some (165, true))⟩,
    ⟨(some 169), .pick (.tmp 165) (.tmp 168) (.cst (.bool false)), none⟩] [])
  (.cond (.tmp 169) (.seq (.region false [⟨(some 170), .mkif 213 (.cst (.int .i64 2)), none⟩,
    ⟨(some 6), .mov (.cst (.int .u64 0)), none⟩,
    ⟨(some 7), .own 170, none⟩] [])
  .ret) .skip))
  (.seq (.region false [⟨(some 171), .mov (.tmp 13), none⟩,
    ⟨(some 6), .own 171, none⟩,
    ⟨(some 7), .mov (.cst .nilif), none⟩] [])
  .ret))))))))))))))
/-- strconv.syntaxError -/
def x152 : XFn := XFn.mk 11 [.tmp 4] (.seq (.region false [⟨(some 4), .mov (.cst .nilptr), none⟩] [])
  (.seq (.region true [⟨(some 5), .mov (.tmp 0), none⟩,
    ⟨(some 6), .mov (.tmp 1), none⟩,
    ⟨(some 7), .prim 4 158 [.tmp 6], none⟩,
    ⟨(some 8), .load (.glob 7) 1 false, none⟩,
    ⟨(some 9), .build [.str [], .str [], .nilif] [(0, 1, .tmp 5), (1, 1, .tmp 7), (2, 1, .tmp 8)], none⟩,
    ⟨(some 10), .box (.tmp 9) 3, none⟩,
    ⟨(some 4), .own 10, none⟩] [])
  .ret))
/-- strconv.rangeError -/
def x153 : XFn := XFn.mk 11 [.tmp 4] (.seq (.region false [⟨(some 4), .mov (.cst .nilptr), none⟩] [])
  (.seq (.region true [⟨(some 5), .mov (.tmp 0), none⟩,
    ⟨(some 6), .mov (.tmp 1), none⟩,
    ⟨(some 7), .prim 4 158 [.tmp 6], none⟩,
    ⟨(some 8), .load (.glob 8) 1 false, none⟩,
    ⟨(some 9), .build [.str [], .str [], .nilif] [(0, 1, .tmp 5), (1, 1, .tmp 7), (2, 1, .tmp 8)], none⟩,
    ⟨(some 10), .box (.tmp 9) 3, none⟩,
    ⟨(some 4), .own 10, none⟩] [])
  .ret))
/-- internal/strconv.lower -/
def x156 : XFn := XFn.mk 5 [.tmp 2] (.seq (.region false [⟨(some 2), .mov (.cst (.int .u8 0)), none⟩] [])
  (.seq (.region false [⟨(some 3), .mov (.tmp 0), none⟩,
    ⟨(some 4), .bin .or (.tmp 3) (.cst (.int .u8 32)), none⟩,
    ⟨(some 2), .own 4, none⟩] [])
  .ret))
def x157_r0 : XCode := .seq (.seq (.region false [⟨(some 51), .mov (.tmp 4), none⟩,
    ⟨(some 52), .mov (.tmp 0), none⟩,
    ⟨(some 53), .lens true (.tmp 52), none⟩,
    ⟨(some 54), .bin .lss (.tmp 51) (.tmp 53), none⟩] [])
  (.cond (.tmp 54) .skip (.exit 0)))
  (.seq (.block 1 (.seq (.seq (.region false [⟨(some 57), .mov (.tmp 0), none⟩,
    ⟨(some 58), .mov (.tmp 4), none⟩,
    ⟨(some 59), .idxs (.tmp 57) (.tmp 58), none⟩,
    ⟨(some 60), .bin .leq (.cst (.int .u8 48)) (.tmp 59), none⟩,
    ⟨(some 61), .mov (.tmp 60), none⟩,
    ⟨(some 62), .mov (.tmp 0), (some (61, true))⟩,
    ⟨(some 63), .mov (.tmp 4), (some (61, true))⟩,
    ⟨(some 64), .idxs (.tmp 62) (.tmp 63), (some (61, true))⟩,
    ⟨(some 65), .bin .leq (.tmp 64) (.cst (.int .u8 57)), (some (61, true))⟩,
    ⟨(some 66), .pick (.tmp 61) (.tmp 65) (.cst (.bool false)), none⟩,
    ⟨(some 67), .mov (.tmp 66), none⟩,
    ⟨(some 68), .mov (.tmp 5), (some (67, false))⟩,
    ⟨(some 69), .mov (.tmp 68), (some (67, false))⟩,
    ⟨(some 70), .mov (.tmp 0), (some (69, true))⟩,
    ⟨(some 71), .mov (.tmp 4), (some (69, true))⟩,
    ⟨(some 72), .idxs (.tmp 70) (.tmp 71), (some (69, true))⟩,
    ⟨(some 73), .callq 156 [.tmp 72], (some (69, true))⟩,
    ⟨(some 74), .bin .leq (.cst (.int .u8 97)) (.tmp 73), (some (69, true))⟩,
    ⟨(some 75), .pick (.tmp 69) (.tmp 74) (.cst (.bool false)), (some (67, false))⟩,
    ⟨(some 76), .mov (.tmp 75), (some (67, false))⟩,
    ⟨(some 77), .mov (.tmp 0), (some (76, true))⟩,
    ⟨(some 78), .mov (.tmp 4), (some (76, true))⟩,
    ⟨(some 79), .idxs (.tmp 77) (.tmp 78), (some (76, true))⟩,
    ⟨(some 80), .callq 156 [.tmp 79], (some (76, true))⟩,
    ⟨(some 81), .bin .leq (.tmp 80) (.cst (.int .u8 102)), (some (76, true))⟩,
    ⟨(some 82), .pick (.tmp 76) (.tmp 81) (.cst (.bool false)), (some (67, false))⟩,
    ⟨(some 83), .pick (.tmp 67) (.cst (.bool true)) (.tmp 82), none⟩] [])
  (.cond (.tmp 83) (.seq (.region false [⟨(some 3), .mov (.cst (.int .i32 48)), none⟩] [])
  (.exit 1)) .skip))
  (.seq (.seq (.region false [⟨(some 84), .mov (.tmp 0), none⟩,
    ⟨(some 85), .mov (.tmp 4), none⟩,
    ⟨(some 86), .idxs (.tmp 84) (.tmp 85), none⟩,
    ⟨(some 87), .bin .eql (.tmp 86) (.cst (.int .u8 95)), none⟩] [])
  (.cond (.tmp 87) (.seq (.seq (.region false [⟨(some 88), .mov (.tmp 3), none⟩,
    ⟨(some 89), .bin .neq (.tmp 88) (.cst (.int .i32 48)), none⟩] [])
  (.cond (.tmp 89) (.seq (.region false [⟨(some 2), .mov (.cst (.bool false)), none⟩] [])
  .ret) .skip))
  (.seq (.region false [⟨(some 3), .mov (.cst (.int .i32 95)), none⟩] [])
  (.exit 1))) .skip))
  (.seq (.seq (.region false [⟨(some 90), .mov (.tmp 3), none⟩,
    ⟨(some 91), .bin .eql (.tmp 90) (.cst (.int .i32 95)), none⟩] [])
  (.cond (.tmp 91) (.seq (.region false [⟨(some 2), .mov (.cst (.bool false)), none⟩] [])
  .ret) .skip))
  (.region false [⟨(some 3), .mov (.cst (.int .i32 33)), none⟩] [])))))
  (.region false [⟨(some 55), .mov (.tmp 4), none⟩,
    ⟨(some 56), .bin .add (.tmp 55) (.cst (.int .i64 1)), none⟩,
    ⟨(some 4), .own 56, none⟩] []))
def x157_l0 : XCode := x157_r0
/-- internal/strconv.underscoreOK -/
def x157 : XFn := XFn.mk 94 [.tmp 2] (.seq (.region false [⟨(some 2), .mov (.cst (.bool false)), none⟩] [])
  (.seq (.region false [⟨(some 3), .mov (.cst (.int .i32 94)), none⟩] [])
  (.seq (.region false [⟨(some 4), .mov (.cst (.int .i64 0)), none⟩] [])
  (.seq (.seq (.region false [⟨(some 6), .mov (.tmp 0), none⟩,
    ⟨(some 7), .lens true (.tmp 6), none⟩,
    ⟨(some 8), .bin .geq (.tmp 7) (.cst (.int .i64 1)), none⟩,
    ⟨(some 9), .mov (.tmp 8), none⟩,
    ⟨(some 10), .mov (.tmp 0), (some (9, true))⟩,
    ⟨(some 11), .idxs (.tmp 10) (.cst (.int .i64 0)), (some (9, true))⟩,
    ⟨(some 12), .bin .eql (.tmp 11) (.cst (.int .u8 45)), (some (9, true))⟩,
    ⟨(some 13), .mov (.tmp 12), (some (9, true))⟩,
    ⟨(some 14), .mov (.tmp 0), (some (13, false))⟩,
    ⟨(some 15), .idxs (.tmp 14) (.cst (.int .i64 0)), (some (13, false))⟩,
    ⟨(some 16), .bin .eql (.tmp 15) (.cst (.int .u8 43)), (some (13, false))⟩,
    ⟨(some 17), .pick (.tmp 13) (.cst (.bool true)) (.tmp 16), (some (9, true))⟩,
    ⟨(some 18), .pick (.tmp 9) (.tmp 17) (.cst (.bool false)), none⟩] [])
  (.cond (.tmp 18) (.region false [⟨(some 19), .mov (.tmp 0), none⟩,
    ⟨(some 20), .sstr (.tmp 19) (some (.cst (.int .i64 1))) none, none⟩,
    ⟨(some 0), .own 20, none⟩] []) .skip))
  (.seq (.region false [⟨(some 5), .mov (.cst (.bool false)), none⟩] [])
  (.seq (.seq (.region false [⟨(some 21), .mov (.tmp 0), none⟩,
    ⟨(some 22), .lens true (.tmp 21), none⟩,
    ⟨(some 23), .bin .geq (.tmp 22) (.cst (.int .i64 2)), none⟩,
    ⟨(some 24), .mov (.tmp 23), none⟩,
    ⟨(some 25), .mov (.tmp 0), (some (24, true))⟩,
    ⟨(some 26), .idxs (.tmp 25) (.cst (.int .i64 0)), (some (24, true))⟩,
    ⟨(some 27), .bin .eql (.tmp 26) (.cst (.int .u8 48)), (some (24, true))⟩,
    ⟨(some 28), .pick (.tmp 24) (.tmp 27) (.cst (.bool false)), none⟩,
    ⟨(some 29), .mov (.tmp 28), none⟩,
    ⟨(some 30), .mov (.tmp 0), (some (29, true))⟩,
    ⟨(some 31), .idxs (.tmp 30) (.cst (.int .i64 1)), (some (29, true))⟩,
    ⟨(some 32), .callq 156 [.tmp 31], (some (29, true))⟩,
    ⟨(some 33), .bin .eql (.tmp 32) (.cst (.int .u8 98)), (some (29, true))⟩,
    ⟨(some 34), .mov (.tmp 33), (some (29, true))⟩,
    ⟨(some 35), .mov (.tmp 0), (some (34, false))⟩,
    ⟨(some 36), .idxs (.tmp 35) (.cst (.int .i64 1)), (some (34, false))⟩,
    ⟨(some 37), .callq 156 [.tmp 36], (some (34, false))⟩,
    ⟨(some 38), .bin .eql (.tmp 37) (.cst (.int .u8 111)), (some (34, false))⟩,
    ⟨(some 39), .pick (.tmp 34) (.cst (.bool true)) (.tmp 38), (some (29, true))⟩,
    ⟨(some 40), .mov (.tmp 39), (some (29, true))⟩,
    ⟨(some 41), .mov (.tmp 0), (some (40, false))⟩,
    ⟨(some 42), .idxs (.tmp 41) (.cst (.int .i64 1)), (some (40, false))⟩,
    ⟨(some 43), .callq 156 [.tmp 42], (some (40, false))⟩,
    ⟨(some 44), .bin .eql (.tmp 43) (.cst (.int .u8 120)), (some (40, false))⟩,
    ⟨(some 45), .pick (.tmp 40) (.cst (.bool true)) (.tmp 44), (some (29, true))⟩,
    ⟨(some 46), .pick (.tmp 29) (.tmp 45) (.cst (.bool false)), none⟩] [])
  (.cond (.tmp 46) (.seq (.region false [⟨(some 4), .mov (.cst (.int .i64 2)), none⟩] [])
  (.seq (.region false [⟨(some 3), .mov (.cst (.int .i32 48)), none⟩] [])
  (.region false [⟨(some 47), .mov (.tmp 0), none⟩,
    ⟨(some 48), .idxs (.tmp 47) (.cst (.int .i64 1)), none⟩,
    ⟨(some 49), .callq 156 [.tmp 48], none⟩,
    ⟨(some 50), .bin .eql (.tmp 49) (.cst (.int .u8 120)), none⟩,
    ⟨(some 5), .own 50, none⟩] []))) .skip))
  (.seq (.block 0 (.loop x157_l0))
  (.seq (.region false [⟨(some 92), .mov (.tmp 3), none⟩,
    ⟨(some 93), .bin .neq (.tmp 92) (.cst (.int .i32 95)), none⟩,
    ⟨(some 2), .own 93, none⟩] [])
  .ret))))))))
def X : List (Option XFn) := [none, none, none, none, none, none, none, none, none, some x9, some x10, some x11, none, some x13, none, some x15, some x16, none, some x18, none, some x20, none, some x22, some x23, some x24, some x25, some x26, some x27, some x28, none, none, none, some x32, some x33, none, none, none, some x37, none, some x39, some x40, none, none, some x43, some x44, none, some x46, some x47, some x48, none, none, some x51, some x52, some x53, some x54, none, some x56, none, none, none, none, none, some x62, some x63, none, some x65, none, none, some x68, some x69, some x70, none, none, some x73, none, none, none, none, none, none, none, none, none, none, none, none, none, none, none, none, none, none, none, none, none, some x95, some x96, some x97, none, some x99, some x100, some x101, some x102, none, none, none, none, none, none, none, none, none, none, none, none, some x115, none, none, none, some x119, some x120, some x121, some x122, some x123, some x124, some x125, none, none, none, none, none, none, some x132, none, some x134, some x135, none, none, none, some x139, some x140, some x141, some x142, none, some x144, none, none, some x147, none, none, some x150, some x151, some x152, some x153, none, none, some x156, some x157]
end Go.Proofs.YtjbgceogkgpjpaaGreatDoor.Sx.T
