/- The functions of this seat in the small language, printed by a program of ours. -/
import Derived.Test.YtpfollpbkpgglaaSxA
namespace Go.Proofs.Ytpfollpbkpgglaa.Sx.T
open Go Go.Proofs.Ytpfollpbkpgglaa.Sx
set_option maxRecDepth 10000
/-- custos/custoslaw01.RatNumbers -/
def x3 : XFn := XFn.mk 60 [.tmp 0] (.seq (.region false [⟨(some 0), .mov (.cst (.bool false)), none⟩] [])
  (.seq (.region false [⟨(some 11), .callq 10 [.cst (.int .i64 (-9223372036854775808)), .cst (.int .i64 (-1))], none⟩,
    ⟨(some 10), .mov (.tmp 11), none⟩,
    ⟨(some 12), .ext 10 0, none⟩,
    ⟨(some 13), .ext 10 1, none⟩,
    ⟨(some 1), .alloc [.int .i64 0, .int .i64 0], none⟩,
    ⟨none, .store (.tmp 1) (.tmp 12) 2, none⟩,
    ⟨(some 2), .own 13, none⟩] [])
  (.seq (.region false [⟨(some 15), .callq 10 [.cst (.int .i64 (-9223372036854775808)), .cst (.int .i64 (-9223372036854775808))], none⟩,
    ⟨(some 14), .mov (.tmp 15), none⟩,
    ⟨(some 16), .ext 14 0, none⟩,
    ⟨(some 17), .ext 14 1, none⟩,
    ⟨(some 3), .alloc [.int .i64 0, .int .i64 0], none⟩,
    ⟨none, .store (.tmp 3) (.tmp 16) 2, none⟩,
    ⟨(some 4), .own 17, none⟩] [])
  (.seq (.region false [⟨(some 19), .build [.int .i64 0, .int .i64 0] [(0, 1, .cst (.int .i64 9223372036854775807)), (1, 1, .cst (.int .i64 2))], none⟩,
    ⟨(some 20), .build [.int .i64 0, .int .i64 0] [(0, 1, .cst (.int .i64 9223372036854775807)), (1, 1, .cst (.int .i64 2))], none⟩,
    ⟨(some 21), .callq 11 [.tmp 19, .tmp 20], none⟩,
    ⟨(some 18), .mov (.tmp 21), none⟩,
    ⟨(some 22), .ext 18 0, none⟩,
    ⟨(some 23), .ext 18 1, none⟩,
    ⟨(some 5), .alloc [.int .i64 0, .int .i64 0], none⟩,
    ⟨none, .store (.tmp 5) (.tmp 22) 2, none⟩,
    ⟨(some 6), .own 23, none⟩] [])
  (.seq (.region false [⟨(some 25), .build [.int .i64 0, .int .i64 0] [(0, 1, .cst (.int .i64 2)), (1, 1, .cst (.int .i64 4))], none⟩,
    ⟨(some 26), .build [.int .i64 0, .int .i64 0] [(0, 1, .cst (.int .i64 1)), (1, 1, .cst (.int .i64 1))], none⟩,
    ⟨(some 27), .callq 11 [.tmp 25, .tmp 26], none⟩,
    ⟨(some 24), .mov (.tmp 27), none⟩,
    ⟨(some 28), .ext 24 0, none⟩,
    ⟨(some 29), .ext 24 1, none⟩,
    ⟨(some 7), .alloc [.int .i64 0, .int .i64 0], none⟩,
    ⟨none, .store (.tmp 7) (.tmp 28) 2, none⟩,
    ⟨(some 8), .own 29, none⟩] [])
  (.seq (.region false [⟨(some 9), .mov (.cst (.bool true)), none⟩] [])
  (.seq (.region false [⟨(some 30), .mov (.tmp 9), none⟩,
    ⟨(some 31), .mov (.tmp 30), none⟩,
    ⟨(some 32), .callq 12 [], (some (31, true))⟩,
    ⟨(some 33), .pick (.tmp 31) (.tmp 32) (.cst (.bool false)), none⟩,
    ⟨(some 34), .mov (.tmp 33), none⟩,
    ⟨(some 35), .mov (.tmp 2), (some (34, true))⟩,
    ⟨(some 36), .bin .eql (.tmp 35) (.cst (.int .i64 10)), (some (34, true))⟩,
    ⟨(some 37), .pick (.tmp 34) (.tmp 36) (.cst (.bool false)), none⟩,
    ⟨(some 38), .mov (.tmp 37), none⟩,
    ⟨(some 39), .mov (.tmp 4), (some (38, true))⟩,
    ⟨(some 40), .bin .eql (.tmp 39) (.cst (.int .i64 0)), (some (38, true))⟩,
    ⟨(some 41), .pick (.tmp 38) (.tmp 40) (.cst (.bool false)), none⟩,
    ⟨(some 42), .mov (.tmp 41), none⟩,
    ⟨(some 43), .load (.tmp 3) 2 true, (some (42, true))⟩,
    ⟨(some 44), .build [.int .i64 0, .int .i64 0] [(0, 1, .cst (.int .i64 1)), (1, 1, .cst (.int .i64 1))], (some (42, true))⟩,
    ⟨(some 45), .eqagg false [1, 1] (.tmp 43) (.tmp 44), (some (42, true))⟩,
    ⟨(some 46), .pick (.tmp 42) (.tmp 45) (.cst (.bool false)), none⟩,
    ⟨(some 47), .mov (.tmp 46), none⟩,
    ⟨(some 48), .mov (.tmp 6), (some (47, true))⟩,
    ⟨(some 49), .bin .eql (.tmp 48) (.cst (.int .i64 0)), (some (47, true))⟩,
    ⟨(some 50), .pick (.tmp 47) (.tmp 49) (.cst (.bool false)), none⟩,
    ⟨(some 51), .mov (.tmp 50), none⟩,
    ⟨(some 52), .load (.tmp 5) 2 true, (some (51, true))⟩,
    ⟨(some 53), .build [.int .i64 0, .int .i64 0] [(0, 1, .cst (.int .i64 9223372036854775807)), (1, 1, .cst (.int .i64 1))], (some (51, true))⟩,
    ⟨(some 54), .eqagg false [1, 1] (.tmp 52) (.tmp 53), (some (51, true))⟩,
    ⟨(some 55), .pick (.tmp 51) (.tmp 54) (.cst (.bool false)), none⟩,
    ⟨(some 56), .mov (.tmp 55), none⟩,
    ⟨(some 57), .mov (.tmp 8), (some (56, true))⟩,
    ⟨(some 58), .bin .eql (.tmp 57) (.cst (.int .i64 1)), (some (56, true))⟩,
    ⟨(some 59), .pick (.tmp 56) (.tmp 58) (.cst (.bool false)), none⟩,
    ⟨(some 0), .own 59, none⟩] [])
  .ret)))))))
/-- custos/custoslaw01.RatMakes -/
def x4 : XFn := XFn.mk 32 [.tmp 4] (.seq (.region false [⟨(some 4), .mov (.cst (.bool false)), none⟩] [])
  (.seq (.region false [⟨(some 10), .mov (.tmp 0), none⟩,
    ⟨(some 11), .mov (.tmp 1), none⟩,
    ⟨(some 12), .callq 10 [.tmp 10, .tmp 11], none⟩,
    ⟨(some 9), .mov (.tmp 12), none⟩,
    ⟨(some 13), .ext 9 0, none⟩,
    ⟨(some 14), .ext 9 1, none⟩,
    ⟨(some 5), .alloc [.int .i64 0, .int .i64 0], none⟩,
    ⟨none, .store (.tmp 5) (.tmp 13) 2, none⟩,
    ⟨(some 6), .own 14, none⟩] [])
  (.seq (.region false [⟨(some 16), .mov (.tmp 0), none⟩,
    ⟨(some 17), .mov (.tmp 1), none⟩,
    ⟨(some 18), .callq 13 [.tmp 16, .tmp 17], none⟩,
    ⟨(some 15), .mov (.tmp 18), none⟩,
    ⟨(some 19), .ext 15 0, none⟩,
    ⟨(some 20), .ext 15 1, none⟩,
    ⟨(some 7), .alloc [.int .i64 0, .int .i64 0], none⟩,
    ⟨none, .store (.tmp 7) (.tmp 19) 2, none⟩,
    ⟨(some 8), .own 20, none⟩] [])
  (.seq (.region false [⟨(some 21), .callq 12 [], none⟩,
    ⟨(some 22), .mov (.tmp 21), none⟩,
    ⟨(some 23), .mov (.tmp 6), (some (22, true))⟩,
    ⟨(some 24), .mov (.tmp 8), (some (22, true))⟩,
    ⟨(some 25), .bin .eql (.tmp 23) (.tmp 24), (some (22, true))⟩,
    ⟨(some 26), .pick (.tmp 22) (.tmp 25) (.cst (.bool false)), none⟩,
    ⟨(some 27), .mov (.tmp 26), none⟩,
    ⟨(some 28), .load (.tmp 5) 2 true, (some (27, true))⟩,
    ⟨(some 29), .load (.tmp 7) 2 true, (some (27, true))⟩,
    ⟨(some 30), .callq 14 [.tmp 28, .tmp 29], (some (27, true))⟩,
    ⟨(some 31), .pick (.tmp 27) (.tmp 30) (.cst (.bool false)), none⟩,
    ⟨(some 4), .own 31, none⟩] [])
  .ret))))
/-- custos/custoslaw01.RatCompares -/
def x5 : XFn := XFn.mk 19 [.tmp 4] (.seq (.region false [⟨(some 2), .box (.tmp 0) 2, none⟩,
    ⟨(some 3), .box (.tmp 1) 2, none⟩,
    ⟨(some 4), .mov (.cst (.bool false)), none⟩] [])
  (.seq (.region true [⟨(some 6), .load (.tmp 2) 2 true, none⟩,
    ⟨(some 7), .callq 16 [.tmp 6], none⟩,
    ⟨(some 8), .load (.tmp 3) 2 true, none⟩,
    ⟨(some 9), .callq 16 [.tmp 8], none⟩,
    ⟨(some 10), .callq 15 [.tmp 7, .tmp 9], none⟩,
    ⟨(some 5), .own 10, none⟩] [])
  (.seq (.region false [⟨(some 11), .callq 12 [], none⟩,
    ⟨(some 12), .mov (.tmp 11), none⟩,
    ⟨(some 13), .load (.tmp 2) 2 true, (some (12, true))⟩,
    ⟨(some 14), .load (.tmp 3) 2 true, (some (12, true))⟩,
    ⟨(some 15), .callq 17 [.tmp 13, .tmp 14], (some (12, true))⟩,
    ⟨(some 16), .mov (.tmp 5), (some (12, true))⟩,
    ⟨(some 17), .bin .eql (.tmp 15) (.tmp 16), (some (12, true))⟩,
    ⟨(some 18), .pick (.tmp 12) (.tmp 17) (.cst (.bool false)), none⟩,
    ⟨(some 4), .own 18, none⟩] [])
  .ret)))
/-- custos/custoslaw01.RatSums -/
def x6 : XFn := XFn.mk 62 [.tmp 4] (.seq (.region false [⟨(some 2), .box (.tmp 0) 2, none⟩,
    ⟨(some 3), .box (.tmp 1) 2, none⟩,
    ⟨(some 4), .mov (.cst (.bool false)), none⟩] [])
  (.seq (.region false [⟨(some 14), .load (.tmp 2) 2 true, none⟩,
    ⟨(some 15), .load (.tmp 3) 2 true, none⟩,
    ⟨(some 16), .callq 11 [.tmp 14, .tmp 15], none⟩,
    ⟨(some 13), .mov (.tmp 16), none⟩,
    ⟨(some 17), .ext 13 0, none⟩,
    ⟨(some 18), .ext 13 1, none⟩,
    ⟨(some 5), .alloc [.int .i64 0, .int .i64 0], none⟩,
    ⟨none, .store (.tmp 5) (.tmp 17) 2, none⟩,
    ⟨(some 6), .own 18, none⟩] [])
  (.seq (.region true [⟨(some 20), .load (.tmp 2) 2 true, none⟩,
    ⟨(some 21), .callq 16 [.tmp 20], none⟩,
    ⟨(some 22), .load (.tmp 3) 2 true, none⟩,
    ⟨(some 23), .callq 16 [.tmp 22], none⟩,
    ⟨(some 24), .callq 18 [.tmp 21, .tmp 23], none⟩,
    ⟨(some 19), .mov (.tmp 24), none⟩,
    ⟨(some 25), .ext 19 0, none⟩,
    ⟨(some 26), .ext 19 1, none⟩,
    ⟨(some 7), .alloc [.int .i64 0, .int .i64 0], none⟩,
    ⟨none, .store (.tmp 7) (.tmp 25) 2, none⟩,
    ⟨(some 8), .own 26, none⟩] [])
  (.seq (.region false [⟨(some 28), .load (.tmp 2) 2 true, none⟩,
    ⟨(some 29), .load (.tmp 3) 2 true, none⟩,
    ⟨(some 30), .callq 19 [.tmp 28, .tmp 29], none⟩,
    ⟨(some 27), .mov (.tmp 30), none⟩,
    ⟨(some 31), .ext 27 0, none⟩,
    ⟨(some 32), .ext 27 1, none⟩,
    ⟨(some 9), .alloc [.int .i64 0, .int .i64 0], none⟩,
    ⟨none, .store (.tmp 9) (.tmp 31) 2, none⟩,
    ⟨(some 10), .own 32, none⟩] [])
  (.seq (.region true [⟨(some 34), .load (.tmp 2) 2 true, none⟩,
    ⟨(some 35), .callq 16 [.tmp 34], none⟩,
    ⟨(some 36), .load (.tmp 3) 2 true, none⟩,
    ⟨(some 37), .callq 16 [.tmp 36], none⟩,
    ⟨(some 38), .callq 20 [.tmp 35, .tmp 37], none⟩,
    ⟨(some 33), .mov (.tmp 38), none⟩,
    ⟨(some 39), .ext 33 0, none⟩,
    ⟨(some 40), .ext 33 1, none⟩,
    ⟨(some 11), .alloc [.int .i64 0, .int .i64 0], none⟩,
    ⟨none, .store (.tmp 11) (.tmp 39) 2, none⟩,
    ⟨(some 12), .own 40, none⟩] [])
  (.seq (.region false [⟨(some 41), .callq 12 [], none⟩,
    ⟨(some 42), .mov (.tmp 41), none⟩,
    ⟨(some 43), .mov (.tmp 6), (some (42, true))⟩,
    ⟨(some 44), .mov (.tmp 8), (some (42, true))⟩,
    ⟨(some 45), .bin .eql (.tmp 43) (.tmp 44), (some (42, true))⟩,
    ⟨(some 46), .pick (.tmp 42) (.tmp 45) (.cst (.bool false)), none⟩,
    ⟨(some 47), .mov (.tmp 46), none⟩,
    ⟨(some 48), .load (.tmp 5) 2 true, (some (47, true))⟩,
    ⟨(some 49), .load (.tmp 7) 2 true, (some (47, true))⟩,
    ⟨(some 50), .callq 14 [.tmp 48, .tmp 49], (some (47, true))⟩,
    ⟨(some 51), .pick (.tmp 47) (.tmp 50) (.cst (.bool false)), none⟩,
    ⟨(some 52), .mov (.tmp 51), none⟩,
    ⟨(some 53), .mov (.tmp 10), (some (52, true))⟩,
    ⟨(some 54), .mov (.tmp 12), (some (52, true))⟩,
    ⟨(some 55), .bin .eql (.tmp 53) (.tmp 54), (some (52, true))⟩,
    ⟨(some 56), .pick (.tmp 52) (.tmp 55) (.cst (.bool false)), none⟩,
    ⟨(some 57), .mov (.tmp 56), none⟩,
    ⟨(some 58), .load (.tmp 9) 2 true, (some (57, true))⟩,
    ⟨(some 59), .load (.tmp 11) 2 true, (some (57, true))⟩,
    ⟨(some 60), .callq 14 [.tmp 58, .tmp 59], (some (57, true))⟩,
    ⟨(some 61), .pick (.tmp 57) (.tmp 60) (.cst (.bool false)), none⟩,
    ⟨(some 4), .own 61, none⟩] [])
  .ret))))))
/-- custos/custoslaw01.RatOrder -/
def x7 : XFn := XFn.mk 148 [.tmp 6] (.seq (.region false [⟨(some 3), .box (.tmp 0) 2, none⟩,
    ⟨(some 4), .box (.tmp 1) 2, none⟩,
    ⟨(some 5), .box (.tmp 2) 2, none⟩,
    ⟨(some 6), .mov (.cst (.bool false)), none⟩] [])
  (.seq (.region false [⟨(some 20), .load (.tmp 3) 2 true, none⟩,
    ⟨(some 21), .load (.tmp 4) 2 true, none⟩,
    ⟨(some 22), .callq 17 [.tmp 20, .tmp 21], none⟩,
    ⟨(some 7), .own 22, none⟩] [])
  (.seq (.seq (.region false [⟨(some 23), .load (.tmp 3) 2 true, none⟩,
    ⟨(some 24), .callq 21 [.tmp 23], none⟩,
    ⟨(some 25), .not (.tmp 24), none⟩,
    ⟨(some 26), .mov (.tmp 25), none⟩,
    ⟨(some 27), .load (.tmp 4) 2 true, (some (26, false))⟩,
    ⟨(some 28), .callq 21 [.tmp 27], (some (26, false))⟩,
    ⟨(some 29), .not (.tmp 28), (some (26, false))⟩,
    ⟨(some 30), .pick (.tmp 26) (.cst (.bool true)) (.tmp 29), none⟩,
    ⟨(some 31), .mov (.tmp 30), none⟩,
    ⟨(some 32), .load (.tmp 5) 2 true, (some (31, false))⟩,
    ⟨(some 33), .callq 21 [.tmp 32], (some (31, false))⟩,
    ⟨(some 34), .not (.tmp 33), (some (31, false))⟩,
    ⟨(some 35), .pick (.tmp 31) (.cst (.bool true)) (.tmp 34), none⟩] [])
  (.cond (.tmp 35) (.seq (.region false [⟨(some 36), .callq 12 [], none⟩,
    ⟨(some 6), .own 36, none⟩] [])
  .ret) .skip))
  (.seq (.region false [⟨(some 37), .load (.tmp 4) 2 true, none⟩,
    ⟨(some 38), .load (.tmp 5) 2 true, none⟩,
    ⟨(some 39), .callq 17 [.tmp 37, .tmp 38], none⟩,
    ⟨(some 8), .own 39, none⟩] [])
  (.seq (.region false [⟨(some 40), .load (.tmp 3) 2 true, none⟩,
    ⟨(some 41), .load (.tmp 5) 2 true, none⟩,
    ⟨(some 42), .callq 17 [.tmp 40, .tmp 41], none⟩,
    ⟨(some 9), .own 42, none⟩] [])
  (.seq (.region false [⟨(some 43), .load (.tmp 4) 2 true, none⟩,
    ⟨(some 44), .load (.tmp 3) 2 true, none⟩,
    ⟨(some 45), .callq 17 [.tmp 43, .tmp 44], none⟩,
    ⟨(some 46), .mov (.tmp 7), none⟩,
    ⟨(some 47), .neg (.tmp 46), none⟩,
    ⟨(some 48), .bin .eql (.tmp 45) (.tmp 47), none⟩,
    ⟨(some 49), .mov (.tmp 48), none⟩,
    ⟨(some 50), .mov (.tmp 7), (some (49, true))⟩,
    ⟨(some 51), .bin .eql (.tmp 50) (.cst (.int .i64 0)), (some (49, true))⟩,
    ⟨(some 52), .load (.tmp 3) 2 true, (some (49, true))⟩,
    ⟨(some 53), .load (.tmp 4) 2 true, (some (49, true))⟩,
    ⟨(some 54), .eqagg false [1, 1] (.tmp 52) (.tmp 53), (some (49, true))⟩,
    ⟨(some 55), .beq false (.tmp 51) (.tmp 54), (some (49, true))⟩,
    ⟨(some 56), .pick (.tmp 49) (.tmp 55) (.cst (.bool false)), none⟩,
    ⟨(some 57), .mov (.tmp 56), none⟩,
    ⟨(some 58), .mov (.tmp 7), (some (57, true))⟩,
    ⟨(some 59), .bin .geq (.tmp 58) (.cst (.int .i64 (-1))), (some (57, true))⟩,
    ⟨(some 60), .pick (.tmp 57) (.tmp 59) (.cst (.bool false)), none⟩,
    ⟨(some 61), .mov (.tmp 60), none⟩,
    ⟨(some 62), .mov (.tmp 7), (some (61, true))⟩,
    ⟨(some 63), .bin .leq (.tmp 62) (.cst (.int .i64 1)), (some (61, true))⟩,
    ⟨(some 64), .pick (.tmp 61) (.tmp 63) (.cst (.bool false)), none⟩,
    ⟨(some 10), .own 64, none⟩] [])
  (.seq (.region false [⟨(some 65), .mov (.tmp 7), none⟩,
    ⟨(some 66), .bin .gtr (.tmp 65) (.cst (.int .i64 0)), none⟩,
    ⟨(some 67), .mov (.tmp 66), none⟩,
    ⟨(some 68), .mov (.tmp 8), (some (67, false))⟩,
    ⟨(some 69), .bin .gtr (.tmp 68) (.cst (.int .i64 0)), (some (67, false))⟩,
    ⟨(some 70), .pick (.tmp 67) (.cst (.bool true)) (.tmp 69), none⟩,
    ⟨(some 71), .mov (.tmp 70), none⟩,
    ⟨(some 72), .mov (.tmp 9), (some (71, false))⟩,
    ⟨(some 73), .bin .leq (.tmp 72) (.cst (.int .i64 0)), (some (71, false))⟩,
    ⟨(some 74), .mov (.tmp 73), (some (71, false))⟩,
    ⟨(some 75), .mov (.tmp 7), (some (74, true))⟩,
    ⟨(some 76), .bin .eql (.tmp 75) (.cst (.int .i64 0)), (some (74, true))⟩,
    ⟨(some 77), .mov (.tmp 76), (some (74, true))⟩,
    ⟨(some 78), .mov (.tmp 8), (some (77, true))⟩,
    ⟨(some 79), .bin .eql (.tmp 78) (.cst (.int .i64 0)), (some (77, true))⟩,
    ⟨(some 80), .pick (.tmp 77) (.tmp 79) (.cst (.bool false)), (some (74, true))⟩,
    ⟨(some 81), .mov (.tmp 9), (some (74, true))⟩,
    ⟨(some 82), .bin .eql (.tmp 81) (.cst (.int .i64 0)), (some (74, true))⟩,
    ⟨(some 83), .beq false (.tmp 80) (.tmp 82), (some (74, true))⟩,
    ⟨(some 84), .pick (.tmp 74) (.tmp 83) (.cst (.bool false)), (some (71, false))⟩,
    ⟨(some 85), .pick (.tmp 71) (.cst (.bool true)) (.tmp 84), none⟩,
    ⟨(some 11), .own 85, none⟩] [])
  (.seq (.region false [⟨(some 87), .load (.tmp 3) 2 true, none⟩,
    ⟨(some 88), .load (.tmp 4) 2 true, none⟩,
    ⟨(some 89), .callq 19 [.tmp 87, .tmp 88], none⟩,
    ⟨(some 86), .mov (.tmp 89), none⟩,
    ⟨(some 90), .ext 86 0, none⟩,
    ⟨(some 91), .ext 86 1, none⟩,
    ⟨(some 12), .alloc [.int .i64 0, .int .i64 0], none⟩,
    ⟨none, .store (.tmp 12) (.tmp 90) 2, none⟩,
    ⟨(some 13), .own 91, none⟩] [])
  (.seq (.region false [⟨(some 92), .mov (.tmp 13), none⟩,
    ⟨(some 93), .bin .neq (.tmp 92) (.cst (.int .i64 0)), none⟩,
    ⟨(some 94), .mov (.tmp 93), none⟩,
    ⟨(some 95), .faddr (.tmp 12) 0, (some (94, false))⟩,
    ⟨(some 96), .load (.tmp 95) 1 false, (some (94, false))⟩,
    ⟨(some 97), .bin .gtr (.tmp 96) (.cst (.int .i64 0)), (some (94, false))⟩,
    ⟨(some 98), .mov (.tmp 7), (some (94, false))⟩,
    ⟨(some 99), .bin .gtr (.tmp 98) (.cst (.int .i64 0)), (some (94, false))⟩,
    ⟨(some 100), .beq false (.tmp 97) (.tmp 99), (some (94, false))⟩,
    ⟨(some 101), .mov (.tmp 100), (some (94, false))⟩,
    ⟨(some 102), .faddr (.tmp 12) 0, (some (101, true))⟩,
    ⟨(some 103), .load (.tmp 102) 1 false, (some (101, true))⟩,
    ⟨(some 104), .bin .lss (.tmp 103) (.cst (.int .i64 0)), (some (101, true))⟩,
    ⟨(some 105), .mov (.tmp 7), (some (101, true))⟩,
    ⟨(some 106), .bin .lss (.tmp 105) (.cst (.int .i64 0)), (some (101, true))⟩,
    ⟨(some 107), .beq false (.tmp 104) (.tmp 106), (some (101, true))⟩,
    ⟨(some 108), .pick (.tmp 101) (.tmp 107) (.cst (.bool false)), (some (94, false))⟩,
    ⟨(some 109), .pick (.tmp 94) (.cst (.bool true)) (.tmp 108), none⟩,
    ⟨(some 14), .own 109, none⟩] [])
  (.seq (.region false [⟨(some 111), .load (.tmp 3) 2 true, none⟩,
    ⟨(some 112), .load (.tmp 5) 2 true, none⟩,
    ⟨(some 113), .callq 11 [.tmp 111, .tmp 112], none⟩,
    ⟨(some 110), .mov (.tmp 113), none⟩,
    ⟨(some 114), .ext 110 0, none⟩,
    ⟨(some 115), .ext 110 1, none⟩,
    ⟨(some 15), .alloc [.int .i64 0, .int .i64 0], none⟩,
    ⟨none, .store (.tmp 15) (.tmp 114) 2, none⟩,
    ⟨(some 16), .own 115, none⟩] [])
  (.seq (.region false [⟨(some 117), .load (.tmp 4) 2 true, none⟩,
    ⟨(some 118), .load (.tmp 5) 2 true, none⟩,
    ⟨(some 119), .callq 11 [.tmp 117, .tmp 118], none⟩,
    ⟨(some 116), .mov (.tmp 119), none⟩,
    ⟨(some 120), .ext 116 0, none⟩,
    ⟨(some 121), .ext 116 1, none⟩,
    ⟨(some 17), .alloc [.int .i64 0, .int .i64 0], none⟩,
    ⟨none, .store (.tmp 17) (.tmp 120) 2, none⟩,
    ⟨(some 18), .own 121, none⟩] [])
  (.seq (.region false [⟨(some 122), .mov (.tmp 16), none⟩,
    ⟨(some 123), .bin .neq (.tmp 122) (.cst (.int .i64 0)), none⟩,
    ⟨(some 124), .mov (.tmp 123), none⟩,
    ⟨(some 125), .mov (.tmp 18), (some (124, false))⟩,
    ⟨(some 126), .bin .neq (.tmp 125) (.cst (.int .i64 0)), (some (124, false))⟩,
    ⟨(some 127), .pick (.tmp 124) (.cst (.bool true)) (.tmp 126), none⟩,
    ⟨(some 128), .mov (.tmp 127), none⟩,
    ⟨(some 129), .load (.tmp 15) 2 true, (some (128, false))⟩,
    ⟨(some 130), .load (.tmp 17) 2 true, (some (128, false))⟩,
    ⟨(some 131), .callq 17 [.tmp 129, .tmp 130], (some (128, false))⟩,
    ⟨(some 132), .mov (.tmp 7), (some (128, false))⟩,
    ⟨(some 133), .bin .eql (.tmp 131) (.tmp 132), (some (128, false))⟩,
    ⟨(some 134), .pick (.tmp 128) (.cst (.bool true)) (.tmp 133), none⟩,
    ⟨(some 19), .own 134, none⟩] [])
  (.seq (.region false [⟨(some 135), .callq 12 [], none⟩,
    ⟨(some 136), .mov (.tmp 135), none⟩,
    ⟨(some 137), .mov (.tmp 10), (some (136, true))⟩,
    ⟨(some 138), .pick (.tmp 136) (.tmp 137) (.cst (.bool false)), none⟩,
    ⟨(some 139), .mov (.tmp 138), none⟩,
    ⟨(some 140), .mov (.tmp 11), (some (139, true))⟩,
    ⟨(some 141), .pick (.tmp 139) (.tmp 140) (.cst (.bool false)), none⟩,
    ⟨(some 142), .mov (.tmp 141), none⟩,
    ⟨(some 143), .mov (.tmp 14), (some (142, true))⟩,
    ⟨(some 144), .pick (.tmp 142) (.tmp 143) (.cst (.bool false)), none⟩,
    ⟨(some 145), .mov (.tmp 144), none⟩,
    ⟨(some 146), .mov (.tmp 19), (some (145, true))⟩,
    ⟨(some 147), .pick (.tmp 145) (.tmp 146) (.cst (.bool false)), none⟩,
    ⟨(some 6), .own 147, none⟩] [])
  .ret)))))))))))))
/-- custos/custoslaw01.RatProducts -/
def x8 : XFn := XFn.mk 62 [.tmp 4] (.seq (.region false [⟨(some 2), .box (.tmp 0) 2, none⟩,
    ⟨(some 3), .box (.tmp 1) 2, none⟩,
    ⟨(some 4), .mov (.cst (.bool false)), none⟩] [])
  (.seq (.region false [⟨(some 14), .load (.tmp 2) 2 true, none⟩,
    ⟨(some 15), .load (.tmp 3) 2 true, none⟩,
    ⟨(some 16), .callq 22 [.tmp 14, .tmp 15], none⟩,
    ⟨(some 13), .mov (.tmp 16), none⟩,
    ⟨(some 17), .ext 13 0, none⟩,
    ⟨(some 18), .ext 13 1, none⟩,
    ⟨(some 5), .alloc [.int .i64 0, .int .i64 0], none⟩,
    ⟨none, .store (.tmp 5) (.tmp 17) 2, none⟩,
    ⟨(some 6), .own 18, none⟩] [])
  (.seq (.region true [⟨(some 20), .load (.tmp 2) 2 true, none⟩,
    ⟨(some 21), .callq 16 [.tmp 20], none⟩,
    ⟨(some 22), .load (.tmp 3) 2 true, none⟩,
    ⟨(some 23), .callq 16 [.tmp 22], none⟩,
    ⟨(some 24), .callq 23 [.tmp 21, .tmp 23], none⟩,
    ⟨(some 19), .mov (.tmp 24), none⟩,
    ⟨(some 25), .ext 19 0, none⟩,
    ⟨(some 26), .ext 19 1, none⟩,
    ⟨(some 7), .alloc [.int .i64 0, .int .i64 0], none⟩,
    ⟨none, .store (.tmp 7) (.tmp 25) 2, none⟩,
    ⟨(some 8), .own 26, none⟩] [])
  (.seq (.region false [⟨(some 28), .load (.tmp 2) 2 true, none⟩,
    ⟨(some 29), .load (.tmp 3) 2 true, none⟩,
    ⟨(some 30), .callq 24 [.tmp 28, .tmp 29], none⟩,
    ⟨(some 27), .mov (.tmp 30), none⟩,
    ⟨(some 31), .ext 27 0, none⟩,
    ⟨(some 32), .ext 27 1, none⟩,
    ⟨(some 9), .alloc [.int .i64 0, .int .i64 0], none⟩,
    ⟨none, .store (.tmp 9) (.tmp 31) 2, none⟩,
    ⟨(some 10), .own 32, none⟩] [])
  (.seq (.region true [⟨(some 34), .load (.tmp 2) 2 true, none⟩,
    ⟨(some 35), .callq 16 [.tmp 34], none⟩,
    ⟨(some 36), .load (.tmp 3) 2 true, none⟩,
    ⟨(some 37), .callq 16 [.tmp 36], none⟩,
    ⟨(some 38), .callq 25 [.tmp 35, .tmp 37], none⟩,
    ⟨(some 33), .mov (.tmp 38), none⟩,
    ⟨(some 39), .ext 33 0, none⟩,
    ⟨(some 40), .ext 33 1, none⟩,
    ⟨(some 11), .alloc [.int .i64 0, .int .i64 0], none⟩,
    ⟨none, .store (.tmp 11) (.tmp 39) 2, none⟩,
    ⟨(some 12), .own 40, none⟩] [])
  (.seq (.region false [⟨(some 41), .callq 12 [], none⟩,
    ⟨(some 42), .mov (.tmp 41), none⟩,
    ⟨(some 43), .mov (.tmp 6), (some (42, true))⟩,
    ⟨(some 44), .mov (.tmp 8), (some (42, true))⟩,
    ⟨(some 45), .bin .eql (.tmp 43) (.tmp 44), (some (42, true))⟩,
    ⟨(some 46), .pick (.tmp 42) (.tmp 45) (.cst (.bool false)), none⟩,
    ⟨(some 47), .mov (.tmp 46), none⟩,
    ⟨(some 48), .load (.tmp 5) 2 true, (some (47, true))⟩,
    ⟨(some 49), .load (.tmp 7) 2 true, (some (47, true))⟩,
    ⟨(some 50), .callq 14 [.tmp 48, .tmp 49], (some (47, true))⟩,
    ⟨(some 51), .pick (.tmp 47) (.tmp 50) (.cst (.bool false)), none⟩,
    ⟨(some 52), .mov (.tmp 51), none⟩,
    ⟨(some 53), .mov (.tmp 10), (some (52, true))⟩,
    ⟨(some 54), .mov (.tmp 12), (some (52, true))⟩,
    ⟨(some 55), .bin .eql (.tmp 53) (.tmp 54), (some (52, true))⟩,
    ⟨(some 56), .pick (.tmp 52) (.tmp 55) (.cst (.bool false)), none⟩,
    ⟨(some 57), .mov (.tmp 56), none⟩,
    ⟨(some 58), .load (.tmp 9) 2 true, (some (57, true))⟩,
    ⟨(some 59), .load (.tmp 11) 2 true, (some (57, true))⟩,
    ⟨(some 60), .callq 14 [.tmp 58, .tmp 59], (some (57, true))⟩,
    ⟨(some 61), .pick (.tmp 57) (.tmp 60) (.cst (.bool false)), none⟩,
    ⟨(some 4), .own 61, none⟩] [])
  .ret))))))
/-- custos/custoslaw01.RatBack -/
def x9 : XFn := XFn.mk 162 [.tmp 2] (.seq (.region false [⟨(some 1), .box (.tmp 0) 4, none⟩,
    ⟨(some 2), .mov (.cst (.bool false)), none⟩] [])
  (.seq (.region false [⟨(some 23), .faddr (.tmp 1) 0, none⟩,
    ⟨(some 24), .load (.tmp 23) 1 false, none⟩,
    ⟨(some 3), .own 24, none⟩] [])
  (.seq (.region false [⟨(some 25), .faddr (.tmp 1) 1, none⟩,
    ⟨(some 26), .load (.tmp 25) 1 false, none⟩,
    ⟨(some 4), .own 26, none⟩] [])
  (.seq (.region false [⟨(some 27), .faddr (.tmp 1) 2, none⟩,
    ⟨(some 28), .load (.tmp 27) 1 false, none⟩,
    ⟨(some 5), .own 28, none⟩] [])
  (.seq (.region false [⟨(some 29), .faddr (.tmp 1) 3, none⟩,
    ⟨(some 30), .load (.tmp 29) 1 false, none⟩,
    ⟨(some 6), .own 30, none⟩] [])
  (.seq (.region false [⟨(some 32), .mov (.tmp 3), none⟩,
    ⟨(some 33), .mov (.tmp 4), none⟩,
    ⟨(some 34), .callq 10 [.tmp 32, .tmp 33], none⟩,
    ⟨(some 31), .mov (.tmp 34), none⟩,
    ⟨(some 35), .ext 31 0, none⟩,
    ⟨(some 36), .ext 31 1, none⟩,
    ⟨(some 7), .alloc [.int .i64 0, .int .i64 0], none⟩,
    ⟨none, .store (.tmp 7) (.tmp 35) 2, none⟩,
    ⟨(some 8), .own 36, none⟩] [])
  (.seq (.region false [⟨(some 38), .mov (.tmp 5), none⟩,
    ⟨(some 39), .mov (.tmp 6), none⟩,
    ⟨(some 40), .callq 10 [.tmp 38, .tmp 39], none⟩,
    ⟨(some 37), .mov (.tmp 40), none⟩,
    ⟨(some 41), .ext 37 0, none⟩,
    ⟨(some 42), .ext 37 1, none⟩,
    ⟨(some 9), .alloc [.int .i64 0, .int .i64 0], none⟩,
    ⟨none, .store (.tmp 9) (.tmp 41) 2, none⟩,
    ⟨(some 10), .own 42, none⟩] [])
  (.seq (.seq (.region false [⟨(some 43), .mov (.tmp 8), none⟩,
    ⟨(some 44), .bin .neq (.tmp 43) (.cst (.int .i64 0)), none⟩,
    ⟨(some 45), .mov (.tmp 44), none⟩,
    ⟨(some 46), .mov (.tmp 10), (some (45, false))⟩,
    ⟨(some 47), .bin .neq (.tmp 46) (.cst (.int .i64 0)), (some (45, false))⟩,
    ⟨(some 48), .pick (.tmp 45) (.cst (.bool true)) (.tmp 47), none⟩] [])
  (.cond (.tmp 48) (.seq (.region false [⟨(some 49), .callq 12 [], none⟩,
    ⟨(some 2), .own 49, none⟩] [])
  .ret) .skip))
  (.seq (.seq (.region false [⟨(some 50), .faddr (.tmp 7) 1, none⟩,
    ⟨(some 51), .load (.tmp 50) 1 false, none⟩,
    ⟨(some 52), .bin .leq (.tmp 51) (.cst (.int .i64 0)), none⟩,
    ⟨(some 53), .mov (.tmp 52), none⟩,
    ⟨(some 54), .faddr (.tmp 9) 1, (some (53, false))⟩,
    ⟨(some 55), .load (.tmp 54) 1 false, (some (53, false))⟩,
    ⟨(some 56), .bin .leq (.tmp 55) (.cst (.int .i64 0)), (some (53, false))⟩,
    ⟨(some 57), .pick (.tmp 53) (.cst (.bool true)) (.tmp 56), none⟩,
    ⟨(some 58), .mov (.tmp 57), none⟩,
    ⟨(some 59), .load (.tmp 7) 2 true, (some (58, false))⟩,
    ⟨(some 60), .callq 21 [.tmp 59], (some (58, false))⟩,
    ⟨(some 61), .not (.tmp 60), (some (58, false))⟩,
    ⟨(some 62), .pick (.tmp 58) (.cst (.bool true)) (.tmp 61), none⟩,
    ⟨(some 63), .mov (.tmp 62), none⟩,
    ⟨(some 64), .load (.tmp 9) 2 true, (some (63, false))⟩,
    ⟨(some 65), .callq 21 [.tmp 64], (some (63, false))⟩,
    ⟨(some 66), .not (.tmp 65), (some (63, false))⟩,
    ⟨(some 67), .pick (.tmp 63) (.cst (.bool true)) (.tmp 66), none⟩] [])
  (.cond (.tmp 67) (.seq (.region false [⟨(some 2), .mov (.cst (.bool false)), none⟩] [])
  .ret) .skip))
  (.seq (.region false [⟨(some 69), .load (.tmp 7) 2 true, none⟩,
    ⟨(some 70), .load (.tmp 9) 2 true, none⟩,
    ⟨(some 71), .callq 11 [.tmp 69, .tmp 70], none⟩,
    ⟨(some 68), .mov (.tmp 71), none⟩,
    ⟨(some 72), .ext 68 0, none⟩,
    ⟨(some 73), .ext 68 1, none⟩,
    ⟨(some 11), .alloc [.int .i64 0, .int .i64 0], none⟩,
    ⟨none, .store (.tmp 11) (.tmp 72) 2, none⟩,
    ⟨(some 12), .own 73, none⟩] [])
  (.seq (.region false [⟨(some 75), .load (.tmp 9) 2 true, none⟩,
    ⟨(some 76), .load (.tmp 7) 2 true, none⟩,
    ⟨(some 77), .callq 11 [.tmp 75, .tmp 76], none⟩,
    ⟨(some 74), .mov (.tmp 77), none⟩,
    ⟨(some 78), .ext 74 0, none⟩,
    ⟨(some 79), .ext 74 1, none⟩,
    ⟨(some 13), .alloc [.int .i64 0, .int .i64 0], none⟩,
    ⟨none, .store (.tmp 13) (.tmp 78) 2, none⟩,
    ⟨(some 14), .own 79, none⟩] [])
  (.seq (.seq (.region false [⟨(some 80), .mov (.tmp 12), none⟩,
    ⟨(some 81), .mov (.tmp 14), none⟩,
    ⟨(some 82), .bin .neq (.tmp 80) (.tmp 81), none⟩,
    ⟨(some 83), .mov (.tmp 82), none⟩,
    ⟨(some 84), .load (.tmp 11) 2 true, (some (83, false))⟩,
    ⟨(some 85), .load (.tmp 13) 2 true, (some (83, false))⟩,
    ⟨(some 86), .eqagg true [1, 1] (.tmp 84) (.tmp 85), (some (83, false))⟩,
    ⟨(some 87), .pick (.tmp 83) (.cst (.bool true)) (.tmp 86), none⟩,
    ⟨(some 88), .mov (.tmp 87), none⟩,
    ⟨(some 89), .mov (.tmp 12), (some (88, false))⟩,
    ⟨(some 90), .bin .eql (.tmp 89) (.cst (.int .i64 0)), (some (88, false))⟩,
    ⟨(some 91), .mov (.tmp 90), (some (88, false))⟩,
    ⟨(some 92), .load (.tmp 11) 2 true, (some (91, true))⟩,
    ⟨(some 93), .callq 21 [.tmp 92], (some (91, true))⟩,
    ⟨(some 94), .not (.tmp 93), (some (91, true))⟩,
    ⟨(some 95), .pick (.tmp 91) (.tmp 94) (.cst (.bool false)), (some (88, false))⟩,
    ⟨(some 96), .pick (.tmp 88) (.cst (.bool true)) (.tmp 95), none⟩] [])
  (.cond (.tmp 96) (.seq (.region false [⟨(some 2), .mov (.cst (.bool false)), none⟩] [])
  .ret) .skip))
  (.seq (.seq (.region false [⟨(some 97), .mov (.tmp 12), none⟩,
    ⟨(some 98), .bin .eql (.tmp 97) (.cst (.int .i64 0)), none⟩] [])
  (.cond (.tmp 98) (.seq (.region false [⟨(some 100), .load (.tmp 11) 2 true, none⟩,
    ⟨(some 101), .load (.tmp 9) 2 true, none⟩,
    ⟨(some 102), .callq 19 [.tmp 100, .tmp 101], none⟩,
    ⟨(some 99), .mov (.tmp 102), none⟩,
    ⟨(some 103), .ext 99 0, none⟩,
    ⟨(some 104), .ext 99 1, none⟩,
    ⟨(some 15), .alloc [.int .i64 0, .int .i64 0], none⟩,
    ⟨none, .store (.tmp 15) (.tmp 103) 2, none⟩,
    ⟨(some 16), .own 104, none⟩] [])
  (.seq (.region false [⟨(some 105), .mov (.tmp 16), none⟩,
    ⟨(some 106), .bin .neq (.tmp 105) (.cst (.int .i64 0)), none⟩,
    ⟨(some 107), .mov (.tmp 106), none⟩,
    ⟨(some 108), .load (.tmp 15) 2 true, (some (107, false))⟩,
    ⟨(some 109), .load (.tmp 7) 2 true, (some (107, false))⟩,
    ⟨(some 110), .eqagg true [1, 1] (.tmp 108) (.tmp 109), (some (107, false))⟩,
    ⟨(some 111), .pick (.tmp 107) (.cst (.bool true)) (.tmp 110), none⟩] [])
  (.cond (.tmp 111) (.seq (.region false [⟨(some 2), .mov (.cst (.bool false)), none⟩] [])
  .ret) .skip))) .skip))
  (.seq (.region false [⟨(some 113), .load (.tmp 7) 2 true, none⟩,
    ⟨(some 114), .load (.tmp 9) 2 true, none⟩,
    ⟨(some 115), .callq 22 [.tmp 113, .tmp 114], none⟩,
    ⟨(some 112), .mov (.tmp 115), none⟩,
    ⟨(some 116), .ext 112 0, none⟩,
    ⟨(some 117), .ext 112 1, none⟩,
    ⟨(some 17), .alloc [.int .i64 0, .int .i64 0], none⟩,
    ⟨none, .store (.tmp 17) (.tmp 116) 2, none⟩,
    ⟨(some 18), .own 117, none⟩] [])
  (.seq (.region false [⟨(some 119), .load (.tmp 9) 2 true, none⟩,
    ⟨(some 120), .load (.tmp 7) 2 true, none⟩,
    ⟨(some 121), .callq 22 [.tmp 119, .tmp 120], none⟩,
    ⟨(some 118), .mov (.tmp 121), none⟩,
    ⟨(some 122), .ext 118 0, none⟩,
    ⟨(some 123), .ext 118 1, none⟩,
    ⟨(some 19), .alloc [.int .i64 0, .int .i64 0], none⟩,
    ⟨none, .store (.tmp 19) (.tmp 122) 2, none⟩,
    ⟨(some 20), .own 123, none⟩] [])
  (.seq (.seq (.region false [⟨(some 124), .mov (.tmp 18), none⟩,
    ⟨(some 125), .mov (.tmp 20), none⟩,
    ⟨(some 126), .bin .neq (.tmp 124) (.tmp 125), none⟩,
    ⟨(some 127), .mov (.tmp 126), none⟩,
    ⟨(some 128), .load (.tmp 17) 2 true, (some (127, false))⟩,
    ⟨(some 129), .load (.tmp 19) 2 true, (some (127, false))⟩,
    ⟨(some 130), .eqagg true [1, 1] (.tmp 128) (.tmp 129), (some (127, false))⟩,
    ⟨(some 131), .pick (.tmp 127) (.cst (.bool true)) (.tmp 130), none⟩,
    ⟨(some 132), .mov (.tmp 131), none⟩,
    ⟨(some 133), .mov (.tmp 18), (some (132, false))⟩,
    ⟨(some 134), .bin .eql (.tmp 133) (.cst (.int .i64 0)), (some (132, false))⟩,
    ⟨(some 135), .mov (.tmp 134), (some (132, false))⟩,
    ⟨(some 136), .load (.tmp 17) 2 true, (some (135, true))⟩,
    ⟨(some 137), .callq 21 [.tmp 136], (some (135, true))⟩,
    ⟨(some 138), .not (.tmp 137), (some (135, true))⟩,
    ⟨(some 139), .pick (.tmp 135) (.tmp 138) (.cst (.bool false)), (some (132, false))⟩,
    ⟨(some 140), .pick (.tmp 132) (.cst (.bool true)) (.tmp 139), none⟩] [])
  (.cond (.tmp 140) (.seq (.region false [⟨(some 2), .mov (.cst (.bool false)), none⟩] [])
  .ret) .skip))
  (.seq (.seq (.region false [⟨(some 141), .mov (.tmp 18), none⟩,
    ⟨(some 142), .bin .eql (.tmp 141) (.cst (.int .i64 0)), none⟩,
    ⟨(some 143), .mov (.tmp 142), none⟩,
    ⟨(some 144), .faddr (.tmp 9) 0, (some (143, true))⟩,
    ⟨(some 145), .load (.tmp 144) 1 false, (some (143, true))⟩,
    ⟨(some 146), .bin .neq (.tmp 145) (.cst (.int .i64 0)), (some (143, true))⟩,
    ⟨(some 147), .pick (.tmp 143) (.tmp 146) (.cst (.bool false)), none⟩] [])
  (.cond (.tmp 147) (.seq (.region false [⟨(some 149), .load (.tmp 17) 2 true, none⟩,
    ⟨(some 150), .load (.tmp 9) 2 true, none⟩,
    ⟨(some 151), .callq 24 [.tmp 149, .tmp 150], none⟩,
    ⟨(some 148), .mov (.tmp 151), none⟩,
    ⟨(some 152), .ext 148 0, none⟩,
    ⟨(some 153), .ext 148 1, none⟩,
    ⟨(some 21), .alloc [.int .i64 0, .int .i64 0], none⟩,
    ⟨none, .store (.tmp 21) (.tmp 152) 2, none⟩,
    ⟨(some 22), .own 153, none⟩] [])
  (.seq (.region false [⟨(some 154), .mov (.tmp 22), none⟩,
    ⟨(some 155), .bin .neq (.tmp 154) (.cst (.int .i64 0)), none⟩,
    ⟨(some 156), .mov (.tmp 155), none⟩,
    ⟨(some 157), .load (.tmp 21) 2 true, (some (156, false))⟩,
    ⟨(some 158), .load (.tmp 7) 2 true, (some (156, false))⟩,
    ⟨(some 159), .eqagg true [1, 1] (.tmp 157) (.tmp 158), (some (156, false))⟩,
    ⟨(some 160), .pick (.tmp 156) (.cst (.bool true)) (.tmp 159), none⟩] [])
  (.cond (.tmp 160) (.seq (.region false [⟨(some 2), .mov (.cst (.bool false)), none⟩] [])
  .ret) .skip))) .skip))
  (.seq (.region false [⟨(some 161), .callq 12 [], none⟩,
    ⟨(some 2), .own 161, none⟩] [])
  .ret))))))))))))))))))
/-- custos/rat.Of -/
def x10 : XFn := XFn.mk 64 [.cell 4 2 true, .tmp 5] (.seq (.region false [⟨(some 4), .alloc [.int .i64 0, .int .i64 0], none⟩,
    ⟨(some 5), .mov (.cst (.int .i64 0)), none⟩] [])
  (.seq (.seq (.region false [⟨(some 10), .mov (.tmp 1), none⟩,
    ⟨(some 11), .bin .eql (.tmp 10) (.cst (.int .i64 0)), none⟩] [])
  (.cond (.tmp 11) (.seq (.region false [⟨(some 12), .build [.int .i64 0, .int .i64 0] [], none⟩,
    ⟨none, .store (.tmp 4) (.tmp 12) 2, none⟩,
    ⟨(some 5), .mov (.cst (.int .i64 11)), none⟩] [])
  .ret) .skip))
  (.seq (.region false [⟨(some 13), .mov (.tmp 0), none⟩,
    ⟨(some 14), .callq 27 [.tmp 13], none⟩,
    ⟨(some 15), .mov (.tmp 1), none⟩,
    ⟨(some 16), .callq 27 [.tmp 15], none⟩,
    ⟨(some 17), .callq 26 [.tmp 14, .tmp 16], none⟩,
    ⟨(some 6), .own 17, none⟩] [])
  (.seq (.region true [⟨(some 18), .mov (.tmp 0), none⟩,
    ⟨(some 19), .callq 27 [.tmp 18], none⟩,
    ⟨(some 20), .mov (.tmp 6), none⟩,
    ⟨(some 21), .bin .quo (.tmp 19) (.tmp 20), none⟩,
    ⟨(some 22), .mov (.tmp 1), none⟩,
    ⟨(some 23), .callq 27 [.tmp 22], none⟩,
    ⟨(some 24), .mov (.tmp 6), none⟩,
    ⟨(some 25), .bin .quo (.tmp 23) (.tmp 24), none⟩,
    ⟨(some 7), .own 21, none⟩,
    ⟨(some 8), .own 25, none⟩] [])
  (.seq (.region false [⟨(some 26), .mov (.tmp 0), none⟩,
    ⟨(some 27), .bin .neq (.tmp 26) (.cst (.int .i64 0)), none⟩,
    ⟨(some 28), .mov (.tmp 27), none⟩,
    ⟨(some 29), .mov (.tmp 0), (some (28, true))⟩,
    ⟨(some 30), .bin .lss (.tmp 29) (.cst (.int .i64 0)), (some (28, true))⟩,
    ⟨(some 31), .mov (.tmp 1), (some (28, true))⟩,
    ⟨(some 32), .bin .lss (.tmp 31) (.cst (.int .i64 0)), (some (28, true))⟩,
    ⟨(some 33), .beq true (.tmp 30) (.tmp 32), (some (28, true))⟩,
    ⟨(some 34), .pick (.tmp 28) (.tmp 33) (.cst (.bool false)), none⟩,
    ⟨(some 9), .own 34, none⟩] [])
  (.seq (.seq (.region false [⟨(some 35), .mov (.tmp 8), none⟩,
    ⟨(some 36), .bin .gtr (.tmp 35) (.cst (.int .u64 9223372036854775807)), none⟩,
    ⟨(some 37), .mov (.tmp 36), none⟩,
    ⟨(some 38), .mov (.tmp 7), (some (37, false))⟩,
    ⟨(some 39), .bin .gtr (.tmp 38) (.cst (.int .u64 9223372036854775808)), (some (37, false))⟩,
    ⟨(some 40), .pick (.tmp 37) (.cst (.bool true)) (.tmp 39), none⟩,
    ⟨(some 41), .mov (.tmp 40), none⟩,
    ⟨(some 42), .mov (.tmp 7), (some (41, false))⟩,
    ⟨(some 43), .bin .eql (.tmp 42) (.cst (.int .u64 9223372036854775808)), (some (41, false))⟩,
    ⟨(some 44), .mov (.tmp 43), (some (41, false))⟩,
    ⟨(some 45), .mov (.tmp 9), (some (44, true))⟩,
    ⟨(some 46), .not (.tmp 45), (some (44, true))⟩,
    ⟨(some 47), .pick (.tmp 44) (.tmp 46) (.cst (.bool false)), (some (41, false))⟩,
    ⟨(some 48), .pick (.tmp 41) (.cst (.bool true)) (.tmp 47), none⟩] [])
  (.cond (.tmp 48) (.seq (.region false [⟨(some 49), .build [.int .i64 0, .int .i64 0] [], none⟩,
    ⟨none, .store (.tmp 4) (.tmp 49) 2, none⟩,
    ⟨(some 5), .mov (.cst (.int .i64 10)), none⟩] [])
  .ret) .skip))
  (.seq (.seq (.region false [⟨(some 50), .mov (.tmp 9), none⟩] [])
  (.cond (.tmp 50) (.seq (.region false [⟨(some 51), .mov (.tmp 7), none⟩,
    ⟨(some 52), .bin .sub (.tmp 51) (.cst (.int .u64 1)), none⟩,
    ⟨(some 53), .conv .i64 (.tmp 52), none⟩,
    ⟨(some 54), .neg (.tmp 53), none⟩,
    ⟨(some 55), .bin .sub (.tmp 54) (.cst (.int .i64 1)), none⟩,
    ⟨(some 56), .mov (.tmp 8), none⟩,
    ⟨(some 57), .conv .i64 (.tmp 56), none⟩,
    ⟨(some 58), .build [.int .i64 0, .int .i64 0] [(0, 1, .tmp 55), (1, 1, .tmp 57)], none⟩,
    ⟨none, .store (.tmp 4) (.tmp 58) 2, none⟩,
    ⟨(some 5), .mov (.cst (.int .i64 0)), none⟩] [])
  .ret) .skip))
  (.seq (.region false [⟨(some 59), .mov (.tmp 7), none⟩,
    ⟨(some 60), .conv .i64 (.tmp 59), none⟩,
    ⟨(some 61), .mov (.tmp 8), none⟩,
    ⟨(some 62), .conv .i64 (.tmp 61), none⟩,
    ⟨(some 63), .build [.int .i64 0, .int .i64 0] [(0, 1, .tmp 60), (1, 1, .tmp 62)], none⟩,
    ⟨none, .store (.tmp 4) (.tmp 63) 2, none⟩,
    ⟨(some 5), .mov (.cst (.int .i64 0)), none⟩] [])
  .ret))))))))
/-- custos/rat.Add -/
def x11 : XFn := XFn.mk 20 [.cell 4 2 true, .tmp 5] (.seq (.region false [⟨(some 2), .box (.tmp 0) 2, none⟩,
    ⟨(some 3), .box (.tmp 1) 2, none⟩,
    ⟨(some 4), .alloc [.int .i64 0, .int .i64 0], none⟩,
    ⟨(some 5), .mov (.cst (.int .i64 0)), none⟩] [])
  (.seq (.seq (.region false [⟨(some 6), .load (.tmp 2) 2 true, none⟩,
    ⟨(some 7), .callq 28 [.tmp 6], none⟩,
    ⟨(some 8), .not (.tmp 7), none⟩,
    ⟨(some 9), .mov (.tmp 8), none⟩,
    ⟨(some 10), .load (.tmp 3) 2 true, (some (9, false))⟩,
    ⟨(some 11), .callq 28 [.tmp 10], (some (9, false))⟩,
    ⟨(some 12), .not (.tmp 11), (some (9, false))⟩,
    ⟨(some 13), .pick (.tmp 9) (.cst (.bool true)) (.tmp 12), none⟩] [])
  (.cond (.tmp 13) (.seq (.region false [⟨(some 14), .build [.int .i64 0, .int .i64 0] [], none⟩,
    ⟨none, .store (.tmp 4) (.tmp 14) 2, none⟩,
    ⟨(some 5), .mov (.cst (.int .i64 1)), none⟩] [])
  .ret) .skip))
  (.seq (.region false [⟨(some 15), .load (.tmp 2) 2 true, none⟩,
    ⟨(some 16), .load (.tmp 3) 2 true, none⟩,
    ⟨(some 17), .callq 29 [.tmp 15, .tmp 16, .cst (.int .i64 1)], none⟩,
    ⟨(some 18), .ext 17 0, none⟩,
    ⟨(some 19), .ext 17 1, none⟩,
    ⟨none, .store (.tmp 4) (.tmp 18) 2, none⟩,
    ⟨(some 5), .own 19, none⟩] [])
  .ret)))
/-- custos/custoslaw01.live -/
def x12 : XFn := XFn.mk 47 [.tmp 0] (.seq (.region false [⟨(some 0), .mov (.cst (.bool false)), none⟩] [])
  (.seq (.region false [⟨(some 8), .callq 10 [.cst (.int .i64 2), .cst (.int .i64 (-4))], none⟩,
    ⟨(some 7), .mov (.tmp 8), none⟩,
    ⟨(some 9), .ext 7 0, none⟩,
    ⟨(some 10), .ext 7 1, none⟩,
    ⟨(some 1), .alloc [.int .i64 0, .int .i64 0], none⟩,
    ⟨none, .store (.tmp 1) (.tmp 9) 2, none⟩,
    ⟨(some 2), .own 10, none⟩] [])
  (.seq (.region false [⟨(some 12), .build [.int .i64 0, .int .i64 0] [(0, 1, .cst (.int .i64 1)), (1, 1, .cst (.int .i64 2))], none⟩,
    ⟨(some 13), .build [.int .i64 0, .int .i64 0] [(0, 1, .cst (.int .i64 1)), (1, 1, .cst (.int .i64 3))], none⟩,
    ⟨(some 14), .callq 11 [.tmp 12, .tmp 13], none⟩,
    ⟨(some 11), .mov (.tmp 14), none⟩,
    ⟨(some 15), .ext 11 0, none⟩,
    ⟨(some 16), .ext 11 1, none⟩,
    ⟨(some 3), .alloc [.int .i64 0, .int .i64 0], none⟩,
    ⟨none, .store (.tmp 3) (.tmp 15) 2, none⟩,
    ⟨(some 4), .own 16, none⟩] [])
  (.seq (.region false [⟨(some 18), .callq 10 [.cst (.int .i64 1), .cst (.int .i64 0)], none⟩,
    ⟨(some 17), .mov (.tmp 18), none⟩,
    ⟨(some 19), .ext 17 0, none⟩,
    ⟨(some 20), .ext 17 1, none⟩,
    ⟨(some 5), .alloc [.int .i64 0, .int .i64 0], none⟩,
    ⟨none, .store (.tmp 5) (.tmp 19) 2, none⟩,
    ⟨(some 6), .own 20, none⟩] [])
  (.seq (.region false [⟨(some 21), .load (.tmp 1) 2 true, none⟩,
    ⟨(some 22), .build [.int .i64 0, .int .i64 0] [(0, 1, .cst (.int .i64 (-1))), (1, 1, .cst (.int .i64 2))], none⟩,
    ⟨(some 23), .eqagg false [1, 1] (.tmp 21) (.tmp 22), none⟩,
    ⟨(some 24), .mov (.tmp 23), none⟩,
    ⟨(some 25), .mov (.tmp 2), (some (24, true))⟩,
    ⟨(some 26), .bin .eql (.tmp 25) (.cst (.int .i64 0)), (some (24, true))⟩,
    ⟨(some 27), .pick (.tmp 24) (.tmp 26) (.cst (.bool false)), none⟩,
    ⟨(some 28), .mov (.tmp 27), none⟩,
    ⟨(some 29), .load (.tmp 3) 2 true, (some (28, true))⟩,
    ⟨(some 30), .build [.int .i64 0, .int .i64 0] [(0, 1, .cst (.int .i64 5)), (1, 1, .cst (.int .i64 6))], (some (28, true))⟩,
    ⟨(some 31), .eqagg false [1, 1] (.tmp 29) (.tmp 30), (some (28, true))⟩,
    ⟨(some 32), .pick (.tmp 28) (.tmp 31) (.cst (.bool false)), none⟩,
    ⟨(some 33), .mov (.tmp 32), none⟩,
    ⟨(some 34), .mov (.tmp 4), (some (33, true))⟩,
    ⟨(some 35), .bin .eql (.tmp 34) (.cst (.int .i64 0)), (some (33, true))⟩,
    ⟨(some 36), .pick (.tmp 33) (.tmp 35) (.cst (.bool false)), none⟩,
    ⟨(some 37), .mov (.tmp 36), none⟩,
    ⟨(some 38), .mov (.tmp 6), (some (37, true))⟩,
    ⟨(some 39), .bin .eql (.tmp 38) (.cst (.int .i64 11)), (some (37, true))⟩,
    ⟨(some 40), .pick (.tmp 37) (.tmp 39) (.cst (.bool false)), none⟩,
    ⟨(some 41), .mov (.tmp 40), none⟩,
    ⟨(some 42), .load (.tmp 1) 2 true, (some (41, true))⟩,
    ⟨(some 43), .load (.tmp 3) 2 true, (some (41, true))⟩,
    ⟨(some 44), .callq 17 [.tmp 42, .tmp 43], (some (41, true))⟩,
    ⟨(some 45), .bin .eql (.tmp 44) (.cst (.int .i64 (-1))), (some (41, true))⟩,
    ⟨(some 46), .pick (.tmp 41) (.tmp 45) (.cst (.bool false)), none⟩,
    ⟨(some 0), .own 46, none⟩] [])
  .ret)))))
/-- custos/custosref01.Of -/
def x13 : XFn := XFn.mk 31 [.cell 4 2 true, .tmp 5] (.seq (.region false [⟨(some 4), .alloc [.int .i64 0, .int .i64 0], none⟩,
    ⟨(some 5), .mov (.cst (.int .i64 0)), none⟩] [])
  (.seq (.seq (.region false [⟨(some 8), .mov (.tmp 1), none⟩,
    ⟨(some 9), .bin .eql (.tmp 8) (.cst (.int .i64 0)), none⟩] [])
  (.cond (.tmp 9) (.seq (.region false [⟨(some 10), .build [.int .i64 0, .int .i64 0] [], none⟩,
    ⟨none, .store (.tmp 4) (.tmp 10) 2, none⟩,
    ⟨(some 5), .mov (.cst (.int .i64 11)), none⟩] [])
  .ret) .skip))
  (.seq (.region false [⟨(some 11), .mov (.tmp 0), none⟩,
    ⟨(some 12), .callq 31 [.tmp 11], none⟩,
    ⟨(some 13), .callq 30 [.tmp 12], none⟩,
    ⟨(some 6), .alloc [.int .u64 0, .int .u64 0, .int .u64 0, .int .u64 0], none⟩,
    ⟨none, .store (.tmp 6) (.tmp 13) 4, none⟩] [])
  (.seq (.region false [⟨(some 14), .mov (.tmp 1), none⟩,
    ⟨(some 15), .callq 31 [.tmp 14], none⟩,
    ⟨(some 16), .callq 30 [.tmp 15], none⟩,
    ⟨(some 7), .alloc [.int .u64 0, .int .u64 0, .int .u64 0, .int .u64 0], none⟩,
    ⟨none, .store (.tmp 7) (.tmp 16) 4, none⟩] [])
  (.seq (.region false [⟨(some 17), .mov (.tmp 0), none⟩,
    ⟨(some 18), .bin .neq (.tmp 17) (.cst (.int .i64 0)), none⟩,
    ⟨(some 19), .mov (.tmp 18), none⟩,
    ⟨(some 20), .mov (.tmp 0), (some (19, true))⟩,
    ⟨(some 21), .bin .lss (.tmp 20) (.cst (.int .i64 0)), (some (19, true))⟩,
    ⟨(some 22), .mov (.tmp 1), (some (19, true))⟩,
    ⟨(some 23), .bin .lss (.tmp 22) (.cst (.int .i64 0)), (some (19, true))⟩,
    ⟨(some 24), .beq true (.tmp 21) (.tmp 23), (some (19, true))⟩,
    ⟨(some 25), .pick (.tmp 19) (.tmp 24) (.cst (.bool false)), none⟩,
    ⟨(some 26), .load (.tmp 6) 4 true, none⟩,
    ⟨(some 27), .load (.tmp 7) 4 true, none⟩,
    ⟨(some 28), .callq 32 [.tmp 25, .tmp 26, .tmp 27], none⟩,
    ⟨(some 29), .ext 28 0, none⟩,
    ⟨(some 30), .ext 28 1, none⟩,
    ⟨none, .store (.tmp 4) (.tmp 29) 2, none⟩,
    ⟨(some 5), .own 30, none⟩] [])
  .ret)))))
/-- custos/custoslaw01.same -/
def x14 : XFn := XFn.mk 17 [.tmp 4] (.seq (.region false [⟨(some 2), .box (.tmp 0) 2, none⟩,
    ⟨(some 3), .box (.tmp 1) 2, none⟩,
    ⟨(some 4), .mov (.cst (.bool false)), none⟩] [])
  (.seq (.region false [⟨(some 5), .faddr (.tmp 2) 0, none⟩,
    ⟨(some 6), .load (.tmp 5) 1 false, none⟩,
    ⟨(some 7), .faddr (.tmp 3) 0, none⟩,
    ⟨(some 8), .load (.tmp 7) 1 false, none⟩,
    ⟨(some 9), .bin .eql (.tmp 6) (.tmp 8), none⟩,
    ⟨(some 10), .mov (.tmp 9), none⟩,
    ⟨(some 11), .faddr (.tmp 2) 1, (some (10, true))⟩,
    ⟨(some 12), .load (.tmp 11) 1 false, (some (10, true))⟩,
    ⟨(some 13), .faddr (.tmp 3) 1, (some (10, true))⟩,
    ⟨(some 14), .load (.tmp 13) 1 false, (some (10, true))⟩,
    ⟨(some 15), .bin .eql (.tmp 12) (.tmp 14), (some (10, true))⟩,
    ⟨(some 16), .pick (.tmp 10) (.tmp 15) (.cst (.bool false)), none⟩,
    ⟨(some 4), .own 16, none⟩] [])
  .ret))
/-- custos/custosref01.Compare -/
def x15 : XFn := XFn.mk 61 [.tmp 4] (.seq (.region false [⟨(some 2), .box (.tmp 0) 2, none⟩,
    ⟨(some 3), .box (.tmp 1) 2, none⟩,
    ⟨(some 4), .mov (.cst (.int .i64 0)), none⟩] [])
  (.seq (.region false [⟨(some 9), .load (.tmp 2) 2 true, none⟩,
    ⟨(some 10), .callq 33 [.tmp 9], none⟩,
    ⟨(some 5), .own 10, none⟩] [])
  (.seq (.region false [⟨(some 11), .load (.tmp 3) 2 true, none⟩,
    ⟨(some 12), .callq 33 [.tmp 11], none⟩,
    ⟨(some 6), .own 12, none⟩] [])
  (.seq (.seq (.region false [⟨(some 13), .mov (.tmp 5), none⟩,
    ⟨(some 14), .not (.tmp 13), none⟩,
    ⟨(some 15), .mov (.tmp 14), none⟩,
    ⟨(some 16), .mov (.tmp 6), (some (15, false))⟩,
    ⟨(some 17), .not (.tmp 16), (some (15, false))⟩,
    ⟨(some 18), .pick (.tmp 15) (.cst (.bool true)) (.tmp 17), none⟩] [])
  (.cond (.tmp 18) (.seq (.region false [⟨(some 4), .mov (.cst (.int .i64 0)), none⟩] [])
  .ret) .skip))
  (.seq (.region true [⟨(some 19), .faddr (.tmp 2) 0, none⟩,
    ⟨(some 20), .load (.tmp 19) 1 false, none⟩,
    ⟨(some 21), .callq 31 [.tmp 20], none⟩,
    ⟨(some 22), .faddr (.tmp 3) 1, none⟩,
    ⟨(some 23), .load (.tmp 22) 1 false, none⟩,
    ⟨(some 24), .conv .u64 (.tmp 23), none⟩,
    ⟨(some 25), .callq 34 [.tmp 21, .tmp 24], none⟩,
    ⟨(some 7), .alloc [.int .u64 0, .int .u64 0, .int .u64 0, .int .u64 0], none⟩,
    ⟨none, .store (.tmp 7) (.tmp 25) 4, none⟩] [])
  (.seq (.region true [⟨(some 26), .faddr (.tmp 3) 0, none⟩,
    ⟨(some 27), .load (.tmp 26) 1 false, none⟩,
    ⟨(some 28), .callq 31 [.tmp 27], none⟩,
    ⟨(some 29), .faddr (.tmp 2) 1, none⟩,
    ⟨(some 30), .load (.tmp 29) 1 false, none⟩,
    ⟨(some 31), .conv .u64 (.tmp 30), none⟩,
    ⟨(some 32), .callq 34 [.tmp 28, .tmp 31], none⟩,
    ⟨(some 8), .alloc [.int .u64 0, .int .u64 0, .int .u64 0, .int .u64 0], none⟩,
    ⟨none, .store (.tmp 8) (.tmp 32) 4, none⟩] [])
  (.seq (.block 0 (.seq (.region false [⟨(some 34), .faddr (.tmp 2) 0, none⟩,
    ⟨(some 35), .load (.tmp 34) 1 false, none⟩,
    ⟨(some 36), .bin .lss (.tmp 35) (.cst (.int .i64 0)), none⟩,
    ⟨(some 37), .mov (.tmp 36), none⟩,
    ⟨(some 38), .faddr (.tmp 3) 0, (some (37, true))⟩,
    ⟨(some 39), .load (.tmp 38) 1 false, (some (37, true))⟩,
    ⟨(some 40), .bin .geq (.tmp 39) (.cst (.int .i64 0)), (some (37, true))⟩,
    ⟨(some 41), .pick (.tmp 37) (.tmp 40) (.cst (.bool false)), none⟩,
    ⟨(some 33), .own 41, none⟩] [])
  (.cond (.tmp 33) (.seq (.region false [⟨(some 4), .mov (.cst (.int .i64 (-1))), none⟩] [])
  .ret) (.seq (.region false [⟨(some 43), .faddr (.tmp 2) 0, none⟩,
    ⟨(some 44), .load (.tmp 43) 1 false, none⟩,
    ⟨(some 45), .bin .geq (.tmp 44) (.cst (.int .i64 0)), none⟩,
    ⟨(some 46), .mov (.tmp 45), none⟩,
    ⟨(some 47), .faddr (.tmp 3) 0, (some (46, true))⟩,
    ⟨(some 48), .load (.tmp 47) 1 false, (some (46, true))⟩,
    ⟨(some 49), .bin .lss (.tmp 48) (.cst (.int .i64 0)), (some (46, true))⟩,
    ⟨(some 50), .pick (.tmp 46) (.tmp 49) (.cst (.bool false)), none⟩,
    ⟨(some 42), .own 50, none⟩] [])
  (.cond (.tmp 42) (.seq (.region false [⟨(some 4), .mov (.cst (.int .i64 1)), none⟩] [])
  .ret) (.seq (.region false [⟨(some 52), .faddr (.tmp 2) 0, none⟩,
    ⟨(some 53), .load (.tmp 52) 1 false, none⟩,
    ⟨(some 54), .bin .lss (.tmp 53) (.cst (.int .i64 0)), none⟩,
    ⟨(some 51), .own 54, none⟩] [])
  (.cond (.tmp 51) (.seq (.region false [⟨(some 55), .load (.tmp 8) 4 true, none⟩,
    ⟨(some 56), .load (.tmp 7) 4 true, none⟩,
    ⟨(some 57), .callq 35 [.tmp 55, .tmp 56], none⟩,
    ⟨(some 4), .own 57, none⟩] [])
  .ret) .skip)))))))
  (.seq (.region false [⟨(some 58), .load (.tmp 7) 4 true, none⟩,
    ⟨(some 59), .load (.tmp 8) 4 true, none⟩,
    ⟨(some 60), .callq 35 [.tmp 58, .tmp 59], none⟩,
    ⟨(some 4), .own 60, none⟩] [])
  .ret))))))))
/-- custos/custoslaw01.ref -/
def x16 : XFn := XFn.mk 8 [.cell 2 2 true] (.seq (.region false [⟨(some 1), .box (.tmp 0) 2, none⟩,
    ⟨(some 2), .alloc [.int .i64 0, .int .i64 0], none⟩] [])
  (.seq (.region false [⟨(some 3), .faddr (.tmp 1) 0, none⟩,
    ⟨(some 4), .load (.tmp 3) 1 false, none⟩,
    ⟨(some 5), .faddr (.tmp 1) 1, none⟩,
    ⟨(some 6), .load (.tmp 5) 1 false, none⟩,
    ⟨(some 7), .build [.int .i64 0, .int .i64 0] [(0, 1, .tmp 4), (1, 1, .tmp 6)], none⟩,
    ⟨none, .store (.tmp 2) (.tmp 7) 2, none⟩] [])
  .ret))
/-- custos/rat.Compare -/
def x17 : XFn := XFn.mk 36 [.tmp 4] (.seq (.region false [⟨(some 2), .box (.tmp 0) 2, none⟩,
    ⟨(some 3), .box (.tmp 1) 2, none⟩,
    ⟨(some 4), .mov (.cst (.int .i64 0)), none⟩] [])
  (.seq (.seq (.region false [⟨(some 6), .load (.tmp 2) 2 true, none⟩,
    ⟨(some 7), .callq 28 [.tmp 6], none⟩,
    ⟨(some 8), .not (.tmp 7), none⟩,
    ⟨(some 9), .mov (.tmp 8), none⟩,
    ⟨(some 10), .load (.tmp 3) 2 true, (some (9, false))⟩,
    ⟨(some 11), .callq 28 [.tmp 10], (some (9, false))⟩,
    ⟨(some 12), .not (.tmp 11), (some (9, false))⟩,
    ⟨(some 13), .pick (.tmp 9) (.cst (.bool true)) (.tmp 12), none⟩,
    ⟨(some 14), .mov (.tmp 13), none⟩,
    ⟨(some 15), .load (.tmp 2) 2 true, (some (14, false))⟩,
    ⟨(some 16), .load (.tmp 3) 2 true, (some (14, false))⟩,
    ⟨(some 17), .eqagg false [1, 1] (.tmp 15) (.tmp 16), (some (14, false))⟩,
    ⟨(some 18), .pick (.tmp 14) (.cst (.bool true)) (.tmp 17), none⟩] [])
  (.cond (.tmp 18) (.seq (.region false [⟨(some 4), .mov (.cst (.int .i64 0)), none⟩] [])
  .ret) .skip))
  (.seq (.region false [⟨(some 19), .faddr (.tmp 3) 0, none⟩,
    ⟨(some 20), .load (.tmp 19) 1 false, none⟩,
    ⟨(some 21), .faddr (.tmp 2) 1, none⟩,
    ⟨(some 22), .load (.tmp 21) 1 false, none⟩,
    ⟨(some 23), .callq 36 [.tmp 20, .tmp 22], none⟩,
    ⟨(some 5), .alloc [.int .u64 0, .int .u64 0, .bool false], none⟩,
    ⟨none, .store (.tmp 5) (.tmp 23) 3, none⟩] [])
  (.seq (.region false [⟨(some 24), .faddr (.tmp 5) 2, none⟩,
    ⟨(some 25), .load (.tmp 24) 1 false, none⟩,
    ⟨(some 26), .not (.tmp 25), none⟩,
    ⟨(some 27), .faddr (.tmp 5) 2, none⟩,
    ⟨none, .store (.tmp 27) (.tmp 26) 1, none⟩] [])
  (.seq (.seq (.region true [⟨(some 28), .faddr (.tmp 2) 0, none⟩,
    ⟨(some 29), .load (.tmp 28) 1 false, none⟩,
    ⟨(some 30), .faddr (.tmp 3) 1, none⟩,
    ⟨(some 31), .load (.tmp 30) 1 false, none⟩,
    ⟨(some 32), .callq 36 [.tmp 29, .tmp 31], none⟩,
    ⟨(some 33), .load (.tmp 5) 3 true, none⟩,
    ⟨(some 34), .callq 37 [.tmp 32, .tmp 33], none⟩,
    ⟨(some 35), .field (.tmp 34) 2 1 false, none⟩] [])
  (.cond (.tmp 35) (.seq (.region false [⟨(some 4), .mov (.cst (.int .i64 (-1))), none⟩] [])
  .ret) .skip))
  (.seq (.region false [⟨(some 4), .mov (.cst (.int .i64 1)), none⟩] [])
  .ret))))))
/-- custos/custosref01.Add -/
def x18 : XFn := XFn.mk 24 [.cell 4 2 true, .tmp 5] (.seq (.region false [⟨(some 2), .box (.tmp 0) 2, none⟩,
    ⟨(some 3), .box (.tmp 1) 2, none⟩,
    ⟨(some 4), .alloc [.int .i64 0, .int .i64 0], none⟩,
    ⟨(some 5), .mov (.cst (.int .i64 0)), none⟩] [])
  (.seq (.region false [⟨(some 8), .load (.tmp 2) 2 true, none⟩,
    ⟨(some 9), .callq 33 [.tmp 8], none⟩,
    ⟨(some 6), .own 9, none⟩] [])
  (.seq (.region false [⟨(some 10), .load (.tmp 3) 2 true, none⟩,
    ⟨(some 11), .callq 33 [.tmp 10], none⟩,
    ⟨(some 7), .own 11, none⟩] [])
  (.seq (.seq (.region false [⟨(some 12), .mov (.tmp 6), none⟩,
    ⟨(some 13), .not (.tmp 12), none⟩,
    ⟨(some 14), .mov (.tmp 13), none⟩,
    ⟨(some 15), .mov (.tmp 7), (some (14, false))⟩,
    ⟨(some 16), .not (.tmp 15), (some (14, false))⟩,
    ⟨(some 17), .pick (.tmp 14) (.cst (.bool true)) (.tmp 16), none⟩] [])
  (.cond (.tmp 17) (.seq (.region false [⟨(some 18), .build [.int .i64 0, .int .i64 0] [], none⟩,
    ⟨none, .store (.tmp 4) (.tmp 18) 2, none⟩,
    ⟨(some 5), .mov (.cst (.int .i64 1)), none⟩] [])
  .ret) .skip))
  (.seq (.region false [⟨(some 19), .load (.tmp 2) 2 true, none⟩,
    ⟨(some 20), .load (.tmp 3) 2 true, none⟩,
    ⟨(some 21), .callq 38 [.tmp 19, .tmp 20, .cst (.bool false)], none⟩,
    ⟨(some 22), .ext 21 0, none⟩,
    ⟨(some 23), .ext 21 1, none⟩,
    ⟨none, .store (.tmp 4) (.tmp 22) 2, none⟩,
    ⟨(some 5), .own 23, none⟩] [])
  .ret)))))
/-- custos/rat.Sub -/
def x19 : XFn := XFn.mk 20 [.cell 4 2 true, .tmp 5] (.seq (.region false [⟨(some 2), .box (.tmp 0) 2, none⟩,
    ⟨(some 3), .box (.tmp 1) 2, none⟩,
    ⟨(some 4), .alloc [.int .i64 0, .int .i64 0], none⟩,
    ⟨(some 5), .mov (.cst (.int .i64 0)), none⟩] [])
  (.seq (.seq (.region false [⟨(some 6), .load (.tmp 2) 2 true, none⟩,
    ⟨(some 7), .callq 28 [.tmp 6], none⟩,
    ⟨(some 8), .not (.tmp 7), none⟩,
    ⟨(some 9), .mov (.tmp 8), none⟩,
    ⟨(some 10), .load (.tmp 3) 2 true, (some (9, false))⟩,
    ⟨(some 11), .callq 28 [.tmp 10], (some (9, false))⟩,
    ⟨(some 12), .not (.tmp 11), (some (9, false))⟩,
    ⟨(some 13), .pick (.tmp 9) (.cst (.bool true)) (.tmp 12), none⟩] [])
  (.cond (.tmp 13) (.seq (.region false [⟨(some 14), .build [.int .i64 0, .int .i64 0] [], none⟩,
    ⟨none, .store (.tmp 4) (.tmp 14) 2, none⟩,
    ⟨(some 5), .mov (.cst (.int .i64 1)), none⟩] [])
  .ret) .skip))
  (.seq (.region false [⟨(some 15), .load (.tmp 2) 2 true, none⟩,
    ⟨(some 16), .load (.tmp 3) 2 true, none⟩,
    ⟨(some 17), .callq 29 [.tmp 15, .tmp 16, .cst (.int .i64 (-1))], none⟩,
    ⟨(some 18), .ext 17 0, none⟩,
    ⟨(some 19), .ext 17 1, none⟩,
    ⟨none, .store (.tmp 4) (.tmp 18) 2, none⟩,
    ⟨(some 5), .own 19, none⟩] [])
  .ret)))
/-- custos/custosref01.Sub -/
def x20 : XFn := XFn.mk 24 [.cell 4 2 true, .tmp 5] (.seq (.region false [⟨(some 2), .box (.tmp 0) 2, none⟩,
    ⟨(some 3), .box (.tmp 1) 2, none⟩,
    ⟨(some 4), .alloc [.int .i64 0, .int .i64 0], none⟩,
    ⟨(some 5), .mov (.cst (.int .i64 0)), none⟩] [])
  (.seq (.region false [⟨(some 8), .load (.tmp 2) 2 true, none⟩,
    ⟨(some 9), .callq 33 [.tmp 8], none⟩,
    ⟨(some 6), .own 9, none⟩] [])
  (.seq (.region false [⟨(some 10), .load (.tmp 3) 2 true, none⟩,
    ⟨(some 11), .callq 33 [.tmp 10], none⟩,
    ⟨(some 7), .own 11, none⟩] [])
  (.seq (.seq (.region false [⟨(some 12), .mov (.tmp 6), none⟩,
    ⟨(some 13), .not (.tmp 12), none⟩,
    ⟨(some 14), .mov (.tmp 13), none⟩,
    ⟨(some 15), .mov (.tmp 7), (some (14, false))⟩,
    ⟨(some 16), .not (.tmp 15), (some (14, false))⟩,
    ⟨(some 17), .pick (.tmp 14) (.cst (.bool true)) (.tmp 16), none⟩] [])
  (.cond (.tmp 17) (.seq (.region false [⟨(some 18), .build [.int .i64 0, .int .i64 0] [], none⟩,
    ⟨none, .store (.tmp 4) (.tmp 18) 2, none⟩,
    ⟨(some 5), .mov (.cst (.int .i64 1)), none⟩] [])
  .ret) .skip))
  (.seq (.region false [⟨(some 19), .load (.tmp 2) 2 true, none⟩,
    ⟨(some 20), .load (.tmp 3) 2 true, none⟩,
    ⟨(some 21), .callq 38 [.tmp 19, .tmp 20, .cst (.bool true)], none⟩,
    ⟨(some 22), .ext 21 0, none⟩,
    ⟨(some 23), .ext 21 1, none⟩,
    ⟨none, .store (.tmp 4) (.tmp 22) 2, none⟩,
    ⟨(some 5), .own 23, none⟩] [])
  .ret)))))
/-- custos/custoslaw01.may -/
def x21 : XFn := XFn.mk 20 [.tmp 2] (.seq (.region false [⟨(some 1), .box (.tmp 0) 2, none⟩,
    ⟨(some 2), .mov (.cst (.bool false)), none⟩] [])
  (.seq (.region false [⟨(some 6), .faddr (.tmp 1) 0, none⟩,
    ⟨(some 7), .load (.tmp 6) 1 false, none⟩,
    ⟨(some 8), .faddr (.tmp 1) 1, none⟩,
    ⟨(some 9), .load (.tmp 8) 1 false, none⟩,
    ⟨(some 10), .callq 10 [.tmp 7, .tmp 9], none⟩,
    ⟨(some 5), .mov (.tmp 10), none⟩,
    ⟨(some 11), .ext 5 0, none⟩,
    ⟨(some 12), .ext 5 1, none⟩,
    ⟨(some 3), .alloc [.int .i64 0, .int .i64 0], none⟩,
    ⟨none, .store (.tmp 3) (.tmp 11) 2, none⟩,
    ⟨(some 4), .own 12, none⟩] [])
  (.seq (.region false [⟨(some 13), .mov (.tmp 4), none⟩,
    ⟨(some 14), .bin .eql (.tmp 13) (.cst (.int .i64 0)), none⟩,
    ⟨(some 15), .mov (.tmp 14), none⟩,
    ⟨(some 16), .load (.tmp 3) 2 true, (some (15, true))⟩,
    ⟨(some 17), .load (.tmp 1) 2 true, (some (15, true))⟩,
    ⟨(some 18), .eqagg false [1, 1] (.tmp 16) (.tmp 17), (some (15, true))⟩,
    ⟨(some 19), .pick (.tmp 15) (.tmp 18) (.cst (.bool false)), none⟩,
    ⟨(some 2), .own 19, none⟩] [])
  .ret)))
/-- custos/rat.Mul -/
def x22 : XFn := XFn.mk 37 [.cell 4 2 true, .tmp 5] (.seq (.region false [⟨(some 2), .box (.tmp 0) 2, none⟩,
    ⟨(some 3), .box (.tmp 1) 2, none⟩,
    ⟨(some 4), .alloc [.int .i64 0, .int .i64 0], none⟩,
    ⟨(some 5), .mov (.cst (.int .i64 0)), none⟩] [])
  (.seq (.seq (.region false [⟨(some 6), .load (.tmp 2) 2 true, none⟩,
    ⟨(some 7), .callq 28 [.tmp 6], none⟩,
    ⟨(some 8), .not (.tmp 7), none⟩,
    ⟨(some 9), .mov (.tmp 8), none⟩,
    ⟨(some 10), .load (.tmp 3) 2 true, (some (9, false))⟩,
    ⟨(some 11), .callq 28 [.tmp 10], (some (9, false))⟩,
    ⟨(some 12), .not (.tmp 11), (some (9, false))⟩,
    ⟨(some 13), .pick (.tmp 9) (.cst (.bool true)) (.tmp 12), none⟩] [])
  (.cond (.tmp 13) (.seq (.region false [⟨(some 14), .build [.int .i64 0, .int .i64 0] [], none⟩,
    ⟨none, .store (.tmp 4) (.tmp 14) 2, none⟩,
    ⟨(some 5), .mov (.cst (.int .i64 1)), none⟩] [])
  .ret) .skip))
  (.seq (.region true [⟨(some 15), .faddr (.tmp 2) 0, none⟩,
    ⟨(some 16), .load (.tmp 15) 1 false, none⟩,
    ⟨(some 17), .callq 27 [.tmp 16], none⟩,
    ⟨(some 18), .faddr (.tmp 2) 1, none⟩,
    ⟨(some 19), .load (.tmp 18) 1 false, none⟩,
    ⟨(some 20), .conv .u64 (.tmp 19), none⟩,
    ⟨(some 21), .faddr (.tmp 3) 0, none⟩,
    ⟨(some 22), .load (.tmp 21) 1 false, none⟩,
    ⟨(some 23), .callq 27 [.tmp 22], none⟩,
    ⟨(some 24), .faddr (.tmp 3) 1, none⟩,
    ⟨(some 25), .load (.tmp 24) 1 false, none⟩,
    ⟨(some 26), .conv .u64 (.tmp 25), none⟩,
    ⟨(some 27), .faddr (.tmp 2) 0, none⟩,
    ⟨(some 28), .load (.tmp 27) 1 false, none⟩,
    ⟨(some 29), .bin .lss (.tmp 28) (.cst (.int .i64 0)), none⟩,
    ⟨(some 30), .faddr (.tmp 3) 0, none⟩,
    ⟨(some 31), .load (.tmp 30) 1 false, none⟩,
    ⟨(some 32), .bin .lss (.tmp 31) (.cst (.int .i64 0)), none⟩,
    ⟨(some 33), .beq true (.tmp 29) (.tmp 32), none⟩,
    ⟨(some 34), .callq 39 [.tmp 17, .tmp 20, .tmp 23, .tmp 26, .tmp 33], none⟩,
    ⟨(some 35), .ext 34 0, none⟩,
    ⟨(some 36), .ext 34 1, none⟩,
    ⟨none, .store (.tmp 4) (.tmp 35) 2, none⟩,
    ⟨(some 5), .own 36, none⟩] [])
  .ret)))
/-- custos/custosref01.Mul -/
def x23 : XFn := XFn.mk 52 [.cell 4 2 true, .tmp 5] (.seq (.region false [⟨(some 2), .box (.tmp 0) 2, none⟩,
    ⟨(some 3), .box (.tmp 1) 2, none⟩,
    ⟨(some 4), .alloc [.int .i64 0, .int .i64 0], none⟩,
    ⟨(some 5), .mov (.cst (.int .i64 0)), none⟩] [])
  (.seq (.region false [⟨(some 10), .load (.tmp 2) 2 true, none⟩,
    ⟨(some 11), .callq 33 [.tmp 10], none⟩,
    ⟨(some 6), .own 11, none⟩] [])
  (.seq (.region false [⟨(some 12), .load (.tmp 3) 2 true, none⟩,
    ⟨(some 13), .callq 33 [.tmp 12], none⟩,
    ⟨(some 7), .own 13, none⟩] [])
  (.seq (.seq (.region false [⟨(some 14), .mov (.tmp 6), none⟩,
    ⟨(some 15), .not (.tmp 14), none⟩,
    ⟨(some 16), .mov (.tmp 15), none⟩,
    ⟨(some 17), .mov (.tmp 7), (some (16, false))⟩,
    ⟨(some 18), .not (.tmp 17), (some (16, false))⟩,
    ⟨(some 19), .pick (.tmp 16) (.cst (.bool true)) (.tmp 18), none⟩] [])
  (.cond (.tmp 19) (.seq (.region false [⟨(some 20), .build [.int .i64 0, .int .i64 0] [], none⟩,
    ⟨none, .store (.tmp 4) (.tmp 20) 2, none⟩,
    ⟨(some 5), .mov (.cst (.int .i64 1)), none⟩] [])
  .ret) .skip))
  (.seq (.region true [⟨(some 21), .faddr (.tmp 2) 0, none⟩,
    ⟨(some 22), .load (.tmp 21) 1 false, none⟩,
    ⟨(some 23), .callq 31 [.tmp 22], none⟩,
    ⟨(some 24), .faddr (.tmp 3) 0, none⟩,
    ⟨(some 25), .load (.tmp 24) 1 false, none⟩,
    ⟨(some 26), .callq 31 [.tmp 25], none⟩,
    ⟨(some 27), .callq 34 [.tmp 23, .tmp 26], none⟩,
    ⟨(some 8), .alloc [.int .u64 0, .int .u64 0, .int .u64 0, .int .u64 0], none⟩,
    ⟨none, .store (.tmp 8) (.tmp 27) 4, none⟩] [])
  (.seq (.region false [⟨(some 28), .faddr (.tmp 2) 1, none⟩,
    ⟨(some 29), .load (.tmp 28) 1 false, none⟩,
    ⟨(some 30), .conv .u64 (.tmp 29), none⟩,
    ⟨(some 31), .faddr (.tmp 3) 1, none⟩,
    ⟨(some 32), .load (.tmp 31) 1 false, none⟩,
    ⟨(some 33), .conv .u64 (.tmp 32), none⟩,
    ⟨(some 34), .callq 34 [.tmp 30, .tmp 33], none⟩,
    ⟨(some 9), .alloc [.int .u64 0, .int .u64 0, .int .u64 0, .int .u64 0], none⟩,
    ⟨none, .store (.tmp 9) (.tmp 34) 4, none⟩] [])
  (.seq (.region true [⟨(some 35), .faddr (.tmp 2) 0, none⟩,
    ⟨(some 36), .load (.tmp 35) 1 false, none⟩,
    ⟨(some 37), .bin .lss (.tmp 36) (.cst (.int .i64 0)), none⟩,
    ⟨(some 38), .faddr (.tmp 3) 0, none⟩,
    ⟨(some 39), .load (.tmp 38) 1 false, none⟩,
    ⟨(some 40), .bin .lss (.tmp 39) (.cst (.int .i64 0)), none⟩,
    ⟨(some 41), .beq true (.tmp 37) (.tmp 40), none⟩,
    ⟨(some 42), .mov (.tmp 41), none⟩,
    ⟨(some 43), .load (.tmp 8) 4 true, (some (42, true))⟩,
    ⟨(some 44), .build [.int .u64 0, .int .u64 0, .int .u64 0, .int .u64 0] [], (some (42, true))⟩,
    ⟨(some 45), .eqagg true [1, 1, 1, 1] (.tmp 43) (.tmp 44), (some (42, true))⟩,
    ⟨(some 46), .pick (.tmp 42) (.tmp 45) (.cst (.bool false)), none⟩,
    ⟨(some 47), .load (.tmp 8) 4 true, none⟩,
    ⟨(some 48), .load (.tmp 9) 4 true, none⟩,
    ⟨(some 49), .callq 32 [.tmp 46, .tmp 47, .tmp 48], none⟩,
    ⟨(some 50), .ext 49 0, none⟩,
    ⟨(some 51), .ext 49 1, none⟩,
    ⟨none, .store (.tmp 4) (.tmp 50) 2, none⟩,
    ⟨(some 5), .own 51, none⟩] [])
  .ret)))))))
/-- custos/rat.Div -/
def x24 : XFn := XFn.mk 43 [.cell 4 2 true, .tmp 5] (.seq (.region false [⟨(some 2), .box (.tmp 0) 2, none⟩,
    ⟨(some 3), .box (.tmp 1) 2, none⟩,
    ⟨(some 4), .alloc [.int .i64 0, .int .i64 0], none⟩,
    ⟨(some 5), .mov (.cst (.int .i64 0)), none⟩] [])
  (.seq (.block 0 (.seq (.region false [⟨(some 7), .load (.tmp 2) 2 true, none⟩,
    ⟨(some 8), .callq 28 [.tmp 7], none⟩,
    ⟨(some 9), .not (.tmp 8), none⟩,
    ⟨(some 10), .mov (.tmp 9), none⟩,
    ⟨(some 11), .load (.tmp 3) 2 true, (some (10, false))⟩,
    ⟨(some 12), .callq 28 [.tmp 11], (some (10, false))⟩,
    ⟨(some 13), .not (.tmp 12), (some (10, false))⟩,
    ⟨(some 14), .pick (.tmp 10) (.cst (.bool true)) (.tmp 13), none⟩,
    ⟨(some 6), .own 14, none⟩] [])
  (.cond (.tmp 6) (.seq (.region false [⟨(some 15), .build [.int .i64 0, .int .i64 0] [], none⟩,
    ⟨none, .store (.tmp 4) (.tmp 15) 2, none⟩,
    ⟨(some 5), .mov (.cst (.int .i64 1)), none⟩] [])
  .ret) (.seq (.region false [⟨(some 17), .load (.tmp 3) 2 true, none⟩,
    ⟨(some 18), .build [.int .i64 0, .int .i64 0] [(0, 1, .cst (.int .i64 0)), (1, 1, .cst (.int .i64 1))], none⟩,
    ⟨(some 19), .eqagg false [1, 1] (.tmp 17) (.tmp 18), none⟩,
    ⟨(some 16), .own 19, none⟩] [])
  (.cond (.tmp 16) (.seq (.region false [⟨(some 20), .build [.int .i64 0, .int .i64 0] [], none⟩,
    ⟨none, .store (.tmp 4) (.tmp 20) 2, none⟩,
    ⟨(some 5), .mov (.cst (.int .i64 11)), none⟩] [])
  .ret) .skip)))))
  (.seq (.region true [⟨(some 21), .faddr (.tmp 2) 0, none⟩,
    ⟨(some 22), .load (.tmp 21) 1 false, none⟩,
    ⟨(some 23), .callq 27 [.tmp 22], none⟩,
    ⟨(some 24), .faddr (.tmp 2) 1, none⟩,
    ⟨(some 25), .load (.tmp 24) 1 false, none⟩,
    ⟨(some 26), .conv .u64 (.tmp 25), none⟩,
    ⟨(some 27), .faddr (.tmp 3) 1, none⟩,
    ⟨(some 28), .load (.tmp 27) 1 false, none⟩,
    ⟨(some 29), .conv .u64 (.tmp 28), none⟩,
    ⟨(some 30), .faddr (.tmp 3) 0, none⟩,
    ⟨(some 31), .load (.tmp 30) 1 false, none⟩,
    ⟨(some 32), .callq 27 [.tmp 31], none⟩,
    ⟨(some 33), .faddr (.tmp 2) 0, none⟩,
    ⟨(some 34), .load (.tmp 33) 1 false, none⟩,
    ⟨(some 35), .bin .lss (.tmp 34) (.cst (.int .i64 0)), none⟩,
    ⟨(some 36), .faddr (.tmp 3) 0, none⟩,
    ⟨(some 37), .load (.tmp 36) 1 false, none⟩,
    ⟨(some 38), .bin .lss (.tmp 37) (.cst (.int .i64 0)), none⟩,
    ⟨(some 39), .beq true (.tmp 35) (.tmp 38), none⟩,
    ⟨(some 40), .callq 39 [.tmp 23, .tmp 26, .tmp 29, .tmp 32, .tmp 39], none⟩,
    ⟨(some 41), .ext 40 0, none⟩,
    ⟨(some 42), .ext 40 1, none⟩,
    ⟨none, .store (.tmp 4) (.tmp 41) 2, none⟩,
    ⟨(some 5), .own 42, none⟩] [])
  .ret)))
/-- custos/custosref01.Div -/
def x25 : XFn := XFn.mk 56 [.cell 4 2 true, .tmp 5] (.seq (.region false [⟨(some 2), .box (.tmp 0) 2, none⟩,
    ⟨(some 3), .box (.tmp 1) 2, none⟩,
    ⟨(some 4), .alloc [.int .i64 0, .int .i64 0], none⟩,
    ⟨(some 5), .mov (.cst (.int .i64 0)), none⟩] [])
  (.seq (.region false [⟨(some 10), .load (.tmp 2) 2 true, none⟩,
    ⟨(some 11), .callq 33 [.tmp 10], none⟩,
    ⟨(some 6), .own 11, none⟩] [])
  (.seq (.region false [⟨(some 12), .load (.tmp 3) 2 true, none⟩,
    ⟨(some 13), .callq 33 [.tmp 12], none⟩,
    ⟨(some 7), .own 13, none⟩] [])
  (.seq (.seq (.region false [⟨(some 14), .mov (.tmp 6), none⟩,
    ⟨(some 15), .not (.tmp 14), none⟩,
    ⟨(some 16), .mov (.tmp 15), none⟩,
    ⟨(some 17), .mov (.tmp 7), (some (16, false))⟩,
    ⟨(some 18), .not (.tmp 17), (some (16, false))⟩,
    ⟨(some 19), .pick (.tmp 16) (.cst (.bool true)) (.tmp 18), none⟩] [])
  (.cond (.tmp 19) (.seq (.region false [⟨(some 20), .build [.int .i64 0, .int .i64 0] [], none⟩,
    ⟨none, .store (.tmp 4) (.tmp 20) 2, none⟩,
    ⟨(some 5), .mov (.cst (.int .i64 1)), none⟩] [])
  .ret) .skip))
  (.seq (.seq (.region false [⟨(some 21), .faddr (.tmp 3) 0, none⟩,
    ⟨(some 22), .load (.tmp 21) 1 false, none⟩,
    ⟨(some 23), .bin .eql (.tmp 22) (.cst (.int .i64 0)), none⟩] [])
  (.cond (.tmp 23) (.seq (.region false [⟨(some 24), .build [.int .i64 0, .int .i64 0] [], none⟩,
    ⟨none, .store (.tmp 4) (.tmp 24) 2, none⟩,
    ⟨(some 5), .mov (.cst (.int .i64 11)), none⟩] [])
  .ret) .skip))
  (.seq (.region true [⟨(some 25), .faddr (.tmp 2) 0, none⟩,
    ⟨(some 26), .load (.tmp 25) 1 false, none⟩,
    ⟨(some 27), .callq 31 [.tmp 26], none⟩,
    ⟨(some 28), .faddr (.tmp 3) 1, none⟩,
    ⟨(some 29), .load (.tmp 28) 1 false, none⟩,
    ⟨(some 30), .conv .u64 (.tmp 29), none⟩,
    ⟨(some 31), .callq 34 [.tmp 27, .tmp 30], none⟩,
    ⟨(some 8), .alloc [.int .u64 0, .int .u64 0, .int .u64 0, .int .u64 0], none⟩,
    ⟨none, .store (.tmp 8) (.tmp 31) 4, none⟩] [])
  (.seq (.region true [⟨(some 32), .faddr (.tmp 2) 1, none⟩,
    ⟨(some 33), .load (.tmp 32) 1 false, none⟩,
    ⟨(some 34), .conv .u64 (.tmp 33), none⟩,
    ⟨(some 35), .faddr (.tmp 3) 0, none⟩,
    ⟨(some 36), .load (.tmp 35) 1 false, none⟩,
    ⟨(some 37), .callq 31 [.tmp 36], none⟩,
    ⟨(some 38), .callq 34 [.tmp 34, .tmp 37], none⟩,
    ⟨(some 9), .alloc [.int .u64 0, .int .u64 0, .int .u64 0, .int .u64 0], none⟩,
    ⟨none, .store (.tmp 9) (.tmp 38) 4, none⟩] [])
  (.seq (.region true [⟨(some 39), .faddr (.tmp 2) 0, none⟩,
    ⟨(some 40), .load (.tmp 39) 1 false, none⟩,
    ⟨(some 41), .bin .lss (.tmp 40) (.cst (.int .i64 0)), none⟩,
    ⟨(some 42), .faddr (.tmp 3) 0, none⟩,
    ⟨(some 43), .load (.tmp 42) 1 false, none⟩,
    ⟨(some 44), .bin .lss (.tmp 43) (.cst (.int .i64 0)), none⟩,
    ⟨(some 45), .beq true (.tmp 41) (.tmp 44), none⟩,
    ⟨(some 46), .mov (.tmp 45), none⟩,
    ⟨(some 47), .load (.tmp 8) 4 true, (some (46, true))⟩,
    ⟨(some 48), .build [.int .u64 0, .int .u64 0, .int .u64 0, .int .u64 0] [], (some (46, true))⟩,
    ⟨(some 49), .eqagg true [1, 1, 1, 1] (.tmp 47) (.tmp 48), (some (46, true))⟩,
    ⟨(some 50), .pick (.tmp 46) (.tmp 49) (.cst (.bool false)), none⟩,
    ⟨(some 51), .load (.tmp 8) 4 true, none⟩,
    ⟨(some 52), .load (.tmp 9) 4 true, none⟩,
    ⟨(some 53), .callq 32 [.tmp 50, .tmp 51, .tmp 52], none⟩,
    ⟨(some 54), .ext 53 0, none⟩,
    ⟨(some 55), .ext 53 1, none⟩,
    ⟨none, .store (.tmp 4) (.tmp 54) 2, none⟩,
    ⟨(some 5), .own 55, none⟩] [])
  .ret))))))))
def x26_l0 : XCode := .seq (.seq (.region false [⟨(some 5), .mov (.tmp 1), none⟩,
    ⟨(some 6), .bin .neq (.tmp 5) (.cst (.int .u64 0)), none⟩] [])
  (.cond (.tmp 6) .skip (.exit 0)))
  (.block 1 (.region true [⟨(some 7), .mov (.tmp 1), none⟩,
    ⟨(some 8), .mov (.tmp 0), none⟩,
    ⟨(some 9), .mov (.tmp 1), none⟩,
    ⟨(some 10), .bin .rem (.tmp 8) (.tmp 9), none⟩,
    ⟨(some 0), .own 7, none⟩,
    ⟨(some 1), .own 10, none⟩] []))
/-- custos/rat.gcd -/
def x26 : XFn := XFn.mk 12 [.tmp 4] (.seq (.region false [⟨(some 4), .mov (.cst (.int .u64 0)), none⟩] [])
  (.seq (.block 0 (.loop x26_l0))
  (.seq (.region false [⟨(some 11), .mov (.tmp 0), none⟩,
    ⟨(some 4), .own 11, none⟩] [])
  .ret)))
/-- custos/rat.size -/
def x27 : XFn := XFn.mk 10 [.tmp 2] (.seq (.region false [⟨(some 2), .mov (.cst (.int .u64 0)), none⟩] [])
  (.seq (.seq (.region false [⟨(some 3), .mov (.tmp 0), none⟩,
    ⟨(some 4), .bin .lss (.tmp 3) (.cst (.int .i64 0)), none⟩] [])
  (.cond (.tmp 4) (.seq (.region false [⟨(some 5), .mov (.tmp 0), none⟩,
    ⟨(some 6), .conv .u64 (.tmp 5), none⟩,
    ⟨(some 7), .neg (.tmp 6), none⟩,
    ⟨(some 2), .own 7, none⟩] [])
  .ret) .skip))
  (.seq (.region false [⟨(some 8), .mov (.tmp 0), none⟩,
    ⟨(some 9), .conv .u64 (.tmp 8), none⟩,
    ⟨(some 2), .own 9, none⟩] [])
  .ret)))
/-- custos/rat.may -/
def x28 : XFn := XFn.mk 16 [.tmp 2] (.seq (.region false [⟨(some 1), .box (.tmp 0) 2, none⟩,
    ⟨(some 2), .mov (.cst (.bool false)), none⟩] [])
  (.seq (.region true [⟨(some 3), .faddr (.tmp 1) 1, none⟩,
    ⟨(some 4), .load (.tmp 3) 1 false, none⟩,
    ⟨(some 5), .bin .gtr (.tmp 4) (.cst (.int .i64 0)), none⟩,
    ⟨(some 6), .mov (.tmp 5), none⟩,
    ⟨(some 7), .faddr (.tmp 1) 0, (some (6, true))⟩,
    ⟨(some 8), .load (.tmp 7) 1 false, (some (6, true))⟩,
    ⟨(some 9), .callq 27 [.tmp 8], (some (6, true))⟩,
    ⟨(some 10), .faddr (.tmp 1) 1, (some (6, true))⟩,
    ⟨(some 11), .load (.tmp 10) 1 false, (some (6, true))⟩,
    ⟨(some 12), .conv .u64 (.tmp 11), (some (6, true))⟩,
    ⟨(some 13), .callq 26 [.tmp 9, .tmp 12], (some (6, true))⟩,
    ⟨(some 14), .bin .eql (.tmp 13) (.cst (.int .u64 1)), (some (6, true))⟩,
    ⟨(some 15), .pick (.tmp 6) (.tmp 14) (.cst (.bool false)), none⟩,
    ⟨(some 2), .own 15, none⟩] [])
  .ret))
/-- custos/rat.sum -/
def x29 : XFn := XFn.mk 100 [.cell 6 2 true, .tmp 7] (.seq (.region false [⟨(some 3), .box (.tmp 0) 2, none⟩,
    ⟨(some 4), .box (.tmp 1) 2, none⟩,
    ⟨(some 6), .alloc [.int .i64 0, .int .i64 0], none⟩,
    ⟨(some 7), .mov (.cst (.int .i64 0)), none⟩] [])
  (.seq (.region false [⟨(some 19), .faddr (.tmp 3) 1, none⟩,
    ⟨(some 20), .load (.tmp 19) 1 false, none⟩,
    ⟨(some 21), .conv .u64 (.tmp 20), none⟩,
    ⟨(some 22), .faddr (.tmp 4) 1, none⟩,
    ⟨(some 23), .load (.tmp 22) 1 false, none⟩,
    ⟨(some 24), .conv .u64 (.tmp 23), none⟩,
    ⟨(some 25), .callq 26 [.tmp 21, .tmp 24], none⟩,
    ⟨(some 8), .own 25, none⟩] [])
  (.seq (.region true [⟨(some 26), .faddr (.tmp 3) 0, none⟩,
    ⟨(some 27), .load (.tmp 26) 1 false, none⟩,
    ⟨(some 28), .faddr (.tmp 4) 1, none⟩,
    ⟨(some 29), .load (.tmp 28) 1 false, none⟩,
    ⟨(some 30), .mov (.tmp 8), none⟩,
    ⟨(some 31), .conv .i64 (.tmp 30), none⟩,
    ⟨(some 32), .bin .quo (.tmp 29) (.tmp 31), none⟩,
    ⟨(some 33), .callq 36 [.tmp 27, .tmp 32], none⟩,
    ⟨(some 9), .alloc [.int .u64 0, .int .u64 0, .bool false], none⟩,
    ⟨none, .store (.tmp 9) (.tmp 33) 3, none⟩] [])
  (.seq (.region true [⟨(some 34), .faddr (.tmp 4) 0, none⟩,
    ⟨(some 35), .load (.tmp 34) 1 false, none⟩,
    ⟨(some 36), .faddr (.tmp 3) 1, none⟩,
    ⟨(some 37), .load (.tmp 36) 1 false, none⟩,
    ⟨(some 38), .mov (.tmp 8), none⟩,
    ⟨(some 39), .conv .i64 (.tmp 38), none⟩,
    ⟨(some 40), .bin .quo (.tmp 37) (.tmp 39), none⟩,
    ⟨(some 41), .callq 36 [.tmp 35, .tmp 40], none⟩,
    ⟨(some 10), .alloc [.int .u64 0, .int .u64 0, .bool false], none⟩,
    ⟨none, .store (.tmp 10) (.tmp 41) 3, none⟩] [])
  (.seq (.region false [⟨(some 42), .faddr (.tmp 10) 2, none⟩,
    ⟨(some 43), .load (.tmp 42) 1 false, none⟩,
    ⟨(some 44), .mov (.tmp 2), none⟩,
    ⟨(some 45), .bin .lss (.tmp 44) (.cst (.int .i64 0)), none⟩,
    ⟨(some 46), .beq true (.tmp 43) (.tmp 45), none⟩,
    ⟨(some 47), .faddr (.tmp 10) 2, none⟩,
    ⟨none, .store (.tmp 47) (.tmp 46) 1, none⟩] [])
  (.seq (.region false [⟨(some 48), .load (.tmp 9) 3 true, none⟩,
    ⟨(some 49), .load (.tmp 10) 3 true, none⟩,
    ⟨(some 50), .callq 37 [.tmp 48, .tmp 49], none⟩,
    ⟨(some 11), .alloc [.int .u64 0, .int .u64 0, .bool false], none⟩,
    ⟨none, .store (.tmp 11) (.tmp 50) 3, none⟩] [])
  (.seq (.region true [⟨(some 52), .faddr (.tmp 11) 0, none⟩,
    ⟨(some 53), .load (.tmp 52) 1 false, none⟩,
    ⟨(some 54), .mov (.tmp 8), none⟩,
    ⟨(some 55), .bin .rem (.tmp 53) (.tmp 54), none⟩,
    ⟨(some 56), .faddr (.tmp 11) 1, none⟩,
    ⟨(some 57), .load (.tmp 56) 1 false, none⟩,
    ⟨(some 58), .mov (.tmp 8), none⟩,
    ⟨(some 59), .callq 40 [.tmp 55, .tmp 57, .tmp 58], none⟩,
    ⟨(some 51), .mov (.tmp 59), none⟩,
    ⟨(some 60), .ext 51 0, none⟩,
    ⟨(some 61), .ext 51 1, none⟩,
    ⟨(some 12), .own 60, none⟩,
    ⟨(some 13), .own 61, none⟩] [])
  (.seq (.region false [⟨(some 62), .mov (.tmp 13), none⟩,
    ⟨(some 63), .mov (.tmp 8), none⟩,
    ⟨(some 64), .callq 26 [.tmp 62, .tmp 63], none⟩,
    ⟨(some 14), .own 64, none⟩] [])
  (.seq (.region false [⟨(some 66), .load (.tmp 11) 3 true, none⟩,
    ⟨(some 67), .mov (.tmp 14), none⟩,
    ⟨(some 68), .callq 41 [.tmp 66, .tmp 67], none⟩,
    ⟨(some 65), .mov (.tmp 68), none⟩,
    ⟨(some 69), .ext 65 0, none⟩,
    ⟨(some 70), .ext 65 1, none⟩,
    ⟨(some 15), .own 69, none⟩,
    ⟨(some 16), .own 70, none⟩] [])
  (.seq (.region true [⟨(some 72), .faddr (.tmp 3) 1, none⟩,
    ⟨(some 73), .load (.tmp 72) 1 false, none⟩,
    ⟨(some 74), .conv .u64 (.tmp 73), none⟩,
    ⟨(some 75), .mov (.tmp 8), none⟩,
    ⟨(some 76), .bin .quo (.tmp 74) (.tmp 75), none⟩,
    ⟨(some 77), .faddr (.tmp 4) 1, none⟩,
    ⟨(some 78), .load (.tmp 77) 1 false, none⟩,
    ⟨(some 79), .conv .u64 (.tmp 78), none⟩,
    ⟨(some 80), .mov (.tmp 14), none⟩,
    ⟨(some 81), .bin .quo (.tmp 79) (.tmp 80), none⟩,
    ⟨(some 82), .callq 42 [.tmp 76, .tmp 81], none⟩,
    ⟨(some 71), .mov (.tmp 82), none⟩,
    ⟨(some 83), .ext 71 0, none⟩,
    ⟨(some 84), .ext 71 1, none⟩,
    ⟨(some 17), .own 83, none⟩,
    ⟨(some 18), .own 84, none⟩] [])
  (.seq (.seq (.region false [⟨(some 85), .mov (.tmp 16), none⟩,
    ⟨(some 86), .not (.tmp 85), none⟩,
    ⟨(some 87), .mov (.tmp 86), none⟩,
    ⟨(some 88), .mov (.tmp 17), (some (87, false))⟩,
    ⟨(some 89), .bin .neq (.tmp 88) (.cst (.int .u64 0)), (some (87, false))⟩,
    ⟨(some 90), .pick (.tmp 87) (.cst (.bool true)) (.tmp 89), none⟩,
    ⟨(some 91), .mov (.tmp 90), none⟩,
    ⟨(some 92), .mov (.tmp 18), (some (91, false))⟩,
    ⟨(some 93), .bin .gtr (.tmp 92) (.cst (.int .u64 9223372036854775807)), (some (91, false))⟩,
    ⟨(some 94), .pick (.tmp 91) (.cst (.bool true)) (.tmp 93), none⟩] [])
  (.cond (.tmp 94) (.seq (.region false [⟨(some 95), .build [.int .i64 0, .int .i64 0] [], none⟩,
    ⟨none, .store (.tmp 6) (.tmp 95) 2, none⟩,
    ⟨(some 7), .mov (.cst (.int .i64 10)), none⟩] [])
  .ret) .skip))
  (.seq (.region false [⟨(some 96), .mov (.tmp 15), none⟩,
    ⟨(some 97), .mov (.tmp 18), none⟩,
    ⟨(some 98), .conv .i64 (.tmp 97), none⟩,
    ⟨(some 99), .build [.int .i64 0, .int .i64 0] [(0, 1, .tmp 96), (1, 1, .tmp 98)], none⟩,
    ⟨none, .store (.tmp 6) (.tmp 99) 2, none⟩,
    ⟨(some 7), .mov (.cst (.int .i64 0)), none⟩] [])
  .ret))))))))))))
/-- custos/custosref01.of -/
def x30 : XFn := XFn.mk 13 [.cell 2 4 true] (.seq (.region false [⟨(some 2), .alloc [.int .u64 0, .int .u64 0, .int .u64 0, .int .u64 0], none⟩] [])
  (.seq (.region false [⟨(some 3), .alloc [.int .u64 0, .int .u64 0, .int .u64 0, .int .u64 0], none⟩] [])
  (.seq (.region false [⟨(some 4), .mov (.tmp 0), none⟩,
    ⟨(some 5), .bin .rem (.tmp 4) (.cst (.int .u64 4294967296)), none⟩,
    ⟨(some 6), .faddr (.tmp 3) 0, none⟩,
    ⟨(some 7), .iarr 4 1 (.tmp 6) (.cst (.int .i64 0)), none⟩,
    ⟨none, .store (.tmp 7) (.tmp 5) 1, none⟩] [])
  (.seq (.region false [⟨(some 8), .mov (.tmp 0), none⟩,
    ⟨(some 9), .bin .quo (.tmp 8) (.cst (.int .u64 4294967296)), none⟩,
    ⟨(some 10), .faddr (.tmp 3) 0, none⟩,
    ⟨(some 11), .iarr 4 1 (.tmp 10) (.cst (.int .i64 1)), none⟩,
    ⟨none, .store (.tmp 11) (.tmp 9) 1, none⟩] [])
  (.seq (.region false [⟨(some 12), .load (.tmp 3) 4 true, none⟩,
    ⟨none, .store (.tmp 2) (.tmp 12) 4, none⟩] [])
  .ret)))))
/-- custos/custosref01.size -/
def x31 : XFn := XFn.mk 12 [.tmp 2] (.seq (.region false [⟨(some 2), .mov (.cst (.int .u64 0)), none⟩] [])
  (.seq (.seq (.region false [⟨(some 3), .mov (.tmp 0), none⟩,
    ⟨(some 4), .bin .lss (.tmp 3) (.cst (.int .i64 0)), none⟩] [])
  (.cond (.tmp 4) (.seq (.region false [⟨(some 5), .mov (.tmp 0), none⟩,
    ⟨(some 6), .bin .add (.tmp 5) (.cst (.int .i64 1)), none⟩,
    ⟨(some 7), .neg (.tmp 6), none⟩,
    ⟨(some 8), .conv .u64 (.tmp 7), none⟩,
    ⟨(some 9), .bin .add (.tmp 8) (.cst (.int .u64 1)), none⟩,
    ⟨(some 2), .own 9, none⟩] [])
  .ret) .skip))
  (.seq (.region false [⟨(some 10), .mov (.tmp 0), none⟩,
    ⟨(some 11), .conv .u64 (.tmp 10), none⟩,
    ⟨(some 2), .own 11, none⟩] [])
  .ret)))
/-- custos/custosref01.made -/
def x32 : XFn := XFn.mk 84 [.cell 6 2 true, .tmp 7] (.seq (.region false [⟨(some 4), .box (.tmp 1) 4, none⟩,
    ⟨(some 5), .box (.tmp 2) 4, none⟩,
    ⟨(some 6), .alloc [.int .i64 0, .int .i64 0], none⟩,
    ⟨(some 7), .mov (.cst (.int .i64 0)), none⟩] [])
  (.seq (.region false [⟨(some 18), .load (.tmp 4) 4 true, none⟩,
    ⟨(some 19), .load (.tmp 5) 4 true, none⟩,
    ⟨(some 20), .callq 43 [.tmp 18, .tmp 19], none⟩,
    ⟨(some 8), .alloc [.int .u64 0, .int .u64 0, .int .u64 0, .int .u64 0], none⟩,
    ⟨none, .store (.tmp 8) (.tmp 20) 4, none⟩] [])
  (.seq (.region false [⟨(some 22), .load (.tmp 4) 4 true, none⟩,
    ⟨(some 23), .load (.tmp 8) 4 true, none⟩,
    ⟨(some 24), .callq 44 [.tmp 22, .tmp 23], none⟩,
    ⟨(some 21), .mov (.tmp 24), none⟩,
    ⟨(some 25), .ext 21 0, none⟩,
    ⟨(some 26), .ext 21 1, none⟩,
    ⟨(some 9), .alloc [.int .u64 0, .int .u64 0, .int .u64 0, .int .u64 0], none⟩,
    ⟨(some 10), .alloc [.int .u64 0, .int .u64 0, .int .u64 0, .int .u64 0], none⟩,
    ⟨none, .store (.tmp 9) (.tmp 25) 4, none⟩,
    ⟨none, .store (.tmp 10) (.tmp 26) 4, none⟩] [])
  (.seq (.region false [⟨(some 28), .load (.tmp 5) 4 true, none⟩,
    ⟨(some 29), .load (.tmp 8) 4 true, none⟩,
    ⟨(some 30), .callq 44 [.tmp 28, .tmp 29], none⟩,
    ⟨(some 27), .mov (.tmp 30), none⟩,
    ⟨(some 31), .ext 27 0, none⟩,
    ⟨(some 32), .ext 27 1, none⟩,
    ⟨(some 11), .alloc [.int .u64 0, .int .u64 0, .int .u64 0, .int .u64 0], none⟩,
    ⟨(some 12), .alloc [.int .u64 0, .int .u64 0, .int .u64 0, .int .u64 0], none⟩,
    ⟨none, .store (.tmp 11) (.tmp 31) 4, none⟩,
    ⟨none, .store (.tmp 12) (.tmp 32) 4, none⟩] [])
  (.seq (.region false [⟨(some 33), .callq 30 [.cst (.int .u64 9223372036854775808)], none⟩,
    ⟨(some 13), .alloc [.int .u64 0, .int .u64 0, .int .u64 0, .int .u64 0], none⟩,
    ⟨none, .store (.tmp 13) (.tmp 33) 4, none⟩] [])
  (.seq (.region false [⟨(some 34), .load (.tmp 9) 4 true, none⟩,
    ⟨(some 35), .load (.tmp 13) 4 true, none⟩,
    ⟨(some 36), .callq 35 [.tmp 34, .tmp 35], none⟩,
    ⟨(some 14), .own 36, none⟩] [])
  (.seq (.region false [⟨(some 37), .load (.tmp 11) 4 true, none⟩,
    ⟨(some 38), .load (.tmp 13) 4 true, none⟩,
    ⟨(some 39), .callq 35 [.tmp 37, .tmp 38], none⟩,
    ⟨(some 15), .own 39, none⟩] [])
  (.seq (.seq (.region false [⟨(some 40), .mov (.tmp 15), none⟩,
    ⟨(some 41), .bin .geq (.tmp 40) (.cst (.int .i64 0)), none⟩,
    ⟨(some 42), .mov (.tmp 41), none⟩,
    ⟨(some 43), .mov (.tmp 14), (some (42, false))⟩,
    ⟨(some 44), .bin .gtr (.tmp 43) (.cst (.int .i64 0)), (some (42, false))⟩,
    ⟨(some 45), .pick (.tmp 42) (.cst (.bool true)) (.tmp 44), none⟩,
    ⟨(some 46), .mov (.tmp 45), none⟩,
    ⟨(some 47), .mov (.tmp 14), (some (46, false))⟩,
    ⟨(some 48), .bin .eql (.tmp 47) (.cst (.int .i64 0)), (some (46, false))⟩,
    ⟨(some 49), .mov (.tmp 48), (some (46, false))⟩,
    ⟨(some 50), .mov (.tmp 0), (some (49, true))⟩,
    ⟨(some 51), .not (.tmp 50), (some (49, true))⟩,
    ⟨(some 52), .pick (.tmp 49) (.tmp 51) (.cst (.bool false)), (some (46, false))⟩,
    ⟨(some 53), .pick (.tmp 46) (.cst (.bool true)) (.tmp 52), none⟩] [])
  (.cond (.tmp 53) (.seq (.region false [⟨(some 54), .build [.int .i64 0, .int .i64 0] [], none⟩,
    ⟨none, .store (.tmp 6) (.tmp 54) 2, none⟩,
    ⟨(some 7), .mov (.cst (.int .i64 10)), none⟩] [])
  .ret) .skip))
  (.seq (.region false [⟨(some 55), .faddr (.tmp 9) 0, none⟩,
    ⟨(some 56), .iarr 4 1 (.tmp 55) (.cst (.int .i64 1)), none⟩,
    ⟨(some 57), .load (.tmp 56) 1 false, none⟩,
    ⟨(some 58), .bin .mul (.tmp 57) (.cst (.int .u64 4294967296)), none⟩,
    ⟨(some 59), .faddr (.tmp 9) 0, none⟩,
    ⟨(some 60), .iarr 4 1 (.tmp 59) (.cst (.int .i64 0)), none⟩,
    ⟨(some 61), .load (.tmp 60) 1 false, none⟩,
    ⟨(some 62), .bin .add (.tmp 58) (.tmp 61), none⟩,
    ⟨(some 16), .own 62, none⟩] [])
  (.seq (.region false [⟨(some 63), .faddr (.tmp 11) 0, none⟩,
    ⟨(some 64), .iarr 4 1 (.tmp 63) (.cst (.int .i64 1)), none⟩,
    ⟨(some 65), .load (.tmp 64) 1 false, none⟩,
    ⟨(some 66), .bin .mul (.tmp 65) (.cst (.int .u64 4294967296)), none⟩,
    ⟨(some 67), .faddr (.tmp 11) 0, none⟩,
    ⟨(some 68), .iarr 4 1 (.tmp 67) (.cst (.int .i64 0)), none⟩,
    ⟨(some 69), .load (.tmp 68) 1 false, none⟩,
    ⟨(some 70), .bin .add (.tmp 66) (.tmp 69), none⟩,
    ⟨(some 71), .conv .i64 (.tmp 70), none⟩,
    ⟨(some 17), .own 71, none⟩] [])
  (.seq (.seq (.region false [⟨(some 72), .mov (.tmp 0), none⟩] [])
  (.cond (.tmp 72) (.seq (.region false [⟨(some 73), .mov (.tmp 16), none⟩,
    ⟨(some 74), .bin .sub (.tmp 73) (.cst (.int .u64 1)), none⟩,
    ⟨(some 75), .conv .i64 (.tmp 74), none⟩,
    ⟨(some 76), .neg (.tmp 75), none⟩,
    ⟨(some 77), .bin .sub (.tmp 76) (.cst (.int .i64 1)), none⟩,
    ⟨(some 78), .mov (.tmp 17), none⟩,
    ⟨(some 79), .build [.int .i64 0, .int .i64 0] [(0, 1, .tmp 77), (1, 1, .tmp 78)], none⟩,
    ⟨none, .store (.tmp 6) (.tmp 79) 2, none⟩,
    ⟨(some 7), .mov (.cst (.int .i64 0)), none⟩] [])
  .ret) .skip))
  (.seq (.region false [⟨(some 80), .mov (.tmp 16), none⟩,
    ⟨(some 81), .conv .i64 (.tmp 80), none⟩,
    ⟨(some 82), .mov (.tmp 17), none⟩,
    ⟨(some 83), .build [.int .i64 0, .int .i64 0] [(0, 1, .tmp 81), (1, 1, .tmp 82)], none⟩,
    ⟨none, .store (.tmp 6) (.tmp 83) 2, none⟩,
    ⟨(some 7), .mov (.cst (.int .i64 0)), none⟩] [])
  .ret))))))))))))
/-- custos/custosref01.MayBe -/
def x33 : XFn := XFn.mk 23 [.tmp 2] (.seq (.region false [⟨(some 1), .box (.tmp 0) 2, none⟩,
    ⟨(some 2), .mov (.cst (.bool false)), none⟩] [])
  (.seq (.seq (.region false [⟨(some 5), .faddr (.tmp 1) 1, none⟩,
    ⟨(some 6), .load (.tmp 5) 1 false, none⟩,
    ⟨(some 7), .bin .leq (.tmp 6) (.cst (.int .i64 0)), none⟩] [])
  (.cond (.tmp 7) (.seq (.region false [⟨(some 2), .mov (.cst (.bool false)), none⟩] [])
  .ret) .skip))
  (.seq (.region false [⟨(some 9), .faddr (.tmp 1) 0, none⟩,
    ⟨(some 10), .load (.tmp 9) 1 false, none⟩,
    ⟨(some 11), .faddr (.tmp 1) 1, none⟩,
    ⟨(some 12), .load (.tmp 11) 1 false, none⟩,
    ⟨(some 13), .callq 13 [.tmp 10, .tmp 12], none⟩,
    ⟨(some 8), .mov (.tmp 13), none⟩,
    ⟨(some 14), .ext 8 0, none⟩,
    ⟨(some 15), .ext 8 1, none⟩,
    ⟨(some 3), .alloc [.int .i64 0, .int .i64 0], none⟩,
    ⟨none, .store (.tmp 3) (.tmp 14) 2, none⟩,
    ⟨(some 4), .own 15, none⟩] [])
  (.seq (.region false [⟨(some 16), .mov (.tmp 4), none⟩,
    ⟨(some 17), .bin .eql (.tmp 16) (.cst (.int .i64 0)), none⟩,
    ⟨(some 18), .mov (.tmp 17), none⟩,
    ⟨(some 19), .load (.tmp 3) 2 true, (some (18, true))⟩,
    ⟨(some 20), .load (.tmp 1) 2 true, (some (18, true))⟩,
    ⟨(some 21), .eqagg false [1, 1] (.tmp 19) (.tmp 20), (some (18, true))⟩,
    ⟨(some 22), .pick (.tmp 18) (.tmp 21) (.cst (.bool false)), none⟩,
    ⟨(some 2), .own 22, none⟩] [])
  .ret))))
def x34_l0 : XCode := .seq (.seq (.region false [⟨(some 20), .mov (.tmp 10), none⟩,
    ⟨(some 21), .bin .lss (.tmp 20) (.cst (.int .i64 2)), none⟩] [])
  (.cond (.tmp 21) .skip (.exit 2)))
  (.seq (.block 3 (.seq (.region true [⟨(some 24), .mov (.tmp 8), none⟩,
    ⟨(some 25), .mov (.tmp 10), none⟩,
    ⟨(some 26), .bin .add (.tmp 24) (.tmp 25), none⟩,
    ⟨(some 27), .faddr (.tmp 7) 0, none⟩,
    ⟨(some 28), .iarr 4 1 (.tmp 27) (.tmp 26), none⟩,
    ⟨(some 29), .load (.tmp 28) 1 false, none⟩,
    ⟨(some 30), .mov (.tmp 8), none⟩,
    ⟨(some 31), .faddr (.tmp 5) 0, none⟩,
    ⟨(some 32), .iarr 4 1 (.tmp 31) (.tmp 30), none⟩,
    ⟨(some 33), .load (.tmp 32) 1 false, none⟩,
    ⟨(some 34), .mov (.tmp 10), none⟩,
    ⟨(some 35), .faddr (.tmp 6) 0, none⟩,
    ⟨(some 36), .iarr 4 1 (.tmp 35) (.tmp 34), none⟩,
    ⟨(some 37), .load (.tmp 36) 1 false, none⟩,
    ⟨(some 38), .bin .mul (.tmp 33) (.tmp 37), none⟩,
    ⟨(some 39), .bin .add (.tmp 29) (.tmp 38), none⟩,
    ⟨(some 40), .mov (.tmp 9), none⟩,
    ⟨(some 41), .bin .add (.tmp 39) (.tmp 40), none⟩,
    ⟨(some 11), .own 41, none⟩] [])
  (.seq (.region false [⟨(some 42), .mov (.tmp 8), none⟩,
    ⟨(some 43), .mov (.tmp 10), none⟩,
    ⟨(some 44), .bin .add (.tmp 42) (.tmp 43), none⟩,
    ⟨(some 45), .mov (.tmp 11), none⟩,
    ⟨(some 46), .bin .rem (.tmp 45) (.cst (.int .u64 4294967296)), none⟩,
    ⟨(some 47), .faddr (.tmp 7) 0, none⟩,
    ⟨(some 48), .iarr 4 1 (.tmp 47) (.tmp 44), none⟩,
    ⟨none, .store (.tmp 48) (.tmp 46) 1, none⟩] [])
  (.region false [⟨(some 49), .mov (.tmp 11), none⟩,
    ⟨(some 50), .bin .quo (.tmp 49) (.cst (.int .u64 4294967296)), none⟩,
    ⟨(some 9), .own 50, none⟩] []))))
  (.region false [⟨(some 22), .mov (.tmp 10), none⟩,
    ⟨(some 23), .bin .add (.tmp 22) (.cst (.int .i64 1)), none⟩,
    ⟨(some 10), .own 23, none⟩] []))
def x34_l1 : XCode := .seq (.seq (.region false [⟨(some 16), .mov (.tmp 8), none⟩,
    ⟨(some 17), .bin .lss (.tmp 16) (.cst (.int .i64 2)), none⟩] [])
  (.cond (.tmp 17) .skip (.exit 0)))
  (.seq (.block 1 (.seq (.region false [⟨(some 9), .mov (.cst (.int .u64 0)), none⟩] [])
  (.seq (.seq (.region false [⟨(some 10), .mov (.cst (.int .i64 0)), none⟩] [])
  (.block 2 (.loop x34_l0)))
  (.region false [⟨(some 51), .mov (.tmp 8), none⟩,
    ⟨(some 52), .bin .add (.tmp 51) (.cst (.int .i64 2)), none⟩,
    ⟨(some 53), .mov (.tmp 8), none⟩,
    ⟨(some 54), .bin .add (.tmp 53) (.cst (.int .i64 2)), none⟩,
    ⟨(some 55), .faddr (.tmp 7) 0, none⟩,
    ⟨(some 56), .iarr 4 1 (.tmp 55) (.tmp 54), none⟩,
    ⟨(some 57), .load (.tmp 56) 1 false, none⟩,
    ⟨(some 58), .mov (.tmp 9), none⟩,
    ⟨(some 59), .bin .add (.tmp 57) (.tmp 58), none⟩,
    ⟨(some 60), .faddr (.tmp 7) 0, none⟩,
    ⟨(some 61), .iarr 4 1 (.tmp 60) (.tmp 52), none⟩,
    ⟨none, .store (.tmp 61) (.tmp 59) 1, none⟩] []))))
  (.region false [⟨(some 18), .mov (.tmp 8), none⟩,
    ⟨(some 19), .bin .add (.tmp 18) (.cst (.int .i64 1)), none⟩,
    ⟨(some 8), .own 19, none⟩] []))
/-- custos/custosref01.times -/
def x34 : XFn := XFn.mk 63 [.cell 4 4 true] (.seq (.region false [⟨(some 4), .alloc [.int .u64 0, .int .u64 0, .int .u64 0, .int .u64 0], none⟩] [])
  (.seq (.region false [⟨(some 12), .mov (.tmp 0), none⟩,
    ⟨(some 13), .callq 30 [.tmp 12], none⟩,
    ⟨(some 5), .alloc [.int .u64 0, .int .u64 0, .int .u64 0, .int .u64 0], none⟩,
    ⟨none, .store (.tmp 5) (.tmp 13) 4, none⟩] [])
  (.seq (.region false [⟨(some 14), .mov (.tmp 1), none⟩,
    ⟨(some 15), .callq 30 [.tmp 14], none⟩,
    ⟨(some 6), .alloc [.int .u64 0, .int .u64 0, .int .u64 0, .int .u64 0], none⟩,
    ⟨none, .store (.tmp 6) (.tmp 15) 4, none⟩] [])
  (.seq (.region false [⟨(some 7), .alloc [.int .u64 0, .int .u64 0, .int .u64 0, .int .u64 0], none⟩] [])
  (.seq (.seq (.region false [⟨(some 8), .mov (.cst (.int .i64 0)), none⟩] [])
  (.block 0 (.loop x34_l1)))
  (.seq (.region false [⟨(some 62), .load (.tmp 7) 4 true, none⟩,
    ⟨none, .store (.tmp 4) (.tmp 62) 4, none⟩] [])
  .ret))))))
def x35_l0 : XCode := .seq (.seq (.region false [⟨(some 6), .mov (.tmp 5), none⟩,
    ⟨(some 7), .bin .geq (.tmp 6) (.cst (.int .i64 0)), none⟩] [])
  (.cond (.tmp 7) .skip (.exit 0)))
  (.seq (.block 1 (.seq (.seq (.region true [⟨(some 10), .mov (.tmp 5), none⟩,
    ⟨(some 11), .faddr (.tmp 2) 0, none⟩,
    ⟨(some 12), .iarr 4 1 (.tmp 11) (.tmp 10), none⟩,
    ⟨(some 13), .load (.tmp 12) 1 false, none⟩,
    ⟨(some 14), .mov (.tmp 5), none⟩,
    ⟨(some 15), .faddr (.tmp 3) 0, none⟩,
    ⟨(some 16), .iarr 4 1 (.tmp 15) (.tmp 14), none⟩,
    ⟨(some 17), .load (.tmp 16) 1 false, none⟩,
    ⟨(some 18), .bin .lss (.tmp 13) (.tmp 17), none⟩] [])
  (.cond (.tmp 18) (.seq (.region false [⟨(some 4), .mov (.cst (.int .i64 (-1))), none⟩] [])
  .ret) .skip))
  (.seq (.region true [⟨(some 19), .mov (.tmp 5), none⟩,
    ⟨(some 20), .faddr (.tmp 2) 0, none⟩,
    ⟨(some 21), .iarr 4 1 (.tmp 20) (.tmp 19), none⟩,
    ⟨(some 22), .load (.tmp 21) 1 false, none⟩,
    ⟨(some 23), .mov (.tmp 5), none⟩,
    ⟨(some 24), .faddr (.tmp 3) 0, none⟩,
    ⟨(some 25), .iarr 4 1 (.tmp 24) (.tmp 23), none⟩,
    ⟨(some 26), .load (.tmp 25) 1 false, none⟩,
    ⟨(some 27), .bin .gtr (.tmp 22) (.tmp 26), none⟩] [])
  (.cond (.tmp 27) (.seq (.region false [⟨(some 4), .mov (.cst (.int .i64 1)), none⟩] [])
  .ret) .skip))))
  (.region false [⟨(some 8), .mov (.tmp 5), none⟩,
    ⟨(some 9), .bin .sub (.tmp 8) (.cst (.int .i64 1)), none⟩,
    ⟨(some 5), .own 9, none⟩] []))
/-- custos/custosref01.compare -/
def x35 : XFn := XFn.mk 28 [.tmp 4] (.seq (.region false [⟨(some 2), .box (.tmp 0) 4, none⟩,
    ⟨(some 3), .box (.tmp 1) 4, none⟩,
    ⟨(some 4), .mov (.cst (.int .i64 0)), none⟩] [])
  (.seq (.seq (.region false [⟨(some 5), .mov (.cst (.int .i64 3)), none⟩] [])
  (.block 0 (.loop x35_l0)))
  (.seq (.region false [⟨(some 4), .mov (.cst (.int .i64 0)), none⟩] [])
  .ret)))
/-- custos/rat.times -/
def x36 : XFn := XFn.mk 23 [.cell 4 3 true] (.seq (.region false [⟨(some 4), .alloc [.int .u64 0, .int .u64 0, .bool false], none⟩] [])
  (.seq (.region false [⟨(some 8), .mov (.tmp 0), none⟩,
    ⟨(some 9), .callq 27 [.tmp 8], none⟩,
    ⟨(some 10), .mov (.tmp 1), none⟩,
    ⟨(some 11), .callq 27 [.tmp 10], none⟩,
    ⟨(some 12), .callq 42 [.tmp 9, .tmp 11], none⟩,
    ⟨(some 7), .mov (.tmp 12), none⟩,
    ⟨(some 13), .ext 7 0, none⟩,
    ⟨(some 14), .ext 7 1, none⟩,
    ⟨(some 5), .own 13, none⟩,
    ⟨(some 6), .own 14, none⟩] [])
  (.seq (.region false [⟨(some 15), .mov (.tmp 5), none⟩,
    ⟨(some 16), .mov (.tmp 6), none⟩,
    ⟨(some 17), .mov (.tmp 0), none⟩,
    ⟨(some 18), .bin .lss (.tmp 17) (.cst (.int .i64 0)), none⟩,
    ⟨(some 19), .mov (.tmp 1), none⟩,
    ⟨(some 20), .bin .lss (.tmp 19) (.cst (.int .i64 0)), none⟩,
    ⟨(some 21), .beq true (.tmp 18) (.tmp 20), none⟩,
    ⟨(some 22), .build [.int .u64 0, .int .u64 0, .bool false] [(0, 1, .tmp 15), (1, 1, .tmp 16), (2, 1, .tmp 21)], none⟩,
    ⟨none, .store (.tmp 4) (.tmp 22) 3, none⟩] [])
  .ret)))
/-- custos/rat.plus -/
def x37 : XFn := XFn.mk 83 [.cell 4 3 true] (.seq (.region false [⟨(some 2), .box (.tmp 0) 3, none⟩,
    ⟨(some 3), .box (.tmp 1) 3, none⟩,
    ⟨(some 4), .alloc [.int .u64 0, .int .u64 0, .bool false], none⟩] [])
  (.seq (.seq (.region false [⟨(some 13), .faddr (.tmp 2) 2, none⟩,
    ⟨(some 14), .load (.tmp 13) 1 false, none⟩,
    ⟨(some 15), .faddr (.tmp 3) 2, none⟩,
    ⟨(some 16), .load (.tmp 15) 1 false, none⟩,
    ⟨(some 17), .beq false (.tmp 14) (.tmp 16), none⟩] [])
  (.cond (.tmp 17) (.seq (.region false [⟨(some 19), .faddr (.tmp 2) 1, none⟩,
    ⟨(some 20), .load (.tmp 19) 1 false, none⟩,
    ⟨(some 21), .faddr (.tmp 3) 1, none⟩,
    ⟨(some 22), .load (.tmp 21) 1 false, none⟩,
    ⟨(some 23), .prim 0 45 [.tmp 20, .tmp 22, .cst (.int .u64 0)], none⟩,
    ⟨(some 18), .mov (.tmp 23), none⟩,
    ⟨(some 24), .ext 18 0, none⟩,
    ⟨(some 25), .ext 18 1, none⟩,
    ⟨(some 5), .own 24, none⟩,
    ⟨(some 6), .own 25, none⟩] [])
  (.seq (.region false [⟨(some 27), .faddr (.tmp 2) 0, none⟩,
    ⟨(some 28), .load (.tmp 27) 1 false, none⟩,
    ⟨(some 29), .faddr (.tmp 3) 0, none⟩,
    ⟨(some 30), .load (.tmp 29) 1 false, none⟩,
    ⟨(some 31), .mov (.tmp 6), none⟩,
    ⟨(some 32), .prim 0 45 [.tmp 28, .tmp 30, .tmp 31], none⟩,
    ⟨(some 26), .mov (.tmp 32), none⟩,
    ⟨(some 33), .ext 26 0, none⟩,
    ⟨(some 34), .ext 26 1, none⟩,
    ⟨(some 7), .own 33, none⟩,
    ⟨(some 8), .own 34, none⟩] [])
  (.seq (.region false [⟨(some 35), .mov (.tmp 7), none⟩,
    ⟨(some 36), .mov (.tmp 5), none⟩,
    ⟨(some 37), .faddr (.tmp 2) 2, none⟩,
    ⟨(some 38), .load (.tmp 37) 1 false, none⟩,
    ⟨(some 39), .build [.int .u64 0, .int .u64 0, .bool false] [(0, 1, .tmp 35), (1, 1, .tmp 36), (2, 1, .tmp 38)], none⟩,
    ⟨none, .store (.tmp 4) (.tmp 39) 3, none⟩] [])
  .ret))) .skip))
  (.seq (.seq (.region false [⟨(some 40), .faddr (.tmp 2) 0, none⟩,
    ⟨(some 41), .load (.tmp 40) 1 false, none⟩,
    ⟨(some 42), .faddr (.tmp 3) 0, none⟩,
    ⟨(some 43), .load (.tmp 42) 1 false, none⟩,
    ⟨(some 44), .bin .lss (.tmp 41) (.tmp 43), none⟩,
    ⟨(some 45), .mov (.tmp 44), none⟩,
    ⟨(some 46), .faddr (.tmp 2) 0, (some (45, false))⟩,
    ⟨(some 47), .load (.tmp 46) 1 false, (some (45, false))⟩,
    ⟨(some 48), .faddr (.tmp 3) 0, (some (45, false))⟩,
    ⟨(some 49), .load (.tmp 48) 1 false, (some (45, false))⟩,
    ⟨(some 50), .bin .eql (.tmp 47) (.tmp 49), (some (45, false))⟩,
    ⟨(some 51), .mov (.tmp 50), (some (45, false))⟩,
    ⟨(some 52), .faddr (.tmp 2) 1, (some (51, true))⟩,
    ⟨(some 53), .load (.tmp 52) 1 false, (some (51, true))⟩,
    ⟨(some 54), .faddr (.tmp 3) 1, (some (51, true))⟩,
    ⟨(some 55), .load (.tmp 54) 1 false, (some (51, true))⟩,
    ⟨(some 56), .bin .lss (.tmp 53) (.tmp 55), (some (51, true))⟩,
    ⟨(some 57), .pick (.tmp 51) (.tmp 56) (.cst (.bool false)), (some (45, false))⟩,
    ⟨(some 58), .pick (.tmp 45) (.cst (.bool true)) (.tmp 57), none⟩] [])
  (.cond (.tmp 58) (.region false [⟨(some 59), .load (.tmp 3) 3 true, none⟩,
    ⟨(some 60), .load (.tmp 2) 3 true, none⟩,
    ⟨none, .store (.tmp 2) (.tmp 59) 3, none⟩,
    ⟨none, .store (.tmp 3) (.tmp 60) 3, none⟩] []) .skip))
  (.seq (.region false [⟨(some 62), .faddr (.tmp 2) 1, none⟩,
    ⟨(some 63), .load (.tmp 62) 1 false, none⟩,
    ⟨(some 64), .faddr (.tmp 3) 1, none⟩,
    ⟨(some 65), .load (.tmp 64) 1 false, none⟩,
    ⟨(some 66), .prim 1 46 [.tmp 63, .tmp 65, .cst (.int .u64 0)], none⟩,
    ⟨(some 61), .mov (.tmp 66), none⟩,
    ⟨(some 67), .ext 61 0, none⟩,
    ⟨(some 68), .ext 61 1, none⟩,
    ⟨(some 9), .own 67, none⟩,
    ⟨(some 10), .own 68, none⟩] [])
  (.seq (.region false [⟨(some 70), .faddr (.tmp 2) 0, none⟩,
    ⟨(some 71), .load (.tmp 70) 1 false, none⟩,
    ⟨(some 72), .faddr (.tmp 3) 0, none⟩,
    ⟨(some 73), .load (.tmp 72) 1 false, none⟩,
    ⟨(some 74), .mov (.tmp 10), none⟩,
    ⟨(some 75), .prim 1 46 [.tmp 71, .tmp 73, .tmp 74], none⟩,
    ⟨(some 69), .mov (.tmp 75), none⟩,
    ⟨(some 76), .ext 69 0, none⟩,
    ⟨(some 77), .ext 69 1, none⟩,
    ⟨(some 11), .own 76, none⟩,
    ⟨(some 12), .own 77, none⟩] [])
  (.seq (.region false [⟨(some 78), .mov (.tmp 11), none⟩,
    ⟨(some 79), .mov (.tmp 9), none⟩,
    ⟨(some 80), .faddr (.tmp 2) 2, none⟩,
    ⟨(some 81), .load (.tmp 80) 1 false, none⟩,
    ⟨(some 82), .build [.int .u64 0, .int .u64 0, .bool false] [(0, 1, .tmp 78), (1, 1, .tmp 79), (2, 1, .tmp 81)], none⟩,
    ⟨none, .store (.tmp 4) (.tmp 82) 3, none⟩] [])
  .ret))))))
/-- custos/custosref01.sum -/
def x38 : XFn := XFn.mk 91 [.cell 6 2 true, .tmp 7] (.seq (.region false [⟨(some 3), .box (.tmp 0) 2, none⟩,
    ⟨(some 4), .box (.tmp 1) 2, none⟩,
    ⟨(some 6), .alloc [.int .i64 0, .int .i64 0], none⟩,
    ⟨(some 7), .mov (.cst (.int .i64 0)), none⟩] [])
  (.seq (.region true [⟨(some 17), .faddr (.tmp 3) 0, none⟩,
    ⟨(some 18), .load (.tmp 17) 1 false, none⟩,
    ⟨(some 19), .callq 31 [.tmp 18], none⟩,
    ⟨(some 20), .faddr (.tmp 4) 1, none⟩,
    ⟨(some 21), .load (.tmp 20) 1 false, none⟩,
    ⟨(some 22), .conv .u64 (.tmp 21), none⟩,
    ⟨(some 23), .callq 34 [.tmp 19, .tmp 22], none⟩,
    ⟨(some 8), .alloc [.int .u64 0, .int .u64 0, .int .u64 0, .int .u64 0], none⟩,
    ⟨none, .store (.tmp 8) (.tmp 23) 4, none⟩] [])
  (.seq (.region true [⟨(some 24), .faddr (.tmp 4) 0, none⟩,
    ⟨(some 25), .load (.tmp 24) 1 false, none⟩,
    ⟨(some 26), .callq 31 [.tmp 25], none⟩,
    ⟨(some 27), .faddr (.tmp 3) 1, none⟩,
    ⟨(some 28), .load (.tmp 27) 1 false, none⟩,
    ⟨(some 29), .conv .u64 (.tmp 28), none⟩,
    ⟨(some 30), .callq 34 [.tmp 26, .tmp 29], none⟩,
    ⟨(some 9), .alloc [.int .u64 0, .int .u64 0, .int .u64 0, .int .u64 0], none⟩,
    ⟨none, .store (.tmp 9) (.tmp 30) 4, none⟩] [])
  (.seq (.region false [⟨(some 31), .faddr (.tmp 3) 1, none⟩,
    ⟨(some 32), .load (.tmp 31) 1 false, none⟩,
    ⟨(some 33), .conv .u64 (.tmp 32), none⟩,
    ⟨(some 34), .faddr (.tmp 4) 1, none⟩,
    ⟨(some 35), .load (.tmp 34) 1 false, none⟩,
    ⟨(some 36), .conv .u64 (.tmp 35), none⟩,
    ⟨(some 37), .callq 34 [.tmp 33, .tmp 36], none⟩,
    ⟨(some 10), .alloc [.int .u64 0, .int .u64 0, .int .u64 0, .int .u64 0], none⟩,
    ⟨none, .store (.tmp 10) (.tmp 37) 4, none⟩] [])
  (.seq (.region false [⟨(some 38), .faddr (.tmp 3) 0, none⟩,
    ⟨(some 39), .load (.tmp 38) 1 false, none⟩,
    ⟨(some 40), .bin .lss (.tmp 39) (.cst (.int .i64 0)), none⟩,
    ⟨(some 11), .own 40, none⟩] [])
  (.seq (.region false [⟨(some 41), .faddr (.tmp 4) 0, none⟩,
    ⟨(some 42), .load (.tmp 41) 1 false, none⟩,
    ⟨(some 43), .bin .lss (.tmp 42) (.cst (.int .i64 0)), none⟩,
    ⟨(some 44), .mov (.tmp 2), none⟩,
    ⟨(some 45), .beq true (.tmp 43) (.tmp 44), none⟩,
    ⟨(some 12), .own 45, none⟩] [])
  (.seq (.seq (.region false [⟨(some 46), .mov (.tmp 11), none⟩,
    ⟨(some 47), .mov (.tmp 12), none⟩,
    ⟨(some 48), .beq false (.tmp 46) (.tmp 47), none⟩] [])
  (.cond (.tmp 48) (.seq (.region false [⟨(some 49), .load (.tmp 8) 4 true, none⟩,
    ⟨(some 50), .load (.tmp 9) 4 true, none⟩,
    ⟨(some 51), .callq 47 [.tmp 49, .tmp 50], none⟩,
    ⟨(some 13), .alloc [.int .u64 0, .int .u64 0, .int .u64 0, .int .u64 0], none⟩,
    ⟨none, .store (.tmp 13) (.tmp 51) 4, none⟩] [])
  (.seq (.region true [⟨(some 52), .mov (.tmp 11), none⟩,
    ⟨(some 53), .mov (.tmp 52), none⟩,
    ⟨(some 54), .load (.tmp 13) 4 true, (some (53, true))⟩,
    ⟨(some 55), .build [.int .u64 0, .int .u64 0, .int .u64 0, .int .u64 0] [], (some (53, true))⟩,
    ⟨(some 56), .eqagg true [1, 1, 1, 1] (.tmp 54) (.tmp 55), (some (53, true))⟩,
    ⟨(some 57), .pick (.tmp 53) (.tmp 56) (.cst (.bool false)), none⟩,
    ⟨(some 58), .load (.tmp 13) 4 true, none⟩,
    ⟨(some 59), .load (.tmp 10) 4 true, none⟩,
    ⟨(some 60), .callq 32 [.tmp 57, .tmp 58, .tmp 59], none⟩,
    ⟨(some 61), .ext 60 0, none⟩,
    ⟨(some 62), .ext 60 1, none⟩,
    ⟨none, .store (.tmp 6) (.tmp 61) 2, none⟩,
    ⟨(some 7), .own 62, none⟩] [])
  .ret)) .skip))
  (.seq (.region false [⟨(some 63), .load (.tmp 8) 4 true, none⟩,
    ⟨(some 64), .load (.tmp 9) 4 true, none⟩,
    ⟨(some 65), .callq 35 [.tmp 63, .tmp 64], none⟩,
    ⟨(some 14), .own 65, none⟩] [])
  (.seq (.seq (.region false [⟨(some 66), .mov (.tmp 14), none⟩,
    ⟨(some 67), .bin .geq (.tmp 66) (.cst (.int .i64 0)), none⟩] [])
  (.cond (.tmp 67) (.seq (.region false [⟨(some 68), .load (.tmp 8) 4 true, none⟩,
    ⟨(some 69), .load (.tmp 9) 4 true, none⟩,
    ⟨(some 70), .callq 48 [.tmp 68, .tmp 69], none⟩,
    ⟨(some 15), .alloc [.int .u64 0, .int .u64 0, .int .u64 0, .int .u64 0], none⟩,
    ⟨none, .store (.tmp 15) (.tmp 70) 4, none⟩] [])
  (.seq (.region true [⟨(some 71), .mov (.tmp 11), none⟩,
    ⟨(some 72), .mov (.tmp 71), none⟩,
    ⟨(some 73), .load (.tmp 15) 4 true, (some (72, true))⟩,
    ⟨(some 74), .build [.int .u64 0, .int .u64 0, .int .u64 0, .int .u64 0] [], (some (72, true))⟩,
    ⟨(some 75), .eqagg true [1, 1, 1, 1] (.tmp 73) (.tmp 74), (some (72, true))⟩,
    ⟨(some 76), .pick (.tmp 72) (.tmp 75) (.cst (.bool false)), none⟩,
    ⟨(some 77), .load (.tmp 15) 4 true, none⟩,
    ⟨(some 78), .load (.tmp 10) 4 true, none⟩,
    ⟨(some 79), .callq 32 [.tmp 76, .tmp 77, .tmp 78], none⟩,
    ⟨(some 80), .ext 79 0, none⟩,
    ⟨(some 81), .ext 79 1, none⟩,
    ⟨none, .store (.tmp 6) (.tmp 80) 2, none⟩,
    ⟨(some 7), .own 81, none⟩] [])
  .ret)) .skip))
  (.seq (.region false [⟨(some 82), .load (.tmp 9) 4 true, none⟩,
    ⟨(some 83), .load (.tmp 8) 4 true, none⟩,
    ⟨(some 84), .callq 48 [.tmp 82, .tmp 83], none⟩,
    ⟨(some 16), .alloc [.int .u64 0, .int .u64 0, .int .u64 0, .int .u64 0], none⟩,
    ⟨none, .store (.tmp 16) (.tmp 84) 4, none⟩] [])
  (.seq (.region false [⟨(some 85), .mov (.tmp 12), none⟩,
    ⟨(some 86), .load (.tmp 16) 4 true, none⟩,
    ⟨(some 87), .load (.tmp 10) 4 true, none⟩,
    ⟨(some 88), .callq 32 [.tmp 85, .tmp 86, .tmp 87], none⟩,
    ⟨(some 89), .ext 88 0, none⟩,
    ⟨(some 90), .ext 88 1, none⟩,
    ⟨none, .store (.tmp 6) (.tmp 89) 2, none⟩,
    ⟨(some 7), .own 90, none⟩] [])
  .ret)))))))))))
/-- custos/rat.product -/
def x39 : XFn := XFn.mk 86 [.cell 10 2 true, .tmp 11] (.seq (.region false [⟨(some 10), .alloc [.int .i64 0, .int .i64 0], none⟩,
    ⟨(some 11), .mov (.cst (.int .i64 0)), none⟩] [])
  (.seq (.region false [⟨(some 18), .mov (.tmp 0), none⟩,
    ⟨(some 19), .mov (.tmp 3), none⟩,
    ⟨(some 20), .callq 26 [.tmp 18, .tmp 19], none⟩,
    ⟨(some 21), .mov (.tmp 2), none⟩,
    ⟨(some 22), .mov (.tmp 1), none⟩,
    ⟨(some 23), .callq 26 [.tmp 21, .tmp 22], none⟩,
    ⟨(some 12), .own 20, none⟩,
    ⟨(some 13), .own 23, none⟩] [])
  (.seq (.region true [⟨(some 25), .mov (.tmp 0), none⟩,
    ⟨(some 26), .mov (.tmp 12), none⟩,
    ⟨(some 27), .bin .quo (.tmp 25) (.tmp 26), none⟩,
    ⟨(some 28), .mov (.tmp 2), none⟩,
    ⟨(some 29), .mov (.tmp 13), none⟩,
    ⟨(some 30), .bin .quo (.tmp 28) (.tmp 29), none⟩,
    ⟨(some 31), .callq 42 [.tmp 27, .tmp 30], none⟩,
    ⟨(some 24), .mov (.tmp 31), none⟩,
    ⟨(some 32), .ext 24 0, none⟩,
    ⟨(some 33), .ext 24 1, none⟩,
    ⟨(some 14), .own 32, none⟩,
    ⟨(some 15), .own 33, none⟩] [])
  (.seq (.region true [⟨(some 35), .mov (.tmp 1), none⟩,
    ⟨(some 36), .mov (.tmp 13), none⟩,
    ⟨(some 37), .bin .quo (.tmp 35) (.tmp 36), none⟩,
    ⟨(some 38), .mov (.tmp 3), none⟩,
    ⟨(some 39), .mov (.tmp 12), none⟩,
    ⟨(some 40), .bin .quo (.tmp 38) (.tmp 39), none⟩,
    ⟨(some 41), .callq 42 [.tmp 37, .tmp 40], none⟩,
    ⟨(some 34), .mov (.tmp 41), none⟩,
    ⟨(some 42), .ext 34 0, none⟩,
    ⟨(some 43), .ext 34 1, none⟩,
    ⟨(some 16), .own 42, none⟩,
    ⟨(some 17), .own 43, none⟩] [])
  (.seq (.region false [⟨(some 44), .mov (.tmp 4), none⟩,
    ⟨(some 45), .mov (.tmp 44), none⟩,
    ⟨(some 46), .mov (.tmp 15), (some (45, true))⟩,
    ⟨(some 47), .bin .neq (.tmp 46) (.cst (.int .u64 0)), (some (45, true))⟩,
    ⟨(some 48), .pick (.tmp 45) (.tmp 47) (.cst (.bool false)), none⟩,
    ⟨(some 4), .own 48, none⟩] [])
  (.seq (.seq (.region false [⟨(some 49), .mov (.tmp 14), none⟩,
    ⟨(some 50), .bin .neq (.tmp 49) (.cst (.int .u64 0)), none⟩,
    ⟨(some 51), .mov (.tmp 50), none⟩,
    ⟨(some 52), .mov (.tmp 16), (some (51, false))⟩,
    ⟨(some 53), .bin .neq (.tmp 52) (.cst (.int .u64 0)), (some (51, false))⟩,
    ⟨(some 54), .pick (.tmp 51) (.cst (.bool true)) (.tmp 53), none⟩,
    ⟨(some 55), .mov (.tmp 54), none⟩,
    ⟨(some 56), .mov (.tmp 17), (some (55, false))⟩,
    ⟨(some 57), .bin .gtr (.tmp 56) (.cst (.int .u64 9223372036854775807)), (some (55, false))⟩,
    ⟨(some 58), .pick (.tmp 55) (.cst (.bool true)) (.tmp 57), none⟩,
    ⟨(some 59), .mov (.tmp 58), none⟩,
    ⟨(some 60), .mov (.tmp 15), (some (59, false))⟩,
    ⟨(some 61), .bin .gtr (.tmp 60) (.cst (.int .u64 9223372036854775808)), (some (59, false))⟩,
    ⟨(some 62), .pick (.tmp 59) (.cst (.bool true)) (.tmp 61), none⟩,
    ⟨(some 63), .mov (.tmp 62), none⟩,
    ⟨(some 64), .mov (.tmp 15), (some (63, false))⟩,
    ⟨(some 65), .bin .eql (.tmp 64) (.cst (.int .u64 9223372036854775808)), (some (63, false))⟩,
    ⟨(some 66), .mov (.tmp 65), (some (63, false))⟩,
    ⟨(some 67), .mov (.tmp 4), (some (66, true))⟩,
    ⟨(some 68), .not (.tmp 67), (some (66, true))⟩,
    ⟨(some 69), .pick (.tmp 66) (.tmp 68) (.cst (.bool false)), (some (63, false))⟩,
    ⟨(some 70), .pick (.tmp 63) (.cst (.bool true)) (.tmp 69), none⟩] [])
  (.cond (.tmp 70) (.seq (.region false [⟨(some 71), .build [.int .i64 0, .int .i64 0] [], none⟩,
    ⟨none, .store (.tmp 10) (.tmp 71) 2, none⟩,
    ⟨(some 11), .mov (.cst (.int .i64 10)), none⟩] [])
  .ret) .skip))
  (.seq (.seq (.region false [⟨(some 72), .mov (.tmp 4), none⟩] [])
  (.cond (.tmp 72) (.seq (.region false [⟨(some 73), .mov (.tmp 15), none⟩,
    ⟨(some 74), .bin .sub (.tmp 73) (.cst (.int .u64 1)), none⟩,
    ⟨(some 75), .conv .i64 (.tmp 74), none⟩,
    ⟨(some 76), .neg (.tmp 75), none⟩,
    ⟨(some 77), .bin .sub (.tmp 76) (.cst (.int .i64 1)), none⟩,
    ⟨(some 78), .mov (.tmp 17), none⟩,
    ⟨(some 79), .conv .i64 (.tmp 78), none⟩,
    ⟨(some 80), .build [.int .i64 0, .int .i64 0] [(0, 1, .tmp 77), (1, 1, .tmp 79)], none⟩,
    ⟨none, .store (.tmp 10) (.tmp 80) 2, none⟩,
    ⟨(some 11), .mov (.cst (.int .i64 0)), none⟩] [])
  .ret) .skip))
  (.seq (.region false [⟨(some 81), .mov (.tmp 15), none⟩,
    ⟨(some 82), .conv .i64 (.tmp 81), none⟩,
    ⟨(some 83), .mov (.tmp 17), none⟩,
    ⟨(some 84), .conv .i64 (.tmp 83), none⟩,
    ⟨(some 85), .build [.int .i64 0, .int .i64 0] [(0, 1, .tmp 82), (1, 1, .tmp 84)], none⟩,
    ⟨none, .store (.tmp 10) (.tmp 85) 2, none⟩,
    ⟨(some 11), .mov (.cst (.int .i64 0)), none⟩] [])
  .ret))))))))
def x40_l0 : XCode := .seq (.seq (.region false [⟨(some 67), .mov (.tmp 15), none⟩,
    ⟨(some 68), .bin .geq (.tmp 67) (.cst (.int .u64 4294967296)), none⟩,
    ⟨(some 69), .mov (.tmp 68), none⟩,
    ⟨(some 70), .mov (.tmp 15), (some (69, false))⟩,
    ⟨(some 71), .mov (.tmp 10), (some (69, false))⟩,
    ⟨(some 72), .bin .mul (.tmp 70) (.tmp 71), (some (69, false))⟩,
    ⟨(some 73), .mov (.tmp 16), (some (69, false))⟩,
    ⟨(some 74), .bin .mul (.cst (.int .u64 4294967296)) (.tmp 73), (some (69, false))⟩,
    ⟨(some 75), .mov (.tmp 13), (some (69, false))⟩,
    ⟨(some 76), .bin .add (.tmp 74) (.tmp 75), (some (69, false))⟩,
    ⟨(some 77), .bin .gtr (.tmp 72) (.tmp 76), (some (69, false))⟩,
    ⟨(some 78), .pick (.tmp 69) (.cst (.bool true)) (.tmp 77), none⟩] [])
  (.cond (.tmp 78) .skip (.exit 0)))
  (.block 1 (.seq (.region false [⟨(some 79), .mov (.tmp 15), none⟩,
    ⟨(some 80), .bin .sub (.tmp 79) (.cst (.int .u64 1)), none⟩,
    ⟨(some 15), .own 80, none⟩] [])
  (.seq (.region false [⟨(some 81), .mov (.tmp 16), none⟩,
    ⟨(some 82), .mov (.tmp 9), none⟩,
    ⟨(some 83), .bin .add (.tmp 81) (.tmp 82), none⟩,
    ⟨(some 16), .own 83, none⟩] [])
  (.seq (.region false [⟨(some 84), .mov (.tmp 16), none⟩,
    ⟨(some 85), .bin .geq (.tmp 84) (.cst (.int .u64 4294967296)), none⟩] [])
  (.cond (.tmp 85) (.exit 0) .skip)))))
def x40_l1 : XCode := .seq (.seq (.region false [⟨(some 102), .mov (.tmp 18), none⟩,
    ⟨(some 103), .bin .geq (.tmp 102) (.cst (.int .u64 4294967296)), none⟩,
    ⟨(some 104), .mov (.tmp 103), none⟩,
    ⟨(some 105), .mov (.tmp 18), (some (104, false))⟩,
    ⟨(some 106), .mov (.tmp 10), (some (104, false))⟩,
    ⟨(some 107), .bin .mul (.tmp 105) (.tmp 106), (some (104, false))⟩,
    ⟨(some 108), .mov (.tmp 16), (some (104, false))⟩,
    ⟨(some 109), .bin .mul (.cst (.int .u64 4294967296)) (.tmp 108), (some (104, false))⟩,
    ⟨(some 110), .mov (.tmp 14), (some (104, false))⟩,
    ⟨(some 111), .bin .add (.tmp 109) (.tmp 110), (some (104, false))⟩,
    ⟨(some 112), .bin .gtr (.tmp 107) (.tmp 111), (some (104, false))⟩,
    ⟨(some 113), .pick (.tmp 104) (.cst (.bool true)) (.tmp 112), none⟩] [])
  (.cond (.tmp 113) .skip (.exit 2)))
  (.block 3 (.seq (.region false [⟨(some 114), .mov (.tmp 18), none⟩,
    ⟨(some 115), .bin .sub (.tmp 114) (.cst (.int .u64 1)), none⟩,
    ⟨(some 18), .own 115, none⟩] [])
  (.seq (.region false [⟨(some 116), .mov (.tmp 16), none⟩,
    ⟨(some 117), .mov (.tmp 9), none⟩,
    ⟨(some 118), .bin .add (.tmp 116) (.tmp 117), none⟩,
    ⟨(some 16), .own 118, none⟩] [])
  (.seq (.region false [⟨(some 119), .mov (.tmp 16), none⟩,
    ⟨(some 120), .bin .geq (.tmp 119) (.cst (.int .u64 4294967296)), none⟩] [])
  (.cond (.tmp 120) (.exit 2) .skip)))))
/-- math/bits.Div64 -/
def x40 : XFn := XFn.mk 135 [.tmp 6, .tmp 7] (.seq (.region false [⟨(some 6), .mov (.cst (.int .u64 0)), none⟩,
    ⟨(some 7), .mov (.cst (.int .u64 0)), none⟩] [])
  (.seq (.seq (.region false [⟨(some 19), .mov (.tmp 2), none⟩,
    ⟨(some 20), .bin .eql (.tmp 19) (.cst (.int .u64 0)), none⟩] [])
  (.cond (.tmp 20) (.region false [⟨(some 21), .load (.glob 0) 1 false, none⟩,
    ⟨none, .stop, none⟩] []) .skip))
  (.seq (.seq (.region false [⟨(some 22), .mov (.tmp 2), none⟩,
    ⟨(some 23), .mov (.tmp 0), none⟩,
    ⟨(some 24), .bin .leq (.tmp 22) (.tmp 23), none⟩] [])
  (.cond (.tmp 24) (.region false [⟨(some 25), .load (.glob 1) 1 false, none⟩,
    ⟨none, .stop, none⟩] []) .skip))
  (.seq (.seq (.region false [⟨(some 26), .mov (.tmp 0), none⟩,
    ⟨(some 27), .bin .eql (.tmp 26) (.cst (.int .u64 0)), none⟩] [])
  (.cond (.tmp 27) (.seq (.region true [⟨(some 28), .mov (.tmp 1), none⟩,
    ⟨(some 29), .mov (.tmp 2), none⟩,
    ⟨(some 30), .bin .quo (.tmp 28) (.tmp 29), none⟩,
    ⟨(some 31), .mov (.tmp 1), none⟩,
    ⟨(some 32), .mov (.tmp 2), none⟩,
    ⟨(some 33), .bin .rem (.tmp 31) (.tmp 32), none⟩,
    ⟨(some 6), .own 30, none⟩,
    ⟨(some 7), .own 33, none⟩] [])
  .ret) .skip))
  (.seq (.region false [⟨(some 34), .mov (.tmp 2), none⟩,
    ⟨(some 35), .callq 49 [.tmp 34], none⟩,
    ⟨(some 36), .conv .u64 (.tmp 35), none⟩,
    ⟨(some 8), .own 36, none⟩] [])
  (.seq (.region false [⟨(some 37), .mov (.tmp 2), none⟩,
    ⟨(some 38), .mov (.tmp 8), none⟩,
    ⟨(some 39), .bin .shl (.tmp 37) (.tmp 38), none⟩,
    ⟨(some 2), .own 39, none⟩] [])
  (.seq (.region false [⟨(some 40), .mov (.tmp 2), none⟩,
    ⟨(some 41), .bin .shr (.tmp 40) (.cst (.int .u64 32)), none⟩,
    ⟨(some 9), .own 41, none⟩] [])
  (.seq (.region false [⟨(some 42), .mov (.tmp 2), none⟩,
    ⟨(some 43), .bin .and (.tmp 42) (.cst (.int .u64 4294967295)), none⟩,
    ⟨(some 10), .own 43, none⟩] [])
  (.seq (.region false [⟨(some 44), .mov (.tmp 0), none⟩,
    ⟨(some 45), .mov (.tmp 8), none⟩,
    ⟨(some 46), .bin .shl (.tmp 44) (.tmp 45), none⟩,
    ⟨(some 47), .mov (.tmp 1), none⟩,
    ⟨(some 48), .mov (.tmp 8), none⟩,
    ⟨(some 49), .bin .sub (.cst (.int .u64 64)) (.tmp 48), none⟩,
    ⟨(some 50), .bin .shr (.tmp 47) (.tmp 49), none⟩,
    ⟨(some 51), .bin .or (.tmp 46) (.tmp 50), none⟩,
    ⟨(some 11), .own 51, none⟩] [])
  (.seq (.region false [⟨(some 52), .mov (.tmp 1), none⟩,
    ⟨(some 53), .mov (.tmp 8), none⟩,
    ⟨(some 54), .bin .shl (.tmp 52) (.tmp 53), none⟩,
    ⟨(some 12), .own 54, none⟩] [])
  (.seq (.region false [⟨(some 55), .mov (.tmp 12), none⟩,
    ⟨(some 56), .bin .shr (.tmp 55) (.cst (.int .u64 32)), none⟩,
    ⟨(some 13), .own 56, none⟩] [])
  (.seq (.region false [⟨(some 57), .mov (.tmp 12), none⟩,
    ⟨(some 58), .bin .and (.tmp 57) (.cst (.int .u64 4294967295)), none⟩,
    ⟨(some 14), .own 58, none⟩] [])
  (.seq (.region false [⟨(some 59), .mov (.tmp 11), none⟩,
    ⟨(some 60), .mov (.tmp 9), none⟩,
    ⟨(some 61), .bin .quo (.tmp 59) (.tmp 60), none⟩,
    ⟨(some 15), .own 61, none⟩] [])
  (.seq (.region false [⟨(some 62), .mov (.tmp 11), none⟩,
    ⟨(some 63), .mov (.tmp 15), none⟩,
    ⟨(some 64), .mov (.tmp 9), none⟩,
    ⟨(some 65), .bin .mul (.tmp 63) (.tmp 64), none⟩,
    ⟨(some 66), .bin .sub (.tmp 62) (.tmp 65), none⟩,
    ⟨(some 16), .own 66, none⟩] [])
  (.seq (.block 0 (.loop x40_l0))
  (.seq (.region false [⟨(some 86), .mov (.tmp 11), none⟩,
    ⟨(some 87), .bin .mul (.tmp 86) (.cst (.int .u64 4294967296)), none⟩,
    ⟨(some 88), .mov (.tmp 13), none⟩,
    ⟨(some 89), .bin .add (.tmp 87) (.tmp 88), none⟩,
    ⟨(some 90), .mov (.tmp 15), none⟩,
    ⟨(some 91), .mov (.tmp 2), none⟩,
    ⟨(some 92), .bin .mul (.tmp 90) (.tmp 91), none⟩,
    ⟨(some 93), .bin .sub (.tmp 89) (.tmp 92), none⟩,
    ⟨(some 17), .own 93, none⟩] [])
  (.seq (.region false [⟨(some 94), .mov (.tmp 17), none⟩,
    ⟨(some 95), .mov (.tmp 9), none⟩,
    ⟨(some 96), .bin .quo (.tmp 94) (.tmp 95), none⟩,
    ⟨(some 18), .own 96, none⟩] [])
  (.seq (.region false [⟨(some 97), .mov (.tmp 17), none⟩,
    ⟨(some 98), .mov (.tmp 18), none⟩,
    ⟨(some 99), .mov (.tmp 9), none⟩,
    ⟨(some 100), .bin .mul (.tmp 98) (.tmp 99), none⟩,
    ⟨(some 101), .bin .sub (.tmp 97) (.tmp 100), none⟩,
    ⟨(some 16), .own 101, none⟩] [])
  (.seq (.block 2 (.loop x40_l1))
  (.seq (.region false [⟨(some 121), .mov (.tmp 15), none⟩,
    ⟨(some 122), .bin .mul (.tmp 121) (.cst (.int .u64 4294967296)), none⟩,
    ⟨(some 123), .mov (.tmp 18), none⟩,
    ⟨(some 124), .bin .add (.tmp 122) (.tmp 123), none⟩,
    ⟨(some 125), .mov (.tmp 17), none⟩,
    ⟨(some 126), .bin .mul (.tmp 125) (.cst (.int .u64 4294967296)), none⟩,
    ⟨(some 127), .mov (.tmp 14), none⟩,
    ⟨(some 128), .bin .add (.tmp 126) (.tmp 127), none⟩,
    ⟨(some 129), .mov (.tmp 18), none⟩,
    ⟨(some 130), .mov (.tmp 2), none⟩,
    ⟨(some 131), .bin .mul (.tmp 129) (.tmp 130), none⟩,
    ⟨(some 132), .bin .sub (.tmp 128) (.tmp 131), none⟩,
    ⟨(some 133), .mov (.tmp 8), none⟩,
    ⟨(some 134), .bin .shr (.tmp 132) (.tmp 133), none⟩,
    ⟨(some 6), .own 124, none⟩,
    ⟨(some 7), .own 134, none⟩] [])
  .ret))))))))))))))))))))
/-- (custos/rat.wide).over -/
def x41 : XFn := XFn.mk 45 [.tmp 4, .tmp 5] (.seq (.region false [⟨(some 2), .box (.tmp 0) 3, none⟩,
    ⟨(some 4), .mov (.cst (.int .i64 0)), none⟩,
    ⟨(some 5), .mov (.cst (.bool false)), none⟩] [])
  (.seq (.seq (.region false [⟨(some 8), .faddr (.tmp 2) 0, none⟩,
    ⟨(some 9), .load (.tmp 8) 1 false, none⟩,
    ⟨(some 10), .mov (.tmp 1), none⟩,
    ⟨(some 11), .bin .geq (.tmp 9) (.tmp 10), none⟩] [])
  (.cond (.tmp 11) (.seq (.region false [⟨(some 4), .mov (.cst (.int .i64 0)), none⟩,
    ⟨(some 5), .mov (.cst (.bool false)), none⟩] [])
  .ret) .skip))
  (.seq (.region false [⟨(some 13), .faddr (.tmp 2) 0, none⟩,
    ⟨(some 14), .load (.tmp 13) 1 false, none⟩,
    ⟨(some 15), .faddr (.tmp 2) 1, none⟩,
    ⟨(some 16), .load (.tmp 15) 1 false, none⟩,
    ⟨(some 17), .mov (.tmp 1), none⟩,
    ⟨(some 18), .callq 40 [.tmp 14, .tmp 16, .tmp 17], none⟩,
    ⟨(some 12), .mov (.tmp 18), none⟩,
    ⟨(some 19), .ext 12 0, none⟩,
    ⟨(some 20), .ext 12 1, none⟩,
    ⟨(some 6), .own 19, none⟩,
    ⟨(some 7), .own 20, none⟩] [])
  (.seq (.block 0 (.seq (.region false [⟨(some 22), .faddr (.tmp 2) 2, none⟩,
    ⟨(some 23), .load (.tmp 22) 1 false, none⟩,
    ⟨(some 24), .mov (.tmp 23), none⟩,
    ⟨(some 25), .mov (.tmp 6), (some (24, true))⟩,
    ⟨(some 26), .bin .leq (.tmp 25) (.cst (.int .u64 9223372036854775808)), (some (24, true))⟩,
    ⟨(some 27), .pick (.tmp 24) (.tmp 26) (.cst (.bool false)), none⟩,
    ⟨(some 21), .own 27, none⟩] [])
  (.cond (.tmp 21) (.seq (.region false [⟨(some 28), .mov (.tmp 6), none⟩,
    ⟨(some 29), .bin .sub (.tmp 28) (.cst (.int .u64 1)), none⟩,
    ⟨(some 30), .conv .i64 (.tmp 29), none⟩,
    ⟨(some 31), .neg (.tmp 30), none⟩,
    ⟨(some 32), .bin .sub (.tmp 31) (.cst (.int .i64 1)), none⟩,
    ⟨(some 4), .own 32, none⟩,
    ⟨(some 5), .mov (.cst (.bool true)), none⟩] [])
  .ret) (.seq (.region false [⟨(some 34), .mov (.tmp 6), none⟩,
    ⟨(some 35), .bin .leq (.tmp 34) (.cst (.int .u64 9223372036854775807)), none⟩,
    ⟨(some 33), .own 35, none⟩] [])
  (.cond (.tmp 33) (.seq (.region false [⟨(some 36), .mov (.tmp 6), none⟩,
    ⟨(some 37), .conv .i64 (.tmp 36), none⟩,
    ⟨(some 38), .faddr (.tmp 2) 2, none⟩,
    ⟨(some 39), .load (.tmp 38) 1 false, none⟩,
    ⟨(some 40), .not (.tmp 39), none⟩,
    ⟨(some 41), .mov (.tmp 40), none⟩,
    ⟨(some 42), .mov (.tmp 6), (some (41, false))⟩,
    ⟨(some 43), .bin .eql (.tmp 42) (.cst (.int .u64 0)), (some (41, false))⟩,
    ⟨(some 44), .pick (.tmp 41) (.cst (.bool true)) (.tmp 43), none⟩,
    ⟨(some 4), .own 37, none⟩,
    ⟨(some 5), .own 44, none⟩] [])
  .ret) .skip)))))
  (.seq (.region false [⟨(some 4), .mov (.cst (.int .i64 0)), none⟩,
    ⟨(some 5), .mov (.cst (.bool false)), none⟩] [])
  .ret)))))
/-- math/bits.Mul64 -/
def x42 : XFn := XFn.mk 51 [.tmp 4, .tmp 5] (.seq (.region false [⟨(some 4), .mov (.cst (.int .u64 0)), none⟩,
    ⟨(some 5), .mov (.cst (.int .u64 0)), none⟩] [])
  (.seq (.region false [⟨(some 14), .mov (.tmp 0), none⟩,
    ⟨(some 15), .bin .and (.tmp 14) (.cst (.int .u64 4294967295)), none⟩,
    ⟨(some 6), .own 15, none⟩] [])
  (.seq (.region false [⟨(some 16), .mov (.tmp 0), none⟩,
    ⟨(some 17), .bin .shr (.tmp 16) (.cst (.int .u64 32)), none⟩,
    ⟨(some 7), .own 17, none⟩] [])
  (.seq (.region false [⟨(some 18), .mov (.tmp 1), none⟩,
    ⟨(some 19), .bin .and (.tmp 18) (.cst (.int .u64 4294967295)), none⟩,
    ⟨(some 8), .own 19, none⟩] [])
  (.seq (.region false [⟨(some 20), .mov (.tmp 1), none⟩,
    ⟨(some 21), .bin .shr (.tmp 20) (.cst (.int .u64 32)), none⟩,
    ⟨(some 9), .own 21, none⟩] [])
  (.seq (.region false [⟨(some 22), .mov (.tmp 6), none⟩,
    ⟨(some 23), .mov (.tmp 8), none⟩,
    ⟨(some 24), .bin .mul (.tmp 22) (.tmp 23), none⟩,
    ⟨(some 10), .own 24, none⟩] [])
  (.seq (.region false [⟨(some 25), .mov (.tmp 7), none⟩,
    ⟨(some 26), .mov (.tmp 8), none⟩,
    ⟨(some 27), .bin .mul (.tmp 25) (.tmp 26), none⟩,
    ⟨(some 28), .mov (.tmp 10), none⟩,
    ⟨(some 29), .bin .shr (.tmp 28) (.cst (.int .u64 32)), none⟩,
    ⟨(some 30), .bin .add (.tmp 27) (.tmp 29), none⟩,
    ⟨(some 11), .own 30, none⟩] [])
  (.seq (.region false [⟨(some 31), .mov (.tmp 11), none⟩,
    ⟨(some 32), .bin .and (.tmp 31) (.cst (.int .u64 4294967295)), none⟩,
    ⟨(some 12), .own 32, none⟩] [])
  (.seq (.region false [⟨(some 33), .mov (.tmp 11), none⟩,
    ⟨(some 34), .bin .shr (.tmp 33) (.cst (.int .u64 32)), none⟩,
    ⟨(some 13), .own 34, none⟩] [])
  (.seq (.region false [⟨(some 35), .mov (.tmp 12), none⟩,
    ⟨(some 36), .mov (.tmp 6), none⟩,
    ⟨(some 37), .mov (.tmp 9), none⟩,
    ⟨(some 38), .bin .mul (.tmp 36) (.tmp 37), none⟩,
    ⟨(some 39), .bin .add (.tmp 35) (.tmp 38), none⟩,
    ⟨(some 12), .own 39, none⟩] [])
  (.seq (.region false [⟨(some 40), .mov (.tmp 7), none⟩,
    ⟨(some 41), .mov (.tmp 9), none⟩,
    ⟨(some 42), .bin .mul (.tmp 40) (.tmp 41), none⟩,
    ⟨(some 43), .mov (.tmp 13), none⟩,
    ⟨(some 44), .bin .add (.tmp 42) (.tmp 43), none⟩,
    ⟨(some 45), .mov (.tmp 12), none⟩,
    ⟨(some 46), .bin .shr (.tmp 45) (.cst (.int .u64 32)), none⟩,
    ⟨(some 47), .bin .add (.tmp 44) (.tmp 46), none⟩,
    ⟨(some 4), .own 47, none⟩] [])
  (.seq (.region false [⟨(some 48), .mov (.tmp 0), none⟩,
    ⟨(some 49), .mov (.tmp 1), none⟩,
    ⟨(some 50), .bin .mul (.tmp 48) (.tmp 49), none⟩,
    ⟨(some 5), .own 50, none⟩] [])
  .ret))))))))))))
def x43_l0 : XCode := .seq (.seq (.region false [⟨(some 9), .load (.tmp 3) 4 true, none⟩,
    ⟨(some 10), .load (.tmp 5) 4 true, none⟩,
    ⟨(some 11), .eqagg true [1, 1, 1, 1] (.tmp 9) (.tmp 10), none⟩] [])
  (.cond (.tmp 11) .skip (.exit 0)))
  (.block 1 (.seq (.region false [⟨(some 13), .load (.tmp 2) 4 true, none⟩,
    ⟨(some 14), .load (.tmp 3) 4 true, none⟩,
    ⟨(some 15), .callq 44 [.tmp 13, .tmp 14], none⟩,
    ⟨(some 12), .mov (.tmp 15), none⟩,
    ⟨(some 16), .ext 12 0, none⟩,
    ⟨(some 17), .ext 12 1, none⟩,
    ⟨(some 6), .alloc [.int .u64 0, .int .u64 0, .int .u64 0, .int .u64 0], none⟩,
    ⟨(some 7), .alloc [.int .u64 0, .int .u64 0, .int .u64 0, .int .u64 0], none⟩,
    ⟨none, .store (.tmp 6) (.tmp 16) 4, none⟩,
    ⟨none, .store (.tmp 7) (.tmp 17) 4, none⟩] [])
  (.seq (.region false [⟨(some 18), .load (.tmp 3) 4 true, none⟩,
    ⟨none, .store (.tmp 2) (.tmp 18) 4, none⟩] [])
  (.region false [⟨(some 19), .load (.tmp 7) 4 true, none⟩,
    ⟨none, .store (.tmp 3) (.tmp 19) 4, none⟩] []))))
/-- custos/custosref01.common -/
def x43 : XFn := XFn.mk 21 [.cell 4 4 true] (.seq (.region false [⟨(some 2), .box (.tmp 0) 4, none⟩,
    ⟨(some 3), .box (.tmp 1) 4, none⟩,
    ⟨(some 4), .alloc [.int .u64 0, .int .u64 0, .int .u64 0, .int .u64 0], none⟩] [])
  (.seq (.region false [⟨(some 8), .build [.int .u64 0, .int .u64 0, .int .u64 0, .int .u64 0] [], none⟩,
    ⟨(some 5), .alloc [.int .u64 0, .int .u64 0, .int .u64 0, .int .u64 0], none⟩,
    ⟨none, .store (.tmp 5) (.tmp 8) 4, none⟩] [])
  (.seq (.block 0 (.loop x43_l0))
  (.seq (.region false [⟨(some 20), .load (.tmp 2) 4 true, none⟩,
    ⟨none, .store (.tmp 4) (.tmp 20) 4, none⟩] [])
  .ret))))
def x44_l0 : XCode := .seq (.seq (.region false [⟨(some 10), .mov (.tmp 8), none⟩,
    ⟨(some 11), .bin .geq (.tmp 10) (.cst (.int .i64 0)), none⟩] [])
  (.cond (.tmp 11) .skip (.exit 0)))
  (.seq (.block 1 (.seq (.region false [⟨(some 14), .load (.tmp 7) 4 true, none⟩,
    ⟨(some 15), .load (.tmp 7) 4 true, none⟩,
    ⟨(some 16), .callq 47 [.tmp 14, .tmp 15], none⟩,
    ⟨none, .store (.tmp 7) (.tmp 16) 4, none⟩] [])
  (.seq (.region true [⟨(some 17), .faddr (.tmp 7) 0, none⟩,
    ⟨(some 18), .iarr 4 1 (.tmp 17) (.cst (.int .i64 0)), none⟩,
    ⟨(some 19), .load (.tmp 18) 1 false, none⟩,
    ⟨(some 20), .mov (.tmp 8), none⟩,
    ⟨(some 21), .bin .quo (.tmp 20) (.cst (.int .i64 32)), none⟩,
    ⟨(some 22), .faddr (.tmp 2) 0, none⟩,
    ⟨(some 23), .iarr 4 1 (.tmp 22) (.tmp 21), none⟩,
    ⟨(some 24), .load (.tmp 23) 1 false, none⟩,
    ⟨(some 25), .mov (.tmp 8), none⟩,
    ⟨(some 26), .bin .rem (.tmp 25) (.cst (.int .i64 32)), none⟩,
    ⟨(some 27), .conv .u64 (.tmp 26), none⟩,
    ⟨(some 28), .bin .shr (.tmp 24) (.tmp 27), none⟩,
    ⟨(some 29), .bin .rem (.tmp 28) (.cst (.int .u64 2)), none⟩,
    ⟨(some 30), .bin .add (.tmp 19) (.tmp 29), none⟩,
    ⟨(some 31), .faddr (.tmp 7) 0, none⟩,
    ⟨(some 32), .iarr 4 1 (.tmp 31) (.cst (.int .i64 0)), none⟩,
    ⟨none, .store (.tmp 32) (.tmp 30) 1, none⟩] [])
  (.seq (.region false [⟨(some 33), .load (.tmp 7) 4 true, none⟩,
    ⟨(some 34), .load (.tmp 3) 4 true, none⟩,
    ⟨(some 35), .callq 35 [.tmp 33, .tmp 34], none⟩,
    ⟨(some 9), .own 35, none⟩] [])
  (.seq (.region false [⟨(some 36), .mov (.tmp 9), none⟩,
    ⟨(some 37), .bin .geq (.tmp 36) (.cst (.int .i64 0)), none⟩] [])
  (.cond (.tmp 37) (.seq (.region false [⟨(some 38), .load (.tmp 7) 4 true, none⟩,
    ⟨(some 39), .load (.tmp 3) 4 true, none⟩,
    ⟨(some 40), .callq 48 [.tmp 38, .tmp 39], none⟩,
    ⟨none, .store (.tmp 7) (.tmp 40) 4, none⟩] [])
  (.region false [⟨(some 41), .mov (.tmp 8), none⟩,
    ⟨(some 42), .bin .quo (.tmp 41) (.cst (.int .i64 32)), none⟩,
    ⟨(some 43), .mov (.tmp 8), none⟩,
    ⟨(some 44), .bin .quo (.tmp 43) (.cst (.int .i64 32)), none⟩,
    ⟨(some 45), .faddr (.tmp 6) 0, none⟩,
    ⟨(some 46), .iarr 4 1 (.tmp 45) (.tmp 44), none⟩,
    ⟨(some 47), .load (.tmp 46) 1 false, none⟩,
    ⟨(some 48), .mov (.tmp 8), none⟩,
    ⟨(some 49), .bin .rem (.tmp 48) (.cst (.int .i64 32)), none⟩,
    ⟨(some 50), .conv .u64 (.tmp 49), none⟩,
    ⟨(some 51), .bin .shl (.cst (.int .u64 1)) (.tmp 50), none⟩,
    ⟨(some 52), .bin .add (.tmp 47) (.tmp 51), none⟩,
    ⟨(some 53), .faddr (.tmp 6) 0, none⟩,
    ⟨(some 54), .iarr 4 1 (.tmp 53) (.tmp 42), none⟩,
    ⟨none, .store (.tmp 54) (.tmp 52) 1, none⟩] [])) .skip))))))
  (.region false [⟨(some 12), .mov (.tmp 8), none⟩,
    ⟨(some 13), .bin .sub (.tmp 12) (.cst (.int .i64 1)), none⟩,
    ⟨(some 8), .own 13, none⟩] []))
/-- custos/custosref01.divided -/
def x44 : XFn := XFn.mk 57 [.cell 4 4 true, .cell 5 4 true] (.seq (.region false [⟨(some 2), .box (.tmp 0) 4, none⟩,
    ⟨(some 3), .box (.tmp 1) 4, none⟩,
    ⟨(some 4), .alloc [.int .u64 0, .int .u64 0, .int .u64 0, .int .u64 0], none⟩,
    ⟨(some 5), .alloc [.int .u64 0, .int .u64 0, .int .u64 0, .int .u64 0], none⟩] [])
  (.seq (.region false [⟨(some 6), .alloc [.int .u64 0, .int .u64 0, .int .u64 0, .int .u64 0], none⟩] [])
  (.seq (.region false [⟨(some 7), .alloc [.int .u64 0, .int .u64 0, .int .u64 0, .int .u64 0], none⟩] [])
  (.seq (.seq (.region false [⟨(some 8), .mov (.cst (.int .i64 127)), none⟩] [])
  (.block 0 (.loop x44_l0)))
  (.seq (.region true [⟨(some 55), .load (.tmp 6) 4 true, none⟩,
    ⟨(some 56), .load (.tmp 7) 4 true, none⟩,
    ⟨none, .store (.tmp 4) (.tmp 55) 4, none⟩,
    ⟨none, .store (.tmp 5) (.tmp 56) 4, none⟩] [(7, 4)])
  .ret)))))
def x47_l0 : XCode := .seq (.seq (.region false [⟨(some 9), .mov (.tmp 7), none⟩,
    ⟨(some 10), .bin .lss (.tmp 9) (.cst (.int .i64 4)), none⟩] [])
  (.cond (.tmp 10) .skip (.exit 0)))
  (.seq (.block 1 (.seq (.region true [⟨(some 13), .mov (.tmp 7), none⟩,
    ⟨(some 14), .faddr (.tmp 2) 0, none⟩,
    ⟨(some 15), .iarr 4 1 (.tmp 14) (.tmp 13), none⟩,
    ⟨(some 16), .load (.tmp 15) 1 false, none⟩,
    ⟨(some 17), .mov (.tmp 7), none⟩,
    ⟨(some 18), .faddr (.tmp 3) 0, none⟩,
    ⟨(some 19), .iarr 4 1 (.tmp 18) (.tmp 17), none⟩,
    ⟨(some 20), .load (.tmp 19) 1 false, none⟩,
    ⟨(some 21), .bin .add (.tmp 16) (.tmp 20), none⟩,
    ⟨(some 22), .mov (.tmp 6), none⟩,
    ⟨(some 23), .bin .add (.tmp 21) (.tmp 22), none⟩,
    ⟨(some 8), .own 23, none⟩] [])
  (.seq (.region false [⟨(some 24), .mov (.tmp 7), none⟩,
    ⟨(some 25), .mov (.tmp 8), none⟩,
    ⟨(some 26), .bin .rem (.tmp 25) (.cst (.int .u64 4294967296)), none⟩,
    ⟨(some 27), .faddr (.tmp 5) 0, none⟩,
    ⟨(some 28), .iarr 4 1 (.tmp 27) (.tmp 24), none⟩,
    ⟨none, .store (.tmp 28) (.tmp 26) 1, none⟩] [])
  (.region false [⟨(some 29), .mov (.tmp 8), none⟩,
    ⟨(some 30), .bin .quo (.tmp 29) (.cst (.int .u64 4294967296)), none⟩,
    ⟨(some 6), .own 30, none⟩] []))))
  (.region false [⟨(some 11), .mov (.tmp 7), none⟩,
    ⟨(some 12), .bin .add (.tmp 11) (.cst (.int .i64 1)), none⟩,
    ⟨(some 7), .own 12, none⟩] []))
/-- custos/custosref01.plus -/
def x47 : XFn := XFn.mk 32 [.cell 4 4 true] (.seq (.region false [⟨(some 2), .box (.tmp 0) 4, none⟩,
    ⟨(some 3), .box (.tmp 1) 4, none⟩,
    ⟨(some 4), .alloc [.int .u64 0, .int .u64 0, .int .u64 0, .int .u64 0], none⟩] [])
  (.seq (.region false [⟨(some 5), .alloc [.int .u64 0, .int .u64 0, .int .u64 0, .int .u64 0], none⟩] [])
  (.seq (.region false [⟨(some 6), .mov (.cst (.int .u64 0)), none⟩] [])
  (.seq (.seq (.region false [⟨(some 7), .mov (.cst (.int .i64 0)), none⟩] [])
  (.block 0 (.loop x47_l0)))
  (.seq (.region false [⟨(some 31), .load (.tmp 5) 4 true, none⟩,
    ⟨none, .store (.tmp 4) (.tmp 31) 4, none⟩] [])
  .ret)))))
def x48_l0 : XCode := .seq (.seq (.region false [⟨(some 9), .mov (.tmp 7), none⟩,
    ⟨(some 10), .bin .lss (.tmp 9) (.cst (.int .i64 4)), none⟩] [])
  (.cond (.tmp 10) .skip (.exit 0)))
  (.seq (.block 1 (.seq (.region true [⟨(some 13), .mov (.tmp 7), none⟩,
    ⟨(some 14), .faddr (.tmp 2) 0, none⟩,
    ⟨(some 15), .iarr 4 1 (.tmp 14) (.tmp 13), none⟩,
    ⟨(some 16), .load (.tmp 15) 1 false, none⟩,
    ⟨(some 17), .bin .add (.tmp 16) (.cst (.int .u64 4294967296)), none⟩,
    ⟨(some 18), .mov (.tmp 7), none⟩,
    ⟨(some 19), .faddr (.tmp 3) 0, none⟩,
    ⟨(some 20), .iarr 4 1 (.tmp 19) (.tmp 18), none⟩,
    ⟨(some 21), .load (.tmp 20) 1 false, none⟩,
    ⟨(some 22), .bin .sub (.tmp 17) (.tmp 21), none⟩,
    ⟨(some 23), .mov (.tmp 6), none⟩,
    ⟨(some 24), .bin .sub (.tmp 22) (.tmp 23), none⟩,
    ⟨(some 8), .own 24, none⟩] [])
  (.seq (.region false [⟨(some 25), .mov (.tmp 7), none⟩,
    ⟨(some 26), .mov (.tmp 8), none⟩,
    ⟨(some 27), .bin .rem (.tmp 26) (.cst (.int .u64 4294967296)), none⟩,
    ⟨(some 28), .faddr (.tmp 5) 0, none⟩,
    ⟨(some 29), .iarr 4 1 (.tmp 28) (.tmp 25), none⟩,
    ⟨none, .store (.tmp 29) (.tmp 27) 1, none⟩] [])
  (.region false [⟨(some 30), .mov (.tmp 8), none⟩,
    ⟨(some 31), .bin .quo (.tmp 30) (.cst (.int .u64 4294967296)), none⟩,
    ⟨(some 32), .bin .sub (.cst (.int .u64 1)) (.tmp 31), none⟩,
    ⟨(some 6), .own 32, none⟩] []))))
  (.region false [⟨(some 11), .mov (.tmp 7), none⟩,
    ⟨(some 12), .bin .add (.tmp 11) (.cst (.int .i64 1)), none⟩,
    ⟨(some 7), .own 12, none⟩] []))
/-- custos/custosref01.less -/
def x48 : XFn := XFn.mk 34 [.cell 4 4 true] (.seq (.region false [⟨(some 2), .box (.tmp 0) 4, none⟩,
    ⟨(some 3), .box (.tmp 1) 4, none⟩,
    ⟨(some 4), .alloc [.int .u64 0, .int .u64 0, .int .u64 0, .int .u64 0], none⟩] [])
  (.seq (.region false [⟨(some 5), .alloc [.int .u64 0, .int .u64 0, .int .u64 0, .int .u64 0], none⟩] [])
  (.seq (.region false [⟨(some 6), .mov (.cst (.int .u64 0)), none⟩] [])
  (.seq (.seq (.region false [⟨(some 7), .mov (.cst (.int .i64 0)), none⟩] [])
  (.block 0 (.loop x48_l0)))
  (.seq (.region false [⟨(some 33), .load (.tmp 5) 4 true, none⟩,
    ⟨none, .store (.tmp 4) (.tmp 33) 4, none⟩] [])
  .ret)))))
/-- math/bits.LeadingZeros64 -/
def x49 : XFn := XFn.mk 6 [.tmp 2] (.seq (.region false [⟨(some 2), .mov (.cst (.int .i64 0)), none⟩] [])
  (.seq (.region false [⟨(some 3), .mov (.tmp 0), none⟩,
    ⟨(some 4), .callq 50 [.tmp 3], none⟩,
    ⟨(some 5), .bin .sub (.cst (.int .i64 64)) (.tmp 4), none⟩,
    ⟨(some 2), .own 5, none⟩] [])
  .ret))
/-- math/bits.Len64 -/
def x50 : XFn := XFn.mk 25 [.tmp 2] (.seq (.region false [⟨(some 2), .mov (.cst (.int .i64 0)), none⟩] [])
  (.seq (.seq (.region false [⟨(some 3), .mov (.tmp 0), none⟩,
    ⟨(some 4), .bin .geq (.tmp 3) (.cst (.int .u64 4294967296)), none⟩] [])
  (.cond (.tmp 4) (.seq (.region false [⟨(some 5), .mov (.tmp 0), none⟩,
    ⟨(some 6), .bin .shr (.tmp 5) (.cst (.int .u64 32)), none⟩,
    ⟨(some 0), .own 6, none⟩] [])
  (.region false [⟨(some 2), .mov (.cst (.int .i64 32)), none⟩] [])) .skip))
  (.seq (.seq (.region false [⟨(some 7), .mov (.tmp 0), none⟩,
    ⟨(some 8), .bin .geq (.tmp 7) (.cst (.int .u64 65536)), none⟩] [])
  (.cond (.tmp 8) (.seq (.region false [⟨(some 9), .mov (.tmp 0), none⟩,
    ⟨(some 10), .bin .shr (.tmp 9) (.cst (.int .u64 16)), none⟩,
    ⟨(some 0), .own 10, none⟩] [])
  (.region false [⟨(some 11), .mov (.tmp 2), none⟩,
    ⟨(some 12), .bin .add (.tmp 11) (.cst (.int .i64 16)), none⟩,
    ⟨(some 2), .own 12, none⟩] [])) .skip))
  (.seq (.seq (.region false [⟨(some 13), .mov (.tmp 0), none⟩,
    ⟨(some 14), .bin .geq (.tmp 13) (.cst (.int .u64 256)), none⟩] [])
  (.cond (.tmp 14) (.seq (.region false [⟨(some 15), .mov (.tmp 0), none⟩,
    ⟨(some 16), .bin .shr (.tmp 15) (.cst (.int .u64 8)), none⟩,
    ⟨(some 0), .own 16, none⟩] [])
  (.region false [⟨(some 17), .mov (.tmp 2), none⟩,
    ⟨(some 18), .bin .add (.tmp 17) (.cst (.int .i64 8)), none⟩,
    ⟨(some 2), .own 18, none⟩] [])) .skip))
  (.seq (.region false [⟨(some 19), .mov (.tmp 2), none⟩,
    ⟨(some 20), .mov (.tmp 0), none⟩,
    ⟨(some 21), .conv .u8 (.tmp 20), none⟩,
    ⟨(some 22), .idxs (.cst (.str [0, 1, 2, 2, 3, 3, 3, 3, 4, 4, 4, 4, 4, 4, 4, 4, 5, 5, 5, 5, 5, 5, 5, 5, 5, 5, 5, 5, 5, 5, 5, 5, 6, 6, 6, 6, 6, 6, 6, 6, 6, 6, 6, 6, 6, 6, 6, 6, 6, 6, 6, 6, 6, 6, 6, 6, 6, 6, 6, 6, 6, 6, 6, 6, 7, 7, 7, 7, 7, 7, 7, 7, 7, 7, 7, 7, 7, 7, 7, 7, 7, 7, 7, 7, 7, 7, 7, 7, 7, 7, 7, 7, 7, 7, 7, 7, 7, 7, 7, 7, 7, 7, 7, 7, 7, 7, 7, 7, 7, 7, 7, 7, 7, 7, 7, 7, 7, 7, 7, 7, 7, 7, 7, 7, 7, 7, 7, 7, 8, 8, 8, 8, 8, 8, 8, 8, 8, 8, 8, 8, 8, 8, 8, 8, 8, 8, 8, 8, 8, 8, 8, 8, 8, 8, 8, 8, 8, 8, 8, 8, 8, 8, 8, 8, 8, 8, 8, 8, 8, 8, 8, 8, 8, 8, 8, 8, 8, 8, 8, 8, 8, 8, 8, 8, 8, 8, 8, 8, 8, 8, 8, 8, 8, 8, 8, 8, 8, 8, 8, 8, 8, 8, 8, 8, 8, 8, 8, 8, 8, 8, 8, 8, 8, 8, 8, 8, 8, 8, 8, 8, 8, 8, 8, 8, 8, 8, 8, 8, 8, 8, 8, 8, 8, 8, 8, 8, 8, 8, 8, 8, 8, 8, 8, 8, 8, 8, 8, 8, 8, 8, 8, 8, 8, 8, 8, 8])) (.tmp 21), none⟩,
    ⟨(some 23), .conv .i64 (.tmp 22), none⟩,
    ⟨(some 24), .bin .add (.tmp 19) (.tmp 23), none⟩,
    ⟨(some 2), .own 24, none⟩] [])
  .ret)))))
def X : List (Option XFn) := [none, none, none, some x3, some x4, some x5, some x6, some x7, some x8, some x9, some x10, some x11, some x12, some x13, some x14, some x15, some x16, some x17, some x18, some x19, some x20, some x21, some x22, some x23, some x24, some x25, some x26, some x27, some x28, some x29, some x30, some x31, some x32, some x33, some x34, some x35, some x36, some x37, some x38, some x39, some x40, some x41, some x42, some x43, some x44, none, none, some x47, some x48, some x49, some x50]
end Go.Proofs.Ytpfollpbkpgglaa.Sx.T
