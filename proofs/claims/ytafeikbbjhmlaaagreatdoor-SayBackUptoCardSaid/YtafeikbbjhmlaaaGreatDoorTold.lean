/- Closed calls of the program's functions, told by the kernel. -/
import Derived.Test.YtafeikbbjhmlaaaGreatDoorSxText
import Derived.Test.YtafeikbbjhmlaaaGreatDoorEvA
import Derived.KernelRfl
import Derived.Test.YtafeikbbjhmlaaaGreatDoorGV
set_option linter.unusedVariables false
set_option linter.unusedSimpArgs false
namespace Go.Proofs.YtafeikbbjhmlaaaGreatDoor.Sx.T
open Go Go.Proofs.YtafeikbbjhmlaaaGreatDoor.Sx
set_option maxRecDepth 100000
def tT0 : Told := []
theorem tO0 : ToldCL X GV tT0 := trivial
theorem tF0 : CL X GV 21 [.agg [.lst .tight 1 [[.str [120]], [.str [121]]], .lst .tight 1 [[.lst .tight 4 [[.int .i64 1, .int .i64 1, .int .i64 0, .str []], [.int .i64 3, .int .i64 0, .int .i64 0, .str [97, 32, 98]]]]]]] [] = some (.int .i64 0, []) := CL_told tO0 40 (by kernel_rfl)
def tT1 : Told := (21, [.agg [.lst .tight 1 [[.str [120]], [.str [121]]], .lst .tight 1 [[.lst .tight 4 [[.int .i64 1, .int .i64 1, .int .i64 0, .str []], [.int .i64 3, .int .i64 0, .int .i64 0, .str [97, 32, 98]]]]]]], .int .i64 0) :: tT0
theorem tO1 : ToldCL X GV tT1 := ⟨tF0, tO0⟩
theorem tF1 : CL X GV 9 [.agg [.lst .tight 1 [[.str [120]], [.str [121]]], .lst .tight 1 [[.lst .tight 4 [[.int .i64 1, .int .i64 1, .int .i64 0, .str []], [.int .i64 3, .int .i64 0, .int .i64 0, .str [97, 32, 98]]]]]]] [] = some (.tup [.str [40, 120, 32, 121, 41, 32, 40, 49, 32, 34, 97, 32, 98, 34, 41], .int .i64 0], []) := CL_told tO1 40 (by kernel_rfl)
def tT2 : Told := (9, [.agg [.lst .tight 1 [[.str [120]], [.str [121]]], .lst .tight 1 [[.lst .tight 4 [[.int .i64 1, .int .i64 1, .int .i64 0, .str []], [.int .i64 3, .int .i64 0, .int .i64 0, .str [97, 32, 98]]]]]]], .tup [.str [40, 120, 32, 121, 41, 32, 40, 49, 32, 34, 97, 32, 98, 34, 41], .int .i64 0]) :: tT1
theorem tO2 : ToldCL X GV tT2 := ⟨tF1, tO1⟩
theorem tF2 : CL X GV 64 [.str [40, 120, 32, 121, 41, 32, 40, 49, 32, 34, 97, 32, 98, 34, 41]] [] = some (.tup [.lst .none 1 [[.str [120]], [.str [121]]], .str [32, 40, 49, 32, 34, 97, 32, 98, 34, 41], .bool true], []) := CL_told tO2 40 (by kernel_rfl)
def tT3 : Told := (64, [.str [40, 120, 32, 121, 41, 32, 40, 49, 32, 34, 97, 32, 98, 34, 41]], .tup [.lst .none 1 [[.str [120]], [.str [121]]], .str [32, 40, 49, 32, 34, 97, 32, 98, 34, 41], .bool true]) :: tT2
theorem tO3 : ToldCL X GV tT3 := ⟨tF2, tO2⟩
theorem tF3 : CL X GV 64 [.str [40, 49, 32, 34, 97, 32, 98, 34, 41]] [] = some (.tup [.lst .none 1 [[.str [49]], [.str [34, 97, 32, 98, 34]]], .str [], .bool true], []) := CL_told tO3 40 (by kernel_rfl)
def tT4 : Told := (64, [.str [40, 49, 32, 34, 97, 32, 98, 34, 41]], .tup [.lst .none 1 [[.str [49]], [.str [34, 97, 32, 98, 34]]], .str [], .bool true]) :: tT3
theorem tO4 : ToldCL X GV tT4 := ⟨tF3, tO3⟩
theorem tF4 : CL X GV 66 [.str [49]] [] = some (.tup [.agg [.int .i64 1, .int .i64 1, .int .i64 0, .str []], .int .i64 0], []) := CL_told tO4 40 (by kernel_rfl)
def tT5 : Told := (66, [.str [49]], .tup [.agg [.int .i64 1, .int .i64 1, .int .i64 0, .str []], .int .i64 0]) :: tT4
theorem tO5 : ToldCL X GV tT5 := ⟨tF4, tO4⟩
theorem tF5 : CL X GV 66 [.str [34, 97, 32, 98, 34]] [] = some (.tup [.agg [.int .i64 3, .int .i64 0, .int .i64 0, .str [97, 32, 98]], .int .i64 0], []) := CL_told tO5 40 (by kernel_rfl)
def tT6 : Told := (66, [.str [34, 97, 32, 98, 34]], .tup [.agg [.int .i64 3, .int .i64 0, .int .i64 0, .str [97, 32, 98]], .int .i64 0]) :: tT5
theorem tO6 : ToldCL X GV tT6 := ⟨tF5, tO5⟩
theorem tF6 : CL X GV 37 [.str [40, 120, 32, 121, 41, 32, 40, 49, 32, 34, 97, 32, 98, 34, 41]] [] = some (.tup [.agg [.lst .none 1 [[.str [120]], [.str [121]]], .lst .none 1 [[.lst .none 4 [[.int .i64 1, .int .i64 1, .int .i64 0, .str []], [.int .i64 3, .int .i64 0, .int .i64 0, .str [97, 32, 98]]]]]], .bool true], []) := CL_told tO6 40 (by kernel_rfl)
def tT7 : Told := (37, [.str [40, 120, 32, 121, 41, 32, 40, 49, 32, 34, 97, 32, 98, 34, 41]], .tup [.agg [.lst .none 1 [[.str [120]], [.str [121]]], .lst .none 1 [[.lst .none 4 [[.int .i64 1, .int .i64 1, .int .i64 0, .str []], [.int .i64 3, .int .i64 0, .int .i64 0, .str [97, 32, 98]]]]]], .bool true]) :: tT6
theorem tO7 : ToldCL X GV tT7 := ⟨tF6, tO6⟩
theorem tF7 : CL X GV 21 [.agg [.lst .none 1 [[.str [120]], [.str [121]]], .lst .none 1 [[.lst .none 4 [[.int .i64 1, .int .i64 1, .int .i64 0, .str []], [.int .i64 3, .int .i64 0, .int .i64 0, .str [97, 32, 98]]]]]]] [] = some (.int .i64 0, []) := CL_told tO7 40 (by kernel_rfl)
def tT8 : Told := (21, [.agg [.lst .none 1 [[.str [120]], [.str [121]]], .lst .none 1 [[.lst .none 4 [[.int .i64 1, .int .i64 1, .int .i64 0, .str []], [.int .i64 3, .int .i64 0, .int .i64 0, .str [97, 32, 98]]]]]]], .int .i64 0) :: tT7
theorem tO8 : ToldCL X GV tT8 := ⟨tF7, tO7⟩
theorem tF8 : CL X GV 9 [.agg [.lst .none 1 [[.str [120]], [.str [121]]], .lst .none 1 [[.lst .none 4 [[.int .i64 1, .int .i64 1, .int .i64 0, .str []], [.int .i64 3, .int .i64 0, .int .i64 0, .str [97, 32, 98]]]]]]] [] = some (.tup [.str [40, 120, 32, 121, 41, 32, 40, 49, 32, 34, 97, 32, 98, 34, 41], .int .i64 0], []) := CL_told tO8 40 (by kernel_rfl)
def tT9 : Told := (9, [.agg [.lst .none 1 [[.str [120]], [.str [121]]], .lst .none 1 [[.lst .none 4 [[.int .i64 1, .int .i64 1, .int .i64 0, .str []], [.int .i64 3, .int .i64 0, .int .i64 0, .str [97, 32, 98]]]]]]], .tup [.str [40, 120, 32, 121, 41, 32, 40, 49, 32, 34, 97, 32, 98, 34, 41], .int .i64 0]) :: tT8
theorem tO9 : ToldCL X GV tT9 := ⟨tF8, tO8⟩
theorem tF9 : CL X GV 15 [.str [40, 120, 32, 121, 41, 32, 40, 49, 32, 34, 97, 32, 98, 34, 41]] [] = some (.tup [.agg [.lst .none 1 [[.str [120]], [.str [121]]], .lst .none 1 [[.lst .none 4 [[.int .i64 1, .int .i64 1, .int .i64 0, .str []], [.int .i64 3, .int .i64 0, .int .i64 0, .str [97, 32, 98]]]]]], .int .i64 0], []) := CL_told tO9 40 (by kernel_rfl)
def tT10 : Told := (15, [.str [40, 120, 32, 121, 41, 32, 40, 49, 32, 34, 97, 32, 98, 34, 41]], .tup [.agg [.lst .none 1 [[.str [120]], [.str [121]]], .lst .none 1 [[.lst .none 4 [[.int .i64 1, .int .i64 1, .int .i64 0, .str []], [.int .i64 3, .int .i64 0, .int .i64 0, .str [97, 32, 98]]]]]], .int .i64 0]) :: tT9
theorem tO10 : ToldCL X GV tT10 := ⟨tF9, tO9⟩
theorem tF10 : CL X GV 21 [.agg [.nilsl, .lst .tight 1 [[.lst .tight 4 []]]]] [] = some (.int .i64 0, []) := CL_told tO10 40 (by kernel_rfl)
def tT11 : Told := (21, [.agg [.nilsl, .lst .tight 1 [[.lst .tight 4 []]]]], .int .i64 0) :: tT10
theorem tO11 : ToldCL X GV tT11 := ⟨tF10, tO10⟩
theorem tF11 : CL X GV 9 [.agg [.nilsl, .lst .tight 1 [[.lst .tight 4 []]]]] [] = some (.tup [.str [40, 41, 32, 40, 41], .int .i64 0], []) := CL_told tO11 40 (by kernel_rfl)
def tT12 : Told := (9, [.agg [.nilsl, .lst .tight 1 [[.lst .tight 4 []]]]], .tup [.str [40, 41, 32, 40, 41], .int .i64 0]) :: tT11
theorem tO12 : ToldCL X GV tT12 := ⟨tF11, tO11⟩
theorem tF12 : CL X GV 11 [.agg [.int .i64 3, .int .i64 70, .nilsl, .lst .tight 1 [[.lst .tight 4 []]]]] [] = some (.tup [.str [51, 32, 64, 55, 48, 32, 40, 41, 32, 40, 41], .int .i64 0], []) := CL_told tO12 40 (by kernel_rfl)
def tT13 : Told := (11, [.agg [.int .i64 3, .int .i64 70, .nilsl, .lst .tight 1 [[.lst .tight 4 []]]]], .tup [.str [51, 32, 64, 55, 48, 32, 40, 41, 32, 40, 41], .int .i64 0]) :: tT12
theorem tO13 : ToldCL X GV tT13 := ⟨tF12, tO12⟩
theorem tF13 : CL X GV 34 [.agg [.lst .tight 1 [[.int .i64 0], [.int .i64 1]], .int .i64 2, .lst .tight 1 [[.str [120]], [.str [121]]], .lst .tight 1 [[.lst .tight 4 [[.int .i64 1, .int .i64 1, .int .i64 0, .str []], [.int .i64 3, .int .i64 0, .int .i64 0, .str [97, 32, 98]]]]]]] [] = some (.tup [.str [91, 48, 32, 49, 93, 32, 50, 32, 40, 120, 32, 121, 41, 32, 40, 49, 32, 34, 97, 32, 98, 34, 41, 10], .int .i64 0], []) := CL_told tO13 40 (by kernel_rfl)
def tT14 : Told := (34, [.agg [.lst .tight 1 [[.int .i64 0], [.int .i64 1]], .int .i64 2, .lst .tight 1 [[.str [120]], [.str [121]]], .lst .tight 1 [[.lst .tight 4 [[.int .i64 1, .int .i64 1, .int .i64 0, .str []], [.int .i64 3, .int .i64 0, .int .i64 0, .str [97, 32, 98]]]]]]], .tup [.str [91, 48, 32, 49, 93, 32, 50, 32, 40, 120, 32, 121, 41, 32, 40, 49, 32, 34, 97, 32, 98, 34, 41, 10], .int .i64 0]) :: tT13
theorem tO14 : ToldCL X GV tT14 := ⟨tF13, tO13⟩
theorem tF14 : CL X GV 13 [.lst .tight 4 [[.lst .tight 1 [[.int .i64 0], [.int .i64 1]], .int .i64 2, .lst .tight 1 [[.str [120]], [.str [121]]], .lst .tight 1 [[.lst .tight 4 [[.int .i64 1, .int .i64 1, .int .i64 0, .str []], [.int .i64 3, .int .i64 0, .int .i64 0, .str [97, 32, 98]]]]]]]] [] = some (.tup [.str [91, 48, 32, 49, 93, 32, 50, 32, 40, 120, 32, 121, 41, 32, 40, 49, 32, 34, 97, 32, 98, 34, 41, 10], .int .i64 0], []) := CL_told tO14 40 (by kernel_rfl)
def tT15 : Told := (13, [.lst .tight 4 [[.lst .tight 1 [[.int .i64 0], [.int .i64 1]], .int .i64 2, .lst .tight 1 [[.str [120]], [.str [121]]], .lst .tight 1 [[.lst .tight 4 [[.int .i64 1, .int .i64 1, .int .i64 0, .str []], [.int .i64 3, .int .i64 0, .int .i64 0, .str [97, 32, 98]]]]]]]], .tup [.str [91, 48, 32, 49, 93, 32, 50, 32, 40, 120, 32, 121, 41, 32, 40, 49, 32, 34, 97, 32, 98, 34, 41, 10], .int .i64 0]) :: tT14
theorem tO15 : ToldCL X GV tT15 := ⟨tF14, tO14⟩
theorem tF15 : CL X GV 34 [.agg [.lst .none 1 [[.int .i64 0], [.int .i64 1]], .int .i64 2, .lst .none 1 [[.str [120]], [.str [121]]], .lst .none 1 [[.lst .none 4 [[.int .i64 1, .int .i64 1, .int .i64 0, .str []], [.int .i64 3, .int .i64 0, .int .i64 0, .str [97, 32, 98]]]]]]] [] = some (.tup [.str [91, 48, 32, 49, 93, 32, 50, 32, 40, 120, 32, 121, 41, 32, 40, 49, 32, 34, 97, 32, 98, 34, 41, 10], .int .i64 0], []) := CL_told tO15 40 (by kernel_rfl)
def tT16 : Told := (34, [.agg [.lst .none 1 [[.int .i64 0], [.int .i64 1]], .int .i64 2, .lst .none 1 [[.str [120]], [.str [121]]], .lst .none 1 [[.lst .none 4 [[.int .i64 1, .int .i64 1, .int .i64 0, .str []], [.int .i64 3, .int .i64 0, .int .i64 0, .str [97, 32, 98]]]]]]], .tup [.str [91, 48, 32, 49, 93, 32, 50, 32, 40, 120, 32, 121, 41, 32, 40, 49, 32, 34, 97, 32, 98, 34, 41, 10], .int .i64 0]) :: tT15
theorem tO16 : ToldCL X GV tT16 := ⟨tF15, tO15⟩
theorem tF16 : CL X GV 42 [.str [91, 48, 32, 49, 93, 32, 50, 32, 40, 120, 32, 121, 41, 32, 40, 49, 32, 34, 97, 32, 98, 34, 41]] [] = some (.tup [.agg [.lst .none 1 [[.int .i64 0], [.int .i64 1]], .int .i64 2, .lst .none 1 [[.str [120]], [.str [121]]], .lst .none 1 [[.lst .none 4 [[.int .i64 1, .int .i64 1, .int .i64 0, .str []], [.int .i64 3, .int .i64 0, .int .i64 0, .str [97, 32, 98]]]]]], .bool true], []) := CL_told tO16 40 (by kernel_rfl)
def tT17 : Told := (42, [.str [91, 48, 32, 49, 93, 32, 50, 32, 40, 120, 32, 121, 41, 32, 40, 49, 32, 34, 97, 32, 98, 34, 41]], .tup [.agg [.lst .none 1 [[.int .i64 0], [.int .i64 1]], .int .i64 2, .lst .none 1 [[.str [120]], [.str [121]]], .lst .none 1 [[.lst .none 4 [[.int .i64 1, .int .i64 1, .int .i64 0, .str []], [.int .i64 3, .int .i64 0, .int .i64 0, .str [97, 32, 98]]]]]], .bool true]) :: tT16
theorem tO17 : ToldCL X GV tT17 := ⟨tF16, tO16⟩
theorem tF17 : CL X GV 17 [.str [91, 48, 32, 49, 93, 32, 50, 32, 40, 120, 32, 121, 41, 32, 40, 49, 32, 34, 97, 32, 98, 34, 41, 10]] [] = some (.tup [.lst .none 4 [[.lst .none 1 [[.int .i64 0], [.int .i64 1]], .int .i64 2, .lst .none 1 [[.str [120]], [.str [121]]], .lst .none 1 [[.lst .none 4 [[.int .i64 1, .int .i64 1, .int .i64 0, .str []], [.int .i64 3, .int .i64 0, .int .i64 0, .str [97, 32, 98]]]]]]], .int .i64 0, .int .i64 0], []) := CL_told tO17 40 (by kernel_rfl)
def tT18 : Told := (17, [.str [91, 48, 32, 49, 93, 32, 50, 32, 40, 120, 32, 121, 41, 32, 40, 49, 32, 34, 97, 32, 98, 34, 41, 10]], .tup [.lst .none 4 [[.lst .none 1 [[.int .i64 0], [.int .i64 1]], .int .i64 2, .lst .none 1 [[.str [120]], [.str [121]]], .lst .none 1 [[.lst .none 4 [[.int .i64 1, .int .i64 1, .int .i64 0, .str []], [.int .i64 3, .int .i64 0, .int .i64 0, .str [97, 32, 98]]]]]]], .int .i64 0, .int .i64 0]) :: tT17
theorem tO18 : ToldCL X GV tT18 := ⟨tF17, tO17⟩
theorem tF18 : CL X GV 64 [.str [40, 120, 41, 32, 40, 50, 41, 32, 40, 49, 41]] [] = some (.tup [.lst .none 1 [[.str [120]]], .str [32, 40, 50, 41, 32, 40, 49, 41], .bool true], []) := CL_told tO18 40 (by kernel_rfl)
def tT19 : Told := (64, [.str [40, 120, 41, 32, 40, 50, 41, 32, 40, 49, 41]], .tup [.lst .none 1 [[.str [120]]], .str [32, 40, 50, 41, 32, 40, 49, 41], .bool true]) :: tT18
theorem tO19 : ToldCL X GV tT19 := ⟨tF18, tO18⟩
theorem tF19 : CL X GV 64 [.str [40, 50, 41, 32, 40, 49, 41]] [] = some (.tup [.lst .none 1 [[.str [50]]], .str [32, 40, 49, 41], .bool true], []) := CL_told tO19 40 (by kernel_rfl)
def tT20 : Told := (64, [.str [40, 50, 41, 32, 40, 49, 41]], .tup [.lst .none 1 [[.str [50]]], .str [32, 40, 49, 41], .bool true]) :: tT19
theorem tO20 : ToldCL X GV tT20 := ⟨tF19, tO19⟩
theorem tF20 : CL X GV 66 [.str [50]] [] = some (.tup [.agg [.int .i64 1, .int .i64 2, .int .i64 0, .str []], .int .i64 0], []) := CL_told tO20 40 (by kernel_rfl)
def tT21 : Told := (66, [.str [50]], .tup [.agg [.int .i64 1, .int .i64 2, .int .i64 0, .str []], .int .i64 0]) :: tT20
theorem tO21 : ToldCL X GV tT21 := ⟨tF20, tO20⟩
theorem tF21 : CL X GV 64 [.str [40, 49, 41]] [] = some (.tup [.lst .none 1 [[.str [49]]], .str [], .bool true], []) := CL_told tO21 40 (by kernel_rfl)
def tT22 : Told := (64, [.str [40, 49, 41]], .tup [.lst .none 1 [[.str [49]]], .str [], .bool true]) :: tT21
theorem tO22 : ToldCL X GV tT22 := ⟨tF21, tO21⟩
theorem tF22 : CL X GV 37 [.str [40, 120, 41, 32, 40, 50, 41, 32, 40, 49, 41]] [] = some (.tup [.agg [.lst .none 1 [[.str [120]]], .lst .none 1 [[.lst .none 4 [[.int .i64 1, .int .i64 2, .int .i64 0, .str []]]], [.lst .none 4 [[.int .i64 1, .int .i64 1, .int .i64 0, .str []]]]]], .bool true], []) := CL_told tO22 40 (by kernel_rfl)
def tT23 : Told := (37, [.str [40, 120, 41, 32, 40, 50, 41, 32, 40, 49, 41]], .tup [.agg [.lst .none 1 [[.str [120]]], .lst .none 1 [[.lst .none 4 [[.int .i64 1, .int .i64 2, .int .i64 0, .str []]]], [.lst .none 4 [[.int .i64 1, .int .i64 1, .int .i64 0, .str []]]]]], .bool true]) :: tT22
theorem tO23 : ToldCL X GV tT23 := ⟨tF22, tO22⟩
theorem tF23 : CL X GV 21 [.agg [.lst .none 1 [[.str [120]]], .lst .none 1 [[.lst .none 4 [[.int .i64 1, .int .i64 2, .int .i64 0, .str []]]], [.lst .none 4 [[.int .i64 1, .int .i64 1, .int .i64 0, .str []]]]]]] [] = some (.int .i64 1, []) := CL_told tO23 40 (by kernel_rfl)
def tT24 : Told := (21, [.agg [.lst .none 1 [[.str [120]]], .lst .none 1 [[.lst .none 4 [[.int .i64 1, .int .i64 2, .int .i64 0, .str []]]], [.lst .none 4 [[.int .i64 1, .int .i64 1, .int .i64 0, .str []]]]]]], .int .i64 1) :: tT23
theorem tO24 : ToldCL X GV tT24 := ⟨tF23, tO23⟩
theorem tF24 : CL X GV 9 [.agg [.lst .none 1 [[.str [120]]], .lst .none 1 [[.lst .none 4 [[.int .i64 1, .int .i64 2, .int .i64 0, .str []]]], [.lst .none 4 [[.int .i64 1, .int .i64 1, .int .i64 0, .str []]]]]]] [] = some (.tup [.str [], .int .i64 1], []) := CL_told tO24 40 (by kernel_rfl)
def tT25 : Told := (9, [.agg [.lst .none 1 [[.str [120]]], .lst .none 1 [[.lst .none 4 [[.int .i64 1, .int .i64 2, .int .i64 0, .str []]]], [.lst .none 4 [[.int .i64 1, .int .i64 1, .int .i64 0, .str []]]]]]], .tup [.str [], .int .i64 1]) :: tT24
theorem tO25 : ToldCL X GV tT25 := ⟨tF24, tO24⟩
theorem tF25 : CL X GV 15 [.str [40, 120, 41, 32, 40, 50, 41, 32, 40, 49, 41]] [] = some (.tup [.agg [.nilsl, .nilsl], .int .i64 70], []) := CL_told tO25 40 (by kernel_rfl)
def tT26 : Told := (15, [.str [40, 120, 41, 32, 40, 50, 41, 32, 40, 49, 41]], .tup [.agg [.nilsl, .nilsl], .int .i64 70]) :: tT25
theorem tO26 : ToldCL X GV tT26 := ⟨tF25, tO25⟩
theorem tF26 : CL X GV 19 [.agg [.lst .tight 1 [[.str [120]], [.str [121]]], .lst .tight 1 [[.lst .tight 4 [[.int .i64 1, .int .i64 1, .int .i64 0, .str []], [.int .i64 3, .int .i64 0, .int .i64 0, .str [97, 32, 98]]]]]], .agg [.lst .none 1 [[.str [120]], [.str [121]]], .lst .none 1 [[.lst .none 4 [[.int .i64 1, .int .i64 1, .int .i64 0, .str []], [.int .i64 3, .int .i64 0, .int .i64 0, .str [97, 32, 98]]]]]]] [] = some (.bool true, []) := CL_told tO26 40 (by kernel_rfl)
def tT27 : Told := (19, [.agg [.lst .tight 1 [[.str [120]], [.str [121]]], .lst .tight 1 [[.lst .tight 4 [[.int .i64 1, .int .i64 1, .int .i64 0, .str []], [.int .i64 3, .int .i64 0, .int .i64 0, .str [97, 32, 98]]]]]], .agg [.lst .none 1 [[.str [120]], [.str [121]]], .lst .none 1 [[.lst .none 4 [[.int .i64 1, .int .i64 1, .int .i64 0, .str []], [.int .i64 3, .int .i64 0, .int .i64 0, .str [97, 32, 98]]]]]]], .bool true) :: tT26
theorem tO27 : ToldCL X GV tT27 := ⟨tF26, tO26⟩
theorem tF27 : CL X GV 8 [] [] = some (.bool true, []) := CL_told tO27 40 (by kernel_rfl)
theorem liveTold : CL X GV 8 [] [] = some (.bool true, []) := tF27
end Go.Proofs.YtafeikbbjhmlaaaGreatDoor.Sx.T
