/- Closed calls of the program's functions, told by the kernel. -/
import Derived.Test.YtjbgceogkgpjpaaGreatDoorSxText
import Derived.Test.YtjbgceogkgpjpaaGreatDoorEvA
import Derived.KernelRfl
import Derived.Test.YtjbgceogkgpjpaaGreatDoorGV
set_option linter.unusedVariables false
set_option linter.unusedSimpArgs false
namespace Go.Proofs.YtjbgceogkgpjpaaGreatDoor.Sx.T
open Go Go.Proofs.YtjbgceogkgpjpaaGreatDoor.Sx
set_option maxRecDepth 100000
def tT0 : Told := []
theorem tO0 : ToldCL X GV tT0 := trivial
theorem tF0 : CL X GV 10 [.nilsl, .agg [.int .i64 1099511627777, .nilsl]] [] = some (.int .i64 5, []) := CL_told tO0 40 (by kernel_rfl)
def tT1 : Told := (10, [.nilsl, .agg [.int .i64 1099511627777, .nilsl]], .int .i64 5) :: tT0
theorem tO1 : ToldCL X GV tT1 := ⟨tF0, tO0⟩
theorem tF1 : CL X GV 10 [.nilsl, .agg [.int .i64 1099511627776, .nilsl]] [] = some (.int .i64 0, []) := CL_told tO1 40 (by kernel_rfl)
def tT2 : Told := (10, [.nilsl, .agg [.int .i64 1099511627776, .nilsl]], .int .i64 0) :: tT1
theorem tO2 : ToldCL X GV tT2 := ⟨tF1, tO1⟩
theorem tF2 : CL X GV 73 [.str [112, 32, 105, 110, 116], .int .i64 0] [] = some (.tup [.agg [.int .i64 3, .int .i64 0, .str [112], .int .i64 0, .int .i64 0, .int .i64 0, .str []], .bool true], []) := CL_told tO2 40 (by kernel_rfl)
def tT3 : Told := (73, [.str [112, 32, 105, 110, 116], .int .i64 0], .tup [.agg [.int .i64 3, .int .i64 0, .str [112], .int .i64 0, .int .i64 0, .int .i64 0, .str []], .bool true]) :: tT2
theorem tO3 : ToldCL X GV tT3 := ⟨tF2, tO2⟩
theorem tF3 : CL X GV 73 [.str [112, 32, 105, 110, 116], .int .i64 2] [] = some (.tup [.agg [.int .i64 3, .int .i64 2, .str [105, 110, 116], .int .i64 0, .int .i64 0, .int .i64 0, .str []], .bool true], []) := CL_told tO3 40 (by kernel_rfl)
def tT4 : Told := (73, [.str [112, 32, 105, 110, 116], .int .i64 2], .tup [.agg [.int .i64 3, .int .i64 2, .str [105, 110, 116], .int .i64 0, .int .i64 0, .int .i64 0, .str []], .bool true]) :: tT3
theorem tO4 : ToldCL X GV tT4 := ⟨tF3, tO3⟩
theorem tF4 : CL X GV 56 [.str [112, 32, 105, 110, 116]] [] = some (.tup [.lst .none 7 [[.int .i64 3, .int .i64 0, .str [112], .int .i64 0, .int .i64 0, .int .i64 0, .str []], [.int .i64 3, .int .i64 2, .str [105, 110, 116], .int .i64 0, .int .i64 0, .int .i64 0, .str []]], .int .i64 0, .int .i64 0], []) := CL_told tO4 40 (by kernel_rfl)
def tT5 : Told := (56, [.str [112, 32, 105, 110, 116]], .tup [.lst .none 7 [[.int .i64 3, .int .i64 0, .str [112], .int .i64 0, .int .i64 0, .int .i64 0, .str []], [.int .i64 3, .int .i64 2, .str [105, 110, 116], .int .i64 0, .int .i64 0, .int .i64 0, .str []]], .int .i64 0, .int .i64 0]) :: tT4
theorem tO5 : ToldCL X GV tT5 := ⟨tF4, tO4⟩
theorem tF5 : CL X GV 32 [.str [112, 32, 105, 110, 116]] [] = some (.tup [.lst .none 7 [[.int .i64 3, .int .i64 0, .str [112], .int .i64 0, .int .i64 0, .int .i64 0, .str []], [.int .i64 3, .int .i64 2, .str [105, 110, 116], .int .i64 0, .int .i64 0, .int .i64 0, .str []]], .nilif], []) := CL_told tO5 40 (by kernel_rfl)
def tT6 : Told := (32, [.str [112, 32, 105, 110, 116]], .tup [.lst .none 7 [[.int .i64 3, .int .i64 0, .str [112], .int .i64 0, .int .i64 0, .int .i64 0, .str []], [.int .i64 3, .int .i64 2, .str [105, 110, 116], .int .i64 0, .int .i64 0, .int .i64 0, .str []]], .nilif]) :: tT5
theorem tO6 : ToldCL X GV tT6 := ⟨tF5, tO5⟩
theorem tF6 : CL X GV 51 [.nilsl, .str [112, 32, 105, 110, 116]] [] = some (.tup [.agg [.str [112], .lst .none 1 [[.int .i64 1]]], .bool true, .nilif], []) := CL_told tO6 40 (by kernel_rfl)
def tT7 : Told := (51, [.nilsl, .str [112, 32, 105, 110, 116]], .tup [.agg [.str [112], .lst .none 1 [[.int .i64 1]]], .bool true, .nilif]) :: tT6
theorem tO7 : ToldCL X GV tT7 := ⟨tF6, tO6⟩
theorem tF7 : CL X GV 56 [.str []] [] = some (.tup [.nilsl, .int .i64 0, .int .i64 0], []) := CL_told tO7 40 (by kernel_rfl)
def tT8 : Told := (56, [.str []], .tup [.nilsl, .int .i64 0, .int .i64 0]) :: tT7
theorem tO8 : ToldCL X GV tT8 := ⟨tF7, tO7⟩
theorem tF8 : CL X GV 32 [.str []] [] = some (.tup [.nilsl, .nilif], []) := CL_told tO8 40 (by kernel_rfl)
def tT9 : Told := (32, [.str []], .tup [.nilsl, .nilif]) :: tT8
theorem tO9 : ToldCL X GV tT9 := ⟨tF8, tO8⟩
theorem tF9 : CL X GV 51 [.lst .none 2 [[.str [112], .lst .none 1 [[.int .i64 1]]]], .str []] [] = some (.tup [.agg [.str [], .nilsl], .bool false, .nilif], []) := CL_told tO9 40 (by kernel_rfl)
def tT10 : Told := (51, [.lst .none 2 [[.str [112], .lst .none 1 [[.int .i64 1]]]], .str []], .tup [.agg [.str [], .nilsl], .bool false, .nilif]) :: tT9
theorem tO10 : ToldCL X GV tT10 := ⟨tF9, tO9⟩
theorem tF10 : CL X GV 73 [.str [113, 32, 105, 110, 116, 32, 115, 116, 114], .int .i64 0] [] = some (.tup [.agg [.int .i64 3, .int .i64 0, .str [113], .int .i64 0, .int .i64 0, .int .i64 0, .str []], .bool true], []) := CL_told tO10 40 (by kernel_rfl)
def tT11 : Told := (73, [.str [113, 32, 105, 110, 116, 32, 115, 116, 114], .int .i64 0], .tup [.agg [.int .i64 3, .int .i64 0, .str [113], .int .i64 0, .int .i64 0, .int .i64 0, .str []], .bool true]) :: tT10
theorem tO11 : ToldCL X GV tT11 := ⟨tF10, tO10⟩
theorem tF11 : CL X GV 73 [.str [113, 32, 105, 110, 116, 32, 115, 116, 114], .int .i64 2] [] = some (.tup [.agg [.int .i64 3, .int .i64 2, .str [105, 110, 116], .int .i64 0, .int .i64 0, .int .i64 0, .str []], .bool true], []) := CL_told tO11 40 (by kernel_rfl)
def tT12 : Told := (73, [.str [113, 32, 105, 110, 116, 32, 115, 116, 114], .int .i64 2], .tup [.agg [.int .i64 3, .int .i64 2, .str [105, 110, 116], .int .i64 0, .int .i64 0, .int .i64 0, .str []], .bool true]) :: tT11
theorem tO12 : ToldCL X GV tT12 := ⟨tF11, tO11⟩
theorem tF12 : CL X GV 73 [.str [113, 32, 105, 110, 116, 32, 115, 116, 114], .int .i64 6] [] = some (.tup [.agg [.int .i64 3, .int .i64 6, .str [115, 116, 114], .int .i64 0, .int .i64 0, .int .i64 0, .str []], .bool true], []) := CL_told tO12 40 (by kernel_rfl)
def tT13 : Told := (73, [.str [113, 32, 105, 110, 116, 32, 115, 116, 114], .int .i64 6], .tup [.agg [.int .i64 3, .int .i64 6, .str [115, 116, 114], .int .i64 0, .int .i64 0, .int .i64 0, .str []], .bool true]) :: tT12
theorem tO13 : ToldCL X GV tT13 := ⟨tF12, tO12⟩
theorem tF13 : CL X GV 56 [.str [113, 32, 105, 110, 116, 32, 115, 116, 114]] [] = some (.tup [.lst .none 7 [[.int .i64 3, .int .i64 0, .str [113], .int .i64 0, .int .i64 0, .int .i64 0, .str []], [.int .i64 3, .int .i64 2, .str [105, 110, 116], .int .i64 0, .int .i64 0, .int .i64 0, .str []], [.int .i64 3, .int .i64 6, .str [115, 116, 114], .int .i64 0, .int .i64 0, .int .i64 0, .str []]], .int .i64 0, .int .i64 0], []) := CL_told tO13 40 (by kernel_rfl)
def tT14 : Told := (56, [.str [113, 32, 105, 110, 116, 32, 115, 116, 114]], .tup [.lst .none 7 [[.int .i64 3, .int .i64 0, .str [113], .int .i64 0, .int .i64 0, .int .i64 0, .str []], [.int .i64 3, .int .i64 2, .str [105, 110, 116], .int .i64 0, .int .i64 0, .int .i64 0, .str []], [.int .i64 3, .int .i64 6, .str [115, 116, 114], .int .i64 0, .int .i64 0, .int .i64 0, .str []]], .int .i64 0, .int .i64 0]) :: tT13
theorem tO14 : ToldCL X GV tT14 := ⟨tF13, tO13⟩
theorem tF14 : CL X GV 32 [.str [113, 32, 105, 110, 116, 32, 115, 116, 114]] [] = some (.tup [.lst .none 7 [[.int .i64 3, .int .i64 0, .str [113], .int .i64 0, .int .i64 0, .int .i64 0, .str []], [.int .i64 3, .int .i64 2, .str [105, 110, 116], .int .i64 0, .int .i64 0, .int .i64 0, .str []], [.int .i64 3, .int .i64 6, .str [115, 116, 114], .int .i64 0, .int .i64 0, .int .i64 0, .str []]], .nilif], []) := CL_told tO14 40 (by kernel_rfl)
def tT15 : Told := (32, [.str [113, 32, 105, 110, 116, 32, 115, 116, 114]], .tup [.lst .none 7 [[.int .i64 3, .int .i64 0, .str [113], .int .i64 0, .int .i64 0, .int .i64 0, .str []], [.int .i64 3, .int .i64 2, .str [105, 110, 116], .int .i64 0, .int .i64 0, .int .i64 0, .str []], [.int .i64 3, .int .i64 6, .str [115, 116, 114], .int .i64 0, .int .i64 0, .int .i64 0, .str []]], .nilif]) :: tT14
theorem tO15 : ToldCL X GV tT15 := ⟨tF14, tO14⟩
theorem tF15 : CL X GV 51 [.lst .none 2 [[.str [112], .lst .none 1 [[.int .i64 1]]]], .str [113, 32, 105, 110, 116, 32, 115, 116, 114]] [] = some (.tup [.agg [.str [113], .lst .none 1 [[.int .i64 1], [.int .i64 3]]], .bool true, .nilif], []) := CL_told tO15 40 (by kernel_rfl)
def tT16 : Told := (51, [.lst .none 2 [[.str [112], .lst .none 1 [[.int .i64 1]]]], .str [113, 32, 105, 110, 116, 32, 115, 116, 114]], .tup [.agg [.str [113], .lst .none 1 [[.int .i64 1], [.int .i64 3]]], .bool true, .nilif]) :: tT15
theorem tO16 : ToldCL X GV tT16 := ⟨tF15, tO15⟩
theorem tF16 : CL X GV 22 [.str [112, 32, 105, 110, 116, 10, 10, 113, 32, 105, 110, 116, 32, 115, 116, 114]] [] = some (.tup [.lst .none 2 [[.str [112], .lst .none 1 [[.int .i64 1]]], [.str [113], .lst .none 1 [[.int .i64 1], [.int .i64 3]]]], .agg [.int .i64 0, .int .i64 0]], []) := CL_told tO16 40 (by kernel_rfl)
def tT17 : Told := (22, [.str [112, 32, 105, 110, 116, 10, 10, 113, 32, 105, 110, 116, 32, 115, 116, 114]], .tup [.lst .none 2 [[.str [112], .lst .none 1 [[.int .i64 1]]], [.str [113], .lst .none 1 [[.int .i64 1], [.int .i64 3]]]], .agg [.int .i64 0, .int .i64 0]]) :: tT16
theorem tO17 : ToldCL X GV tT17 := ⟨tF16, tO16⟩
theorem tF17 : CL X GV 73 [.str [112], .int .i64 0] [] = some (.tup [.agg [.int .i64 3, .int .i64 0, .str [112], .int .i64 0, .int .i64 0, .int .i64 0, .str []], .bool true], []) := CL_told tO17 40 (by kernel_rfl)
def tT18 : Told := (73, [.str [112], .int .i64 0], .tup [.agg [.int .i64 3, .int .i64 0, .str [112], .int .i64 0, .int .i64 0, .int .i64 0, .str []], .bool true]) :: tT17
theorem tO18 : ToldCL X GV tT18 := ⟨tF17, tO17⟩
theorem tF18 : CL X GV 56 [.str [112]] [] = some (.tup [.lst .none 7 [[.int .i64 3, .int .i64 0, .str [112], .int .i64 0, .int .i64 0, .int .i64 0, .str []]], .int .i64 0, .int .i64 0], []) := CL_told tO18 40 (by kernel_rfl)
def tT19 : Told := (56, [.str [112]], .tup [.lst .none 7 [[.int .i64 3, .int .i64 0, .str [112], .int .i64 0, .int .i64 0, .int .i64 0, .str []]], .int .i64 0, .int .i64 0]) :: tT18
theorem tO19 : ToldCL X GV tT19 := ⟨tF18, tO18⟩
theorem tF19 : CL X GV 32 [.str [112]] [] = some (.tup [.lst .none 7 [[.int .i64 3, .int .i64 0, .str [112], .int .i64 0, .int .i64 0, .int .i64 0, .str []]], .nilif], []) := CL_told tO19 40 (by kernel_rfl)
def tT20 : Told := (32, [.str [112]], .tup [.lst .none 7 [[.int .i64 3, .int .i64 0, .str [112], .int .i64 0, .int .i64 0, .int .i64 0, .str []]], .nilif]) :: tT19
theorem tO20 : ToldCL X GV tT20 := ⟨tF19, tO19⟩
theorem tF20 : CL X GV 51 [.lst .none 2 [[.str [112], .lst .none 1 [[.int .i64 1]]]], .str [112]] [] = some (.tup [.agg [.str [112], .nilsl], .bool false, .ifc 96 (.agg [.int .i64 1])], []) := CL_told tO20 40 (by kernel_rfl)
def tT21 : Told := (51, [.lst .none 2 [[.str [112], .lst .none 1 [[.int .i64 1]]]], .str [112]], .tup [.agg [.str [112], .nilsl], .bool false, .ifc 96 (.agg [.int .i64 1])]) :: tT20
theorem tO21 : ToldCL X GV tT21 := ⟨tF20, tO20⟩
theorem tF21 : CL X GV 22 [.str [112, 32, 105, 110, 116, 10, 112]] [] = some (.tup [.nilsl, .agg [.int .i64 1, .int .i64 2]], []) := CL_told tO21 40 (by kernel_rfl)
def tT22 : Told := (22, [.str [112, 32, 105, 110, 116, 10, 112]], .tup [.nilsl, .agg [.int .i64 1, .int .i64 2]]) :: tT21
theorem tO22 : ToldCL X GV tT22 := ⟨tF21, tO21⟩
theorem tF22 : CL X GV 73 [.str [64, 53, 32, 40, 112, 32, 49, 41, 32, 40, 113, 32, 50, 32, 34, 120, 34, 41], .int .i64 0] [] = some (.tup [.agg [.int .i64 7, .int .i64 0, .str [64, 53], .int .i64 1, .int .i64 5, .int .i64 0, .str []], .bool true], []) := CL_told tO22 40 (by kernel_rfl)
def tT23 : Told := (73, [.str [64, 53, 32, 40, 112, 32, 49, 41, 32, 40, 113, 32, 50, 32, 34, 120, 34, 41], .int .i64 0], .tup [.agg [.int .i64 7, .int .i64 0, .str [64, 53], .int .i64 1, .int .i64 5, .int .i64 0, .str []], .bool true]) :: tT22
theorem tO23 : ToldCL X GV tT23 := ⟨tF22, tO22⟩
theorem tF23 : CL X GV 73 [.str [64, 53, 32, 40, 112, 32, 49, 41, 32, 40, 113, 32, 50, 32, 34, 120, 34, 41], .int .i64 3] [] = some (.tup [.agg [.int .i64 1, .int .i64 3, .str [40], .int .i64 0, .int .i64 0, .int .i64 0, .str []], .bool true], []) := CL_told tO23 40 (by kernel_rfl)
def tT24 : Told := (73, [.str [64, 53, 32, 40, 112, 32, 49, 41, 32, 40, 113, 32, 50, 32, 34, 120, 34, 41], .int .i64 3], .tup [.agg [.int .i64 1, .int .i64 3, .str [40], .int .i64 0, .int .i64 0, .int .i64 0, .str []], .bool true]) :: tT23
theorem tO24 : ToldCL X GV tT24 := ⟨tF23, tO23⟩
theorem tF24 : CL X GV 73 [.str [64, 53, 32, 40, 112, 32, 49, 41, 32, 40, 113, 32, 50, 32, 34, 120, 34, 41], .int .i64 4] [] = some (.tup [.agg [.int .i64 3, .int .i64 4, .str [112], .int .i64 0, .int .i64 0, .int .i64 0, .str []], .bool true], []) := CL_told tO24 40 (by kernel_rfl)
def tT25 : Told := (73, [.str [64, 53, 32, 40, 112, 32, 49, 41, 32, 40, 113, 32, 50, 32, 34, 120, 34, 41], .int .i64 4], .tup [.agg [.int .i64 3, .int .i64 4, .str [112], .int .i64 0, .int .i64 0, .int .i64 0, .str []], .bool true]) :: tT24
theorem tO25 : ToldCL X GV tT25 := ⟨tF24, tO24⟩
theorem tF25 : CL X GV 73 [.str [64, 53, 32, 40, 112, 32, 49, 41, 32, 40, 113, 32, 50, 32, 34, 120, 34, 41], .int .i64 6] [] = some (.tup [.agg [.int .i64 6, .int .i64 6, .str [49], .int .i64 1, .int .i64 1, .int .i64 0, .str []], .bool true], []) := CL_told tO25 40 (by kernel_rfl)
def tT26 : Told := (73, [.str [64, 53, 32, 40, 112, 32, 49, 41, 32, 40, 113, 32, 50, 32, 34, 120, 34, 41], .int .i64 6], .tup [.agg [.int .i64 6, .int .i64 6, .str [49], .int .i64 1, .int .i64 1, .int .i64 0, .str []], .bool true]) :: tT25
theorem tO26 : ToldCL X GV tT26 := ⟨tF25, tO25⟩
theorem tF26 : CL X GV 73 [.str [64, 53, 32, 40, 112, 32, 49, 41, 32, 40, 113, 32, 50, 32, 34, 120, 34, 41], .int .i64 7] [] = some (.tup [.agg [.int .i64 2, .int .i64 7, .str [41], .int .i64 0, .int .i64 0, .int .i64 0, .str []], .bool true], []) := CL_told tO26 40 (by kernel_rfl)
def tT27 : Told := (73, [.str [64, 53, 32, 40, 112, 32, 49, 41, 32, 40, 113, 32, 50, 32, 34, 120, 34, 41], .int .i64 7], .tup [.agg [.int .i64 2, .int .i64 7, .str [41], .int .i64 0, .int .i64 0, .int .i64 0, .str []], .bool true]) :: tT26
theorem tO27 : ToldCL X GV tT27 := ⟨tF26, tO26⟩
theorem tF27 : CL X GV 73 [.str [64, 53, 32, 40, 112, 32, 49, 41, 32, 40, 113, 32, 50, 32, 34, 120, 34, 41], .int .i64 9] [] = some (.tup [.agg [.int .i64 1, .int .i64 9, .str [40], .int .i64 0, .int .i64 0, .int .i64 0, .str []], .bool true], []) := CL_told tO27 40 (by kernel_rfl)
def tT28 : Told := (73, [.str [64, 53, 32, 40, 112, 32, 49, 41, 32, 40, 113, 32, 50, 32, 34, 120, 34, 41], .int .i64 9], .tup [.agg [.int .i64 1, .int .i64 9, .str [40], .int .i64 0, .int .i64 0, .int .i64 0, .str []], .bool true]) :: tT27
theorem tO28 : ToldCL X GV tT28 := ⟨tF27, tO27⟩
theorem tF28 : CL X GV 73 [.str [64, 53, 32, 40, 112, 32, 49, 41, 32, 40, 113, 32, 50, 32, 34, 120, 34, 41], .int .i64 10] [] = some (.tup [.agg [.int .i64 3, .int .i64 10, .str [113], .int .i64 0, .int .i64 0, .int .i64 0, .str []], .bool true], []) := CL_told tO28 40 (by kernel_rfl)
def tT29 : Told := (73, [.str [64, 53, 32, 40, 112, 32, 49, 41, 32, 40, 113, 32, 50, 32, 34, 120, 34, 41], .int .i64 10], .tup [.agg [.int .i64 3, .int .i64 10, .str [113], .int .i64 0, .int .i64 0, .int .i64 0, .str []], .bool true]) :: tT28
theorem tO29 : ToldCL X GV tT29 := ⟨tF28, tO28⟩
theorem tF29 : CL X GV 73 [.str [64, 53, 32, 40, 112, 32, 49, 41, 32, 40, 113, 32, 50, 32, 34, 120, 34, 41], .int .i64 12] [] = some (.tup [.agg [.int .i64 6, .int .i64 12, .str [50], .int .i64 1, .int .i64 2, .int .i64 0, .str []], .bool true], []) := CL_told tO29 40 (by kernel_rfl)
def tT30 : Told := (73, [.str [64, 53, 32, 40, 112, 32, 49, 41, 32, 40, 113, 32, 50, 32, 34, 120, 34, 41], .int .i64 12], .tup [.agg [.int .i64 6, .int .i64 12, .str [50], .int .i64 1, .int .i64 2, .int .i64 0, .str []], .bool true]) :: tT29
theorem tO30 : ToldCL X GV tT30 := ⟨tF29, tO29⟩
theorem tF30 : CL X GV 73 [.str [64, 53, 32, 40, 112, 32, 49, 41, 32, 40, 113, 32, 50, 32, 34, 120, 34, 41], .int .i64 14] [] = some (.tup [.agg [.int .i64 6, .int .i64 14, .str [34, 120, 34], .int .i64 3, .int .i64 0, .int .i64 0, .str [120]], .bool true], []) := CL_told tO30 40 (by kernel_rfl)
def tT31 : Told := (73, [.str [64, 53, 32, 40, 112, 32, 49, 41, 32, 40, 113, 32, 50, 32, 34, 120, 34, 41], .int .i64 14], .tup [.agg [.int .i64 6, .int .i64 14, .str [34, 120, 34], .int .i64 3, .int .i64 0, .int .i64 0, .str [120]], .bool true]) :: tT30
theorem tO31 : ToldCL X GV tT31 := ⟨tF30, tO30⟩
theorem tF31 : CL X GV 73 [.str [64, 53, 32, 40, 112, 32, 49, 41, 32, 40, 113, 32, 50, 32, 34, 120, 34, 41], .int .i64 17] [] = some (.tup [.agg [.int .i64 2, .int .i64 17, .str [41], .int .i64 0, .int .i64 0, .int .i64 0, .str []], .bool true], []) := CL_told tO31 40 (by kernel_rfl)
def tT32 : Told := (73, [.str [64, 53, 32, 40, 112, 32, 49, 41, 32, 40, 113, 32, 50, 32, 34, 120, 34, 41], .int .i64 17], .tup [.agg [.int .i64 2, .int .i64 17, .str [41], .int .i64 0, .int .i64 0, .int .i64 0, .str []], .bool true]) :: tT31
theorem tO32 : ToldCL X GV tT32 := ⟨tF31, tO31⟩
theorem tF32 : CL X GV 56 [.str [64, 53, 32, 40, 112, 32, 49, 41, 32, 40, 113, 32, 50, 32, 34, 120, 34, 41]] [] = some (.tup [.lst .none 7 [[.int .i64 7, .int .i64 0, .str [64, 53], .int .i64 1, .int .i64 5, .int .i64 0, .str []], [.int .i64 1, .int .i64 3, .str [40], .int .i64 0, .int .i64 0, .int .i64 0, .str []], [.int .i64 3, .int .i64 4, .str [112], .int .i64 0, .int .i64 0, .int .i64 0, .str []], [.int .i64 6, .int .i64 6, .str [49], .int .i64 1, .int .i64 1, .int .i64 0, .str []], [.int .i64 2, .int .i64 7, .str [41], .int .i64 0, .int .i64 0, .int .i64 0, .str []], [.int .i64 1, .int .i64 9, .str [40], .int .i64 0, .int .i64 0, .int .i64 0, .str []], [.int .i64 3, .int .i64 10, .str [113], .int .i64 0, .int .i64 0, .int .i64 0, .str []], [.int .i64 6, .int .i64 12, .str [50], .int .i64 1, .int .i64 2, .int .i64 0, .str []], [.int .i64 6, .int .i64 14, .str [34, 120, 34], .int .i64 3, .int .i64 0, .int .i64 0, .str [120]], [.int .i64 2, .int .i64 17, .str [41], .int .i64 0, .int .i64 0, .int .i64 0, .str []]], .int .i64 0, .int .i64 0], []) := CL_told tO32 40 (by kernel_rfl)
def tT33 : Told := (56, [.str [64, 53, 32, 40, 112, 32, 49, 41, 32, 40, 113, 32, 50, 32, 34, 120, 34, 41]], .tup [.lst .none 7 [[.int .i64 7, .int .i64 0, .str [64, 53], .int .i64 1, .int .i64 5, .int .i64 0, .str []], [.int .i64 1, .int .i64 3, .str [40], .int .i64 0, .int .i64 0, .int .i64 0, .str []], [.int .i64 3, .int .i64 4, .str [112], .int .i64 0, .int .i64 0, .int .i64 0, .str []], [.int .i64 6, .int .i64 6, .str [49], .int .i64 1, .int .i64 1, .int .i64 0, .str []], [.int .i64 2, .int .i64 7, .str [41], .int .i64 0, .int .i64 0, .int .i64 0, .str []], [.int .i64 1, .int .i64 9, .str [40], .int .i64 0, .int .i64 0, .int .i64 0, .str []], [.int .i64 3, .int .i64 10, .str [113], .int .i64 0, .int .i64 0, .int .i64 0, .str []], [.int .i64 6, .int .i64 12, .str [50], .int .i64 1, .int .i64 2, .int .i64 0, .str []], [.int .i64 6, .int .i64 14, .str [34, 120, 34], .int .i64 3, .int .i64 0, .int .i64 0, .str [120]], [.int .i64 2, .int .i64 17, .str [41], .int .i64 0, .int .i64 0, .int .i64 0, .str []]], .int .i64 0, .int .i64 0]) :: tT32
theorem tO33 : ToldCL X GV tT33 := ⟨tF32, tO32⟩
theorem tF33 : CL X GV 32 [.str [64, 53, 32, 40, 112, 32, 49, 41, 32, 40, 113, 32, 50, 32, 34, 120, 34, 41]] [] = some (.tup [.lst .none 7 [[.int .i64 7, .int .i64 0, .str [64, 53], .int .i64 1, .int .i64 5, .int .i64 0, .str []], [.int .i64 1, .int .i64 3, .str [40], .int .i64 0, .int .i64 0, .int .i64 0, .str []], [.int .i64 3, .int .i64 4, .str [112], .int .i64 0, .int .i64 0, .int .i64 0, .str []], [.int .i64 6, .int .i64 6, .str [49], .int .i64 1, .int .i64 1, .int .i64 0, .str []], [.int .i64 2, .int .i64 7, .str [41], .int .i64 0, .int .i64 0, .int .i64 0, .str []], [.int .i64 1, .int .i64 9, .str [40], .int .i64 0, .int .i64 0, .int .i64 0, .str []], [.int .i64 3, .int .i64 10, .str [113], .int .i64 0, .int .i64 0, .int .i64 0, .str []], [.int .i64 6, .int .i64 12, .str [50], .int .i64 1, .int .i64 2, .int .i64 0, .str []], [.int .i64 6, .int .i64 14, .str [34, 120, 34], .int .i64 3, .int .i64 0, .int .i64 0, .str [120]], [.int .i64 2, .int .i64 17, .str [41], .int .i64 0, .int .i64 0, .int .i64 0, .str []]], .nilif], []) := CL_told tO33 40 (by kernel_rfl)
def tT34 : Told := (32, [.str [64, 53, 32, 40, 112, 32, 49, 41, 32, 40, 113, 32, 50, 32, 34, 120, 34, 41]], .tup [.lst .none 7 [[.int .i64 7, .int .i64 0, .str [64, 53], .int .i64 1, .int .i64 5, .int .i64 0, .str []], [.int .i64 1, .int .i64 3, .str [40], .int .i64 0, .int .i64 0, .int .i64 0, .str []], [.int .i64 3, .int .i64 4, .str [112], .int .i64 0, .int .i64 0, .int .i64 0, .str []], [.int .i64 6, .int .i64 6, .str [49], .int .i64 1, .int .i64 1, .int .i64 0, .str []], [.int .i64 2, .int .i64 7, .str [41], .int .i64 0, .int .i64 0, .int .i64 0, .str []], [.int .i64 1, .int .i64 9, .str [40], .int .i64 0, .int .i64 0, .int .i64 0, .str []], [.int .i64 3, .int .i64 10, .str [113], .int .i64 0, .int .i64 0, .int .i64 0, .str []], [.int .i64 6, .int .i64 12, .str [50], .int .i64 1, .int .i64 2, .int .i64 0, .str []], [.int .i64 6, .int .i64 14, .str [34, 120, 34], .int .i64 3, .int .i64 0, .int .i64 0, .str [120]], [.int .i64 2, .int .i64 17, .str [41], .int .i64 0, .int .i64 0, .int .i64 0, .str []]], .nilif]) :: tT33
theorem tO34 : ToldCL X GV tT34 := ⟨tF33, tO33⟩
theorem tF34 : CL X GV 33 [.lst .none 7 [[.int .i64 7, .int .i64 0, .str [64, 53], .int .i64 1, .int .i64 5, .int .i64 0, .str []], [.int .i64 1, .int .i64 3, .str [40], .int .i64 0, .int .i64 0, .int .i64 0, .str []], [.int .i64 3, .int .i64 4, .str [112], .int .i64 0, .int .i64 0, .int .i64 0, .str []], [.int .i64 6, .int .i64 6, .str [49], .int .i64 1, .int .i64 1, .int .i64 0, .str []], [.int .i64 2, .int .i64 7, .str [41], .int .i64 0, .int .i64 0, .int .i64 0, .str []], [.int .i64 1, .int .i64 9, .str [40], .int .i64 0, .int .i64 0, .int .i64 0, .str []], [.int .i64 3, .int .i64 10, .str [113], .int .i64 0, .int .i64 0, .int .i64 0, .str []], [.int .i64 6, .int .i64 12, .str [50], .int .i64 1, .int .i64 2, .int .i64 0, .str []], [.int .i64 6, .int .i64 14, .str [34, 120, 34], .int .i64 3, .int .i64 0, .int .i64 0, .str [120]], [.int .i64 2, .int .i64 17, .str [41], .int .i64 0, .int .i64 0, .int .i64 0, .str []]]] [] = some (.tup [.agg [.int .i64 5, .lst .none 2 [[.str [112], .lst .none 4 [[.int .i64 1, .int .i64 1, .int .i64 0, .str []]]], [.str [113], .lst .none 4 [[.int .i64 1, .int .i64 2, .int .i64 0, .str []], [.int .i64 3, .int .i64 0, .int .i64 0, .str [120]]]]]], .nilif], []) := CL_told tO34 40 (by kernel_rfl)
def tT35 : Told := (33, [.lst .none 7 [[.int .i64 7, .int .i64 0, .str [64, 53], .int .i64 1, .int .i64 5, .int .i64 0, .str []], [.int .i64 1, .int .i64 3, .str [40], .int .i64 0, .int .i64 0, .int .i64 0, .str []], [.int .i64 3, .int .i64 4, .str [112], .int .i64 0, .int .i64 0, .int .i64 0, .str []], [.int .i64 6, .int .i64 6, .str [49], .int .i64 1, .int .i64 1, .int .i64 0, .str []], [.int .i64 2, .int .i64 7, .str [41], .int .i64 0, .int .i64 0, .int .i64 0, .str []], [.int .i64 1, .int .i64 9, .str [40], .int .i64 0, .int .i64 0, .int .i64 0, .str []], [.int .i64 3, .int .i64 10, .str [113], .int .i64 0, .int .i64 0, .int .i64 0, .str []], [.int .i64 6, .int .i64 12, .str [50], .int .i64 1, .int .i64 2, .int .i64 0, .str []], [.int .i64 6, .int .i64 14, .str [34, 120, 34], .int .i64 3, .int .i64 0, .int .i64 0, .str [120]], [.int .i64 2, .int .i64 17, .str [41], .int .i64 0, .int .i64 0, .int .i64 0, .str []]]], .tup [.agg [.int .i64 5, .lst .none 2 [[.str [112], .lst .none 4 [[.int .i64 1, .int .i64 1, .int .i64 0, .str []]]], [.str [113], .lst .none 4 [[.int .i64 1, .int .i64 2, .int .i64 0, .str []], [.int .i64 3, .int .i64 0, .int .i64 0, .str [120]]]]]], .nilif]) :: tT34
theorem tO35 : ToldCL X GV tT35 := ⟨tF34, tO34⟩
theorem tF35 : CL X GV 13 [.str [64, 53, 32, 40, 112, 32, 49, 41, 32, 40, 113, 32, 50, 32, 34, 120, 34, 41]] [] = some (.tup [.agg [.int .i64 5, .lst .none 2 [[.str [112], .lst .none 4 [[.int .i64 1, .int .i64 1, .int .i64 0, .str []]]], [.str [113], .lst .none 4 [[.int .i64 1, .int .i64 2, .int .i64 0, .str []], [.int .i64 3, .int .i64 0, .int .i64 0, .str [120]]]]]], .int .i64 0], []) := CL_told tO35 40 (by kernel_rfl)
def tT36 : Told := (13, [.str [64, 53, 32, 40, 112, 32, 49, 41, 32, 40, 113, 32, 50, 32, 34, 120, 34, 41]], .tup [.agg [.int .i64 5, .lst .none 2 [[.str [112], .lst .none 4 [[.int .i64 1, .int .i64 1, .int .i64 0, .str []]]], [.str [113], .lst .none 4 [[.int .i64 1, .int .i64 2, .int .i64 0, .str []], [.int .i64 3, .int .i64 0, .int .i64 0, .str [120]]]]]], .int .i64 0]) :: tT35
theorem tO36 : ToldCL X GV tT36 := ⟨tF35, tO35⟩
theorem tF36 : CL X GV 16 [.agg [.int .i64 5, .lst .none 2 [[.str [112], .lst .none 4 [[.int .i64 1, .int .i64 1, .int .i64 0, .str []]]], [.str [113], .lst .none 4 [[.int .i64 1, .int .i64 2, .int .i64 0, .str []], [.int .i64 3, .int .i64 0, .int .i64 0, .str [120]]]]]]] [] = some (.tup [.str [64, 53, 32, 40, 112, 32, 49, 41, 32, 40, 113, 32, 50, 32, 34, 120, 34, 41], .int .i64 0], []) := CL_told tO36 40 (by kernel_rfl)
def tT37 : Told := (16, [.agg [.int .i64 5, .lst .none 2 [[.str [112], .lst .none 4 [[.int .i64 1, .int .i64 1, .int .i64 0, .str []]]], [.str [113], .lst .none 4 [[.int .i64 1, .int .i64 2, .int .i64 0, .str []], [.int .i64 3, .int .i64 0, .int .i64 0, .str [120]]]]]]], .tup [.str [64, 53, 32, 40, 112, 32, 49, 41, 32, 40, 113, 32, 50, 32, 34, 120, 34, 41], .int .i64 0]) :: tT36
theorem tO37 : ToldCL X GV tT37 := ⟨tF36, tO36⟩
theorem tF37 : CL X GV 73 [.str [53], .int .i64 0] [] = some (.tup [.agg [.int .i64 6, .int .i64 0, .str [53], .int .i64 1, .int .i64 5, .int .i64 0, .str []], .bool true], []) := CL_told tO37 40 (by kernel_rfl)
def tT38 : Told := (73, [.str [53], .int .i64 0], .tup [.agg [.int .i64 6, .int .i64 0, .str [53], .int .i64 1, .int .i64 5, .int .i64 0, .str []], .bool true]) :: tT37
theorem tO38 : ToldCL X GV tT38 := ⟨tF37, tO37⟩
theorem tF38 : CL X GV 56 [.str [53]] [] = some (.tup [.lst .none 7 [[.int .i64 6, .int .i64 0, .str [53], .int .i64 1, .int .i64 5, .int .i64 0, .str []]], .int .i64 0, .int .i64 0], []) := CL_told tO38 40 (by kernel_rfl)
def tT39 : Told := (56, [.str [53]], .tup [.lst .none 7 [[.int .i64 6, .int .i64 0, .str [53], .int .i64 1, .int .i64 5, .int .i64 0, .str []]], .int .i64 0, .int .i64 0]) :: tT38
theorem tO39 : ToldCL X GV tT39 := ⟨tF38, tO38⟩
theorem tF39 : CL X GV 32 [.str [53]] [] = some (.tup [.lst .none 7 [[.int .i64 6, .int .i64 0, .str [53], .int .i64 1, .int .i64 5, .int .i64 0, .str []]], .nilif], []) := CL_told tO39 40 (by kernel_rfl)
def tT40 : Told := (32, [.str [53]], .tup [.lst .none 7 [[.int .i64 6, .int .i64 0, .str [53], .int .i64 1, .int .i64 5, .int .i64 0, .str []]], .nilif]) :: tT39
theorem tO40 : ToldCL X GV tT40 := ⟨tF39, tO39⟩
theorem tF40 : CL X GV 33 [.lst .none 7 [[.int .i64 6, .int .i64 0, .str [53], .int .i64 1, .int .i64 5, .int .i64 0, .str []]]] [] = some (.tup [.agg [.int .i64 0, .nilsl], .ifc 96 (.agg [.int .i64 70])], []) := CL_told tO40 40 (by kernel_rfl)
def tT41 : Told := (33, [.lst .none 7 [[.int .i64 6, .int .i64 0, .str [53], .int .i64 1, .int .i64 5, .int .i64 0, .str []]]], .tup [.agg [.int .i64 0, .nilsl], .ifc 96 (.agg [.int .i64 70])]) :: tT40
theorem tO41 : ToldCL X GV tT41 := ⟨tF40, tO40⟩
theorem tF41 : CL X GV 13 [.str [53]] [] = some (.tup [.agg [.int .i64 0, .nilsl], .int .i64 70], []) := CL_told tO41 40 (by kernel_rfl)
def tT42 : Told := (13, [.str [53]], .tup [.agg [.int .i64 0, .nilsl], .int .i64 70]) :: tT41
theorem tO42 : ToldCL X GV tT42 := ⟨tF41, tO41⟩
theorem tF42 : CL X GV 10 [.lst .none 2 [[.str [112], .lst .none 1 [[.int .i64 1]]], [.str [113], .lst .none 1 [[.int .i64 1], [.int .i64 3]]]], .agg [.int .i64 5, .lst .none 2 [[.str [112], .lst .none 4 [[.int .i64 1, .int .i64 1, .int .i64 0, .str []]]], [.str [113], .lst .none 4 [[.int .i64 1, .int .i64 2, .int .i64 0, .str []], [.int .i64 3, .int .i64 0, .int .i64 0, .str [120]]]]]]] [] = some (.int .i64 0, []) := CL_told tO42 40 (by kernel_rfl)
def tT43 : Told := (10, [.lst .none 2 [[.str [112], .lst .none 1 [[.int .i64 1]]], [.str [113], .lst .none 1 [[.int .i64 1], [.int .i64 3]]]], .agg [.int .i64 5, .lst .none 2 [[.str [112], .lst .none 4 [[.int .i64 1, .int .i64 1, .int .i64 0, .str []]]], [.str [113], .lst .none 4 [[.int .i64 1, .int .i64 2, .int .i64 0, .str []], [.int .i64 3, .int .i64 0, .int .i64 0, .str [120]]]]]]], .int .i64 0) :: tT42
theorem tO43 : ToldCL X GV tT43 := ⟨tF42, tO42⟩
theorem tF43 : CL X GV 10 [.lst .none 2 [[.str [112], .lst .none 1 [[.int .i64 1]]]], .agg [.int .i64 5, .lst .none 2 [[.str [112], .lst .none 4 [[.int .i64 1, .int .i64 1, .int .i64 0, .str []]]], [.str [113], .lst .none 4 [[.int .i64 1, .int .i64 2, .int .i64 0, .str []], [.int .i64 3, .int .i64 0, .int .i64 0, .str [120]]]]]]] [] = some (.int .i64 90, []) := CL_told tO43 40 (by kernel_rfl)
def tT44 : Told := (10, [.lst .none 2 [[.str [112], .lst .none 1 [[.int .i64 1]]]], .agg [.int .i64 5, .lst .none 2 [[.str [112], .lst .none 4 [[.int .i64 1, .int .i64 1, .int .i64 0, .str []]]], [.str [113], .lst .none 4 [[.int .i64 1, .int .i64 2, .int .i64 0, .str []], [.int .i64 3, .int .i64 0, .int .i64 0, .str [120]]]]]]], .int .i64 90) :: tT43
theorem tO44 : ToldCL X GV tT44 := ⟨tF43, tO43⟩
theorem tF44 : CL X GV 11 [] [] = some (.bool true, []) := CL_told tO44 40 (by kernel_rfl)
def tT45 : Told := (11, [], .bool true) :: tT44
theorem tO45 : ToldCL X GV tT45 := ⟨tF44, tO44⟩
theorem tF45 : CL X GV 3 [] [] = some (.bool true, []) := CL_told tO45 40 (by kernel_rfl)
theorem v_TraceNumbers : CL X GV 3 [] [] = some (.bool true, []) := tF45
end Go.Proofs.YtjbgceogkgpjpaaGreatDoor.Sx.T
