/- Closed calls of the program's functions, told by the kernel. -/
import Derived.Test.YtgfeladjpjipeaaDoorSxText
import Derived.Test.YtgfeladjpjipeaaDoorEvA
import Derived.KernelRfl
import Derived.Test.YtgfeladjpjipeaaDoorGV
set_option linter.unusedVariables false
set_option linter.unusedSimpArgs false
namespace Go.Proofs.YtgfeladjpjipeaaDoor.Sx.T
open Go Go.Proofs.YtgfeladjpjipeaaDoor.Sx
set_option maxRecDepth 100000
def tT0 : Told := []
theorem tO0 : ToldCL X GV tT0 := trivial
theorem tF0 : CL X GV 16 [.str [60, 61, 61, 45, 53, 45, 45, 53, 32, 91, 48, 44, 53, 93, 10, 64, 55, 40], .int .i64 0] [] = some (.tup [.int .i64 4, .int .i64 2], []) := CL_told tO0 40 (by kernel_rfl)
def tT1 : Told := (16, [.str [60, 61, 61, 45, 53, 45, 45, 53, 32, 91, 48, 44, 53, 93, 10, 64, 55, 40], .int .i64 0], .tup [.int .i64 4, .int .i64 2]) :: tT0
theorem tO1 : ToldCL X GV tT1 := ⟨tF0, tO0⟩
theorem tF1 : CL X GV 14 [.str [60, 61, 61, 45, 53, 45, 45, 53, 32, 91, 48, 44, 53, 93, 10, 64, 55, 40], .int .i64 0] [] = some (.tup [.agg [.int .i64 4, .int .i64 0, .str [60, 61], .int .i64 0, .int .i64 0, .int .i64 0, .str []], .bool true], []) := CL_told tO1 40 (by kernel_rfl)
def tT2 : Told := (14, [.str [60, 61, 61, 45, 53, 45, 45, 53, 32, 91, 48, 44, 53, 93, 10, 64, 55, 40], .int .i64 0], .tup [.agg [.int .i64 4, .int .i64 0, .str [60, 61], .int .i64 0, .int .i64 0, .int .i64 0, .str []], .bool true]) :: tT1
theorem tO2 : ToldCL X GV tT2 := ⟨tF1, tO1⟩
theorem tF2 : CL X GV 16 [.str [60, 61, 61, 45, 53, 45, 45, 53, 32, 91, 48, 44, 53, 93, 10, 64, 55, 40], .int .i64 2] [] = some (.tup [.int .i64 4, .int .i64 3], []) := CL_told tO2 40 (by kernel_rfl)
def tT3 : Told := (16, [.str [60, 61, 61, 45, 53, 45, 45, 53, 32, 91, 48, 44, 53, 93, 10, 64, 55, 40], .int .i64 2], .tup [.int .i64 4, .int .i64 3]) :: tT2
theorem tO3 : ToldCL X GV tT3 := ⟨tF2, tO2⟩
theorem tF3 : CL X GV 14 [.str [60, 61, 61, 45, 53, 45, 45, 53, 32, 91, 48, 44, 53, 93, 10, 64, 55, 40], .int .i64 2] [] = some (.tup [.agg [.int .i64 4, .int .i64 2, .str [61], .int .i64 0, .int .i64 0, .int .i64 0, .str []], .bool true], []) := CL_told tO3 40 (by kernel_rfl)
def tT4 : Told := (14, [.str [60, 61, 61, 45, 53, 45, 45, 53, 32, 91, 48, 44, 53, 93, 10, 64, 55, 40], .int .i64 2], .tup [.agg [.int .i64 4, .int .i64 2, .str [61], .int .i64 0, .int .i64 0, .int .i64 0, .str []], .bool true]) :: tT3
theorem tO4 : ToldCL X GV tT4 := ⟨tF3, tO3⟩
theorem tF4 : CL X GV 16 [.str [60, 61, 61, 45, 53, 45, 45, 53, 32, 91, 48, 44, 53, 93, 10, 64, 55, 40], .int .i64 3] [] = some (.tup [.int .i64 6, .int .i64 5], []) := CL_told tO4 40 (by kernel_rfl)
def tT5 : Told := (16, [.str [60, 61, 61, 45, 53, 45, 45, 53, 32, 91, 48, 44, 53, 93, 10, 64, 55, 40], .int .i64 3], .tup [.int .i64 6, .int .i64 5]) :: tT4
theorem tO5 : ToldCL X GV tT5 := ⟨tF4, tO4⟩
theorem tF5 : CL X GV 18 [.str [45, 53]] [] = some (.tup [.agg [.int .i64 1, .int .i64 (-5), .int .i64 0, .str []], .int .i64 0], []) := CL_told tO5 40 (by kernel_rfl)
def tT6 : Told := (18, [.str [45, 53]], .tup [.agg [.int .i64 1, .int .i64 (-5), .int .i64 0, .str []], .int .i64 0]) :: tT5
theorem tO6 : ToldCL X GV tT6 := ⟨tF5, tO5⟩
theorem tF6 : CL X GV 14 [.str [60, 61, 61, 45, 53, 45, 45, 53, 32, 91, 48, 44, 53, 93, 10, 64, 55, 40], .int .i64 3] [] = some (.tup [.agg [.int .i64 6, .int .i64 3, .str [45, 53], .int .i64 1, .int .i64 (-5), .int .i64 0, .str []], .bool true], []) := CL_told tO6 40 (by kernel_rfl)
def tT7 : Told := (14, [.str [60, 61, 61, 45, 53, 45, 45, 53, 32, 91, 48, 44, 53, 93, 10, 64, 55, 40], .int .i64 3], .tup [.agg [.int .i64 6, .int .i64 3, .str [45, 53], .int .i64 1, .int .i64 (-5), .int .i64 0, .str []], .bool true]) :: tT6
theorem tO7 : ToldCL X GV tT7 := ⟨tF6, tO6⟩
theorem tF7 : CL X GV 16 [.str [60, 61, 61, 45, 53, 45, 45, 53, 32, 91, 48, 44, 53, 93, 10, 64, 55, 40], .int .i64 5] [] = some (.tup [.int .i64 4, .int .i64 6], []) := CL_told tO7 40 (by kernel_rfl)
def tT8 : Told := (16, [.str [60, 61, 61, 45, 53, 45, 45, 53, 32, 91, 48, 44, 53, 93, 10, 64, 55, 40], .int .i64 5], .tup [.int .i64 4, .int .i64 6]) :: tT7
theorem tO8 : ToldCL X GV tT8 := ⟨tF7, tO7⟩
theorem tF8 : CL X GV 14 [.str [60, 61, 61, 45, 53, 45, 45, 53, 32, 91, 48, 44, 53, 93, 10, 64, 55, 40], .int .i64 5] [] = some (.tup [.agg [.int .i64 4, .int .i64 5, .str [45], .int .i64 0, .int .i64 0, .int .i64 0, .str []], .bool true], []) := CL_told tO8 40 (by kernel_rfl)
def tT9 : Told := (14, [.str [60, 61, 61, 45, 53, 45, 45, 53, 32, 91, 48, 44, 53, 93, 10, 64, 55, 40], .int .i64 5], .tup [.agg [.int .i64 4, .int .i64 5, .str [45], .int .i64 0, .int .i64 0, .int .i64 0, .str []], .bool true]) :: tT8
theorem tO9 : ToldCL X GV tT9 := ⟨tF8, tO8⟩
theorem tF9 : CL X GV 16 [.str [60, 61, 61, 45, 53, 45, 45, 53, 32, 91, 48, 44, 53, 93, 10, 64, 55, 40], .int .i64 6] [] = some (.tup [.int .i64 6, .int .i64 8], []) := CL_told tO9 40 (by kernel_rfl)
def tT10 : Told := (16, [.str [60, 61, 61, 45, 53, 45, 45, 53, 32, 91, 48, 44, 53, 93, 10, 64, 55, 40], .int .i64 6], .tup [.int .i64 6, .int .i64 8]) :: tT9
theorem tO10 : ToldCL X GV tT10 := ⟨tF9, tO9⟩
theorem tF10 : CL X GV 14 [.str [60, 61, 61, 45, 53, 45, 45, 53, 32, 91, 48, 44, 53, 93, 10, 64, 55, 40], .int .i64 6] [] = some (.tup [.agg [.int .i64 6, .int .i64 6, .str [45, 53], .int .i64 1, .int .i64 (-5), .int .i64 0, .str []], .bool true], []) := CL_told tO10 40 (by kernel_rfl)
def tT11 : Told := (14, [.str [60, 61, 61, 45, 53, 45, 45, 53, 32, 91, 48, 44, 53, 93, 10, 64, 55, 40], .int .i64 6], .tup [.agg [.int .i64 6, .int .i64 6, .str [45, 53], .int .i64 1, .int .i64 (-5), .int .i64 0, .str []], .bool true]) :: tT10
theorem tO11 : ToldCL X GV tT11 := ⟨tF10, tO10⟩
theorem tF11 : CL X GV 16 [.str [60, 61, 61, 45, 53, 45, 45, 53, 32, 91, 48, 44, 53, 93, 10, 64, 55, 40], .int .i64 9] [] = some (.tup [.int .i64 5, .int .i64 14], []) := CL_told tO11 40 (by kernel_rfl)
def tT12 : Told := (16, [.str [60, 61, 61, 45, 53, 45, 45, 53, 32, 91, 48, 44, 53, 93, 10, 64, 55, 40], .int .i64 9], .tup [.int .i64 5, .int .i64 14]) :: tT11
theorem tO12 : ToldCL X GV tT12 := ⟨tF11, tO11⟩
theorem tF12 : CL X GV 19 [.str [48]] [] = some (.tup [.int .i64 0, .bool true], []) := CL_told tO12 40 (by kernel_rfl)
def tT13 : Told := (19, [.str [48]], .tup [.int .i64 0, .bool true]) :: tT12
theorem tO13 : ToldCL X GV tT13 := ⟨tF12, tO12⟩
theorem tF13 : CL X GV 19 [.str [53]] [] = some (.tup [.int .i64 5, .bool true], []) := CL_told tO13 40 (by kernel_rfl)
def tT14 : Told := (19, [.str [53]], .tup [.int .i64 5, .bool true]) :: tT13
theorem tO14 : ToldCL X GV tT14 := ⟨tF13, tO13⟩
theorem tF14 : CL X GV 17 [.str [91, 48, 44, 53, 93]] [] = some (.bool true, []) := CL_told tO14 40 (by kernel_rfl)
def tT15 : Told := (17, [.str [91, 48, 44, 53, 93]], .bool true) :: tT14
theorem tO15 : ToldCL X GV tT15 := ⟨tF14, tO14⟩
theorem tF15 : CL X GV 14 [.str [60, 61, 61, 45, 53, 45, 45, 53, 32, 91, 48, 44, 53, 93, 10, 64, 55, 40], .int .i64 9] [] = some (.tup [.agg [.int .i64 5, .int .i64 9, .str [91, 48, 44, 53, 93], .int .i64 0, .int .i64 0, .int .i64 0, .str []], .bool true], []) := CL_told tO15 40 (by kernel_rfl)
def tT16 : Told := (14, [.str [60, 61, 61, 45, 53, 45, 45, 53, 32, 91, 48, 44, 53, 93, 10, 64, 55, 40], .int .i64 9], .tup [.agg [.int .i64 5, .int .i64 9, .str [91, 48, 44, 53, 93], .int .i64 0, .int .i64 0, .int .i64 0, .str []], .bool true]) :: tT15
theorem tO16 : ToldCL X GV tT16 := ⟨tF15, tO15⟩
theorem tF16 : CL X GV 16 [.str [60, 61, 61, 45, 53, 45, 45, 53, 32, 91, 48, 44, 53, 93, 10, 64, 55, 40], .int .i64 15] [] = some (.tup [.int .i64 7, .int .i64 17], []) := CL_told tO16 40 (by kernel_rfl)
def tT17 : Told := (16, [.str [60, 61, 61, 45, 53, 45, 45, 53, 32, 91, 48, 44, 53, 93, 10, 64, 55, 40], .int .i64 15], .tup [.int .i64 7, .int .i64 17]) :: tT16
theorem tO17 : ToldCL X GV tT17 := ⟨tF16, tO16⟩
theorem tF17 : CL X GV 19 [.str [55]] [] = some (.tup [.int .i64 7, .bool true], []) := CL_told tO17 40 (by kernel_rfl)
def tT18 : Told := (19, [.str [55]], .tup [.int .i64 7, .bool true]) :: tT17
theorem tO18 : ToldCL X GV tT18 := ⟨tF17, tO17⟩
theorem tF18 : CL X GV 14 [.str [60, 61, 61, 45, 53, 45, 45, 53, 32, 91, 48, 44, 53, 93, 10, 64, 55, 40], .int .i64 15] [] = some (.tup [.agg [.int .i64 7, .int .i64 15, .str [64, 55], .int .i64 1, .int .i64 7, .int .i64 0, .str []], .bool true], []) := CL_told tO18 40 (by kernel_rfl)
def tT19 : Told := (14, [.str [60, 61, 61, 45, 53, 45, 45, 53, 32, 91, 48, 44, 53, 93, 10, 64, 55, 40], .int .i64 15], .tup [.agg [.int .i64 7, .int .i64 15, .str [64, 55], .int .i64 1, .int .i64 7, .int .i64 0, .str []], .bool true]) :: tT18
theorem tO19 : ToldCL X GV tT19 := ⟨tF18, tO18⟩
theorem tF19 : CL X GV 16 [.str [60, 61, 61, 45, 53, 45, 45, 53, 32, 91, 48, 44, 53, 93, 10, 64, 55, 40], .int .i64 17] [] = some (.tup [.int .i64 1, .int .i64 18], []) := CL_told tO19 40 (by kernel_rfl)
def tT20 : Told := (16, [.str [60, 61, 61, 45, 53, 45, 45, 53, 32, 91, 48, 44, 53, 93, 10, 64, 55, 40], .int .i64 17], .tup [.int .i64 1, .int .i64 18]) :: tT19
theorem tO20 : ToldCL X GV tT20 := ⟨tF19, tO19⟩
theorem tF20 : CL X GV 14 [.str [60, 61, 61, 45, 53, 45, 45, 53, 32, 91, 48, 44, 53, 93, 10, 64, 55, 40], .int .i64 17] [] = some (.tup [.agg [.int .i64 1, .int .i64 17, .str [40], .int .i64 0, .int .i64 0, .int .i64 0, .str []], .bool true], []) := CL_told tO20 40 (by kernel_rfl)
def tT21 : Told := (14, [.str [60, 61, 61, 45, 53, 45, 45, 53, 32, 91, 48, 44, 53, 93, 10, 64, 55, 40], .int .i64 17], .tup [.agg [.int .i64 1, .int .i64 17, .str [40], .int .i64 0, .int .i64 0, .int .i64 0, .str []], .bool true]) :: tT20
theorem tO21 : ToldCL X GV tT21 := ⟨tF20, tO20⟩
theorem tF21 : CL X GV 8 [.str [60, 61, 61, 45, 53, 45, 45, 53, 32, 91, 48, 44, 53, 93, 10, 64, 55, 40]] [] = some (.lst .uniq 1007 [[.int .i64 0, .int .i64 0], [.int .i64 4, .int .i64 0, .str [60, 61], .int .i64 0, .int .i64 0, .int .i64 0, .str []], [.int .i64 4, .int .i64 2, .str [61], .int .i64 0, .int .i64 0, .int .i64 0, .str []], [.int .i64 6, .int .i64 3, .str [45, 53], .int .i64 1, .int .i64 (-5), .int .i64 0, .str []], [.int .i64 4, .int .i64 5, .str [45], .int .i64 0, .int .i64 0, .int .i64 0, .str []], [.int .i64 6, .int .i64 6, .str [45, 53], .int .i64 1, .int .i64 (-5), .int .i64 0, .str []], [.int .i64 5, .int .i64 9, .str [91, 48, 44, 53, 93], .int .i64 0, .int .i64 0, .int .i64 0, .str []], [.int .i64 7, .int .i64 15, .str [64, 55], .int .i64 1, .int .i64 7, .int .i64 0, .str []], [.int .i64 1, .int .i64 17, .str [40], .int .i64 0, .int .i64 0, .int .i64 0, .str []]], []) := CL_told tO21 40 (by kernel_rfl)
def tT22 : Told := (8, [.str [60, 61, 61, 45, 53, 45, 45, 53, 32, 91, 48, 44, 53, 93, 10, 64, 55, 40]], .lst .uniq 1007 [[.int .i64 0, .int .i64 0], [.int .i64 4, .int .i64 0, .str [60, 61], .int .i64 0, .int .i64 0, .int .i64 0, .str []], [.int .i64 4, .int .i64 2, .str [61], .int .i64 0, .int .i64 0, .int .i64 0, .str []], [.int .i64 6, .int .i64 3, .str [45, 53], .int .i64 1, .int .i64 (-5), .int .i64 0, .str []], [.int .i64 4, .int .i64 5, .str [45], .int .i64 0, .int .i64 0, .int .i64 0, .str []], [.int .i64 6, .int .i64 6, .str [45, 53], .int .i64 1, .int .i64 (-5), .int .i64 0, .str []], [.int .i64 5, .int .i64 9, .str [91, 48, 44, 53, 93], .int .i64 0, .int .i64 0, .int .i64 0, .str []], [.int .i64 7, .int .i64 15, .str [64, 55], .int .i64 1, .int .i64 7, .int .i64 0, .str []], [.int .i64 1, .int .i64 17, .str [40], .int .i64 0, .int .i64 0, .int .i64 0, .str []]]) :: tT21
theorem tO22 : ToldCL X GV tT22 := ⟨tF21, tO21⟩
theorem tF22 : CL X GV 16 [.str [97, 32, 49, 47, 50, 32, 48, 53], .int .i64 0] [] = some (.tup [.int .i64 3, .int .i64 1], []) := CL_told tO22 40 (by kernel_rfl)
def tT23 : Told := (16, [.str [97, 32, 49, 47, 50, 32, 48, 53], .int .i64 0], .tup [.int .i64 3, .int .i64 1]) :: tT22
theorem tO23 : ToldCL X GV tT23 := ⟨tF22, tO22⟩
theorem tF23 : CL X GV 14 [.str [97, 32, 49, 47, 50, 32, 48, 53], .int .i64 0] [] = some (.tup [.agg [.int .i64 3, .int .i64 0, .str [97], .int .i64 0, .int .i64 0, .int .i64 0, .str []], .bool true], []) := CL_told tO23 40 (by kernel_rfl)
def tT24 : Told := (14, [.str [97, 32, 49, 47, 50, 32, 48, 53], .int .i64 0], .tup [.agg [.int .i64 3, .int .i64 0, .str [97], .int .i64 0, .int .i64 0, .int .i64 0, .str []], .bool true]) :: tT23
theorem tO24 : ToldCL X GV tT24 := ⟨tF23, tO23⟩
theorem tF24 : CL X GV 16 [.str [97, 32, 49, 47, 50, 32, 48, 53], .int .i64 2] [] = some (.tup [.int .i64 6, .int .i64 5], []) := CL_told tO24 40 (by kernel_rfl)
def tT25 : Told := (16, [.str [97, 32, 49, 47, 50, 32, 48, 53], .int .i64 2], .tup [.int .i64 6, .int .i64 5]) :: tT24
theorem tO25 : ToldCL X GV tT25 := ⟨tF24, tO24⟩
theorem tF25 : CL X GV 18 [.str [49, 47, 50]] [] = some (.tup [.agg [.int .i64 2, .int .i64 1, .int .i64 2, .str []], .int .i64 0], []) := CL_told tO25 40 (by kernel_rfl)
def tT26 : Told := (18, [.str [49, 47, 50]], .tup [.agg [.int .i64 2, .int .i64 1, .int .i64 2, .str []], .int .i64 0]) :: tT25
theorem tO26 : ToldCL X GV tT26 := ⟨tF25, tO25⟩
theorem tF26 : CL X GV 14 [.str [97, 32, 49, 47, 50, 32, 48, 53], .int .i64 2] [] = some (.tup [.agg [.int .i64 6, .int .i64 2, .str [49, 47, 50], .int .i64 2, .int .i64 1, .int .i64 2, .str []], .bool true], []) := CL_told tO26 40 (by kernel_rfl)
def tT27 : Told := (14, [.str [97, 32, 49, 47, 50, 32, 48, 53], .int .i64 2], .tup [.agg [.int .i64 6, .int .i64 2, .str [49, 47, 50], .int .i64 2, .int .i64 1, .int .i64 2, .str []], .bool true]) :: tT26
theorem tO27 : ToldCL X GV tT27 := ⟨tF26, tO26⟩
theorem tF27 : CL X GV 16 [.str [97, 32, 49, 47, 50, 32, 48, 53], .int .i64 6] [] = some (.tup [.int .i64 6, .int .i64 8], []) := CL_told tO27 40 (by kernel_rfl)
def tT28 : Told := (16, [.str [97, 32, 49, 47, 50, 32, 48, 53], .int .i64 6], .tup [.int .i64 6, .int .i64 8]) :: tT27
theorem tO28 : ToldCL X GV tT28 := ⟨tF27, tO27⟩
theorem tF28 : CL X GV 18 [.str [48, 53]] [] = some (.tup [.agg [.int .i64 0, .int .i64 0, .int .i64 0, .str []], .int .i64 70], []) := CL_told tO28 40 (by kernel_rfl)
def tT29 : Told := (18, [.str [48, 53]], .tup [.agg [.int .i64 0, .int .i64 0, .int .i64 0, .str []], .int .i64 70]) :: tT28
theorem tO29 : ToldCL X GV tT29 := ⟨tF28, tO28⟩
theorem tF29 : CL X GV 14 [.str [97, 32, 49, 47, 50, 32, 48, 53], .int .i64 6] [] = some (.tup [.agg [.int .i64 6, .int .i64 6, .str [48, 53], .int .i64 0, .int .i64 0, .int .i64 0, .str []], .bool false], []) := CL_told tO29 40 (by kernel_rfl)
def tT30 : Told := (14, [.str [97, 32, 49, 47, 50, 32, 48, 53], .int .i64 6], .tup [.agg [.int .i64 6, .int .i64 6, .str [48, 53], .int .i64 0, .int .i64 0, .int .i64 0, .str []], .bool false]) :: tT29
theorem tO30 : ToldCL X GV tT30 := ⟨tF29, tO29⟩
theorem tF30 : CL X GV 8 [.str [97, 32, 49, 47, 50, 32, 48, 53]] [] = some (.tup [.nilsl, .int .i64 50, .int .i64 6], []) := CL_told tO30 40 (by kernel_rfl)
def tT31 : Told := (8, [.str [97, 32, 49, 47, 50, 32, 48, 53]], .tup [.nilsl, .int .i64 50, .int .i64 6]) :: tT30
theorem tO31 : ToldCL X GV tT31 := ⟨tF30, tO30⟩
theorem tF31 : CL X GV 9 [] [] = some (.bool true, []) := CL_told tO31 40 (by kernel_rfl)
theorem liveTold : CL X GV 9 [] [] = some (.bool true, []) := tF31
end Go.Proofs.YtgfeladjpjipeaaDoor.Sx.T
