/- Closed calls of the program's functions, told by the kernel. -/
import Derived.Test.YtgbmobfjanajaaaDoorSxText
import Derived.Test.YtgbmobfjanajaaaDoorEvA
import Derived.KernelRfl
import Derived.Test.YtgbmobfjanajaaaDoorGV
set_option linter.unusedVariables false
set_option linter.unusedSimpArgs false
namespace Go.Proofs.YtgbmobfjanajaaaDoor.Sx.T
open Go Go.Proofs.YtgbmobfjanajaaaDoor.Sx
set_option maxRecDepth 100000
def tT0 : Told := []
theorem tO0 : ToldCL X GV tT0 := trivial
theorem tF0 : CL X GV 11 [.agg [.int .i64 1, .int .i64 9223372036854775807, .int .i64 0, .str []]] [] = some (.int .i64 0, []) := CL_told tO0 40 (by kernel_rfl)
def tT1 : Told := (11, [.agg [.int .i64 1, .int .i64 9223372036854775807, .int .i64 0, .str []]], .int .i64 0) :: tT0
theorem tO1 : ToldCL X GV tT1 := ⟨tF0, tO0⟩
theorem tF1 : CL X GV 11 [.agg [.int .i64 1, .int .i64 1, .int .i64 0, .str []]] [] = some (.int .i64 0, []) := CL_told tO1 40 (by kernel_rfl)
def tT2 : Told := (11, [.agg [.int .i64 1, .int .i64 1, .int .i64 0, .str []]], .int .i64 0) :: tT1
theorem tO2 : ToldCL X GV tT2 := ⟨tF1, tO1⟩
theorem tF2 : CL X GV 8 [.agg [.int .i64 1, .int .i64 9223372036854775807, .int .i64 0, .str []], .agg [.int .i64 1, .int .i64 1, .int .i64 0, .str []]] [] = some (.tup [.agg [.int .i64 0, .int .i64 0, .int .i64 0, .str []], .int .i64 10], []) := CL_told tO2 40 (by kernel_rfl)
def tT3 : Told := (8, [.agg [.int .i64 1, .int .i64 9223372036854775807, .int .i64 0, .str []], .agg [.int .i64 1, .int .i64 1, .int .i64 0, .str []]], .tup [.agg [.int .i64 0, .int .i64 0, .int .i64 0, .str []], .int .i64 10]) :: tT2
theorem tO3 : ToldCL X GV tT3 := ⟨tF2, tO2⟩
theorem tF3 : CL X GV 11 [.agg [.int .i64 1, .int .i64 2, .int .i64 0, .str []]] [] = some (.int .i64 0, []) := CL_told tO3 40 (by kernel_rfl)
def tT4 : Told := (11, [.agg [.int .i64 1, .int .i64 2, .int .i64 0, .str []]], .int .i64 0) :: tT3
theorem tO4 : ToldCL X GV tT4 := ⟨tF3, tO3⟩
theorem tF4 : CL X GV 11 [.agg [.int .i64 1, .int .i64 3, .int .i64 0, .str []]] [] = some (.int .i64 0, []) := CL_told tO4 40 (by kernel_rfl)
def tT5 : Told := (11, [.agg [.int .i64 1, .int .i64 3, .int .i64 0, .str []]], .int .i64 0) :: tT4
theorem tO5 : ToldCL X GV tT5 := ⟨tF4, tO4⟩
theorem tF5 : CL X GV 8 [.agg [.int .i64 1, .int .i64 2, .int .i64 0, .str []], .agg [.int .i64 1, .int .i64 3, .int .i64 0, .str []]] [] = some (.tup [.agg [.int .i64 1, .int .i64 5, .int .i64 0, .str []], .int .i64 0], []) := CL_told tO5 40 (by kernel_rfl)
def tT6 : Told := (8, [.agg [.int .i64 1, .int .i64 2, .int .i64 0, .str []], .agg [.int .i64 1, .int .i64 3, .int .i64 0, .str []]], .tup [.agg [.int .i64 1, .int .i64 5, .int .i64 0, .str []], .int .i64 0]) :: tT5
theorem tO6 : ToldCL X GV tT6 := ⟨tF5, tO5⟩
theorem tF6 : CL X GV 24 [.int .i64 1, .int .i64 1] [] = some (.tup [.agg [.int .i64 1, .int .i64 1], .int .i64 0], []) := CL_told tO6 40 (by kernel_rfl)
def tT7 : Told := (24, [.int .i64 1, .int .i64 1], .tup [.agg [.int .i64 1, .int .i64 1], .int .i64 0]) :: tT6
theorem tO7 : ToldCL X GV tT7 := ⟨tF6, tO6⟩
theorem tF7 : CL X GV 11 [.agg [.int .i64 2, .int .i64 1, .int .i64 1, .str []]] [] = some (.int .i64 0, []) := CL_told tO7 40 (by kernel_rfl)
def tT8 : Told := (11, [.agg [.int .i64 2, .int .i64 1, .int .i64 1, .str []]], .int .i64 0) :: tT7
theorem tO8 : ToldCL X GV tT8 := ⟨tF7, tO7⟩
theorem tF8 : CL X GV 8 [.agg [.int .i64 1, .int .i64 1, .int .i64 0, .str []], .agg [.int .i64 2, .int .i64 1, .int .i64 1, .str []]] [] = some (.tup [.agg [.int .i64 0, .int .i64 0, .int .i64 0, .str []], .int .i64 20], []) := CL_told tO8 40 (by kernel_rfl)
def tT9 : Told := (8, [.agg [.int .i64 1, .int .i64 1, .int .i64 0, .str []], .agg [.int .i64 2, .int .i64 1, .int .i64 1, .str []]], .tup [.agg [.int .i64 0, .int .i64 0, .int .i64 0, .str []], .int .i64 20]) :: tT8
theorem tO9 : ToldCL X GV tT9 := ⟨tF8, tO8⟩
theorem tF9 : CL X GV 24 [.int .i64 (-3), .int .i64 1] [] = some (.tup [.agg [.int .i64 (-3), .int .i64 1], .int .i64 0], []) := CL_told tO9 40 (by kernel_rfl)
def tT10 : Told := (24, [.int .i64 (-3), .int .i64 1], .tup [.agg [.int .i64 (-3), .int .i64 1], .int .i64 0]) :: tT9
theorem tO10 : ToldCL X GV tT10 := ⟨tF9, tO9⟩
theorem tF10 : CL X GV 11 [.agg [.int .i64 2, .int .i64 (-3), .int .i64 1, .str []]] [] = some (.int .i64 0, []) := CL_told tO10 40 (by kernel_rfl)
def tT11 : Told := (11, [.agg [.int .i64 2, .int .i64 (-3), .int .i64 1, .str []]], .int .i64 0) :: tT10
theorem tO11 : ToldCL X GV tT11 := ⟨tF10, tO10⟩
theorem tF11 : CL X GV 17 [.agg [.int .i64 2, .int .i64 (-3), .int .i64 1, .str []]] [] = some (.tup [.str [45, 51, 47, 49], .int .i64 0], []) := CL_told tO11 40 (by kernel_rfl)
def tT12 : Told := (17, [.agg [.int .i64 2, .int .i64 (-3), .int .i64 1, .str []]], .tup [.str [45, 51, 47, 49], .int .i64 0]) :: tT11
theorem tO12 : ToldCL X GV tT12 := ⟨tF11, tO11⟩
theorem tF12 : CL X GV 51 [.str [48, 48], .int .i64 16, .int .i64 8] [] = some (.tup [.int .u64 0, .nilif], []) := CL_told tO12 40 (by kernel_rfl)
def tT13 : Told := (51, [.str [48, 48], .int .i64 16, .int .i64 8], .tup [.int .u64 0, .nilif]) :: tT12
theorem tO13 : ToldCL X GV tT13 := ⟨tF12, tO12⟩
theorem tF13 : CL X GV 35 [.str [34, 65, 92, 120, 48, 48, 34]] [] = some (.str [65, 0], []) := CL_told tO13 40 (by kernel_rfl)
def tT14 : Told := (35, [.str [34, 65, 92, 120, 48, 48, 34]], .str [65, 0]) :: tT13
theorem tO14 : ToldCL X GV tT14 := ⟨tF13, tO13⟩
theorem tF14 : CL X GV 33 [.str [65, 0]] [] = some (.str [34, 65, 92, 120, 48, 48, 34], []) := CL_told tO14 40 (by kernel_rfl)
def tT15 : Told := (33, [.str [65, 0]], .str [34, 65, 92, 120, 48, 48, 34]) :: tT14
theorem tO15 : ToldCL X GV tT15 := ⟨tF14, tO14⟩
theorem tF15 : CL X GV 18 [.str [34, 65, 92, 120, 48, 48, 34]] [] = some (.tup [.agg [.int .i64 3, .int .i64 0, .int .i64 0, .str [65, 0]], .int .i64 0], []) := CL_told tO15 40 (by kernel_rfl)
def tT16 : Told := (18, [.str [34, 65, 92, 120, 48, 48, 34]], .tup [.agg [.int .i64 3, .int .i64 0, .int .i64 0, .str [65, 0]], .int .i64 0]) :: tT15
theorem tO16 : ToldCL X GV tT16 := ⟨tF15, tO15⟩
theorem tF16 : CL X GV 11 [.agg [.int .i64 1, .int .i64 5, .int .i64 0, .str []]] [] = some (.int .i64 0, []) := CL_told tO16 40 (by kernel_rfl)
def tT17 : Told := (11, [.agg [.int .i64 1, .int .i64 5, .int .i64 0, .str []]], .int .i64 0) :: tT16
theorem tO17 : ToldCL X GV tT17 := ⟨tF16, tO16⟩
theorem tF17 : CL X GV 24 [.int .i64 1, .int .i64 2] [] = some (.tup [.agg [.int .i64 1, .int .i64 2], .int .i64 0], []) := CL_told tO17 40 (by kernel_rfl)
def tT18 : Told := (24, [.int .i64 1, .int .i64 2], .tup [.agg [.int .i64 1, .int .i64 2], .int .i64 0]) :: tT17
theorem tO18 : ToldCL X GV tT18 := ⟨tF17, tO17⟩
theorem tF18 : CL X GV 11 [.agg [.int .i64 2, .int .i64 1, .int .i64 2, .str []]] [] = some (.int .i64 0, []) := CL_told tO18 40 (by kernel_rfl)
def tT19 : Told := (11, [.agg [.int .i64 2, .int .i64 1, .int .i64 2, .str []]], .int .i64 0) :: tT18
theorem tO19 : ToldCL X GV tT19 := ⟨tF18, tO18⟩
theorem tF19 : CL X GV 14 [.agg [.int .i64 1, .int .i64 5, .int .i64 0, .str []], .agg [.int .i64 2, .int .i64 1, .int .i64 2, .str []]] [] = some (.int .i64 (-1), []) := CL_told tO19 40 (by kernel_rfl)
def tT20 : Told := (14, [.agg [.int .i64 1, .int .i64 5, .int .i64 0, .str []], .agg [.int .i64 2, .int .i64 1, .int .i64 2, .str []]], .int .i64 (-1)) :: tT19
theorem tO20 : ToldCL X GV tT20 := ⟨tF19, tO19⟩
theorem tF20 : CL X GV 16 [.lst .tight 4 [[.int .i64 1, .int .i64 1, .int .i64 0, .str []]], .nilsl] [] = some (.int .i64 1, []) := CL_told tO20 40 (by kernel_rfl)
def tT21 : Told := (16, [.lst .tight 4 [[.int .i64 1, .int .i64 1, .int .i64 0, .str []]], .nilsl], .int .i64 1) :: tT20
theorem tO21 : ToldCL X GV tT21 := ⟨tF20, tO20⟩
theorem tF21 : CL X GV 10 [] [] = some (.bool true, []) := CL_told tO21 40 (by kernel_rfl)
def tT22 : Told := (10, [], .bool true) :: tT21
theorem tO22 : ToldCL X GV tT22 := ⟨tF21, tO21⟩
theorem tF22 : CL X GV 24 [.int .i64 2, .int .i64 4] [] = some (.tup [.agg [.int .i64 1, .int .i64 2], .int .i64 0], []) := CL_told tO22 40 (by kernel_rfl)
def tT23 : Told := (24, [.int .i64 2, .int .i64 4], .tup [.agg [.int .i64 1, .int .i64 2], .int .i64 0]) :: tT22
theorem tO23 : ToldCL X GV tT23 := ⟨tF22, tO22⟩
theorem tF23 : CL X GV 11 [.agg [.int .i64 2, .int .i64 2, .int .i64 4, .str []]] [] = some (.int .i64 20, []) := CL_told tO23 40 (by kernel_rfl)
def tT24 : Told := (11, [.agg [.int .i64 2, .int .i64 2, .int .i64 4, .str []]], .int .i64 20) :: tT23
theorem tO24 : ToldCL X GV tT24 := ⟨tF23, tO23⟩
theorem tF24 : CL X GV 24 [.int .i64 0, .int .i64 1] [] = some (.tup [.agg [.int .i64 0, .int .i64 1], .int .i64 0], []) := CL_told tO24 40 (by kernel_rfl)
def tT25 : Told := (24, [.int .i64 0, .int .i64 1], .tup [.agg [.int .i64 0, .int .i64 1], .int .i64 0]) :: tT24
theorem tO25 : ToldCL X GV tT25 := ⟨tF24, tO24⟩
theorem tF25 : CL X GV 11 [.agg [.int .i64 2, .int .i64 0, .int .i64 1, .str []]] [] = some (.int .i64 0, []) := CL_told tO25 40 (by kernel_rfl)
def tT26 : Told := (11, [.agg [.int .i64 2, .int .i64 0, .int .i64 1, .str []]], .int .i64 0) :: tT25
theorem tO26 : ToldCL X GV tT26 := ⟨tF25, tO25⟩
theorem tF26 : CL X GV 3 [] [] = some (.bool true, []) := CL_told tO26 40 (by kernel_rfl)
/-- What the few calls answer that the document fixes. -/
theorem liveTold : CL X GV 10 [] [] = some (.bool true, []) := tF21
end Go.Proofs.YtgbmobfjanajaaaDoor.Sx.T
