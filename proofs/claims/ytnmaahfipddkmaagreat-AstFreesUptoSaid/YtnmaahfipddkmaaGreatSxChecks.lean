/- Each text of the small language is the compiled form of the program's function of its number. -/
import Derived.Test.YtnmaahfipddkmaaGreatSxZ
import Derived.Test.YtnmaahfipddkmaaGreatSxText
import Derived.Test.YtnmaahfipddkmaaGreatProg
import Derived.Test.YtnmaahfipddkmaaGreatRise
import Derived.Test.YtnmaahfipddkmaaGreatEvX
import Derived.Test.YtnmaahfipddkmaaGreatEvR
import Derived.Test.YtnmaahfipddkmaaGreatEvW
import Derived.Test.YtnmaahfipddkmaaGreatEvF
import Derived.Test.YtnmaahfipddkmaaGreatEvU
import Derived.Test.YtnmaahfipddkmaaGreatEvE
import Derived.Test.YtnmaahfipddkmaaGreatEvP
import Derived.Test.YtnmaahfipddkmaaGreatEvS
import Derived.KernelRfl
set_option maxRecDepth 100000
namespace Go.Proofs.YtnmaahfipddkmaaGreat.Sx.T
open Go Go.Proofs.YtnmaahfipddkmaaGreat.Sx Go.Proofs
def prims : List (Nat × Nat) := [(44, 100)]
theorem c4 : (chkFn Tryz.prog prims x4 Tryz.f4 && supCode x4.body) = true := by kernel_rfl
theorem c7 : (chkFn Tryz.prog prims x7 Tryz.f7 && supCode x7.body) = true := by kernel_rfl
theorem c8 : (chkFn Tryz.prog prims x8 Tryz.f8 && supCode x8.body) = true := by kernel_rfl
theorem c9 : (chkFn Tryz.prog prims x9 Tryz.f9 && supCode x9.body) = true := by kernel_rfl
theorem c11 : (chkFn Tryz.prog prims x11 Tryz.f11 && supCode x11.body) = true := by kernel_rfl
theorem c12 : (chkFn Tryz.prog prims x12 Tryz.f12 && supCode x12.body) = true := by kernel_rfl
theorem c13 : (chkFn Tryz.prog prims x13 Tryz.f13 && supCode x13.body) = true := by kernel_rfl
theorem c14 : (chkFn Tryz.prog prims x14 Tryz.f14 && supCode x14.body) = true := by kernel_rfl
theorem c15 : (chkFn Tryz.prog prims x15 Tryz.f15 && supCode x15.body) = true := by kernel_rfl
theorem c16 : (chkFn Tryz.prog prims x16 Tryz.f16 && supCode x16.body) = true := by kernel_rfl
theorem c17 : (chkFn Tryz.prog prims x17 Tryz.f17 && supCode x17.body) = true := by kernel_rfl
theorem c22 : (chkFn Tryz.prog prims x22 Tryz.f22 && supCode x22.body) = true := by kernel_rfl
theorem c23 : (chkFn Tryz.prog prims x23 Tryz.f23 && supCode x23.body) = true := by kernel_rfl
theorem c24 : (chkFn Tryz.prog prims x24 Tryz.f24 && supCode x24.body) = true := by kernel_rfl
theorem c25 : (chkFn Tryz.prog prims x25 Tryz.f25 && supCode x25.body) = true := by kernel_rfl
theorem c26 : (chkFn Tryz.prog prims x26 Tryz.f26 && supCode x26.body) = true := by kernel_rfl
theorem c27 : (chkFn Tryz.prog prims x27 Tryz.f27 && supCode x27.body) = true := by kernel_rfl
theorem c28 : (chkFn Tryz.prog prims x28 Tryz.f28 && supCode x28.body) = true := by kernel_rfl
theorem c29 : (chkFn Tryz.prog prims x29 Tryz.f29 && supCode x29.body) = true := by kernel_rfl
theorem c30 : (chkFn Tryz.prog prims x30 Tryz.f30 && supCode x30.body) = true := by kernel_rfl
theorem c31 : (chkFn Tryz.prog prims x31 Tryz.f31 && supCode x31.body) = true := by kernel_rfl
theorem c32 : (chkFn Tryz.prog prims x32 Tryz.f32 && supCode x32.body) = true := by kernel_rfl
theorem c37 : (chkFn Tryz.prog prims x37 Tryz.f37 && supCode x37.body) = true := by kernel_rfl
theorem c38 : (chkFn Tryz.prog prims x38 Tryz.f38 && supCode x38.body) = true := by kernel_rfl
theorem c39 : (chkFn Tryz.prog prims x39 Tryz.f39 && supCode x39.body) = true := by kernel_rfl
theorem c40 : (chkFn Tryz.prog prims x40 Tryz.f40 && supCode x40.body) = true := by kernel_rfl
theorem c41 : (chkFn Tryz.prog prims x41 Tryz.f41 && supCode x41.body) = true := by kernel_rfl
theorem c42 : (chkFn Tryz.prog prims x42 Tryz.f42 && supCode x42.body) = true := by kernel_rfl
theorem c43 : (chkFn Tryz.prog prims x43 Tryz.f43 && supCode x43.body) = true := by kernel_rfl
theorem c45 : (chkFn Tryz.prog prims x45 Tryz.f45 && supCode x45.body) = true := by kernel_rfl
theorem c46 : (chkFn Tryz.prog prims x46 Tryz.f46 && supCode x46.body) = true := by kernel_rfl
theorem c47 : (chkFn Tryz.prog prims x47 Tryz.f47 && supCode x47.body) = true := by kernel_rfl
theorem c48 : (chkFn Tryz.prog prims x48 Tryz.f48 && supCode x48.body) = true := by kernel_rfl
theorem c49 : (chkFn Tryz.prog prims x49 Tryz.f49 && supCode x49.body) = true := by kernel_rfl
theorem c50 : (chkFn Tryz.prog prims x50 Tryz.f50 && supCode x50.body) = true := by kernel_rfl
theorem c51 : (chkFn Tryz.prog prims x51 Tryz.f51 && supCode x51.body) = true := by kernel_rfl
theorem c52 : (chkFn Tryz.prog prims x52 Tryz.f52 && supCode x52.body) = true := by kernel_rfl
theorem c53 : (chkFn Tryz.prog prims x53 Tryz.f53 && supCode x53.body) = true := by kernel_rfl
theorem c54 : (chkFn Tryz.prog prims x54 Tryz.f54 && supCode x54.body) = true := by kernel_rfl
theorem c55 : (chkFn Tryz.prog prims x55 Tryz.f55 && supCode x55.body) = true := by kernel_rfl
theorem c56 : (chkFn Tryz.prog prims x56 Tryz.f56 && supCode x56.body) = true := by kernel_rfl
theorem c57 : (chkFn Tryz.prog prims x57 Tryz.f57 && supCode x57.body) = true := by kernel_rfl
theorem c58 : (chkFn Tryz.prog prims x58 Tryz.f58 && supCode x58.body) = true := by kernel_rfl
theorem c59 : (chkFn Tryz.prog prims x59 Tryz.f59 && supCode x59.body) = true := by kernel_rfl
theorem c61 : (chkFn Tryz.prog prims x61 Tryz.f61 && supCode x61.body) = true := by kernel_rfl
theorem c62 : (chkFn Tryz.prog prims x62 Tryz.f62 && supCode x62.body) = true := by kernel_rfl
theorem c63 : (chkFn Tryz.prog prims x63 Tryz.f63 && supCode x63.body) = true := by kernel_rfl
theorem c64 : (chkFn Tryz.prog prims x64 Tryz.f64 && supCode x64.body) = true := by kernel_rfl
theorem c65 : (chkFn Tryz.prog prims x65 Tryz.f65 && supCode x65.body) = true := by kernel_rfl
theorem c66 : (chkFn Tryz.prog prims x66 Tryz.f66 && supCode x66.body) = true := by kernel_rfl
theorem c67 : (chkFn Tryz.prog prims x67 Tryz.f67 && supCode x67.body) = true := by kernel_rfl
theorem c68 : (chkFn Tryz.prog prims x68 Tryz.f68 && supCode x68.body) = true := by kernel_rfl
theorem c69 : (chkFn Tryz.prog prims x69 Tryz.f69 && supCode x69.body) = true := by kernel_rfl
theorem c70 : (chkFn Tryz.prog prims x70 Tryz.f70 && supCode x70.body) = true := by kernel_rfl
theorem c73 : (chkFn Tryz.prog prims x73 Tryz.f73 && supCode x73.body) = true := by kernel_rfl
theorem c74 : (chkFn Tryz.prog prims x74 Tryz.f74 && supCode x74.body) = true := by kernel_rfl
theorem c75 : (chkFn Tryz.prog prims x75 Tryz.f75 && supCode x75.body) = true := by kernel_rfl
theorem c76 : (chkFn Tryz.prog prims x76 Tryz.f76 && supCode x76.body) = true := by kernel_rfl
theorem c77 : (chkFn Tryz.prog prims x77 Tryz.f77 && supCode x77.body) = true := by kernel_rfl
theorem c78 : (chkFn Tryz.prog prims x78 Tryz.f78 && supCode x78.body) = true := by kernel_rfl
theorem c79 : (chkFn Tryz.prog prims x79 Tryz.f79 && supCode x79.body) = true := by kernel_rfl
theorem c80 : (chkFn Tryz.prog prims x80 Tryz.f80 && supCode x80.body) = true := by kernel_rfl
theorem c81 : (chkFn Tryz.prog prims x81 Tryz.f81 && supCode x81.body) = true := by kernel_rfl
theorem c82 : (chkFn Tryz.prog prims x82 Tryz.f82 && supCode x82.body) = true := by kernel_rfl
theorem c83 : (chkFn Tryz.prog prims x83 Tryz.f83 && supCode x83.body) = true := by kernel_rfl
theorem c84 : (chkFn Tryz.prog prims x84 Tryz.f84 && supCode x84.body) = true := by kernel_rfl
theorem c85 : (chkFn Tryz.prog prims x85 Tryz.f85 && supCode x85.body) = true := by kernel_rfl
theorem c86 : (chkFn Tryz.prog prims x86 Tryz.f86 && supCode x86.body) = true := by kernel_rfl
theorem c87 : (chkFn Tryz.prog prims x87 Tryz.f87 && supCode x87.body) = true := by kernel_rfl
theorem c88 : (chkFn Tryz.prog prims x88 Tryz.f88 && supCode x88.body) = true := by kernel_rfl
theorem c89 : (chkFn Tryz.prog prims x89 Tryz.f89 && supCode x89.body) = true := by kernel_rfl
theorem c90 : (chkFn Tryz.prog prims x90 Tryz.f90 && supCode x90.body) = true := by kernel_rfl
theorem c91 : (chkFn Tryz.prog prims x91 Tryz.f91 && supCode x91.body) = true := by kernel_rfl
theorem c92 : (chkFn Tryz.prog prims x92 Tryz.f92 && supCode x92.body) = true := by kernel_rfl
theorem c93 : (chkFn Tryz.prog prims x93 Tryz.f93 && supCode x93.body) = true := by kernel_rfl
theorem c96 : (chkFn Tryz.prog prims x96 Tryz.f96 && supCode x96.body) = true := by kernel_rfl
theorem c97 : (chkFn Tryz.prog prims x97 Tryz.f97 && supCode x97.body) = true := by kernel_rfl
theorem c98 : (chkFn Tryz.prog prims x98 Tryz.f98 && supCode x98.body) = true := by kernel_rfl
theorem c99 : (chkFn Tryz.prog prims x99 Tryz.f99 && supCode x99.body) = true := by kernel_rfl
theorem c100 : (chkFn Tryz.prog prims x100 Tryz.f100 && supCode x100.body) = true := by kernel_rfl
theorem c101 : (chkFn Tryz.prog prims x101 Tryz.f101 && supCode x101.body) = true := by kernel_rfl
theorem c102 : (chkFn Tryz.prog prims x102 Tryz.f102 && supCode x102.body) = true := by kernel_rfl
theorem c103 : (chkFn Tryz.prog prims x103 Tryz.f103 && supCode x103.body) = true := by kernel_rfl
theorem c104 : (chkFn Tryz.prog prims x104 Tryz.f104 && supCode x104.body) = true := by kernel_rfl
theorem c105 : (chkFn Tryz.prog prims x105 Tryz.f105 && supCode x105.body) = true := by kernel_rfl
theorem c106 : (chkFn Tryz.prog prims x106 Tryz.f106 && supCode x106.body) = true := by kernel_rfl
theorem c107 : (chkFn Tryz.prog prims x107 Tryz.f107 && supCode x107.body) = true := by kernel_rfl
theorem c119 : (chkFn Tryz.prog prims x119 Tryz.f119 && supCode x119.body) = true := by kernel_rfl
theorem c120 : (chkFn Tryz.prog prims x120 Tryz.f120 && supCode x120.body) = true := by kernel_rfl
theorem c121 : (chkFn Tryz.prog prims x121 Tryz.f121 && supCode x121.body) = true := by kernel_rfl
theorem c128 : (chkFn Tryz.prog prims x128 Tryz.f128 && supCode x128.body) = true := by kernel_rfl
theorem c129 : (chkFn Tryz.prog prims x129 Tryz.f129 && supCode x129.body) = true := by kernel_rfl
theorem c130 : (chkFn Tryz.prog prims x130 Tryz.f130 && supCode x130.body) = true := by kernel_rfl
theorem c131 : (chkFn Tryz.prog prims x131 Tryz.f131 && supCode x131.body) = true := by kernel_rfl
theorem c132 : (chkFn Tryz.prog prims x132 Tryz.f132 && supCode x132.body) = true := by kernel_rfl
theorem c134 : (chkFn Tryz.prog prims x134 Tryz.f134 && supCode x134.body) = true := by kernel_rfl
theorem c135 : (chkFn Tryz.prog prims x135 Tryz.f135 && supCode x135.body) = true := by kernel_rfl
theorem c136 : (chkFn Tryz.prog prims x136 Tryz.f136 && supCode x136.body) = true := by kernel_rfl
theorem c137 : (chkFn Tryz.prog prims x137 Tryz.f137 && supCode x137.body) = true := by kernel_rfl
theorem c138 : (chkFn Tryz.prog prims x138 Tryz.f138 && supCode x138.body) = true := by kernel_rfl
theorem allOk : AllOk Tryz.prog prims X 0 := ⟨⟨Tryz.f4, Tryz.func4, c4⟩,
  ⟨⟨Tryz.f7, Tryz.func7, c7⟩,
  ⟨⟨Tryz.f8, Tryz.func8, c8⟩,
  ⟨⟨Tryz.f9, Tryz.func9, c9⟩,
  ⟨⟨Tryz.f11, Tryz.func11, c11⟩,
  ⟨⟨Tryz.f12, Tryz.func12, c12⟩,
  ⟨⟨Tryz.f13, Tryz.func13, c13⟩,
  ⟨⟨Tryz.f14, Tryz.func14, c14⟩,
  ⟨⟨Tryz.f15, Tryz.func15, c15⟩,
  ⟨⟨Tryz.f16, Tryz.func16, c16⟩,
  ⟨⟨Tryz.f17, Tryz.func17, c17⟩,
  ⟨⟨Tryz.f22, Tryz.func22, c22⟩,
  ⟨⟨Tryz.f23, Tryz.func23, c23⟩,
  ⟨⟨Tryz.f24, Tryz.func24, c24⟩,
  ⟨⟨Tryz.f25, Tryz.func25, c25⟩,
  ⟨⟨Tryz.f26, Tryz.func26, c26⟩,
  ⟨⟨Tryz.f27, Tryz.func27, c27⟩,
  ⟨⟨Tryz.f28, Tryz.func28, c28⟩,
  ⟨⟨Tryz.f29, Tryz.func29, c29⟩,
  ⟨⟨Tryz.f30, Tryz.func30, c30⟩,
  ⟨⟨Tryz.f31, Tryz.func31, c31⟩,
  ⟨⟨Tryz.f32, Tryz.func32, c32⟩,
  ⟨⟨Tryz.f37, Tryz.func37, c37⟩,
  ⟨⟨Tryz.f38, Tryz.func38, c38⟩,
  ⟨⟨Tryz.f39, Tryz.func39, c39⟩,
  ⟨⟨Tryz.f40, Tryz.func40, c40⟩,
  ⟨⟨Tryz.f41, Tryz.func41, c41⟩,
  ⟨⟨Tryz.f42, Tryz.func42, c42⟩,
  ⟨⟨Tryz.f43, Tryz.func43, c43⟩,
  ⟨⟨Tryz.f45, Tryz.func45, c45⟩,
  ⟨⟨Tryz.f46, Tryz.func46, c46⟩,
  ⟨⟨Tryz.f47, Tryz.func47, c47⟩,
  ⟨⟨Tryz.f48, Tryz.func48, c48⟩,
  ⟨⟨Tryz.f49, Tryz.func49, c49⟩,
  ⟨⟨Tryz.f50, Tryz.func50, c50⟩,
  ⟨⟨Tryz.f51, Tryz.func51, c51⟩,
  ⟨⟨Tryz.f52, Tryz.func52, c52⟩,
  ⟨⟨Tryz.f53, Tryz.func53, c53⟩,
  ⟨⟨Tryz.f54, Tryz.func54, c54⟩,
  ⟨⟨Tryz.f55, Tryz.func55, c55⟩,
  ⟨⟨Tryz.f56, Tryz.func56, c56⟩,
  ⟨⟨Tryz.f57, Tryz.func57, c57⟩,
  ⟨⟨Tryz.f58, Tryz.func58, c58⟩,
  ⟨⟨Tryz.f59, Tryz.func59, c59⟩,
  ⟨⟨Tryz.f61, Tryz.func61, c61⟩,
  ⟨⟨Tryz.f62, Tryz.func62, c62⟩,
  ⟨⟨Tryz.f63, Tryz.func63, c63⟩,
  ⟨⟨Tryz.f64, Tryz.func64, c64⟩,
  ⟨⟨Tryz.f65, Tryz.func65, c65⟩,
  ⟨⟨Tryz.f66, Tryz.func66, c66⟩,
  ⟨⟨Tryz.f67, Tryz.func67, c67⟩,
  ⟨⟨Tryz.f68, Tryz.func68, c68⟩,
  ⟨⟨Tryz.f69, Tryz.func69, c69⟩,
  ⟨⟨Tryz.f70, Tryz.func70, c70⟩,
  ⟨⟨Tryz.f73, Tryz.func73, c73⟩,
  ⟨⟨Tryz.f74, Tryz.func74, c74⟩,
  ⟨⟨Tryz.f75, Tryz.func75, c75⟩,
  ⟨⟨Tryz.f76, Tryz.func76, c76⟩,
  ⟨⟨Tryz.f77, Tryz.func77, c77⟩,
  ⟨⟨Tryz.f78, Tryz.func78, c78⟩,
  ⟨⟨Tryz.f79, Tryz.func79, c79⟩,
  ⟨⟨Tryz.f80, Tryz.func80, c80⟩,
  ⟨⟨Tryz.f81, Tryz.func81, c81⟩,
  ⟨⟨Tryz.f82, Tryz.func82, c82⟩,
  ⟨⟨Tryz.f83, Tryz.func83, c83⟩,
  ⟨⟨Tryz.f84, Tryz.func84, c84⟩,
  ⟨⟨Tryz.f85, Tryz.func85, c85⟩,
  ⟨⟨Tryz.f86, Tryz.func86, c86⟩,
  ⟨⟨Tryz.f87, Tryz.func87, c87⟩,
  ⟨⟨Tryz.f88, Tryz.func88, c88⟩,
  ⟨⟨Tryz.f89, Tryz.func89, c89⟩,
  ⟨⟨Tryz.f90, Tryz.func90, c90⟩,
  ⟨⟨Tryz.f91, Tryz.func91, c91⟩,
  ⟨⟨Tryz.f92, Tryz.func92, c92⟩,
  ⟨⟨Tryz.f93, Tryz.func93, c93⟩,
  ⟨⟨Tryz.f96, Tryz.func96, c96⟩,
  ⟨⟨Tryz.f97, Tryz.func97, c97⟩,
  ⟨⟨Tryz.f98, Tryz.func98, c98⟩,
  ⟨⟨Tryz.f99, Tryz.func99, c99⟩,
  ⟨⟨Tryz.f100, Tryz.func100, c100⟩,
  ⟨⟨Tryz.f101, Tryz.func101, c101⟩,
  ⟨⟨Tryz.f102, Tryz.func102, c102⟩,
  ⟨⟨Tryz.f103, Tryz.func103, c103⟩,
  ⟨⟨Tryz.f104, Tryz.func104, c104⟩,
  ⟨⟨Tryz.f105, Tryz.func105, c105⟩,
  ⟨⟨Tryz.f106, Tryz.func106, c106⟩,
  ⟨⟨Tryz.f107, Tryz.func107, c107⟩,
  ⟨⟨Tryz.f119, Tryz.func119, c119⟩,
  ⟨⟨Tryz.f120, Tryz.func120, c120⟩,
  ⟨⟨Tryz.f121, Tryz.func121, c121⟩,
  ⟨⟨Tryz.f128, Tryz.func128, c128⟩,
  ⟨⟨Tryz.f129, Tryz.func129, c129⟩,
  ⟨⟨Tryz.f130, Tryz.func130, c130⟩,
  ⟨⟨Tryz.f131, Tryz.func131, c131⟩,
  ⟨⟨Tryz.f132, Tryz.func132, c132⟩,
  ⟨⟨Tryz.f134, Tryz.func134, c134⟩,
  ⟨⟨Tryz.f135, Tryz.func135, c135⟩,
  ⟨⟨Tryz.f136, Tryz.func136, c136⟩,
  ⟨⟨Tryz.f137, Tryz.func137, c137⟩,
  ⟨⟨Tryz.f138, Tryz.func138, c138⟩,
  trivial⟩⟩⟩⟩⟩⟩⟩⟩⟩⟩⟩⟩⟩⟩⟩⟩⟩⟩⟩⟩⟩⟩⟩⟩⟩⟩⟩⟩⟩⟩⟩⟩⟩⟩⟩⟩⟩⟩⟩⟩⟩⟩⟩⟩⟩⟩⟩⟩⟩⟩⟩⟩⟩⟩⟩⟩⟩⟩⟩⟩⟩⟩⟩⟩⟩⟩⟩⟩⟩⟩⟩⟩⟩⟩⟩⟩⟩⟩⟩⟩⟩⟩⟩⟩⟩⟩⟩⟩⟩⟩⟩⟩⟩⟩⟩⟩⟩⟩⟩⟩
theorem checked : Checked0 Tryz.prog prims X := checked_of allOk
theorem primsOk {gl : Nat → List AV} : PrimOk Tryz.prog gl prims := prims_cons (primX_none (by decide)) (prims_nil) rise
theorem mixed : Tryz.prog.follows .mixedOrders = true := by kernel_rfl
theorem laidOut : laidOutB Tryz.prog = true := by kernel_rfl
end Go.Proofs.YtnmaahfipddkmaaGreat.Sx.T
