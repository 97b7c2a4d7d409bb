/- Each text of the small language is the compiled form of the program's function of its number. -/
import Derived.Test.YtgbmobfjanajaaaGreatDoorSxZ
import Derived.Test.YtgbmobfjanajaaaGreatDoorSxText
import Derived.Test.YtgbmobfjanajaaaGreatDoorProg
import Derived.Test.YtgbmobfjanajaaaGreatDoorGV
import Derived.Test.YtgbmobfjanajaaaGreatDoorEvG
import Derived.Test.YtgbmobfjanajaaaGreatDoorLaid
import Derived.Test.YtgbmobfjanajaaaGreatDoorPrims
import Derived.Test.YtgbmobfjanajaaaGreatDoorEvX
import Derived.KernelRfl
set_option maxRecDepth 100000
namespace Go.Proofs.YtgbmobfjanajaaaGreatDoor.Sx.T
open Go Go.Proofs.YtgbmobfjanajaaaGreatDoor.Sx Go.Proofs
def prims : List (Nat × Nat) := [(38, 5), (45, 6), (79, 0), (80, 1), (81, 3), (109, 99), (112, 4), (119, 2)]
theorem c3 : (chkFn Tryz.prog prims x3 Tryz.f3 && supCode x3.body) = true := by kernel_rfl
theorem c4 : (chkFn Tryz.prog prims x4 Tryz.f4 && supCode x4.body) = true := by kernel_rfl
theorem c5 : (chkFn Tryz.prog prims x5 Tryz.f5 && supCode x5.body) = true := by kernel_rfl
theorem c6 : (chkFn Tryz.prog prims x6 Tryz.f6 && supCode x6.body) = true := by kernel_rfl
theorem c7 : (chkFn Tryz.prog prims x7 Tryz.f7 && supCode x7.body) = true := by kernel_rfl
theorem c8 : (chkFn Tryz.prog prims x8 Tryz.f8 && supCode x8.body) = true := by kernel_rfl
theorem c9 : (chkFn Tryz.prog prims x9 Tryz.f9 && supCode x9.body) = true := by kernel_rfl
theorem c10 : (chkFn Tryz.prog prims x10 Tryz.f10 && supCode x10.body) = true := by kernel_rfl
theorem c11 : (chkFn Tryz.prog prims x11 Tryz.f11 && supCode x11.body) = true := by kernel_rfl
theorem c12 : (chkFn Tryz.prog prims x12 Tryz.f12 && supCode x12.body) = true := by kernel_rfl
theorem c13 : (chkFn Tryz.prog prims x13 Tryz.f13 && supCode x13.body) = true := by kernel_rfl
theorem c14 : (chkFn Tryz.prog prims x14 Tryz.f14 && supCode x14.body) = true := by kernel_rfl
theorem c15 : (chkFn Tryz.prog prims x15 Tryz.f15 && supCode x15.body) = true := by kernel_rfl
theorem c16 : (chkFn Tryz.prog prims x16 Tryz.f16 && supCode x16.body) = true := by kernel_rfl
theorem c17 : (chkFn Tryz.prog prims x17 Tryz.f17 && supCode x17.body) = true := by kernel_rfl
theorem c18 : (chkFn Tryz.prog prims x18 Tryz.f18 && supCode x18.body) = true := by kernel_rfl
theorem c19 : (chkFn Tryz.prog prims x19 Tryz.f19 && supCode x19.body) = true := by kernel_rfl
theorem c20 : (chkFn Tryz.prog prims x20 Tryz.f20 && supCode x20.body) = true := by kernel_rfl
theorem c21 : (chkFn Tryz.prog prims x21 Tryz.f21 && supCode x21.body) = true := by kernel_rfl
theorem c22 : (chkFn Tryz.prog prims x22 Tryz.f22 && supCode x22.body) = true := by kernel_rfl
theorem c23 : (chkFn Tryz.prog prims x23 Tryz.f23 && supCode x23.body) = true := by kernel_rfl
theorem c24 : (chkFn Tryz.prog prims x24 Tryz.f24 && supCode x24.body) = true := by kernel_rfl
theorem c25 : (chkFn Tryz.prog prims x25 Tryz.f25 && supCode x25.body) = true := by kernel_rfl
theorem c26 : (chkFn Tryz.prog prims x26 Tryz.f26 && supCode x26.body) = true := by kernel_rfl
theorem c27 : (chkFn Tryz.prog prims x27 Tryz.f27 && supCode x27.body) = true := by kernel_rfl
theorem c28 : (chkFn Tryz.prog prims x28 Tryz.f28 && supCode x28.body) = true := by kernel_rfl
theorem c29 : (chkFn Tryz.prog prims x29 Tryz.f29 && supCode x29.body) = true := by kernel_rfl
theorem c30 : (chkFn Tryz.prog prims x30 Tryz.f30 && supCode x30.body) = true := by kernel_rfl
theorem c31 : (chkFn Tryz.prog prims x31 Tryz.f31 && supCode x31.body) = true := by kernel_rfl
theorem c32 : (chkFn Tryz.prog prims x32 Tryz.f32 && supCode x32.body) = true := by kernel_rfl
theorem c33 : (chkFn Tryz.prog prims x33 Tryz.f33 && supCode x33.body) = true := by kernel_rfl
theorem c34 : (chkFn Tryz.prog prims x34 Tryz.f34 && supCode x34.body) = true := by kernel_rfl
theorem c35 : (chkFn Tryz.prog prims x35 Tryz.f35 && supCode x35.body) = true := by kernel_rfl
theorem c36 : (chkFn Tryz.prog prims x36 Tryz.f36 && supCode x36.body) = true := by kernel_rfl
theorem c37 : (chkFn Tryz.prog prims x37 Tryz.f37 && supCode x37.body) = true := by kernel_rfl
theorem c39 : (chkFn Tryz.prog prims x39 Tryz.f39 && supCode x39.body) = true := by kernel_rfl
theorem c40 : (chkFn Tryz.prog prims x40 Tryz.f40 && supCode x40.body) = true := by kernel_rfl
theorem c41 : (chkFn Tryz.prog prims x41 Tryz.f41 && supCode x41.body) = true := by kernel_rfl
theorem c42 : (chkFn Tryz.prog prims x42 Tryz.f42 && supCode x42.body) = true := by kernel_rfl
theorem c43 : (chkFn Tryz.prog prims x43 Tryz.f43 && supCode x43.body) = true := by kernel_rfl
theorem c44 : (chkFn Tryz.prog prims x44 Tryz.f44 && supCode x44.body) = true := by kernel_rfl
theorem c46 : (chkFn Tryz.prog prims x46 Tryz.f46 && supCode x46.body) = true := by kernel_rfl
theorem c47 : (chkFn Tryz.prog prims x47 Tryz.f47 && supCode x47.body) = true := by kernel_rfl
theorem c48 : (chkFn Tryz.prog prims x48 Tryz.f48 && supCode x48.body) = true := by kernel_rfl
theorem c49 : (chkFn Tryz.prog prims x49 Tryz.f49 && supCode x49.body) = true := by kernel_rfl
theorem c50 : (chkFn Tryz.prog prims x50 Tryz.f50 && supCode x50.body) = true := by kernel_rfl
theorem c51 : (chkFn Tryz.prog prims x51 Tryz.f51 && supCode x51.body) = true := by kernel_rfl
theorem c52 : (chkFn Tryz.prog prims x52 Tryz.f52 && supCode x52.body) = true := by kernel_rfl
theorem c53 : (chkFn Tryz.prog prims x53 Tryz.f53 && supCode x53.body) = true := by kernel_rfl
theorem c54 : (chkFn Tryz.prog prims x54 Tryz.f54 && supCode x54.body) = true := by kernel_rfl
theorem c55 : (chkFn Tryz.prog prims x55 Tryz.f55 && supCode x55.body) = true := by kernel_rfl
theorem c56 : (chkFn Tryz.prog prims x56 Tryz.f56 && supCode x56.body) = true := by kernel_rfl
theorem c57 : (chkFn Tryz.prog prims x57 Tryz.f57 && supCode x57.body) = true := by kernel_rfl
theorem c58 : (chkFn Tryz.prog prims x58 Tryz.f58 && supCode x58.body) = true := by kernel_rfl
theorem c59 : (chkFn Tryz.prog prims x59 Tryz.f59 && supCode x59.body) = true := by kernel_rfl
theorem c60 : (chkFn Tryz.prog prims x60 Tryz.f60 && supCode x60.body) = true := by kernel_rfl
theorem c61 : (chkFn Tryz.prog prims x61 Tryz.f61 && supCode x61.body) = true := by kernel_rfl
theorem c62 : (chkFn Tryz.prog prims x62 Tryz.f62 && supCode x62.body) = true := by kernel_rfl
theorem c64 : (chkFn Tryz.prog prims x64 Tryz.f64 && supCode x64.body) = true := by kernel_rfl
theorem c65 : (chkFn Tryz.prog prims x65 Tryz.f65 && supCode x65.body) = true := by kernel_rfl
theorem c66 : (chkFn Tryz.prog prims x66 Tryz.f66 && supCode x66.body) = true := by kernel_rfl
theorem c67 : (chkFn Tryz.prog prims x67 Tryz.f67 && supCode x67.body) = true := by kernel_rfl
theorem c69 : (chkFn Tryz.prog prims x69 Tryz.f69 && supCode x69.body) = true := by kernel_rfl
theorem c70 : (chkFn Tryz.prog prims x70 Tryz.f70 && supCode x70.body) = true := by kernel_rfl
theorem c71 : (chkFn Tryz.prog prims x71 Tryz.f71 && supCode x71.body) = true := by kernel_rfl
theorem c72 : (chkFn Tryz.prog prims x72 Tryz.f72 && supCode x72.body) = true := by kernel_rfl
theorem c73 : (chkFn Tryz.prog prims x73 Tryz.f73 && supCode x73.body) = true := by kernel_rfl
theorem c74 : (chkFn Tryz.prog prims x74 Tryz.f74 && supCode x74.body) = true := by kernel_rfl
theorem c75 : (chkFn Tryz.prog prims x75 Tryz.f75 && supCode x75.body) = true := by kernel_rfl
theorem c76 : (chkFn Tryz.prog prims x76 Tryz.f76 && supCode x76.body) = true := by kernel_rfl
theorem c77 : (chkFn Tryz.prog prims x77 Tryz.f77 && supCode x77.body) = true := by kernel_rfl
theorem c78 : (chkFn Tryz.prog prims x78 Tryz.f78 && supCode x78.body) = true := by kernel_rfl
theorem c86 : (chkFn Tryz.prog prims x86 Tryz.f86 && supCode x86.body) = true := by kernel_rfl
theorem c87 : (chkFn Tryz.prog prims x87 Tryz.f87 && supCode x87.body) = true := by kernel_rfl
theorem c88 : (chkFn Tryz.prog prims x88 Tryz.f88 && supCode x88.body) = true := by kernel_rfl
theorem c89 : (chkFn Tryz.prog prims x89 Tryz.f89 && supCode x89.body) = true := by kernel_rfl
theorem c90 : (chkFn Tryz.prog prims x90 Tryz.f90 && supCode x90.body) = true := by kernel_rfl
theorem c93 : (chkFn Tryz.prog prims x93 Tryz.f93 && supCode x93.body) = true := by kernel_rfl
theorem c94 : (chkFn Tryz.prog prims x94 Tryz.f94 && supCode x94.body) = true := by kernel_rfl
theorem c95 : (chkFn Tryz.prog prims x95 Tryz.f95 && supCode x95.body) = true := by kernel_rfl
theorem c96 : (chkFn Tryz.prog prims x96 Tryz.f96 && supCode x96.body) = true := by kernel_rfl
theorem c97 : (chkFn Tryz.prog prims x97 Tryz.f97 && supCode x97.body) = true := by kernel_rfl
theorem c98 : (chkFn Tryz.prog prims x98 Tryz.f98 && supCode x98.body) = true := by kernel_rfl
theorem c99 : (chkFn Tryz.prog prims x99 Tryz.f99 && supCode x99.body) = true := by kernel_rfl
theorem c101 : (chkFn Tryz.prog prims x101 Tryz.f101 && supCode x101.body) = true := by kernel_rfl
theorem c105 : (chkFn Tryz.prog prims x105 Tryz.f105 && supCode x105.body) = true := by kernel_rfl
theorem c106 : (chkFn Tryz.prog prims x106 Tryz.f106 && supCode x106.body) = true := by kernel_rfl
theorem c108 : (chkFn Tryz.prog prims x108 Tryz.f108 && supCode x108.body) = true := by kernel_rfl
theorem c110 : (chkFn Tryz.prog prims x110 Tryz.f110 && supCode x110.body) = true := by kernel_rfl
theorem c115 : (chkFn Tryz.prog prims x115 Tryz.f115 && supCode x115.body) = true := by kernel_rfl
theorem c116 : (chkFn Tryz.prog prims x116 Tryz.f116 && supCode x116.body) = true := by kernel_rfl
theorem c122 : (chkFn Tryz.prog prims x122 Tryz.f122 && supCode x122.body) = true := by kernel_rfl
theorem c123 : (chkFn Tryz.prog prims x123 Tryz.f123 && supCode x123.body) = true := by kernel_rfl
theorem c124 : (chkFn Tryz.prog prims x124 Tryz.f124 && supCode x124.body) = true := by kernel_rfl
theorem allOk : AllOk Tryz.prog prims X 0 := ⟨⟨Tryz.f3, Tryz.func3, c3⟩,
  ⟨⟨Tryz.f4, Tryz.func4, c4⟩,
  ⟨⟨Tryz.f5, Tryz.func5, c5⟩,
  ⟨⟨Tryz.f6, Tryz.func6, c6⟩,
  ⟨⟨Tryz.f7, Tryz.func7, c7⟩,
  ⟨⟨Tryz.f8, Tryz.func8, c8⟩,
  ⟨⟨Tryz.f9, Tryz.func9, c9⟩,
  ⟨⟨Tryz.f10, Tryz.func10, c10⟩,
  ⟨⟨Tryz.f11, Tryz.func11, c11⟩,
  ⟨⟨Tryz.f12, Tryz.func12, c12⟩,
  ⟨⟨Tryz.f13, Tryz.func13, c13⟩,
  ⟨⟨Tryz.f14, Tryz.func14, c14⟩,
  ⟨⟨Tryz.f15, Tryz.func15, c15⟩,
  ⟨⟨Tryz.f16, Tryz.func16, c16⟩,
  ⟨⟨Tryz.f17, Tryz.func17, c17⟩,
  ⟨⟨Tryz.f18, Tryz.func18, c18⟩,
  ⟨⟨Tryz.f19, Tryz.func19, c19⟩,
  ⟨⟨Tryz.f20, Tryz.func20, c20⟩,
  ⟨⟨Tryz.f21, Tryz.func21, c21⟩,
  ⟨⟨Tryz.f22, Tryz.func22, c22⟩,
  ⟨⟨Tryz.f23, Tryz.func23, c23⟩,
  ⟨⟨Tryz.f24, Tryz.func24, c24⟩,
  ⟨⟨Tryz.f25, Tryz.func25, c25⟩,
  ⟨⟨Tryz.f26, Tryz.func26, c26⟩,
  ⟨⟨Tryz.f27, Tryz.func27, c27⟩,
  ⟨⟨Tryz.f28, Tryz.func28, c28⟩,
  ⟨⟨Tryz.f29, Tryz.func29, c29⟩,
  ⟨⟨Tryz.f30, Tryz.func30, c30⟩,
  ⟨⟨Tryz.f31, Tryz.func31, c31⟩,
  ⟨⟨Tryz.f32, Tryz.func32, c32⟩,
  ⟨⟨Tryz.f33, Tryz.func33, c33⟩,
  ⟨⟨Tryz.f34, Tryz.func34, c34⟩,
  ⟨⟨Tryz.f35, Tryz.func35, c35⟩,
  ⟨⟨Tryz.f36, Tryz.func36, c36⟩,
  ⟨⟨Tryz.f37, Tryz.func37, c37⟩,
  ⟨⟨Tryz.f39, Tryz.func39, c39⟩,
  ⟨⟨Tryz.f40, Tryz.func40, c40⟩,
  ⟨⟨Tryz.f41, Tryz.func41, c41⟩,
  ⟨⟨Tryz.f42, Tryz.func42, c42⟩,
  ⟨⟨Tryz.f43, Tryz.func43, c43⟩,
  ⟨⟨Tryz.f44, Tryz.func44, c44⟩,
  ⟨⟨Tryz.f46, Tryz.func46, c46⟩,
  ⟨⟨Tryz.f47, Tryz.func47, c47⟩,
  ⟨⟨Tryz.f48, Tryz.func48, c48⟩,
  ⟨⟨Tryz.f49, Tryz.func49, c49⟩,
  ⟨⟨Tryz.f50, Tryz.func50, c50⟩,
  ⟨⟨Tryz.f51, Tryz.func51, c51⟩,
  ⟨⟨Tryz.f52, Tryz.func52, c52⟩,
  ⟨⟨Tryz.f53, Tryz.func53, c53⟩,
  ⟨⟨Tryz.f54, Tryz.func54, c54⟩,
  ⟨⟨Tryz.f55, Tryz.func55, c55⟩,
  ⟨⟨Tryz.f56, Tryz.func56, c56⟩,
  ⟨⟨Tryz.f57, Tryz.func57, c57⟩,
  ⟨⟨Tryz.f58, Tryz.func58, c58⟩,
  ⟨⟨Tryz.f59, Tryz.func59, c59⟩,
  ⟨⟨Tryz.f60, Tryz.func60, c60⟩,
  ⟨⟨Tryz.f61, Tryz.func61, c61⟩,
  ⟨⟨Tryz.f62, Tryz.func62, c62⟩,
  ⟨⟨Tryz.f64, Tryz.func64, c64⟩,
  ⟨⟨Tryz.f65, Tryz.func65, c65⟩,
  ⟨⟨Tryz.f66, Tryz.func66, c66⟩,
  ⟨⟨Tryz.f67, Tryz.func67, c67⟩,
  ⟨⟨Tryz.f69, Tryz.func69, c69⟩,
  ⟨⟨Tryz.f70, Tryz.func70, c70⟩,
  ⟨⟨Tryz.f71, Tryz.func71, c71⟩,
  ⟨⟨Tryz.f72, Tryz.func72, c72⟩,
  ⟨⟨Tryz.f73, Tryz.func73, c73⟩,
  ⟨⟨Tryz.f74, Tryz.func74, c74⟩,
  ⟨⟨Tryz.f75, Tryz.func75, c75⟩,
  ⟨⟨Tryz.f76, Tryz.func76, c76⟩,
  ⟨⟨Tryz.f77, Tryz.func77, c77⟩,
  ⟨⟨Tryz.f78, Tryz.func78, c78⟩,
  ⟨⟨Tryz.f86, Tryz.func86, c86⟩,
  ⟨⟨Tryz.f87, Tryz.func87, c87⟩,
  ⟨⟨Tryz.f88, Tryz.func88, c88⟩,
  ⟨⟨Tryz.f89, Tryz.func89, c89⟩,
  ⟨⟨Tryz.f90, Tryz.func90, c90⟩,
  ⟨⟨Tryz.f93, Tryz.func93, c93⟩,
  ⟨⟨Tryz.f94, Tryz.func94, c94⟩,
  ⟨⟨Tryz.f95, Tryz.func95, c95⟩,
  ⟨⟨Tryz.f96, Tryz.func96, c96⟩,
  ⟨⟨Tryz.f97, Tryz.func97, c97⟩,
  ⟨⟨Tryz.f98, Tryz.func98, c98⟩,
  ⟨⟨Tryz.f99, Tryz.func99, c99⟩,
  ⟨⟨Tryz.f101, Tryz.func101, c101⟩,
  ⟨⟨Tryz.f105, Tryz.func105, c105⟩,
  ⟨⟨Tryz.f106, Tryz.func106, c106⟩,
  ⟨⟨Tryz.f108, Tryz.func108, c108⟩,
  ⟨⟨Tryz.f110, Tryz.func110, c110⟩,
  ⟨⟨Tryz.f115, Tryz.func115, c115⟩,
  ⟨⟨Tryz.f116, Tryz.func116, c116⟩,
  ⟨⟨Tryz.f122, Tryz.func122, c122⟩,
  ⟨⟨Tryz.f123, Tryz.func123, c123⟩,
  ⟨⟨Tryz.f124, Tryz.func124, c124⟩,
  trivial⟩⟩⟩⟩⟩⟩⟩⟩⟩⟩⟩⟩⟩⟩⟩⟩⟩⟩⟩⟩⟩⟩⟩⟩⟩⟩⟩⟩⟩⟩⟩⟩⟩⟩⟩⟩⟩⟩⟩⟩⟩⟩⟩⟩⟩⟩⟩⟩⟩⟩⟩⟩⟩⟩⟩⟩⟩⟩⟩⟩⟩⟩⟩⟩⟩⟩⟩⟩⟩⟩⟩⟩⟩⟩⟩⟩⟩⟩⟩⟩⟩⟩⟩⟩⟩⟩⟩⟩⟩⟩⟩⟩⟩⟩
theorem checked : Checked0 Tryz.prog prims X := checked_of allOk
theorem primsOk : PrimOk Tryz.prog GV prims := prims_cons pFmt (prims_cons pParse (prims_cons (prim_add64 Tryz.func79 (by kernel_rfl) (by kernel_rfl) (by kernel_rfl) (by kernel_rfl)) (prims_cons (prim_sub64 Tryz.func80 (by kernel_rfl) (by kernel_rfl) (by kernel_rfl) (by kernel_rfl)) (prims_cons (prim_cmp Tryz.func81 (by kernel_rfl) (by kernel_rfl) (by kernel_rfl) (by kernel_rfl)) (prims_cons (primX_none (by decide)) (prims_cons pClone (prims_cons (prim_index Tryz.func119 (by kernel_rfl) (by kernel_rfl) (by kernel_rfl) (by kernel_rfl)) (prims_nil))))))))
theorem mixed : Tryz.prog.follows .mixedOrders = true := by kernel_rfl
theorem laidOut : laidOutB Tryz.prog = true := by kernel_rfl
end Go.Proofs.YtgbmobfjanajaaaGreatDoor.Sx.T
