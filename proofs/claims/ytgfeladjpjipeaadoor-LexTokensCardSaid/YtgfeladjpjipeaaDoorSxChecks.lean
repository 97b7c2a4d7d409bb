/- Each text of the small language is the compiled form of the program's function of its number. -/
import Derived.Test.YtgfeladjpjipeaaDoorSxZ
import Derived.Test.YtgfeladjpjipeaaDoorSxText
import Derived.Test.YtgfeladjpjipeaaDoorProg
import Derived.Test.YtgfeladjpjipeaaDoorGV
import Derived.Test.YtgfeladjpjipeaaDoorEvG
import Derived.Test.YtgfeladjpjipeaaDoorLaid
import Derived.Test.YtgfeladjpjipeaaDoorPrims
import Derived.Test.YtgfeladjpjipeaaDoorEvX
import Derived.Test.YtgfeladjpjipeaaDoorEvR
import Derived.Test.YtgfeladjpjipeaaDoorEvP
import Derived.Test.YtgfeladjpjipeaaDoorEvS
import Derived.Test.YtgfeladjpjipeaaDoorEvL
import Derived.KernelRfl
set_option maxRecDepth 100000
namespace Go.Proofs.YtgfeladjpjipeaaDoor.Sx.T
open Go Go.Proofs.YtgfeladjpjipeaaDoor.Sx Go.Proofs
def prims : List (Nat × Nat) := [(38, 1081), (40, 5), (56, 2), (73, 99), (78, 4)]
theorem c4 : (chkFn Tryd.prog prims x4 Tryd.f4 && supCode x4.body) = true := by kernel_rfl
theorem c8 : (chkFn Tryd.prog prims x8 Tryd.f8 && supCode x8.body) = true := by kernel_rfl
theorem c9 : (chkFn Tryd.prog prims x9 Tryd.f9 && supCode x9.body) = true := by kernel_rfl
theorem c10 : (chkFn Tryd.prog prims x10 Tryd.f10 && supCode x10.body) = true := by kernel_rfl
theorem c11 : (chkFn Tryd.prog prims x11 Tryd.f11 && supCode x11.body) = true := by kernel_rfl
theorem c13 : (chkFn Tryd.prog prims x13 Tryd.f13 && supCode x13.body) = true := by kernel_rfl
theorem c14 : (chkFn Tryd.prog prims x14 Tryd.f14 && supCode x14.body) = true := by kernel_rfl
theorem c15 : (chkFn Tryd.prog prims x15 Tryd.f15 && supCode x15.body) = true := by kernel_rfl
theorem c16 : (chkFn Tryd.prog prims x16 Tryd.f16 && supCode x16.body) = true := by kernel_rfl
theorem c17 : (chkFn Tryd.prog prims x17 Tryd.f17 && supCode x17.body) = true := by kernel_rfl
theorem c18 : (chkFn Tryd.prog prims x18 Tryd.f18 && supCode x18.body) = true := by kernel_rfl
theorem c19 : (chkFn Tryd.prog prims x19 Tryd.f19 && supCode x19.body) = true := by kernel_rfl
theorem c20 : (chkFn Tryd.prog prims x20 Tryd.f20 && supCode x20.body) = true := by kernel_rfl
theorem c21 : (chkFn Tryd.prog prims x21 Tryd.f21 && supCode x21.body) = true := by kernel_rfl
theorem c22 : (chkFn Tryd.prog prims x22 Tryd.f22 && supCode x22.body) = true := by kernel_rfl
theorem c23 : (chkFn Tryd.prog prims x23 Tryd.f23 && supCode x23.body) = true := by kernel_rfl
theorem c24 : (chkFn Tryd.prog prims x24 Tryd.f24 && supCode x24.body) = true := by kernel_rfl
theorem c25 : (chkFn Tryd.prog prims x25 Tryd.f25 && supCode x25.body) = true := by kernel_rfl
theorem c26 : (chkFn Tryd.prog prims x26 Tryd.f26 && supCode x26.body) = true := by kernel_rfl
theorem c27 : (chkFn Tryd.prog prims x27 Tryd.f27 && supCode x27.body) = true := by kernel_rfl
theorem c28 : (chkFn Tryd.prog prims x28 Tryd.f28 && supCode x28.body) = true := by kernel_rfl
theorem c29 : (chkFn Tryd.prog prims x29 Tryd.f29 && supCode x29.body) = true := by kernel_rfl
theorem c30 : (chkFn Tryd.prog prims x30 Tryd.f30 && supCode x30.body) = true := by kernel_rfl
theorem c31 : (chkFn Tryd.prog prims x31 Tryd.f31 && supCode x31.body) = true := by kernel_rfl
theorem c32 : (chkFn Tryd.prog prims x32 Tryd.f32 && supCode x32.body) = true := by kernel_rfl
theorem c33 : (chkFn Tryd.prog prims x33 Tryd.f33 && supCode x33.body) = true := by kernel_rfl
theorem c34 : (chkFn Tryd.prog prims x34 Tryd.f34 && supCode x34.body) = true := by kernel_rfl
theorem c35 : (chkFn Tryd.prog prims x35 Tryd.f35 && supCode x35.body) = true := by kernel_rfl
theorem c36 : (chkFn Tryd.prog prims x36 Tryd.f36 && supCode x36.body) = true := by kernel_rfl
theorem c37 : (chkFn Tryd.prog prims x37 Tryd.f37 && supCode x37.body) = true := by kernel_rfl
theorem c39 : (chkFn Tryd.prog prims x39 Tryd.f39 && supCode x39.body) = true := by kernel_rfl
theorem c41 : (chkFn Tryd.prog prims x41 Tryd.f41 && supCode x41.body) = true := by kernel_rfl
theorem c42 : (chkFn Tryd.prog prims x42 Tryd.f42 && supCode x42.body) = true := by kernel_rfl
theorem c43 : (chkFn Tryd.prog prims x43 Tryd.f43 && supCode x43.body) = true := by kernel_rfl
theorem c44 : (chkFn Tryd.prog prims x44 Tryd.f44 && supCode x44.body) = true := by kernel_rfl
theorem c45 : (chkFn Tryd.prog prims x45 Tryd.f45 && supCode x45.body) = true := by kernel_rfl
theorem c46 : (chkFn Tryd.prog prims x46 Tryd.f46 && supCode x46.body) = true := by kernel_rfl
theorem c47 : (chkFn Tryd.prog prims x47 Tryd.f47 && supCode x47.body) = true := by kernel_rfl
theorem c49 : (chkFn Tryd.prog prims x49 Tryd.f49 && supCode x49.body) = true := by kernel_rfl
theorem c50 : (chkFn Tryd.prog prims x50 Tryd.f50 && supCode x50.body) = true := by kernel_rfl
theorem c51 : (chkFn Tryd.prog prims x51 Tryd.f51 && supCode x51.body) = true := by kernel_rfl
theorem c52 : (chkFn Tryd.prog prims x52 Tryd.f52 && supCode x52.body) = true := by kernel_rfl
theorem c53 : (chkFn Tryd.prog prims x53 Tryd.f53 && supCode x53.body) = true := by kernel_rfl
theorem c54 : (chkFn Tryd.prog prims x54 Tryd.f54 && supCode x54.body) = true := by kernel_rfl
theorem c55 : (chkFn Tryd.prog prims x55 Tryd.f55 && supCode x55.body) = true := by kernel_rfl
theorem c57 : (chkFn Tryd.prog prims x57 Tryd.f57 && supCode x57.body) = true := by kernel_rfl
theorem c58 : (chkFn Tryd.prog prims x58 Tryd.f58 && supCode x58.body) = true := by kernel_rfl
theorem c59 : (chkFn Tryd.prog prims x59 Tryd.f59 && supCode x59.body) = true := by kernel_rfl
theorem c60 : (chkFn Tryd.prog prims x60 Tryd.f60 && supCode x60.body) = true := by kernel_rfl
theorem c61 : (chkFn Tryd.prog prims x61 Tryd.f61 && supCode x61.body) = true := by kernel_rfl
theorem c62 : (chkFn Tryd.prog prims x62 Tryd.f62 && supCode x62.body) = true := by kernel_rfl
theorem c63 : (chkFn Tryd.prog prims x63 Tryd.f63 && supCode x63.body) = true := by kernel_rfl
theorem c64 : (chkFn Tryd.prog prims x64 Tryd.f64 && supCode x64.body) = true := by kernel_rfl
theorem c65 : (chkFn Tryd.prog prims x65 Tryd.f65 && supCode x65.body) = true := by kernel_rfl
theorem c66 : (chkFn Tryd.prog prims x66 Tryd.f66 && supCode x66.body) = true := by kernel_rfl
theorem c67 : (chkFn Tryd.prog prims x67 Tryd.f67 && supCode x67.body) = true := by kernel_rfl
theorem c68 : (chkFn Tryd.prog prims x68 Tryd.f68 && supCode x68.body) = true := by kernel_rfl
theorem c69 : (chkFn Tryd.prog prims x69 Tryd.f69 && supCode x69.body) = true := by kernel_rfl
theorem c70 : (chkFn Tryd.prog prims x70 Tryd.f70 && supCode x70.body) = true := by kernel_rfl
theorem c71 : (chkFn Tryd.prog prims x71 Tryd.f71 && supCode x71.body) = true := by kernel_rfl
theorem c72 : (chkFn Tryd.prog prims x72 Tryd.f72 && supCode x72.body) = true := by kernel_rfl
theorem c74 : (chkFn Tryd.prog prims x74 Tryd.f74 && supCode x74.body) = true := by kernel_rfl
theorem c75 : (chkFn Tryd.prog prims x75 Tryd.f75 && supCode x75.body) = true := by kernel_rfl
theorem c76 : (chkFn Tryd.prog prims x76 Tryd.f76 && supCode x76.body) = true := by kernel_rfl
theorem c77 : (chkFn Tryd.prog prims x77 Tryd.f77 && supCode x77.body) = true := by kernel_rfl
theorem c79 : (chkFn Tryd.prog prims x79 Tryd.f79 && supCode x79.body) = true := by kernel_rfl
theorem c80 : (chkFn Tryd.prog prims x80 Tryd.f80 && supCode x80.body) = true := by kernel_rfl
theorem c81 : (chkFn Tryd.prog prims x81 Tryd.f81 && supCode x81.body) = true := by kernel_rfl
theorem c82 : (chkFn Tryd.prog prims x82 Tryd.f82 && supCode x82.body) = true := by kernel_rfl
theorem c83 : (chkFn Tryd.prog prims x83 Tryd.f83 && supCode x83.body) = true := by kernel_rfl
theorem c84 : (chkFn Tryd.prog prims x84 Tryd.f84 && supCode x84.body) = true := by kernel_rfl
theorem c85 : (chkFn Tryd.prog prims x85 Tryd.f85 && supCode x85.body) = true := by kernel_rfl
theorem c86 : (chkFn Tryd.prog prims x86 Tryd.f86 && supCode x86.body) = true := by kernel_rfl
theorem c87 : (chkFn Tryd.prog prims x87 Tryd.f87 && supCode x87.body) = true := by kernel_rfl
theorem c88 : (chkFn Tryd.prog prims x88 Tryd.f88 && supCode x88.body) = true := by kernel_rfl
theorem c89 : (chkFn Tryd.prog prims x89 Tryd.f89 && supCode x89.body) = true := by kernel_rfl
theorem c90 : (chkFn Tryd.prog prims x90 Tryd.f90 && supCode x90.body) = true := by kernel_rfl
theorem c91 : (chkFn Tryd.prog prims x91 Tryd.f91 && supCode x91.body) = true := by kernel_rfl
theorem c92 : (chkFn Tryd.prog prims x92 Tryd.f92 && supCode x92.body) = true := by kernel_rfl
theorem c93 : (chkFn Tryd.prog prims x93 Tryd.f93 && supCode x93.body) = true := by kernel_rfl
theorem c94 : (chkFn Tryd.prog prims x94 Tryd.f94 && supCode x94.body) = true := by kernel_rfl
theorem c95 : (chkFn Tryd.prog prims x95 Tryd.f95 && supCode x95.body) = true := by kernel_rfl
theorem c96 : (chkFn Tryd.prog prims x96 Tryd.f96 && supCode x96.body) = true := by kernel_rfl
theorem c97 : (chkFn Tryd.prog prims x97 Tryd.f97 && supCode x97.body) = true := by kernel_rfl
theorem c98 : (chkFn Tryd.prog prims x98 Tryd.f98 && supCode x98.body) = true := by kernel_rfl
theorem c99 : (chkFn Tryd.prog prims x99 Tryd.f99 && supCode x99.body) = true := by kernel_rfl
theorem c100 : (chkFn Tryd.prog prims x100 Tryd.f100 && supCode x100.body) = true := by kernel_rfl
theorem c101 : (chkFn Tryd.prog prims x101 Tryd.f101 && supCode x101.body) = true := by kernel_rfl
theorem c102 : (chkFn Tryd.prog prims x102 Tryd.f102 && supCode x102.body) = true := by kernel_rfl
theorem allOk : AllOk Tryd.prog prims X 0 := ⟨⟨Tryd.f4, Tryd.func4, c4⟩,
  ⟨⟨Tryd.f8, Tryd.func8, c8⟩,
  ⟨⟨Tryd.f9, Tryd.func9, c9⟩,
  ⟨⟨Tryd.f10, Tryd.func10, c10⟩,
  ⟨⟨Tryd.f11, Tryd.func11, c11⟩,
  ⟨⟨Tryd.f13, Tryd.func13, c13⟩,
  ⟨⟨Tryd.f14, Tryd.func14, c14⟩,
  ⟨⟨Tryd.f15, Tryd.func15, c15⟩,
  ⟨⟨Tryd.f16, Tryd.func16, c16⟩,
  ⟨⟨Tryd.f17, Tryd.func17, c17⟩,
  ⟨⟨Tryd.f18, Tryd.func18, c18⟩,
  ⟨⟨Tryd.f19, Tryd.func19, c19⟩,
  ⟨⟨Tryd.f20, Tryd.func20, c20⟩,
  ⟨⟨Tryd.f21, Tryd.func21, c21⟩,
  ⟨⟨Tryd.f22, Tryd.func22, c22⟩,
  ⟨⟨Tryd.f23, Tryd.func23, c23⟩,
  ⟨⟨Tryd.f24, Tryd.func24, c24⟩,
  ⟨⟨Tryd.f25, Tryd.func25, c25⟩,
  ⟨⟨Tryd.f26, Tryd.func26, c26⟩,
  ⟨⟨Tryd.f27, Tryd.func27, c27⟩,
  ⟨⟨Tryd.f28, Tryd.func28, c28⟩,
  ⟨⟨Tryd.f29, Tryd.func29, c29⟩,
  ⟨⟨Tryd.f30, Tryd.func30, c30⟩,
  ⟨⟨Tryd.f31, Tryd.func31, c31⟩,
  ⟨⟨Tryd.f32, Tryd.func32, c32⟩,
  ⟨⟨Tryd.f33, Tryd.func33, c33⟩,
  ⟨⟨Tryd.f34, Tryd.func34, c34⟩,
  ⟨⟨Tryd.f35, Tryd.func35, c35⟩,
  ⟨⟨Tryd.f36, Tryd.func36, c36⟩,
  ⟨⟨Tryd.f37, Tryd.func37, c37⟩,
  ⟨⟨Tryd.f39, Tryd.func39, c39⟩,
  ⟨⟨Tryd.f41, Tryd.func41, c41⟩,
  ⟨⟨Tryd.f42, Tryd.func42, c42⟩,
  ⟨⟨Tryd.f43, Tryd.func43, c43⟩,
  ⟨⟨Tryd.f44, Tryd.func44, c44⟩,
  ⟨⟨Tryd.f45, Tryd.func45, c45⟩,
  ⟨⟨Tryd.f46, Tryd.func46, c46⟩,
  ⟨⟨Tryd.f47, Tryd.func47, c47⟩,
  ⟨⟨Tryd.f49, Tryd.func49, c49⟩,
  ⟨⟨Tryd.f50, Tryd.func50, c50⟩,
  ⟨⟨Tryd.f51, Tryd.func51, c51⟩,
  ⟨⟨Tryd.f52, Tryd.func52, c52⟩,
  ⟨⟨Tryd.f53, Tryd.func53, c53⟩,
  ⟨⟨Tryd.f54, Tryd.func54, c54⟩,
  ⟨⟨Tryd.f55, Tryd.func55, c55⟩,
  ⟨⟨Tryd.f57, Tryd.func57, c57⟩,
  ⟨⟨Tryd.f58, Tryd.func58, c58⟩,
  ⟨⟨Tryd.f59, Tryd.func59, c59⟩,
  ⟨⟨Tryd.f60, Tryd.func60, c60⟩,
  ⟨⟨Tryd.f61, Tryd.func61, c61⟩,
  ⟨⟨Tryd.f62, Tryd.func62, c62⟩,
  ⟨⟨Tryd.f63, Tryd.func63, c63⟩,
  ⟨⟨Tryd.f64, Tryd.func64, c64⟩,
  ⟨⟨Tryd.f65, Tryd.func65, c65⟩,
  ⟨⟨Tryd.f66, Tryd.func66, c66⟩,
  ⟨⟨Tryd.f67, Tryd.func67, c67⟩,
  ⟨⟨Tryd.f68, Tryd.func68, c68⟩,
  ⟨⟨Tryd.f69, Tryd.func69, c69⟩,
  ⟨⟨Tryd.f70, Tryd.func70, c70⟩,
  ⟨⟨Tryd.f71, Tryd.func71, c71⟩,
  ⟨⟨Tryd.f72, Tryd.func72, c72⟩,
  ⟨⟨Tryd.f74, Tryd.func74, c74⟩,
  ⟨⟨Tryd.f75, Tryd.func75, c75⟩,
  ⟨⟨Tryd.f76, Tryd.func76, c76⟩,
  ⟨⟨Tryd.f77, Tryd.func77, c77⟩,
  ⟨⟨Tryd.f79, Tryd.func79, c79⟩,
  ⟨⟨Tryd.f80, Tryd.func80, c80⟩,
  ⟨⟨Tryd.f81, Tryd.func81, c81⟩,
  ⟨⟨Tryd.f82, Tryd.func82, c82⟩,
  ⟨⟨Tryd.f83, Tryd.func83, c83⟩,
  ⟨⟨Tryd.f84, Tryd.func84, c84⟩,
  ⟨⟨Tryd.f85, Tryd.func85, c85⟩,
  ⟨⟨Tryd.f86, Tryd.func86, c86⟩,
  ⟨⟨Tryd.f87, Tryd.func87, c87⟩,
  ⟨⟨Tryd.f88, Tryd.func88, c88⟩,
  ⟨⟨Tryd.f89, Tryd.func89, c89⟩,
  ⟨⟨Tryd.f90, Tryd.func90, c90⟩,
  ⟨⟨Tryd.f91, Tryd.func91, c91⟩,
  ⟨⟨Tryd.f92, Tryd.func92, c92⟩,
  ⟨⟨Tryd.f93, Tryd.func93, c93⟩,
  ⟨⟨Tryd.f94, Tryd.func94, c94⟩,
  ⟨⟨Tryd.f95, Tryd.func95, c95⟩,
  ⟨⟨Tryd.f96, Tryd.func96, c96⟩,
  ⟨⟨Tryd.f97, Tryd.func97, c97⟩,
  ⟨⟨Tryd.f98, Tryd.func98, c98⟩,
  ⟨⟨Tryd.f99, Tryd.func99, c99⟩,
  ⟨⟨Tryd.f100, Tryd.func100, c100⟩,
  ⟨⟨Tryd.f101, Tryd.func101, c101⟩,
  ⟨⟨Tryd.f102, Tryd.func102, c102⟩,
  trivial⟩⟩⟩⟩⟩⟩⟩⟩⟩⟩⟩⟩⟩⟩⟩⟩⟩⟩⟩⟩⟩⟩⟩⟩⟩⟩⟩⟩⟩⟩⟩⟩⟩⟩⟩⟩⟩⟩⟩⟩⟩⟩⟩⟩⟩⟩⟩⟩⟩⟩⟩⟩⟩⟩⟩⟩⟩⟩⟩⟩⟩⟩⟩⟩⟩⟩⟩⟩⟩⟩⟩⟩⟩⟩⟩⟩⟩⟩⟩⟩⟩⟩⟩⟩⟩⟩⟩⟩⟩
theorem checked : Checked0 Tryd.prog prims X := checked_of allOk
theorem primsOk : PrimOk Tryd.prog GV prims := prims_cons pParse2 (prims_cons pFmt (prims_cons (prim_index Tryd.func56 (by kernel_rfl) (by kernel_rfl) (by kernel_rfl) (by kernel_rfl)) (prims_cons (primX_none (by decide)) (prims_cons pClone (prims_nil)))))
theorem mixed : Tryd.prog.follows .mixedOrders = true := by kernel_rfl
theorem laidOut : laidOutB Tryd.prog = true := by kernel_rfl
end Go.Proofs.YtgfeladjpjipeaaDoor.Sx.T
