/- Each text of the small language is the compiled form of the program's function of its number. -/
import Derived.Test.YtjbgceogkgpjpaaGreatDoorSxZ
import Derived.Test.YtjbgceogkgpjpaaGreatDoorSxText
import Derived.Test.YtjbgceogkgpjpaaGreatDoorProg
import Derived.Test.YtjbgceogkgpjpaaGreatDoorGV
import Derived.Test.YtjbgceogkgpjpaaGreatDoorEvG
import Derived.Test.YtjbgceogkgpjpaaGreatDoorLaid
import Derived.Test.YtjbgceogkgpjpaaGreatDoorSyP
import Derived.Test.YtjbgceogkgpjpaaGreatDoorSyS
import Derived.Test.YtjbgceogkgpjpaaGreatDoorNum
import Derived.Test.YtjbgceogkgpjpaaGreatDoorSyB
import Derived.Test.YtjbgceogkgpjpaaGreatDoorPrims
import Derived.Test.YtjbgceogkgpjpaaGreatDoorEvX
import Derived.Test.YtjbgceogkgpjpaaGreatDoorEvR
import Derived.Test.YtjbgceogkgpjpaaGreatDoorEvP
import Derived.Test.YtjbgceogkgpjpaaGreatDoorEvS
import Derived.Test.YtjbgceogkgpjpaaGreatDoorEvL
import Derived.Test.YtjbgceogkgpjpaaGreatDoorEvW
import Derived.Test.YtjbgceogkgpjpaaGreatDoorEvF
import Derived.Test.YtjbgceogkgpjpaaGreatDoorEvU
import Derived.Test.YtjbgceogkgpjpaaGreatDoorEvQ
import Derived.KernelRfl
set_option maxRecDepth 100000
namespace Go.Proofs.YtjbgceogkgpjpaaGreatDoor.Sx.T
open Go Go.Proofs.YtjbgceogkgpjpaaGreatDoor.Sx Go.Proofs
def prims : List (Nat × Nat) := [(34, 2096), (38, 5), (50, 7), (126, 1214), (133, 99), (146, 2), (158, 4)]
theorem c9 : (chkFn Tryz.prog prims x9 Tryz.f9 && supCode x9.body) = true := by kernel_rfl
theorem c10 : (chkFn Tryz.prog prims x10 Tryz.f10 && supCode x10.body) = true := by kernel_rfl
theorem c11 : (chkFn Tryz.prog prims x11 Tryz.f11 && supCode x11.body) = true := by kernel_rfl
theorem c13 : (chkFn Tryz.prog prims x13 Tryz.f13 && supCode x13.body) = true := by kernel_rfl
theorem c15 : (chkFn Tryz.prog prims x15 Tryz.f15 && supCode x15.body) = true := by kernel_rfl
theorem c16 : (chkFn Tryz.prog prims x16 Tryz.f16 && supCode x16.body) = true := by kernel_rfl
theorem c18 : (chkFn Tryz.prog prims x18 Tryz.f18 && supCode x18.body) = true := by kernel_rfl
theorem c20 : (chkFn Tryz.prog prims x20 Tryz.f20 && supCode x20.body) = true := by kernel_rfl
theorem c22 : (chkFn Tryz.prog prims x22 Tryz.f22 && supCode x22.body) = true := by kernel_rfl
theorem c23 : (chkFn Tryz.prog prims x23 Tryz.f23 && supCode x23.body) = true := by kernel_rfl
theorem c24 : (chkFn Tryz.prog prims x24 Tryz.f24 && supCode x24.body) = true := by kernel_rfl
theorem c25 : (chkFn Tryz.prog prims x25 Tryz.f25 && supCode x25.body) = true := by kernel_rfl
theorem c26 : (chkFn Tryz.prog prims x26 Tryz.f26 && supCode x26.body) = true := by kernel_rfl
theorem c27 : (chkFn Tryz.prog prims x27 Tryz.f27 && supCode x27.body) = true := by kernel_rfl
theorem c28 : (chkFn Tryz.prog prims x28 Tryz.f28 && supCode x28.body) = true := by kernel_rfl
theorem c32 : (chkFn Tryz.prog prims x32 Tryz.f32 && supCode x32.body) = true := by kernel_rfl
theorem c33 : (chkFn Tryz.prog prims x33 Tryz.f33 && supCode x33.body) = true := by kernel_rfl
theorem c37 : (chkFn Tryz.prog prims x37 Tryz.f37 && supCode x37.body) = true := by kernel_rfl
theorem c39 : (chkFn Tryz.prog prims x39 Tryz.f39 && supCode x39.body) = true := by kernel_rfl
theorem c40 : (chkFn Tryz.prog prims x40 Tryz.f40 && supCode x40.body) = true := by kernel_rfl
theorem c43 : (chkFn Tryz.prog prims x43 Tryz.f43 && supCode x43.body) = true := by kernel_rfl
theorem c44 : (chkFn Tryz.prog prims x44 Tryz.f44 && supCode x44.body) = true := by kernel_rfl
theorem c47 : (chkFn Tryz.prog prims x47 Tryz.f47 && supCode x47.body) = true := by kernel_rfl
theorem c51 : (chkFn Tryz.prog prims x51 Tryz.f51 && supCode x51.body) = true := by kernel_rfl
theorem c52 : (chkFn Tryz.prog prims x52 Tryz.f52 && supCode x52.body) = true := by kernel_rfl
theorem c53 : (chkFn Tryz.prog prims x53 Tryz.f53 && supCode x53.body) = true := by kernel_rfl
theorem c54 : (chkFn Tryz.prog prims x54 Tryz.f54 && supCode x54.body) = true := by kernel_rfl
theorem c56 : (chkFn Tryz.prog prims x56 Tryz.f56 && supCode x56.body) = true := by kernel_rfl
theorem c62 : (chkFn Tryz.prog prims x62 Tryz.f62 && supCode x62.body) = true := by kernel_rfl
theorem c63 : (chkFn Tryz.prog prims x63 Tryz.f63 && supCode x63.body) = true := by kernel_rfl
theorem c65 : (chkFn Tryz.prog prims x65 Tryz.f65 && supCode x65.body) = true := by kernel_rfl
theorem c68 : (chkFn Tryz.prog prims x68 Tryz.f68 && supCode x68.body) = true := by kernel_rfl
theorem c69 : (chkFn Tryz.prog prims x69 Tryz.f69 && supCode x69.body) = true := by kernel_rfl
theorem c70 : (chkFn Tryz.prog prims x70 Tryz.f70 && supCode x70.body) = true := by kernel_rfl
theorem c73 : (chkFn Tryz.prog prims x73 Tryz.f73 && supCode x73.body) = true := by kernel_rfl
theorem c95 : (chkFn Tryz.prog prims x95 Tryz.f95 && supCode x95.body) = true := by kernel_rfl
theorem c96 : (chkFn Tryz.prog prims x96 Tryz.f96 && supCode x96.body) = true := by kernel_rfl
theorem c97 : (chkFn Tryz.prog prims x97 Tryz.f97 && supCode x97.body) = true := by kernel_rfl
theorem c99 : (chkFn Tryz.prog prims x99 Tryz.f99 && supCode x99.body) = true := by kernel_rfl
theorem c100 : (chkFn Tryz.prog prims x100 Tryz.f100 && supCode x100.body) = true := by kernel_rfl
theorem c101 : (chkFn Tryz.prog prims x101 Tryz.f101 && supCode x101.body) = true := by kernel_rfl
theorem c102 : (chkFn Tryz.prog prims x102 Tryz.f102 && supCode x102.body) = true := by kernel_rfl
theorem c115 : (chkFn Tryz.prog prims x115 Tryz.f115 && supCode x115.body) = true := by kernel_rfl
theorem c119 : (chkFn Tryz.prog prims x119 Tryz.f119 && supCode x119.body) = true := by kernel_rfl
theorem c120 : (chkFn Tryz.prog prims x120 Tryz.f120 && supCode x120.body) = true := by kernel_rfl
theorem c121 : (chkFn Tryz.prog prims x121 Tryz.f121 && supCode x121.body) = true := by kernel_rfl
theorem c122 : (chkFn Tryz.prog prims x122 Tryz.f122 && supCode x122.body) = true := by kernel_rfl
theorem c123 : (chkFn Tryz.prog prims x123 Tryz.f123 && supCode x123.body) = true := by kernel_rfl
theorem c124 : (chkFn Tryz.prog prims x124 Tryz.f124 && supCode x124.body) = true := by kernel_rfl
theorem c125 : (chkFn Tryz.prog prims x125 Tryz.f125 && supCode x125.body) = true := by kernel_rfl
theorem c132 : (chkFn Tryz.prog prims x132 Tryz.f132 && supCode x132.body) = true := by kernel_rfl
theorem c134 : (chkFn Tryz.prog prims x134 Tryz.f134 && supCode x134.body) = true := by kernel_rfl
theorem c135 : (chkFn Tryz.prog prims x135 Tryz.f135 && supCode x135.body) = true := by kernel_rfl
theorem c139 : (chkFn Tryz.prog prims x139 Tryz.f139 && supCode x139.body) = true := by kernel_rfl
theorem c140 : (chkFn Tryz.prog prims x140 Tryz.f140 && supCode x140.body) = true := by kernel_rfl
theorem c141 : (chkFn Tryz.prog prims x141 Tryz.f141 && supCode x141.body) = true := by kernel_rfl
theorem c142 : (chkFn Tryz.prog prims x142 Tryz.f142 && supCode x142.body) = true := by kernel_rfl
theorem c144 : (chkFn Tryz.prog prims x144 Tryz.f144 && supCode x144.body) = true := by kernel_rfl
theorem c147 : (chkFn Tryz.prog prims x147 Tryz.f147 && supCode x147.body) = true := by kernel_rfl
theorem c150 : (chkFn Tryz.prog prims x150 Tryz.f150 && supCode x150.body) = true := by kernel_rfl
theorem c151 : (chkFn Tryz.prog prims x151 Tryz.f151 && supCode x151.body) = true := by kernel_rfl
theorem c152 : (chkFn Tryz.prog prims x152 Tryz.f152 && supCode x152.body) = true := by kernel_rfl
theorem c153 : (chkFn Tryz.prog prims x153 Tryz.f153 && supCode x153.body) = true := by kernel_rfl
theorem c156 : (chkFn Tryz.prog prims x156 Tryz.f156 && supCode x156.body) = true := by kernel_rfl
theorem c157 : (chkFn Tryz.prog prims x157 Tryz.f157 && supCode x157.body) = true := by kernel_rfl
theorem allOk : AllOk Tryz.prog prims X 0 := ⟨.inl ⟨Tryz.f9, Tryz.func9, c9⟩,
  ⟨.inl ⟨Tryz.f10, Tryz.func10, c10⟩,
  ⟨.inl ⟨Tryz.f11, Tryz.func11, c11⟩,
  ⟨.inl ⟨Tryz.f13, Tryz.func13, c13⟩,
  ⟨.inl ⟨Tryz.f15, Tryz.func15, c15⟩,
  ⟨.inl ⟨Tryz.f16, Tryz.func16, c16⟩,
  ⟨.inl ⟨Tryz.f18, Tryz.func18, c18⟩,
  ⟨.inl ⟨Tryz.f20, Tryz.func20, c20⟩,
  ⟨.inl ⟨Tryz.f22, Tryz.func22, c22⟩,
  ⟨.inl ⟨Tryz.f23, Tryz.func23, c23⟩,
  ⟨.inl ⟨Tryz.f24, Tryz.func24, c24⟩,
  ⟨.inl ⟨Tryz.f25, Tryz.func25, c25⟩,
  ⟨.inl ⟨Tryz.f26, Tryz.func26, c26⟩,
  ⟨.inl ⟨Tryz.f27, Tryz.func27, c27⟩,
  ⟨.inl ⟨Tryz.f28, Tryz.func28, c28⟩,
  ⟨.inl ⟨Tryz.f32, Tryz.func32, c32⟩,
  ⟨.inl ⟨Tryz.f33, Tryz.func33, c33⟩,
  ⟨.inl ⟨Tryz.f37, Tryz.func37, c37⟩,
  ⟨.inl ⟨Tryz.f39, Tryz.func39, c39⟩,
  ⟨.inl ⟨Tryz.f40, Tryz.func40, c40⟩,
  ⟨.inl ⟨Tryz.f43, Tryz.func43, c43⟩,
  ⟨.inl ⟨Tryz.f44, Tryz.func44, c44⟩,
  ⟨.inr ⟨_, rfl, hWrite⟩,
  ⟨.inl ⟨Tryz.f47, Tryz.func47, c47⟩,
  ⟨.inr ⟨_, rfl, hString⟩,
  ⟨.inl ⟨Tryz.f51, Tryz.func51, c51⟩,
  ⟨.inl ⟨Tryz.f52, Tryz.func52, c52⟩,
  ⟨.inl ⟨Tryz.f53, Tryz.func53, c53⟩,
  ⟨.inl ⟨Tryz.f54, Tryz.func54, c54⟩,
  ⟨.inl ⟨Tryz.f56, Tryz.func56, c56⟩,
  ⟨.inl ⟨Tryz.f62, Tryz.func62, c62⟩,
  ⟨.inl ⟨Tryz.f63, Tryz.func63, c63⟩,
  ⟨.inl ⟨Tryz.f65, Tryz.func65, c65⟩,
  ⟨.inl ⟨Tryz.f68, Tryz.func68, c68⟩,
  ⟨.inl ⟨Tryz.f69, Tryz.func69, c69⟩,
  ⟨.inl ⟨Tryz.f70, Tryz.func70, c70⟩,
  ⟨.inl ⟨Tryz.f73, Tryz.func73, c73⟩,
  ⟨.inl ⟨Tryz.f95, Tryz.func95, c95⟩,
  ⟨.inl ⟨Tryz.f96, Tryz.func96, c96⟩,
  ⟨.inl ⟨Tryz.f97, Tryz.func97, c97⟩,
  ⟨.inl ⟨Tryz.f99, Tryz.func99, c99⟩,
  ⟨.inl ⟨Tryz.f100, Tryz.func100, c100⟩,
  ⟨.inl ⟨Tryz.f101, Tryz.func101, c101⟩,
  ⟨.inl ⟨Tryz.f102, Tryz.func102, c102⟩,
  ⟨.inl ⟨Tryz.f115, Tryz.func115, c115⟩,
  ⟨.inl ⟨Tryz.f119, Tryz.func119, c119⟩,
  ⟨.inl ⟨Tryz.f120, Tryz.func120, c120⟩,
  ⟨.inl ⟨Tryz.f121, Tryz.func121, c121⟩,
  ⟨.inl ⟨Tryz.f122, Tryz.func122, c122⟩,
  ⟨.inl ⟨Tryz.f123, Tryz.func123, c123⟩,
  ⟨.inl ⟨Tryz.f124, Tryz.func124, c124⟩,
  ⟨.inl ⟨Tryz.f125, Tryz.func125, c125⟩,
  ⟨.inl ⟨Tryz.f132, Tryz.func132, c132⟩,
  ⟨.inl ⟨Tryz.f134, Tryz.func134, c134⟩,
  ⟨.inl ⟨Tryz.f135, Tryz.func135, c135⟩,
  ⟨.inl ⟨Tryz.f139, Tryz.func139, c139⟩,
  ⟨.inl ⟨Tryz.f140, Tryz.func140, c140⟩,
  ⟨.inl ⟨Tryz.f141, Tryz.func141, c141⟩,
  ⟨.inl ⟨Tryz.f142, Tryz.func142, c142⟩,
  ⟨.inl ⟨Tryz.f144, Tryz.func144, c144⟩,
  ⟨.inl ⟨Tryz.f147, Tryz.func147, c147⟩,
  ⟨.inl ⟨Tryz.f150, Tryz.func150, c150⟩,
  ⟨.inl ⟨Tryz.f151, Tryz.func151, c151⟩,
  ⟨.inl ⟨Tryz.f152, Tryz.func152, c152⟩,
  ⟨.inl ⟨Tryz.f153, Tryz.func153, c153⟩,
  ⟨.inl ⟨Tryz.f156, Tryz.func156, c156⟩,
  ⟨.inl ⟨Tryz.f157, Tryz.func157, c157⟩,
  trivial⟩⟩⟩⟩⟩⟩⟩⟩⟩⟩⟩⟩⟩⟩⟩⟩⟩⟩⟩⟩⟩⟩⟩⟩⟩⟩⟩⟩⟩⟩⟩⟩⟩⟩⟩⟩⟩⟩⟩⟩⟩⟩⟩⟩⟩⟩⟩⟩⟩⟩⟩⟩⟩⟩⟩⟩⟩⟩⟩⟩⟩⟩⟩⟩⟩⟩⟩
theorem checked : Checked0 Tryz.prog prims X := checked_of allOk
theorem primsOk : PrimOk Tryz.prog GV prims := prims_cons pNum (prims_cons pFmt (prims_cons pSplit (prims_cons pParse2 (prims_cons (primX_none (by decide)) (prims_cons (prim_index Tryz.func146 (by kernel_rfl) (by kernel_rfl) (by kernel_rfl) (by kernel_rfl)) (prims_cons pClone (prims_nil)))))))
theorem mixed : Tryz.prog.follows .mixedOrders = true := by kernel_rfl
theorem laidOut : laidOutB Tryz.prog = true := by kernel_rfl
end Go.Proofs.YtjbgceogkgpjpaaGreatDoor.Sx.T
