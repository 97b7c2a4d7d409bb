/- Each text of the small language is the compiled form of the program's function of its number. -/
import Derived.Test.YtafeikbbjhmlaaaGreatDoorSxZ
import Derived.Test.YtafeikbbjhmlaaaGreatDoorSxText
import Derived.Test.YtafeikbbjhmlaaaGreatDoorProg
import Derived.Test.YtafeikbbjhmlaaaGreatDoorGV
import Derived.Test.YtafeikbbjhmlaaaGreatDoorEvG
import Derived.Test.YtafeikbbjhmlaaaGreatDoorSyP
import Derived.Test.YtafeikbbjhmlaaaGreatDoorSyS
import Derived.Test.YtafeikbbjhmlaaaGreatDoorSyJ
import Derived.Test.YtafeikbbjhmlaaaGreatDoorSyF
import Derived.Test.YtafeikbbjhmlaaaGreatDoorLaid
import Derived.Test.YtafeikbbjhmlaaaGreatDoorSyB
import Derived.Test.YtafeikbbjhmlaaaGreatDoorPrims
import Derived.Test.YtafeikbbjhmlaaaGreatDoorEvX
import Derived.Test.YtafeikbbjhmlaaaGreatDoorEvR
import Derived.Test.YtafeikbbjhmlaaaGreatDoorEvP
import Derived.Test.YtafeikbbjhmlaaaGreatDoorEvS
import Derived.Test.YtafeikbbjhmlaaaGreatDoorEvL
import Derived.Test.YtafeikbbjhmlaaaGreatDoorEvW
import Derived.Test.YtafeikbbjhmlaaaGreatDoorEvF
import Derived.Test.YtafeikbbjhmlaaaGreatDoorEvU
import Derived.Test.YtafeikbbjhmlaaaGreatDoorEvQ
import Derived.KernelRfl
set_option maxRecDepth 100000
namespace Go.Proofs.YtafeikbbjhmlaaaGreatDoor.Sx.T
open Go Go.Proofs.YtafeikbbjhmlaaaGreatDoor.Sx Go.Proofs
def prims : List (Nat × Nat) := [(31, 9), (32, 5), (40, 10), (51, 8), (73, 11), (74, 1652), (94, 1152), (96, 12), (148, 4), (151, 0), (152, 1), (153, 3)]
theorem c6 : (chkFn Tryz.prog prims x6 Tryz.f6 && supCode x6.body) = true := by kernel_rfl
theorem c8 : (chkFn Tryz.prog prims x8 Tryz.f8 && supCode x8.body) = true := by kernel_rfl
theorem c9 : (chkFn Tryz.prog prims x9 Tryz.f9 && supCode x9.body) = true := by kernel_rfl
theorem c11 : (chkFn Tryz.prog prims x11 Tryz.f11 && supCode x11.body) = true := by kernel_rfl
theorem c13 : (chkFn Tryz.prog prims x13 Tryz.f13 && supCode x13.body) = true := by kernel_rfl
theorem c15 : (chkFn Tryz.prog prims x15 Tryz.f15 && supCode x15.body) = true := by kernel_rfl
theorem c17 : (chkFn Tryz.prog prims x17 Tryz.f17 && supCode x17.body) = true := by kernel_rfl
theorem c19 : (chkFn Tryz.prog prims x19 Tryz.f19 && supCode x19.body) = true := by kernel_rfl
theorem c20 : (chkFn Tryz.prog prims x20 Tryz.f20 && supCode x20.body) = true := by kernel_rfl
theorem c21 : (chkFn Tryz.prog prims x21 Tryz.f21 && supCode x21.body) = true := by kernel_rfl
theorem c22 : (chkFn Tryz.prog prims x22 Tryz.f22 && supCode x22.body) = true := by kernel_rfl
theorem c23 : (chkFn Tryz.prog prims x23 Tryz.f23 && supCode x23.body) = true := by kernel_rfl
theorem c24 : (chkFn Tryz.prog prims x24 Tryz.f24 && supCode x24.body) = true := by kernel_rfl
theorem c25 : (chkFn Tryz.prog prims x25 Tryz.f25 && supCode x25.body) = true := by kernel_rfl
theorem c26 : (chkFn Tryz.prog prims x26 Tryz.f26 && supCode x26.body) = true := by kernel_rfl
theorem c34 : (chkFn Tryz.prog prims x34 Tryz.f34 && supCode x34.body) = true := by kernel_rfl
theorem c37 : (chkFn Tryz.prog prims x37 Tryz.f37 && supCode x37.body) = true := by kernel_rfl
theorem c41 : (chkFn Tryz.prog prims x41 Tryz.f41 && supCode x41.body) = true := by kernel_rfl
theorem c42 : (chkFn Tryz.prog prims x42 Tryz.f42 && supCode x42.body) = true := by kernel_rfl
theorem c44 : (chkFn Tryz.prog prims x44 Tryz.f44 && supCode x44.body) = true := by kernel_rfl
theorem c45 : (chkFn Tryz.prog prims x45 Tryz.f45 && supCode x45.body) = true := by kernel_rfl
theorem c46 : (chkFn Tryz.prog prims x46 Tryz.f46 && supCode x46.body) = true := by kernel_rfl
theorem c47 : (chkFn Tryz.prog prims x47 Tryz.f47 && supCode x47.body) = true := by kernel_rfl
theorem c48 : (chkFn Tryz.prog prims x48 Tryz.f48 && supCode x48.body) = true := by kernel_rfl
theorem c49 : (chkFn Tryz.prog prims x49 Tryz.f49 && supCode x49.body) = true := by kernel_rfl
theorem c50 : (chkFn Tryz.prog prims x50 Tryz.f50 && supCode x50.body) = true := by kernel_rfl
theorem c52 : (chkFn Tryz.prog prims x52 Tryz.f52 && supCode x52.body) = true := by kernel_rfl
theorem c53 : (chkFn Tryz.prog prims x53 Tryz.f53 && supCode x53.body) = true := by kernel_rfl
theorem c64 : (chkFn Tryz.prog prims x64 Tryz.f64 && supCode x64.body) = true := by kernel_rfl
theorem c65 : (chkFn Tryz.prog prims x65 Tryz.f65 && supCode x65.body) = true := by kernel_rfl
theorem c66 : (chkFn Tryz.prog prims x66 Tryz.f66 && supCode x66.body) = true := by kernel_rfl
theorem c72 : (chkFn Tryz.prog prims x72 Tryz.f72 && supCode x72.body) = true := by kernel_rfl
theorem c76 : (chkFn Tryz.prog prims x76 Tryz.f76 && supCode x76.body) = true := by kernel_rfl
theorem c77 : (chkFn Tryz.prog prims x77 Tryz.f77 && supCode x77.body) = true := by kernel_rfl
theorem c78 : (chkFn Tryz.prog prims x78 Tryz.f78 && supCode x78.body) = true := by kernel_rfl
theorem c80 : (chkFn Tryz.prog prims x80 Tryz.f80 && supCode x80.body) = true := by kernel_rfl
theorem c81 : (chkFn Tryz.prog prims x81 Tryz.f81 && supCode x81.body) = true := by kernel_rfl
theorem c91 : (chkFn Tryz.prog prims x91 Tryz.f91 && supCode x91.body) = true := by kernel_rfl
theorem c92 : (chkFn Tryz.prog prims x92 Tryz.f92 && supCode x92.body) = true := by kernel_rfl
theorem c93 : (chkFn Tryz.prog prims x93 Tryz.f93 && supCode x93.body) = true := by kernel_rfl
theorem c100 : (chkFn Tryz.prog prims x100 Tryz.f100 && supCode x100.body) = true := by kernel_rfl
theorem c101 : (chkFn Tryz.prog prims x101 Tryz.f101 && supCode x101.body) = true := by kernel_rfl
theorem c102 : (chkFn Tryz.prog prims x102 Tryz.f102 && supCode x102.body) = true := by kernel_rfl
theorem c103 : (chkFn Tryz.prog prims x103 Tryz.f103 && supCode x103.body) = true := by kernel_rfl
theorem c104 : (chkFn Tryz.prog prims x104 Tryz.f104 && supCode x104.body) = true := by kernel_rfl
theorem c106 : (chkFn Tryz.prog prims x106 Tryz.f106 && supCode x106.body) = true := by kernel_rfl
theorem c107 : (chkFn Tryz.prog prims x107 Tryz.f107 && supCode x107.body) = true := by kernel_rfl
theorem c116 : (chkFn Tryz.prog prims x116 Tryz.f116 && supCode x116.body) = true := by kernel_rfl
theorem c117 : (chkFn Tryz.prog prims x117 Tryz.f117 && supCode x117.body) = true := by kernel_rfl
theorem c118 : (chkFn Tryz.prog prims x118 Tryz.f118 && supCode x118.body) = true := by kernel_rfl
theorem c125 : (chkFn Tryz.prog prims x125 Tryz.f125 && supCode x125.body) = true := by kernel_rfl
theorem c126 : (chkFn Tryz.prog prims x126 Tryz.f126 && supCode x126.body) = true := by kernel_rfl
theorem c127 : (chkFn Tryz.prog prims x127 Tryz.f127 && supCode x127.body) = true := by kernel_rfl
theorem c128 : (chkFn Tryz.prog prims x128 Tryz.f128 && supCode x128.body) = true := by kernel_rfl
theorem c129 : (chkFn Tryz.prog prims x129 Tryz.f129 && supCode x129.body) = true := by kernel_rfl
theorem c130 : (chkFn Tryz.prog prims x130 Tryz.f130 && supCode x130.body) = true := by kernel_rfl
theorem c131 : (chkFn Tryz.prog prims x131 Tryz.f131 && supCode x131.body) = true := by kernel_rfl
theorem c132 : (chkFn Tryz.prog prims x132 Tryz.f132 && supCode x132.body) = true := by kernel_rfl
theorem c133 : (chkFn Tryz.prog prims x133 Tryz.f133 && supCode x133.body) = true := by kernel_rfl
theorem c142 : (chkFn Tryz.prog prims x142 Tryz.f142 && supCode x142.body) = true := by kernel_rfl
theorem c143 : (chkFn Tryz.prog prims x143 Tryz.f143 && supCode x143.body) = true := by kernel_rfl
theorem c149 : (chkFn Tryz.prog prims x149 Tryz.f149 && supCode x149.body) = true := by kernel_rfl
theorem c150 : (chkFn Tryz.prog prims x150 Tryz.f150 && supCode x150.body) = true := by kernel_rfl
theorem c156 : (chkFn Tryz.prog prims x156 Tryz.f156 && supCode x156.body) = true := by kernel_rfl
theorem c157 : (chkFn Tryz.prog prims x157 Tryz.f157 && supCode x157.body) = true := by kernel_rfl
theorem c158 : (chkFn Tryz.prog prims x158 Tryz.f158 && supCode x158.body) = true := by kernel_rfl
theorem allOk : AllOk Tryz.prog prims X 0 := ⟨.inl ⟨Tryz.f6, Tryz.func6, c6⟩,
  ⟨.inl ⟨Tryz.f8, Tryz.func8, c8⟩,
  ⟨.inl ⟨Tryz.f9, Tryz.func9, c9⟩,
  ⟨.inl ⟨Tryz.f11, Tryz.func11, c11⟩,
  ⟨.inl ⟨Tryz.f13, Tryz.func13, c13⟩,
  ⟨.inl ⟨Tryz.f15, Tryz.func15, c15⟩,
  ⟨.inl ⟨Tryz.f17, Tryz.func17, c17⟩,
  ⟨.inl ⟨Tryz.f19, Tryz.func19, c19⟩,
  ⟨.inl ⟨Tryz.f20, Tryz.func20, c20⟩,
  ⟨.inl ⟨Tryz.f21, Tryz.func21, c21⟩,
  ⟨.inl ⟨Tryz.f22, Tryz.func22, c22⟩,
  ⟨.inl ⟨Tryz.f23, Tryz.func23, c23⟩,
  ⟨.inl ⟨Tryz.f24, Tryz.func24, c24⟩,
  ⟨.inl ⟨Tryz.f25, Tryz.func25, c25⟩,
  ⟨.inl ⟨Tryz.f26, Tryz.func26, c26⟩,
  ⟨.inr ⟨_, rfl, hString⟩,
  ⟨.inl ⟨Tryz.f34, Tryz.func34, c34⟩,
  ⟨.inr ⟨_, rfl, hWrite⟩,
  ⟨.inl ⟨Tryz.f37, Tryz.func37, c37⟩,
  ⟨.inl ⟨Tryz.f41, Tryz.func41, c41⟩,
  ⟨.inl ⟨Tryz.f42, Tryz.func42, c42⟩,
  ⟨.inl ⟨Tryz.f44, Tryz.func44, c44⟩,
  ⟨.inl ⟨Tryz.f45, Tryz.func45, c45⟩,
  ⟨.inl ⟨Tryz.f46, Tryz.func46, c46⟩,
  ⟨.inl ⟨Tryz.f47, Tryz.func47, c47⟩,
  ⟨.inl ⟨Tryz.f48, Tryz.func48, c48⟩,
  ⟨.inl ⟨Tryz.f49, Tryz.func49, c49⟩,
  ⟨.inl ⟨Tryz.f50, Tryz.func50, c50⟩,
  ⟨.inl ⟨Tryz.f52, Tryz.func52, c52⟩,
  ⟨.inl ⟨Tryz.f53, Tryz.func53, c53⟩,
  ⟨.inl ⟨Tryz.f64, Tryz.func64, c64⟩,
  ⟨.inl ⟨Tryz.f65, Tryz.func65, c65⟩,
  ⟨.inl ⟨Tryz.f66, Tryz.func66, c66⟩,
  ⟨.inl ⟨Tryz.f72, Tryz.func72, c72⟩,
  ⟨.inl ⟨Tryz.f76, Tryz.func76, c76⟩,
  ⟨.inl ⟨Tryz.f77, Tryz.func77, c77⟩,
  ⟨.inl ⟨Tryz.f78, Tryz.func78, c78⟩,
  ⟨.inl ⟨Tryz.f80, Tryz.func80, c80⟩,
  ⟨.inl ⟨Tryz.f81, Tryz.func81, c81⟩,
  ⟨.inl ⟨Tryz.f91, Tryz.func91, c91⟩,
  ⟨.inl ⟨Tryz.f92, Tryz.func92, c92⟩,
  ⟨.inl ⟨Tryz.f93, Tryz.func93, c93⟩,
  ⟨.inl ⟨Tryz.f100, Tryz.func100, c100⟩,
  ⟨.inl ⟨Tryz.f101, Tryz.func101, c101⟩,
  ⟨.inl ⟨Tryz.f102, Tryz.func102, c102⟩,
  ⟨.inl ⟨Tryz.f103, Tryz.func103, c103⟩,
  ⟨.inl ⟨Tryz.f104, Tryz.func104, c104⟩,
  ⟨.inl ⟨Tryz.f106, Tryz.func106, c106⟩,
  ⟨.inl ⟨Tryz.f107, Tryz.func107, c107⟩,
  ⟨.inl ⟨Tryz.f116, Tryz.func116, c116⟩,
  ⟨.inl ⟨Tryz.f117, Tryz.func117, c117⟩,
  ⟨.inl ⟨Tryz.f118, Tryz.func118, c118⟩,
  ⟨.inl ⟨Tryz.f125, Tryz.func125, c125⟩,
  ⟨.inl ⟨Tryz.f126, Tryz.func126, c126⟩,
  ⟨.inl ⟨Tryz.f127, Tryz.func127, c127⟩,
  ⟨.inl ⟨Tryz.f128, Tryz.func128, c128⟩,
  ⟨.inl ⟨Tryz.f129, Tryz.func129, c129⟩,
  ⟨.inl ⟨Tryz.f130, Tryz.func130, c130⟩,
  ⟨.inl ⟨Tryz.f131, Tryz.func131, c131⟩,
  ⟨.inl ⟨Tryz.f132, Tryz.func132, c132⟩,
  ⟨.inl ⟨Tryz.f133, Tryz.func133, c133⟩,
  ⟨.inl ⟨Tryz.f142, Tryz.func142, c142⟩,
  ⟨.inl ⟨Tryz.f143, Tryz.func143, c143⟩,
  ⟨.inl ⟨Tryz.f149, Tryz.func149, c149⟩,
  ⟨.inl ⟨Tryz.f150, Tryz.func150, c150⟩,
  ⟨.inl ⟨Tryz.f156, Tryz.func156, c156⟩,
  ⟨.inl ⟨Tryz.f157, Tryz.func157, c157⟩,
  ⟨.inl ⟨Tryz.f158, Tryz.func158, c158⟩,
  trivial⟩⟩⟩⟩⟩⟩⟩⟩⟩⟩⟩⟩⟩⟩⟩⟩⟩⟩⟩⟩⟩⟩⟩⟩⟩⟩⟩⟩⟩⟩⟩⟩⟩⟩⟩⟩⟩⟩⟩⟩⟩⟩⟩⟩⟩⟩⟩⟩⟩⟩⟩⟩⟩⟩⟩⟩⟩⟩⟩⟩⟩⟩⟩⟩⟩⟩⟩⟩
theorem checked : Checked0 Tryz.prog prims X := checked_of allOk
theorem primsOk : PrimOk Tryz.prog GV prims := prims_cons pItoa (prims_cons pFmt (prims_cons pCount (prims_cons pJoin (prims_cons pFields (prims_cons pAtoi (prims_cons pParse2 (prims_cons pIndex (prims_cons pClone (prims_cons (prim_add64 Tryz.func151 (by kernel_rfl) (by kernel_rfl) (by kernel_rfl) (by kernel_rfl)) (prims_cons (prim_sub64 Tryz.func152 (by kernel_rfl) (by kernel_rfl) (by kernel_rfl) (by kernel_rfl)) (prims_cons (prim_cmp Tryz.func153 (by kernel_rfl) (by kernel_rfl) (by kernel_rfl) (by kernel_rfl)) (prims_nil))))))))))))
theorem mixed : Tryz.prog.follows .mixedOrders = true := by kernel_rfl
theorem laidOut : laidOutB Tryz.prog = true := by kernel_rfl
end Go.Proofs.YtafeikbbjhmlaaaGreatDoor.Sx.T
