/- Each text of the small language is the compiled form of the program's function of its number. -/
import Derived.Test.YtnmaahfipddkmaaSxZ
import Derived.Test.YtnmaahfipddkmaaSxText
import Derived.Test.YtnmaahfipddkmaaProg
import Derived.Test.YtnmaahfipddkmaaRise
import Derived.Test.YtnmaahfipddkmaaEvX
import Derived.Test.YtnmaahfipddkmaaEvR
import Derived.Test.YtnmaahfipddkmaaEvW
import Derived.Test.YtnmaahfipddkmaaEvF
import Derived.Test.YtnmaahfipddkmaaEvE
import Derived.Test.YtnmaahfipddkmaaEvP
import Derived.Test.YtnmaahfipddkmaaEvS
import Derived.KernelRfl
set_option maxRecDepth 100000
namespace Go.Proofs.Ytnmaahfipddkmaa.Sx.T
open Go Go.Proofs.Ytnmaahfipddkmaa.Sx Go.Proofs
def prims : List (Nat × Nat) := [(46, 100)]
theorem c7 : (chkFn Try.prog prims x7 Try.f7 && supCode x7.body) = true := by kernel_rfl
theorem c8 : (chkFn Try.prog prims x8 Try.f8 && supCode x8.body) = true := by kernel_rfl
theorem c9 : (chkFn Try.prog prims x9 Try.f9 && supCode x9.body) = true := by kernel_rfl
theorem c10 : (chkFn Try.prog prims x10 Try.f10 && supCode x10.body) = true := by kernel_rfl
theorem c13 : (chkFn Try.prog prims x13 Try.f13 && supCode x13.body) = true := by kernel_rfl
theorem c14 : (chkFn Try.prog prims x14 Try.f14 && supCode x14.body) = true := by kernel_rfl
theorem c15 : (chkFn Try.prog prims x15 Try.f15 && supCode x15.body) = true := by kernel_rfl
theorem c16 : (chkFn Try.prog prims x16 Try.f16 && supCode x16.body) = true := by kernel_rfl
theorem c17 : (chkFn Try.prog prims x17 Try.f17 && supCode x17.body) = true := by kernel_rfl
theorem c19 : (chkFn Try.prog prims x19 Try.f19 && supCode x19.body) = true := by kernel_rfl
theorem c20 : (chkFn Try.prog prims x20 Try.f20 && supCode x20.body) = true := by kernel_rfl
theorem c21 : (chkFn Try.prog prims x21 Try.f21 && supCode x21.body) = true := by kernel_rfl
theorem c22 : (chkFn Try.prog prims x22 Try.f22 && supCode x22.body) = true := by kernel_rfl
theorem c23 : (chkFn Try.prog prims x23 Try.f23 && supCode x23.body) = true := by kernel_rfl
theorem c24 : (chkFn Try.prog prims x24 Try.f24 && supCode x24.body) = true := by kernel_rfl
theorem c25 : (chkFn Try.prog prims x25 Try.f25 && supCode x25.body) = true := by kernel_rfl
theorem c26 : (chkFn Try.prog prims x26 Try.f26 && supCode x26.body) = true := by kernel_rfl
theorem c27 : (chkFn Try.prog prims x27 Try.f27 && supCode x27.body) = true := by kernel_rfl
theorem c33 : (chkFn Try.prog prims x33 Try.f33 && supCode x33.body) = true := by kernel_rfl
theorem c34 : (chkFn Try.prog prims x34 Try.f34 && supCode x34.body) = true := by kernel_rfl
theorem c35 : (chkFn Try.prog prims x35 Try.f35 && supCode x35.body) = true := by kernel_rfl
theorem c36 : (chkFn Try.prog prims x36 Try.f36 && supCode x36.body) = true := by kernel_rfl
theorem c37 : (chkFn Try.prog prims x37 Try.f37 && supCode x37.body) = true := by kernel_rfl
theorem c38 : (chkFn Try.prog prims x38 Try.f38 && supCode x38.body) = true := by kernel_rfl
theorem c39 : (chkFn Try.prog prims x39 Try.f39 && supCode x39.body) = true := by kernel_rfl
theorem c40 : (chkFn Try.prog prims x40 Try.f40 && supCode x40.body) = true := by kernel_rfl
theorem c41 : (chkFn Try.prog prims x41 Try.f41 && supCode x41.body) = true := by kernel_rfl
theorem c42 : (chkFn Try.prog prims x42 Try.f42 && supCode x42.body) = true := by kernel_rfl
theorem c43 : (chkFn Try.prog prims x43 Try.f43 && supCode x43.body) = true := by kernel_rfl
theorem c44 : (chkFn Try.prog prims x44 Try.f44 && supCode x44.body) = true := by kernel_rfl
theorem c45 : (chkFn Try.prog prims x45 Try.f45 && supCode x45.body) = true := by kernel_rfl
theorem c47 : (chkFn Try.prog prims x47 Try.f47 && supCode x47.body) = true := by kernel_rfl
theorem c48 : (chkFn Try.prog prims x48 Try.f48 && supCode x48.body) = true := by kernel_rfl
theorem c49 : (chkFn Try.prog prims x49 Try.f49 && supCode x49.body) = true := by kernel_rfl
theorem c51 : (chkFn Try.prog prims x51 Try.f51 && supCode x51.body) = true := by kernel_rfl
theorem c52 : (chkFn Try.prog prims x52 Try.f52 && supCode x52.body) = true := by kernel_rfl
theorem c53 : (chkFn Try.prog prims x53 Try.f53 && supCode x53.body) = true := by kernel_rfl
theorem c54 : (chkFn Try.prog prims x54 Try.f54 && supCode x54.body) = true := by kernel_rfl
theorem c57 : (chkFn Try.prog prims x57 Try.f57 && supCode x57.body) = true := by kernel_rfl
theorem c58 : (chkFn Try.prog prims x58 Try.f58 && supCode x58.body) = true := by kernel_rfl
theorem c59 : (chkFn Try.prog prims x59 Try.f59 && supCode x59.body) = true := by kernel_rfl
theorem c60 : (chkFn Try.prog prims x60 Try.f60 && supCode x60.body) = true := by kernel_rfl
theorem c61 : (chkFn Try.prog prims x61 Try.f61 && supCode x61.body) = true := by kernel_rfl
theorem c62 : (chkFn Try.prog prims x62 Try.f62 && supCode x62.body) = true := by kernel_rfl
theorem c63 : (chkFn Try.prog prims x63 Try.f63 && supCode x63.body) = true := by kernel_rfl
theorem c64 : (chkFn Try.prog prims x64 Try.f64 && supCode x64.body) = true := by kernel_rfl
theorem c65 : (chkFn Try.prog prims x65 Try.f65 && supCode x65.body) = true := by kernel_rfl
theorem c66 : (chkFn Try.prog prims x66 Try.f66 && supCode x66.body) = true := by kernel_rfl
theorem c68 : (chkFn Try.prog prims x68 Try.f68 && supCode x68.body) = true := by kernel_rfl
theorem c69 : (chkFn Try.prog prims x69 Try.f69 && supCode x69.body) = true := by kernel_rfl
theorem c72 : (chkFn Try.prog prims x72 Try.f72 && supCode x72.body) = true := by kernel_rfl
theorem c73 : (chkFn Try.prog prims x73 Try.f73 && supCode x73.body) = true := by kernel_rfl
theorem c74 : (chkFn Try.prog prims x74 Try.f74 && supCode x74.body) = true := by kernel_rfl
theorem c75 : (chkFn Try.prog prims x75 Try.f75 && supCode x75.body) = true := by kernel_rfl
theorem c76 : (chkFn Try.prog prims x76 Try.f76 && supCode x76.body) = true := by kernel_rfl
theorem c77 : (chkFn Try.prog prims x77 Try.f77 && supCode x77.body) = true := by kernel_rfl
theorem c78 : (chkFn Try.prog prims x78 Try.f78 && supCode x78.body) = true := by kernel_rfl
theorem c79 : (chkFn Try.prog prims x79 Try.f79 && supCode x79.body) = true := by kernel_rfl
theorem c80 : (chkFn Try.prog prims x80 Try.f80 && supCode x80.body) = true := by kernel_rfl
theorem c92 : (chkFn Try.prog prims x92 Try.f92 && supCode x92.body) = true := by kernel_rfl
theorem c93 : (chkFn Try.prog prims x93 Try.f93 && supCode x93.body) = true := by kernel_rfl
theorem c100 : (chkFn Try.prog prims x100 Try.f100 && supCode x100.body) = true := by kernel_rfl
theorem c101 : (chkFn Try.prog prims x101 Try.f101 && supCode x101.body) = true := by kernel_rfl
theorem allOk : AllOk Try.prog prims X 0 := ⟨⟨Try.f7, Try.func7, c7⟩,
  ⟨⟨Try.f8, Try.func8, c8⟩,
  ⟨⟨Try.f9, Try.func9, c9⟩,
  ⟨⟨Try.f10, Try.func10, c10⟩,
  ⟨⟨Try.f13, Try.func13, c13⟩,
  ⟨⟨Try.f14, Try.func14, c14⟩,
  ⟨⟨Try.f15, Try.func15, c15⟩,
  ⟨⟨Try.f16, Try.func16, c16⟩,
  ⟨⟨Try.f17, Try.func17, c17⟩,
  ⟨⟨Try.f19, Try.func19, c19⟩,
  ⟨⟨Try.f20, Try.func20, c20⟩,
  ⟨⟨Try.f21, Try.func21, c21⟩,
  ⟨⟨Try.f22, Try.func22, c22⟩,
  ⟨⟨Try.f23, Try.func23, c23⟩,
  ⟨⟨Try.f24, Try.func24, c24⟩,
  ⟨⟨Try.f25, Try.func25, c25⟩,
  ⟨⟨Try.f26, Try.func26, c26⟩,
  ⟨⟨Try.f27, Try.func27, c27⟩,
  ⟨⟨Try.f33, Try.func33, c33⟩,
  ⟨⟨Try.f34, Try.func34, c34⟩,
  ⟨⟨Try.f35, Try.func35, c35⟩,
  ⟨⟨Try.f36, Try.func36, c36⟩,
  ⟨⟨Try.f37, Try.func37, c37⟩,
  ⟨⟨Try.f38, Try.func38, c38⟩,
  ⟨⟨Try.f39, Try.func39, c39⟩,
  ⟨⟨Try.f40, Try.func40, c40⟩,
  ⟨⟨Try.f41, Try.func41, c41⟩,
  ⟨⟨Try.f42, Try.func42, c42⟩,
  ⟨⟨Try.f43, Try.func43, c43⟩,
  ⟨⟨Try.f44, Try.func44, c44⟩,
  ⟨⟨Try.f45, Try.func45, c45⟩,
  ⟨⟨Try.f47, Try.func47, c47⟩,
  ⟨⟨Try.f48, Try.func48, c48⟩,
  ⟨⟨Try.f49, Try.func49, c49⟩,
  ⟨⟨Try.f51, Try.func51, c51⟩,
  ⟨⟨Try.f52, Try.func52, c52⟩,
  ⟨⟨Try.f53, Try.func53, c53⟩,
  ⟨⟨Try.f54, Try.func54, c54⟩,
  ⟨⟨Try.f57, Try.func57, c57⟩,
  ⟨⟨Try.f58, Try.func58, c58⟩,
  ⟨⟨Try.f59, Try.func59, c59⟩,
  ⟨⟨Try.f60, Try.func60, c60⟩,
  ⟨⟨Try.f61, Try.func61, c61⟩,
  ⟨⟨Try.f62, Try.func62, c62⟩,
  ⟨⟨Try.f63, Try.func63, c63⟩,
  ⟨⟨Try.f64, Try.func64, c64⟩,
  ⟨⟨Try.f65, Try.func65, c65⟩,
  ⟨⟨Try.f66, Try.func66, c66⟩,
  ⟨⟨Try.f68, Try.func68, c68⟩,
  ⟨⟨Try.f69, Try.func69, c69⟩,
  ⟨⟨Try.f72, Try.func72, c72⟩,
  ⟨⟨Try.f73, Try.func73, c73⟩,
  ⟨⟨Try.f74, Try.func74, c74⟩,
  ⟨⟨Try.f75, Try.func75, c75⟩,
  ⟨⟨Try.f76, Try.func76, c76⟩,
  ⟨⟨Try.f77, Try.func77, c77⟩,
  ⟨⟨Try.f78, Try.func78, c78⟩,
  ⟨⟨Try.f79, Try.func79, c79⟩,
  ⟨⟨Try.f80, Try.func80, c80⟩,
  ⟨⟨Try.f92, Try.func92, c92⟩,
  ⟨⟨Try.f93, Try.func93, c93⟩,
  ⟨⟨Try.f100, Try.func100, c100⟩,
  ⟨⟨Try.f101, Try.func101, c101⟩,
  trivial⟩⟩⟩⟩⟩⟩⟩⟩⟩⟩⟩⟩⟩⟩⟩⟩⟩⟩⟩⟩⟩⟩⟩⟩⟩⟩⟩⟩⟩⟩⟩⟩⟩⟩⟩⟩⟩⟩⟩⟩⟩⟩⟩⟩⟩⟩⟩⟩⟩⟩⟩⟩⟩⟩⟩⟩⟩⟩⟩⟩⟩⟩⟩
theorem checked : Checked0 Try.prog prims X := checked_of allOk
theorem primsOk {gl : Nat → List AV} : PrimOk Try.prog gl prims := prims_cons (primX_none (by decide)) (prims_nil) rise
theorem mixed : Try.prog.follows .mixedOrders = true := by kernel_rfl
theorem laidOut : laidOutB Try.prog = true := by kernel_rfl
end Go.Proofs.Ytnmaahfipddkmaa.Sx.T
