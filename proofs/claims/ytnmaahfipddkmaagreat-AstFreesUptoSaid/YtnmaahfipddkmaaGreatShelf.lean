/-
  DERIVED: THE SHELF's CONTRACTS AT THIS DUMP, IN PLAIN WORDS (tools/lay-plain.mjs out of 'Lay06Z.lean', which tools/lay-shelf.mjs wrote): THE SAME DECLARATIONS UNDER THE SAME NAMES: 'import', 'namespace', 'open', 'def', 'theorem' AND NOTHING ELSE: no command of the shelf's: FOR A HAND-IN. Each laying: the table of numbers ('.._ren') and one theorem, a field a fact of the dump's own or the kernel's comparison; each contract: ONE APPLICATION.
-/
import Derived.Shelf.Sort.Plain
import Derived.Shelf.Slices.CompactS
import Derived.Shelf.Slices.In.SortNone
import Derived.Test.YtnmaahfipddkmaaGreatProg
namespace Go.Proofs
open Go.Shelf
def Tryz.lays190_ren : Go.Shelf.Ren := ⟨fun | 190 => 71 | 125 => 95 | 258 => 94 | 128 => 117 | 129 => 118 | 302 => 108 | 303 => 109 | 304 => 110 | 305 => 111 | 306 => 112 | 307 => 113 | 308 => 114 | 309 => 115 | 310 => 116 | 333 => 122 | 329 => 123 | 330 => 124 | 334 => 125 | 335 => 126 | 336 => 127 | 344 => 133 | n => n, fun | 31 => 22 | 9 => 9 | 3 => 3 | 46 => 109 | 0 => 0 | 51 => 130 | 53 => 132 | 4 => 4 | 183 => 122 | 182 => 121 | 131 => 127 | 5 => 5 | 218 => 139 | 222 => 143 | 228 => 152 | 229 => 93 | n => n, fun | n => n⟩
theorem Tryz.lays190 : Go.Proofs.Lays.n190 Tryz.prog Tryz.lays190_ren := {
  mixed := by kernel_rfl
  f125 := Tryz.func95.trans (congrArg some (by kernel_rfl))
  f128 := Tryz.func117.trans (congrArg some (by kernel_rfl))
  f129 := Tryz.func118.trans (congrArg some (by kernel_rfl))
  f190 := Tryz.func71.trans (congrArg some (by kernel_rfl))
  f258 := Tryz.func94.trans (congrArg some (by kernel_rfl))
  f302 := Tryz.func108.trans (congrArg some (by kernel_rfl))
  f303 := Tryz.func109.trans (congrArg some (by kernel_rfl))
  f304 := Tryz.func110.trans (congrArg some (by kernel_rfl))
  f305 := Tryz.func111.trans (congrArg some (by kernel_rfl))
  f306 := Tryz.func112.trans (congrArg some (by kernel_rfl))
  f307 := Tryz.func113.trans (congrArg some (by kernel_rfl))
  f308 := Tryz.func114.trans (congrArg some (by kernel_rfl))
  f309 := Tryz.func115.trans (congrArg some (by kernel_rfl))
  f310 := Tryz.func116.trans (congrArg some (by kernel_rfl))
  f329 := Tryz.func123.trans (congrArg some (by kernel_rfl))
  f330 := Tryz.func124.trans (congrArg some (by kernel_rfl))
  f333 := Tryz.func122.trans (congrArg some (by kernel_rfl))
  f334 := Tryz.func125.trans (congrArg some (by kernel_rfl))
  f335 := Tryz.func126.trans (congrArg some (by kernel_rfl))
  f336 := Tryz.func127.trans (congrArg some (by kernel_rfl))
  f344 := Tryz.func133.trans (congrArg some (by kernel_rfl))
  t0 := Tryz.underlying0
  a0 := Tryz.isAgg0
  z0 := Tryz.sizeOf0
  v0 := Tryz.zeroValue0
  t3 := Tryz.underlying3
  a3 := Tryz.isAgg3
  z3 := Tryz.sizeOf3
  v3 := Tryz.zeroValue3
  t4 := Tryz.underlying4
  a4 := Tryz.isAgg4
  z4 := Tryz.sizeOf4
  v4 := Tryz.zeroValue4
  t5 := Tryz.underlying5
  a5 := Tryz.isAgg5
  z5 := Tryz.sizeOf5
  v5 := Tryz.zeroValue5
  t9 := Tryz.underlying9
  a9 := Tryz.isAgg9
  z9 := Tryz.sizeOf9
  v9 := Tryz.zeroValue9
  t31 := Tryz.underlying22
  a31 := Tryz.isAgg22
  z31 := Tryz.sizeOf22
  v31 := Tryz.zeroValue22
  t46 := Tryz.underlying109
  a46 := Tryz.isAgg109
  z46 := Tryz.sizeOf109
  v46 := Tryz.zeroValue109
  t51 := Tryz.underlying130
  a51 := Tryz.isAgg130
  z51 := Tryz.sizeOf130
  v51 := Tryz.zeroValue130
  t53 := Tryz.underlying132
  a53 := Tryz.isAgg132
  z53 := Tryz.sizeOf132
  v53 := Tryz.zeroValue132
  t131 := Tryz.underlying127
  a131 := Tryz.isAgg127
  z131 := Tryz.sizeOf127
  v131 := Tryz.zeroValue127
  t182 := Tryz.underlying121
  a182 := Tryz.isAgg121
  z182 := Tryz.sizeOf121
  v182 := Tryz.zeroValue121
  t183 := Tryz.underlying122
  a183 := Tryz.isAgg122
  z183 := Tryz.sizeOf122
  v183 := Tryz.zeroValue122
  t218 := Tryz.underlying139
  a218 := Tryz.isAgg139
  z218 := Tryz.sizeOf139
  v218 := Tryz.zeroValue139
  t222 := Tryz.underlying143
  a222 := Tryz.isAgg143
  z222 := Tryz.sizeOf143
  v222 := Tryz.zeroValue143
  t228 := Tryz.underlying152
  a228 := Tryz.isAgg152
  z228 := Tryz.sizeOf152
  v228 := Tryz.zeroValue152
  t229 := Tryz.underlying93
  a229 := Tryz.isAgg93
  z229 := Tryz.sizeOf93
  v229 := Tryz.zeroValue93 }
def Tryz.lays194_ren : Go.Shelf.Ren := ⟨fun | 194 => 72 | n => n, fun | 31 => 22 | 9 => 9 | 3 => 3 | 4 => 4 | 0 => 0 | n => n, fun | n => n⟩
theorem Tryz.lays194 : Go.Proofs.Lays.n194 Tryz.prog Tryz.lays194_ren := {
  mixed := by kernel_rfl
  f194 := Tryz.func72.trans (congrArg some (by kernel_rfl))
  t0 := Tryz.underlying0
  a0 := Tryz.isAgg0
  z0 := Tryz.sizeOf0
  v0 := Tryz.zeroValue0
  t3 := Tryz.underlying3
  a3 := Tryz.isAgg3
  z3 := Tryz.sizeOf3
  v3 := Tryz.zeroValue3
  t4 := Tryz.underlying4
  a4 := Tryz.isAgg4
  z4 := Tryz.sizeOf4
  v4 := Tryz.zeroValue4
  t9 := Tryz.underlying9
  a9 := Tryz.isAgg9
  z9 := Tryz.sizeOf9
  v9 := Tryz.zeroValue9
  t31 := Tryz.underlying22
  a31 := Tryz.isAgg22
  z31 := Tryz.sizeOf22
  v31 := Tryz.zeroValue22 }
end Go.Proofs
