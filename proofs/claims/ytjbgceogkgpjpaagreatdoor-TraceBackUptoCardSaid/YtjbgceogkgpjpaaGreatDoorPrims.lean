/- The answers of the library's functions, by its contracts. -/
import Derived.Test.YtjbgceogkgpjpaaGreatDoorLaid
import Derived.Shelf.Strings.BuilderX
import Derived.Test.YtjbgceogkgpjpaaGreatDoorSyB
import Derived.Test.YtjbgceogkgpjpaaGreatDoorNum
import Derived.Test.YtjbgceogkgpjpaaGreatDoorSyS
import Derived.Test.YtjbgceogkgpjpaaGreatDoorShelf
set_option linter.unusedVariables false
set_option linter.unusedSimpArgs false
namespace Go.Proofs.YtjbgceogkgpjpaaGreatDoor.Sx.T
open Go Go.Proofs.YtjbgceogkgpjpaaGreatDoor.Sx Go.RowKit Go.Proofs
theorem pFmt : PrimOne Tryz.prog GV 38 5 :=
  prim_fmt (g := 1) (by kernel_rfl) (by kernel_rfl) rfl (fun n w h1 h2 ht => Any.strconv_FormatInt_10 Tryz.lays173 n h1 h2 w ht)
theorem pParse2 : PrimOne Tryz.prog GV 126 1214 :=
  prim_parse2 (T := 214) (g1 := 7) (g2 := 8) rfl (by decide) (by kernel_rfl) rfl rfl (fun s h v hv w => Any.strconv_ParseInt_10_at64_ok Tryz.lays174 s h v hv w)
    (fun s h h1 h2 ev w hv he => Any.strconv_ParseInt_10_at64_syntax Tryz.lays174 s h (by cases e : Lib.parseIntB 64 s.data.toList <;> simp_all) ev w hv he)
    (fun s h h1 ev w hv he => Any.strconv_ParseInt_10_at64_range Tryz.lays174 s h h1 ev w hv he)
theorem pClone {gl : Nat → List AV} : PrimOne Tryz.prog gl 158 4 := prim_clone (by kernel_rfl) (fun s w h => Any.stringslite_Clone Tryz.lays316 s w h)
theorem pSplit {gl : Nat → List AV} : PrimOne Tryz.prog gl 50 7 := prim_split (T := 9) (by kernel_rfl) (fun s c w h => split_one { Tryz.lays146 with } Tryz.lays146.i9 s c w h)
theorem pNum : PrimOne Tryz.prog GV 34 2096 := prim_num (g := 0) (T := 96) rfl (by kernel_rfl) rfl num_nil num_hit
def _root_.Go.Proofs.Tryz.lays166_ren : Go.Shelf.Ren := ⟨fun | 166 => 46 | 240 => 66 | 276 => 92 | n => n, fun | 0 => 0 | 3 => 3 | 4 => 4 | 9 => 9 | 20 => 20 | 37 => 75 | 70 => 81 | 72 => 83 | 75 => 63 | 80 => 88 | 164 => 120 | 5 => 5 | n => n, fun | n => n⟩
theorem _root_.Go.Proofs.Tryz.lays166 : Go.Proofs.Lays.n166 Tryz.prog Tryz.lays166_ren := {
  mixed := by kernel_rfl
  f166 := Tryz.func46.trans (congrArg some (by kernel_rfl))
  f240 := Tryz.func66.trans (congrArg some (by kernel_rfl))
  f276 := Tryz.func92.trans (congrArg some (by kernel_rfl))
  t0 := Tryz.underlying0
  a0 := Tryz.isAgg0
  z0 := Tryz.sizeOf0
  v0 := Tryz.zeroValue0
  t3 := Tryz.underlying3
  a3 := Tryz.isAgg3
  z3 := Tryz.sizeOf3
  v3 := Tryz.zeroValue3
  t4 := Tryz.underlying4
  a4 := Tryz.isAgg4
  z4 := Tryz.sizeOf4
  v4 := Tryz.zeroValue4
  t9 := Tryz.underlying9
  a9 := Tryz.isAgg9
  z9 := Tryz.sizeOf9
  v9 := Tryz.zeroValue9
  t20 := Tryz.underlying20
  a20 := Tryz.isAgg20
  z20 := Tryz.sizeOf20
  v20 := Tryz.zeroValue20
  t37 := Tryz.underlying75
  a37 := Tryz.isAgg75
  z37 := Tryz.sizeOf75
  v37 := Tryz.zeroValue75
  t70 := Tryz.underlying81
  a70 := Tryz.isAgg81
  z70 := Tryz.sizeOf81
  v70 := Tryz.zeroValue81
  t72 := Tryz.underlying83
  a72 := Tryz.isAgg83
  z72 := Tryz.sizeOf83
  v72 := Tryz.zeroValue83
  t75 := Tryz.underlying63
  a75 := Tryz.isAgg63
  z75 := Tryz.sizeOf63
  v75 := Tryz.zeroValue63
  t164 := Tryz.underlying120
  a164 := Tryz.isAgg120
  z164 := Tryz.sizeOf120
  v164 := Tryz.zeroValue120 }
theorem extra166 : Builder.Extra Tryz.prog Tryz.lays166_ren where
  sizeBuilder := by kernel_rfl
  liesBuilder := by kernel_rfl
  t5 := Tryz.underlying5
  a5 := Tryz.isAgg5
  z5 := Tryz.sizeOf5
  v5 := Tryz.zeroValue5
  infoByte := by kernel_rfl
  cellsByte := by kernel_rfl
  sizeByte := by kernel_rfl
  neB5 := by decide
theorem extra169 : Builder.Extra Tryz.prog Tryz.lays169_ren where
  sizeBuilder := by kernel_rfl
  liesBuilder := by kernel_rfl
  t5 := Tryz.underlying5
  a5 := Tryz.isAgg5
  z5 := Tryz.sizeOf5
  v5 := Tryz.zeroValue5
  infoByte := by kernel_rfl
  cellsByte := by kernel_rfl
  sizeByte := by kernel_rfl
  neB5 := by decide
theorem hWrite : HOne Tryz.prog 46 1083005 := hone_write Tryz.lays166 extra166 (by kernel_rfl) (by decide) (by decide)
theorem hString : HOne Tryz.prog 48 2083005 := hone_string Tryz.lays169 extra169 (by kernel_rfl) (by decide) (by decide)
end Go.Proofs.YtjbgceogkgpjpaaGreatDoor.Sx.T
