/- The answers of the library's functions, by its contracts. -/
import Derived.Test.YtafeikbbjhmlaaaGreatDoorLaid
import Derived.Shelf.Strings.FieldsAny
import Derived.Test.YtafeikbbjhmlaaaGreatDoorSyF
import Derived.Shelf.Strings.OnBuilder
import Derived.Test.YtafeikbbjhmlaaaGreatDoorSyJ
import Derived.Shelf.Strings.BuilderX
import Derived.Test.YtafeikbbjhmlaaaGreatDoorSyB
import Derived.Shelf.Strconv.AtoiAll
import Derived.Test.YtafeikbbjhmlaaaGreatDoorShelf
set_option linter.unusedVariables false
set_option linter.unusedSimpArgs false
namespace Go.Proofs.YtafeikbbjhmlaaaGreatDoor.Sx.T
open Go Go.Proofs.YtafeikbbjhmlaaaGreatDoor.Sx Go.RowKit Go.Proofs
theorem pFmt : PrimOne Tryz.prog GV 32 5 :=
  prim_fmt (g := 2) (by kernel_rfl) (by kernel_rfl) rfl (fun n w h1 h2 ht => Any.strconv_FormatInt_10 Tryz.lays173 n h1 h2 w ht)
theorem pParse2 : PrimOne Tryz.prog GV 94 1152 :=
  prim_parse2 (T := 152) (g1 := 4) (g2 := 5) rfl (by decide) (by kernel_rfl) rfl rfl (fun s h v hv w => Any.strconv_ParseInt_10_at64_ok Tryz.lays174 s h v hv w)
    (fun s h h1 h2 ev w hv he => Any.strconv_ParseInt_10_at64_syntax Tryz.lays174 s h (by cases e : Lib.parseIntB 64 s.data.toList <;> simp_all) ev w hv he)
    (fun s h h1 ev w hv he => Any.strconv_ParseInt_10_at64_range Tryz.lays174 s h h1 ev w hv he)
theorem pAtoi : PrimOne Tryz.prog GV 74 1652 :=
  prim_atoi (T := 152) (g1 := 4) (g2 := 5) rfl (by decide) (by kernel_rfl) rfl rfl (fun s h v hv w => Any.strconv_Atoi_ok Tryz.lays172 s h v hv w)
    (fun s h h1 h2 ev w hv he => Any.strconv_Atoi_syntax Tryz.lays172 s h (by cases e : Lib.atoiAll s.data.toList <;> simp_all) ev w hv he)
    (fun s h h1 ev w hv he => Any.strconv_Atoi_range Tryz.lays172 s h h1 ev w hv he)
theorem pClone {gl : Nat → List AV} : PrimOne Tryz.prog gl 148 4 := prim_clone (by kernel_rfl) (fun s w h => Any.stringslite_Clone Tryz.lays316 s w h)
def _root_.Go.Proofs.Tryz.lays166_ren : Go.Shelf.Ren := ⟨fun | 166 => 35 | 240 => 63 | 276 => 90 | n => n, fun | 0 => 0 | 3 => 3 | 4 => 4 | 9 => 9 | 20 => 20 | 37 => 54 | 70 => 53 | 72 => 56 | 75 => 65 | 80 => 59 | 164 => 120 | 5 => 5 | n => n, fun | n => n⟩
theorem _root_.Go.Proofs.Tryz.lays166 : Go.Proofs.Lays.n166 Tryz.prog Tryz.lays166_ren := {
  mixed := by kernel_rfl
  f166 := Tryz.func35.trans (congrArg some (by kernel_rfl))
  f240 := Tryz.func63.trans (congrArg some (by kernel_rfl))
  f276 := Tryz.func90.trans (congrArg some (by kernel_rfl))
  t0 := Tryz.underlying0
  a0 := Tryz.isAgg0
  z0 := Tryz.sizeOf0
  v0 := Tryz.zeroValue0
  t3 := Tryz.underlying3
  a3 := Tryz.isAgg3
  z3 := Tryz.sizeOf3
  v3 := Tryz.zeroValue3
  t4 := Tryz.underlying4
  a4 := Tryz.isAgg4
  z4 := Tryz.sizeOf4
  v4 := Tryz.zeroValue4
  t9 := Tryz.underlying9
  a9 := Tryz.isAgg9
  z9 := Tryz.sizeOf9
  v9 := Tryz.zeroValue9
  t20 := Tryz.underlying20
  a20 := Tryz.isAgg20
  z20 := Tryz.sizeOf20
  v20 := Tryz.zeroValue20
  t37 := Tryz.underlying54
  a37 := Tryz.isAgg54
  z37 := Tryz.sizeOf54
  v37 := Tryz.zeroValue54
  t70 := Tryz.underlying53
  a70 := Tryz.isAgg53
  z70 := Tryz.sizeOf53
  v70 := Tryz.zeroValue53
  t72 := Tryz.underlying56
  a72 := Tryz.isAgg56
  z72 := Tryz.sizeOf56
  v72 := Tryz.zeroValue56
  t75 := Tryz.underlying65
  a75 := Tryz.isAgg65
  z75 := Tryz.sizeOf65
  v75 := Tryz.zeroValue65
  t164 := Tryz.underlying120
  a164 := Tryz.isAgg120
  z164 := Tryz.sizeOf120
  v164 := Tryz.zeroValue120 }
def _root_.Go.Proofs.Tryz.lays156_ren : Go.Shelf.Ren := ⟨fun | 156 => 51 | 165 => 79 | 166 => 35 | 169 => 27 | 240 => 63 | 241 => 105 | 276 => 90 | 277 => 134 | n => n, fun | 0 => 0 | 3 => 3 | 4 => 4 | 9 => 9 | 20 => 20 | 31 => 22 | 37 => 54 | 70 => 53 | 72 => 56 | 75 => 65 | 76 => 66 | 80 => 59 | 127 => 88 | 164 => 120 | 5 => 5 | n => n, fun | n => n⟩
theorem _root_.Go.Proofs.Tryz.lays156 : Go.Proofs.Lays.n156 Tryz.prog Tryz.lays156_ren := {
  mixed := by kernel_rfl
  f156 := Tryz.func51.trans (congrArg some (by kernel_rfl))
  f165 := Tryz.func79.trans (congrArg some (by kernel_rfl))
  f166 := Tryz.func35.trans (congrArg some (by kernel_rfl))
  f169 := Tryz.func27.trans (congrArg some (by kernel_rfl))
  f240 := Tryz.func63.trans (congrArg some (by kernel_rfl))
  f241 := Tryz.func105.trans (congrArg some (by kernel_rfl))
  f276 := Tryz.func90.trans (congrArg some (by kernel_rfl))
  f277 := Tryz.func134.trans (congrArg some (by kernel_rfl))
  t0 := Tryz.underlying0
  a0 := Tryz.isAgg0
  z0 := Tryz.sizeOf0
  v0 := Tryz.zeroValue0
  t3 := Tryz.underlying3
  a3 := Tryz.isAgg3
  z3 := Tryz.sizeOf3
  v3 := Tryz.zeroValue3
  t4 := Tryz.underlying4
  a4 := Tryz.isAgg4
  z4 := Tryz.sizeOf4
  v4 := Tryz.zeroValue4
  t9 := Tryz.underlying9
  a9 := Tryz.isAgg9
  z9 := Tryz.sizeOf9
  v9 := Tryz.zeroValue9
  t20 := Tryz.underlying20
  a20 := Tryz.isAgg20
  z20 := Tryz.sizeOf20
  v20 := Tryz.zeroValue20
  t31 := Tryz.underlying22
  a31 := Tryz.isAgg22
  z31 := Tryz.sizeOf22
  v31 := Tryz.zeroValue22
  t37 := Tryz.underlying54
  a37 := Tryz.isAgg54
  z37 := Tryz.sizeOf54
  v37 := Tryz.zeroValue54
  t70 := Tryz.underlying53
  a70 := Tryz.isAgg53
  z70 := Tryz.sizeOf53
  v70 := Tryz.zeroValue53
  t72 := Tryz.underlying56
  a72 := Tryz.isAgg56
  z72 := Tryz.sizeOf56
  v72 := Tryz.zeroValue56
  t75 := Tryz.underlying65
  a75 := Tryz.isAgg65
  z75 := Tryz.sizeOf65
  v75 := Tryz.zeroValue65
  t76 := Tryz.underlying66
  a76 := Tryz.isAgg66
  z76 := Tryz.sizeOf66
  v76 := Tryz.zeroValue66
  t127 := Tryz.underlying88
  a127 := Tryz.isAgg88
  z127 := Tryz.sizeOf88
  v127 := Tryz.zeroValue88
  t164 := Tryz.underlying120
  a164 := Tryz.isAgg120
  z164 := Tryz.sizeOf120
  v164 := Tryz.zeroValue120 }
theorem extra166 : Builder.Extra Tryz.prog Tryz.lays166_ren where
  sizeBuilder := by kernel_rfl
  liesBuilder := by kernel_rfl
  t5 := Tryz.underlying5
  a5 := Tryz.isAgg5
  z5 := Tryz.sizeOf5
  v5 := Tryz.zeroValue5
  infoByte := by kernel_rfl
  cellsByte := by kernel_rfl
  sizeByte := by kernel_rfl
  neB5 := by decide
theorem extra169 : Builder.Extra Tryz.prog Tryz.lays169_ren where
  sizeBuilder := by kernel_rfl
  liesBuilder := by kernel_rfl
  t5 := Tryz.underlying5
  a5 := Tryz.isAgg5
  z5 := Tryz.sizeOf5
  v5 := Tryz.zeroValue5
  infoByte := by kernel_rfl
  cellsByte := by kernel_rfl
  sizeByte := by kernel_rfl
  neB5 := by decide
theorem extra156 : Builder.Extra Tryz.prog Tryz.lays156_ren where
  sizeBuilder := by kernel_rfl
  liesBuilder := by kernel_rfl
  t5 := Tryz.underlying5
  a5 := Tryz.isAgg5
  z5 := Tryz.sizeOf5
  v5 := Tryz.zeroValue5
  infoByte := by kernel_rfl
  cellsByte := by kernel_rfl
  sizeByte := by kernel_rfl
  neB5 := by decide
theorem hWrite : HOne Tryz.prog 35 1056005 := hone_write Tryz.lays166 extra166 (by kernel_rfl) (by decide) (by decide)
theorem hString : HOne Tryz.prog 27 2056005 := hone_string Tryz.lays169 extra169 (by kernel_rfl) (by decide) (by decide)
theorem pJoin {gl : Nat → List AV} : PrimOne Tryz.prog gl 51 8 := prim_join (by kernel_rfl) (fun a c sep w => Any.strings_Join_none Tryz.lays156 extra156 a c sep w) (fun bk q c xs sep w h1 h2 h3 h4 h5 => Any.strings_Join Tryz.lays156 extra156 bk q c xs sep w h1 h2 h3 h4 h5)
theorem pItoa : PrimOne Tryz.prog GV 31 9 := prim_itoa (g := 2) (by kernel_rfl) (by kernel_rfl) rfl (fun n w h1 h2 ht => Any.strconv_Itoa Tryz.lays171 n h1 h2 w ht)
theorem pCount {gl : Nat → List AV} : PrimOne Tryz.prog gl 40 10 := prim_count (by kernel_rfl) (fun s c w => Any.strings_Count_one Tryz.lays138 s c w)
theorem pIndex : PrimOne Tryz.prog GV 96 12 := prim_index2 (g := 0) (by kernel_rfl) rfl (fun s t m w h1 h2 => Any.stringslite_Index Tryz.lays219 s t m w h1 h2)
theorem pFields : PrimOne Tryz.prog GV 73 11 := prim_fieldsD (g := 1) (g3 := 3) (T := 9) (by kernel_rfl) (by kernel_rfl) rfl rfl (fun s w h1 h2 h3 => Any.strings_Fields_any (ρ := Tryz.lays157_ren) { Tryz.lays157 with } (by kernel_rfl) (by kernel_rfl) (by kernel_rfl) s w h1 h2 h3)
end Go.Proofs.YtafeikbbjhmlaaaGreatDoor.Sx.T
