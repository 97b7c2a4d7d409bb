/- The answers of the library's functions, by its contracts. -/
import Derived.Test.YtjbgceogkgpjpaaGreatDoorLaid
import Derived.Test.YtjbgceogkgpjpaaGreatDoorNum
import Derived.Test.YtjbgceogkgpjpaaGreatDoorSyS
import Derived.Test.YtjbgceogkgpjpaaGreatDoorShelf
set_option linter.unusedVariables false
set_option linter.unusedSimpArgs false
namespace Go.Proofs.YtjbgceogkgpjpaaGreatDoor.Sx.T
open Go Go.Proofs.YtjbgceogkgpjpaaGreatDoor.Sx Go.RowKit Go.Proofs
theorem pFmt : PrimOne Tryz.prog GV 38 5 :=
  prim_fmt (g := 1) (by kernel_rfl) (by kernel_rfl) rfl (fun n w h1 h2 ht => Any.strconv_FormatInt_10 Tryz.lays173 n h1 h2 w ht)
theorem pParse2 : PrimOne Tryz.prog GV 126 1214 :=
  prim_parse2 (T := 214) (g1 := 7) (g2 := 8) rfl (by decide) (by kernel_rfl) rfl rfl (fun s h v hv w => Any.strconv_ParseInt_10_at64_ok Tryz.lays174 s h v hv w)
    (fun s h h1 h2 ev w hv he => Any.strconv_ParseInt_10_at64_syntax Tryz.lays174 s h (by cases e : Lib.parseIntB 64 s.data.toList <;> simp_all) ev w hv he)
    (fun s h h1 ev w hv he => Any.strconv_ParseInt_10_at64_range Tryz.lays174 s h h1 ev w hv he)
theorem pClone {gl : Nat → List AV} : PrimOne Tryz.prog gl 158 4 := prim_clone (by kernel_rfl) (fun s w h => Any.stringslite_Clone Tryz.lays316 s w h)
theorem pSplit {gl : Nat → List AV} : PrimOne Tryz.prog gl 50 7 := prim_split (T := 9) (by kernel_rfl) (fun s c w h => split_one { Tryz.lays146 with } Tryz.lays146.i9 s c w h)
theorem pNum : PrimOne Tryz.prog GV 34 2096 := prim_num (g := 0) (T := 96) rfl (by kernel_rfl) rfl num_nil num_hit
end Go.Proofs.YtjbgceogkgpjpaaGreatDoor.Sx.T
