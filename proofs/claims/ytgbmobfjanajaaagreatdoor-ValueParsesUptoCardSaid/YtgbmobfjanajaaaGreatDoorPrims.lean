/- The answers of the library's functions, by its contracts. -/
import Derived.Test.YtgbmobfjanajaaaGreatDoorLaid
import Derived.Test.YtgbmobfjanajaaaGreatDoorShelf
set_option linter.unusedVariables false
set_option linter.unusedSimpArgs false
namespace Go.Proofs.YtgbmobfjanajaaaGreatDoor.Sx.T
open Go Go.Proofs.YtgbmobfjanajaaaGreatDoor.Sx Go.RowKit Go.Proofs
theorem pFmt : PrimOne Tryz.prog GV 38 5 :=
  prim_fmt (g := 1) (by kernel_rfl) (by kernel_rfl) rfl (fun n w h1 h2 ht => Any.strconv_FormatInt_10 Tryz.lays173 n h1 h2 w ht)
theorem pParse : PrimOne Tryz.prog GV 45 6 :=
  prim_parse (g1 := 2) (g2 := 3) (by kernel_rfl) rfl rfl (fun s h v hv w => Any.strconv_ParseInt_10_at64_ok Tryz.lays174 s h v hv w)
    (fun s h h1 h2 ev w hv he => Any.strconv_ParseInt_10_at64_syntax Tryz.lays174 s h (by cases e : Lib.parseIntB 64 s.data.toList <;> simp_all) ev w hv he)
    (fun s h h1 ev w hv he => Any.strconv_ParseInt_10_at64_range Tryz.lays174 s h h1 ev w hv he)
theorem pClone {gl : Nat → List AV} : PrimOne Tryz.prog gl 112 4 := prim_clone (by kernel_rfl) (fun s w h => Any.stringslite_Clone Tryz.lays316 s w h)
end Go.Proofs.YtgbmobfjanajaaaGreatDoor.Sx.T
