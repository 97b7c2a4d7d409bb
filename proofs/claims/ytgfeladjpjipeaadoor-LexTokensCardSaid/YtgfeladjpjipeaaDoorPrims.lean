/- The answers of the library's functions, by its contracts. -/
import Derived.Test.YtgfeladjpjipeaaDoorLaid
import Derived.Test.YtgfeladjpjipeaaDoorShelf
set_option linter.unusedVariables false
set_option linter.unusedSimpArgs false
namespace Go.Proofs.YtgfeladjpjipeaaDoor.Sx.T
open Go Go.Proofs.YtgfeladjpjipeaaDoor.Sx Go.RowKit Go.Proofs
theorem pFmt : PrimOne Tryd.prog GV 40 5 :=
  prim_fmt (g := 3) (by kernel_rfl) (by kernel_rfl) rfl (fun n w h1 h2 ht => Any.strconv_FormatInt_10 Tryd.lays173 n h1 h2 w ht)
theorem pParse2 : PrimOne Tryd.prog GV 38 1081 :=
  prim_parse2 (T := 81) (g1 := 1) (g2 := 2) rfl (by kernel_rfl) rfl rfl (fun s h v hv w => Any.strconv_ParseInt_10_at64_ok Tryd.lays174 s h v hv w)
    (fun s h h1 h2 ev w hv he => Any.strconv_ParseInt_10_at64_syntax Tryd.lays174 s h (by cases e : Lib.parseIntB 64 s.data.toList <;> simp_all) ev w hv he)
    (fun s h h1 ev w hv he => Any.strconv_ParseInt_10_at64_range Tryd.lays174 s h h1 ev w hv he)
theorem pClone {gl : Nat → List AV} : PrimOne Tryd.prog gl 78 4 := prim_clone (by kernel_rfl) (fun s w h => Any.stringslite_Clone Tryd.lays316 s w h)
end Go.Proofs.YtgfeladjpjipeaaDoor.Sx.T
