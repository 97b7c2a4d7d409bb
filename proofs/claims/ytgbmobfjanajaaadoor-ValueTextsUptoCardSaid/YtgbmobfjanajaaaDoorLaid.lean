/- What the listed variables hold, out of the row's condition. -/
import Derived.Test.YtgbmobfjanajaaaDoorEvG
import Derived.Test.YtgbmobfjanajaaaDoorGV
import Derived.Test.YtgbmobfjanajaaaDoorRows
set_option linter.unusedVariables false
set_option linter.unusedSimpArgs false
namespace Go.Proofs.YtgbmobfjanajaaaDoor.Sx.T
open Go Go.Proofs.YtgbmobfjanajaaaDoor.Sx Go.RowKit Go.Proofs Go.Proofs.YtgbmobfjanajaaaDoor
theorem cells130 : Tryd.prog.cellsOf 130 = 1 := by kernel_rfl
theorem cells9 : Tryd.prog.cellsOf 9 = 1 := by kernel_rfl
theorem row128 {nm : String} (e : String.append (String.singleton (Char.ofNat 42)) "errors.errorString" = nm) (u : TypeId) (h : Tryd.prog.typeName? 3 u = some nm) : u = 128 := by
  refine typeName_ptr_named (P := Tryd.prog) (nm := "errors.errorString") (by kernel_rfl) (by kernel_rfl) (by decide) u (h.trans (congrArg some (e.symm.trans ?_)))
  decide
theorem gv_of {W : World} (h : laidMetH Tryd.prog Rows.valueNumbersRow.laid W) : GlOk flatG W GV := by
  have h0 : laidMet Tryd.prog Rows.valueNumbersRow.laid W := by
    rw [← Go.MakeChecks.laidMetH_plain _ _ _ (by kernel_rfl)]; exact h
  have h3 : laidMet Tryd.prog ((_, Lib.tabData .u64 Lib.pow10Tab) :: _) W := h0.tail.tail
  have h4 := h3.tail
  have tab := Lib.tabIs_of_head (g := 1) (t := 112) (e := 68) (n := 20) (by kernel_rfl) (by kernel_rfl) Tryd.underlying112 Tryd.underlying68 (by kernel_rfl) (by kernel_rfl) h3
  obtain ⟨a, s, hv, _⟩ := laid_sentinel (g := 3) (ti := 62) h4 (by kernel_rfl) (by kernel_rfl) Tryd.underlying62 (row128 (by decide)) Tryd.underlying128 Tryd.underlying130 rfl rfl Tryd.underlying9 cells130 cells9
  obtain ⟨a', s', hv', _⟩ := laid_sentinel (g := 2) (ti := 62) h4.tail (by kernel_rfl) (by kernel_rfl) Tryd.underlying62 (row128 (by decide)) Tryd.underlying128 Tryd.underlying130 rfl rfl Tryd.underlying9 cells130 cells9
  exact glOk_of ⟨glAt_tab (by kernel_rfl) tab, glAt_err (by kernel_rfl) hv, glAt_err (by kernel_rfl) hv', trivial⟩
end Go.Proofs.YtgbmobfjanajaaaDoor.Sx.T
