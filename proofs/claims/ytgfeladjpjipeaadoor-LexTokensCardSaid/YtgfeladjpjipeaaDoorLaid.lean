/- What the listed variables hold, out of the row's condition. -/
import Derived.Test.YtgfeladjpjipeaaDoorEvG
import Derived.Test.YtgfeladjpjipeaaDoorGV
import Derived.Test.YtgfeladjpjipeaaDoorRows
set_option linter.unusedVariables false
set_option linter.unusedSimpArgs false
namespace Go.Proofs.YtgfeladjpjipeaaDoor.Sx.T
open Go Go.Proofs.YtgfeladjpjipeaaDoor.Sx Go.RowKit Go.Proofs Go.Proofs.YtgfeladjpjipeaaDoor
theorem cellsE : Tryd.prog.cellsOf 118 = 1 := by kernel_rfl
theorem cellsS : Tryd.prog.cellsOf 9 = 1 := by kernel_rfl
theorem rowE {nm : String} (e : String.append (String.singleton (Char.ofNat 42)) "errors.errorString" = nm) (u : TypeId) (h : Tryd.prog.typeName? 3 u = some nm) : u = 116 := by
  refine typeName_ptr_named (P := Tryd.prog) (nm := "errors.errorString") (by kernel_rfl) (by kernel_rfl) (by decide) u (h.trans (congrArg some (e.symm.trans ?_)))
  decide
theorem gv_of {W : World} (h : laidMetH Tryd.prog Rows.lexTokensRow.laid W) : GlOk flatG W GV := by
  have h0 : laidMet Tryd.prog Rows.lexTokensRow.laid W := by
    rw [← Go.MakeChecks.laidMetH_plain _ _ _ (by kernel_rfl)]; exact h
  have h3 : laidMet Tryd.prog ((_, Lib.tabData .u64 Lib.pow10Tab) :: _) W := h0.tail.tail
  have tab := Lib.tabIs_of_head (g := 3) (t := 105) (e := 73) (n := 20) (by kernel_rfl) (by kernel_rfl) Tryd.underlying105 Tryd.underlying73 (by kernel_rfl) (by kernel_rfl) h3
  obtain ⟨a, s, hv, _⟩ := laid_sentinel (g := 2) (ti := 66) (h0.tail.tail.tail) (by kernel_rfl) (by kernel_rfl) Tryd.underlying66 (rowE (by decide)) Tryd.underlying116 Tryd.underlying118 rfl rfl Tryd.underlying9 cellsE cellsS
  obtain ⟨a', s', hv', _⟩ := laid_sentinel (g := 1) (ti := 66) (h0.tail.tail.tail.tail) (by kernel_rfl) (by kernel_rfl) Tryd.underlying66 (rowE (by decide)) Tryd.underlying116 Tryd.underlying118 rfl rfl Tryd.underlying9 cellsE cellsS
  exact glOk_of ⟨glAt_tab (by kernel_rfl) tab, glAt_err (by kernel_rfl) hv, glAt_err (by kernel_rfl) hv', trivial⟩
end Go.Proofs.YtgfeladjpjipeaaDoor.Sx.T
