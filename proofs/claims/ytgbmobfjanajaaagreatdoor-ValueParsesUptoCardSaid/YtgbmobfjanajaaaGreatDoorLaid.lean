/- What the listed variables hold, out of the row's condition. -/
import Derived.Test.YtgbmobfjanajaaaGreatDoorEvG
import Derived.Test.YtgbmobfjanajaaaGreatDoorGV
import Derived.Test.YtgbmobfjanajaaaGreatDoorRows
set_option linter.unusedVariables false
set_option linter.unusedSimpArgs false
namespace Go.Proofs.YtgbmobfjanajaaaGreatDoor.Sx.T
open Go Go.Proofs.YtgbmobfjanajaaaGreatDoor.Sx Go.RowKit Go.Proofs Go.Proofs.YtgbmobfjanajaaaGreatDoor
theorem cellsE : Tryz.prog.cellsOf 133 = 1 := by kernel_rfl
theorem cellsS : Tryz.prog.cellsOf 9 = 1 := by kernel_rfl
theorem rowE {nm : String} (e : String.append (String.singleton (Char.ofNat 42)) "errors.errorString" = nm) (u : TypeId) (h : Tryz.prog.typeName? 3 u = some nm) : u = 131 := by
  refine typeName_ptr_named (P := Tryz.prog) (nm := "errors.errorString") (by kernel_rfl) (by kernel_rfl) (by decide) u (h.trans (congrArg some (e.symm.trans ?_)))
  decide
theorem gv_of {W : World} (h : laidMetH Tryz.prog Rows.valueComparesRow.laid W) : GlOk flatG W GV := by
  have h0 : laidMet Tryz.prog Rows.valueComparesRow.laid W := by
    rw [← Go.MakeChecks.laidMetH_plain _ _ _ (by kernel_rfl)]; exact h
  have h3 : laidMet Tryz.prog ((_, Lib.tabData .u64 Lib.pow10Tab) :: _) W := h0.tail.tail
  have tab := Lib.tabIs_of_head (g := 1) (t := 116) (e := 67) (n := 20) (by kernel_rfl) (by kernel_rfl) Tryz.underlying116 Tryz.underlying67 (by kernel_rfl) (by kernel_rfl) h3
  obtain ⟨a, s, hv, _⟩ := laid_sentinel (g := 3) (ti := 60) (h0.tail.tail.tail) (by kernel_rfl) (by kernel_rfl) Tryz.underlying60 (rowE (by decide)) Tryz.underlying131 Tryz.underlying133 rfl rfl Tryz.underlying9 cellsE cellsS
  obtain ⟨a', s', hv', _⟩ := laid_sentinel (g := 2) (ti := 60) (h0.tail.tail.tail.tail) (by kernel_rfl) (by kernel_rfl) Tryz.underlying60 (rowE (by decide)) Tryz.underlying131 Tryz.underlying133 rfl rfl Tryz.underlying9 cellsE cellsS
  exact glOk_of ⟨glAt_tab (by kernel_rfl) tab, glAt_err (by kernel_rfl) hv, glAt_err (by kernel_rfl) hv', trivial⟩
end Go.Proofs.YtgbmobfjanajaaaGreatDoor.Sx.T
