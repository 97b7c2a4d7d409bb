/- What the listed variables hold, out of the row's condition. -/
import Derived.Test.YtafeikbbjhmlaaaGreatDoorEvG
import Derived.Test.YtafeikbbjhmlaaaGreatDoorGV
import Derived.Test.YtafeikbbjhmlaaaGreatDoorRows
import Derived.Test.YtafeikbbjhmlaaaGreatDoorSyF
import Derived.Test.YtafeikbbjhmlaaaGreatDoorShelf
set_option linter.unusedVariables false
set_option linter.unusedSimpArgs false
namespace Go.Proofs.YtafeikbbjhmlaaaGreatDoor.Sx.T
open Go Go.Proofs.YtafeikbbjhmlaaaGreatDoor.Sx Go.RowKit Go.Proofs Go.Proofs.YtafeikbbjhmlaaaGreatDoor
theorem cellsE : Tryz.prog.cellsOf 199 = 1 := by kernel_rfl
theorem cellsS : Tryz.prog.cellsOf 9 = 1 := by kernel_rfl
theorem rowE {nm : String} (e : String.append (String.singleton (Char.ofNat 42)) "errors.errorString" = nm) (u : TypeId) (h : Tryz.prog.typeName? 3 u = some nm) : u = 197 := by
  refine typeName_ptr_named (P := Tryz.prog) (nm := "errors.errorString") (by kernel_rfl) (by kernel_rfl) (by decide) u (h.trans (congrArg some (e.symm.trans ?_)))
  decide
theorem spaceLaid : (Rows.laid_strings_asciiSpace : DataW Unit) = Lib.tabData .u8 Lib.asciiSpaceTab := by kernel_rfl
theorem whiteLaid : (Rows.laid_unicode_White_Space : DataW Unit) = Lib.whiteData := by kernel_rfl
theorem gv_of {W : World} (h : laidMetH Tryz.prog Rows.sayBackRow.laid W) (hS : W.ShapedOpen Tryz.prog) : GlOk flatG W GV := by
  have h0 : laidMet Tryz.prog Rows.sayBackRow.laid W := by
    rw [← Go.MakeChecks.laidMetH_plain _ _ _ (by kernel_rfl)]; exact h
  have h4 : laidMet Tryz.prog (("strings.asciiSpace", (Rows.laid_strings_asciiSpace : DataW Unit)) :: _) W := h0.tail.tail.tail.tail.tail.tail
  rw [spaceLaid] at h4
  have spc := Lib.tabIs_of_head (g := 1) (t := 126) (e := 5) (n := 256) (by kernel_rfl) (by kernel_rfl) Tryz.underlying126 Tryz.underlying5 (by kernel_rfl) (by kernel_rfl) h4
  have hw : Lib.VarReads Tryz.prog W "unicode.White_Space" (Rows.laid_unicode_White_Space : DataW Unit) := Lib.laidMet.reads h0 (.tail _ (.tail _ (.tail _ (.tail _ (.tail _ (.head _))))))
  rw [whiteLaid] at hw
  have wt : Lib.WhiteTab 3 W := whiteTab_of_reads (ρ := Tryz.lays157_ren) { Tryz.lays157 with } ⟨by kernel_rfl, by kernel_rfl, by kernel_rfl, by kernel_rfl, by kernel_rfl, by kernel_rfl, by kernel_rfl, by kernel_rfl⟩ hw
  obtain ⟨wv, hwv⟩ := white_var (g := 3) hw (by kernel_rfl) (by kernel_rfl) Tryz.underlying150
  have h3 : laidMet Tryz.prog ((_, Lib.tabData .u64 Lib.pow10Tab) :: _) W := h0.tail.tail
  have tab := Lib.tabIs_of_head (g := 2) (t := 140) (e := 115) (n := 20) (by kernel_rfl) (by kernel_rfl) Tryz.underlying140 Tryz.underlying115 (by kernel_rfl) (by kernel_rfl) h3
  obtain ⟨a, s, hv, _⟩ := laid_sentinel (g := 5) (ti := 65) (h0.tail.tail.tail) (by kernel_rfl) (by kernel_rfl) Tryz.underlying65 (rowE (by decide)) Tryz.underlying197 Tryz.underlying199 rfl rfl Tryz.underlying9 cellsE cellsS
  obtain ⟨a', s', hv', _⟩ := laid_sentinel (g := 4) (ti := 65) (h0.tail.tail.tail.tail) (by kernel_rfl) (by kernel_rfl) Tryz.underlying65 (rowE (by decide)) Tryz.underlying197 Tryz.underlying199 rfl rfl Tryz.underlying9 cellsE cellsS
  exact glOk_of ⟨glAt_tab (by kernel_rfl) tab, glAt_err (by kernel_rfl) hv, glAt_err (by kernel_rfl) hv', glAt_tab (by kernel_rfl) spc, glAt_any (zero := #[.int .i64 0]) (t := 3) hS (of_decide_eq_true (by kernel_rfl)) (by kernel_rfl) rfl (by kernel_rfl) (by kernel_rfl) Tryz.underlying3, glAt_white (by kernel_rfl) hwv wt, trivial⟩
end Go.Proofs.YtafeikbbjhmlaaaGreatDoor.Sx.T
