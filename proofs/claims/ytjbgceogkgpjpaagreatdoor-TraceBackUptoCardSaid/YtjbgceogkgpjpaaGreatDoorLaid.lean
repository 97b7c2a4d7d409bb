/- What the listed variables hold, out of the row's condition. -/
import Derived.Test.YtjbgceogkgpjpaaGreatDoorEvG
import Derived.Test.YtjbgceogkgpjpaaGreatDoorGV
import Derived.Test.YtjbgceogkgpjpaaGreatDoorRows
import Derived.LaidHandle
set_option linter.unusedVariables false
set_option linter.unusedSimpArgs false
namespace Go.Proofs.YtjbgceogkgpjpaaGreatDoor.Sx.T
open Go Go.Proofs.YtjbgceogkgpjpaaGreatDoor.Sx Go.RowKit Go.Proofs Go.Proofs.YtjbgceogkgpjpaaGreatDoor
theorem cellsE : Tryz.prog.cellsOf 223 = 1 := by kernel_rfl
theorem cellsS : Tryz.prog.cellsOf 9 = 1 := by kernel_rfl
theorem rowE {nm : String} (e : String.append (String.singleton (Char.ofNat 42)) "errors.errorString" = nm) (u : TypeId) (h : Tryz.prog.typeName? 3 u = some nm) : u = 221 := by
  refine typeName_ptr_named (P := Tryz.prog) (nm := "errors.errorString") (by kernel_rfl) (by kernel_rfl) (by decide) u (h.trans (congrArg some (e.symm.trans ?_)))
  decide
theorem hEt : Tryz.prog.globalNamed "errors.errorType" = some 0 := by kernel_rfl
theorem hRt : (Tryz.prog.cutTypes.find? (·.1 == "internal/reflectlite.rtype")).map (·.2) = some 161 := by kernel_rfl
theorem hOneRow : ((List.range 251).filter fun t => Tryz.prog.rowNamed t [101, 114, 114, 111, 114]) = [63] := by kernel_rfl
theorem hSize : Tryz.prog.types.size = 251 := by kernel_rfl
theorem handle_of {W : World} (h : handlesMet Tryz.prog [("errors.errorType", Rows.laid_errors_errorType)] W) : W.var? Tryz.prog "errors.errorType" = some #[.iface 161 (.agg #[.pointer (some ⟨9, 63, none⟩)])] := by
  obtain ⟨name, u, ty, e1, e2, e3, e4, e5⟩ := h _ (List.mem_singleton.2 rfl)
  have en : name = [101, 114, 114, 111, 114] := (Option.some.inj e1).symm
  subst en
  obtain rfl := Option.some.inj (hRt.symm.trans e2)
  have hm : ty ∈ (List.range 251).filter fun t => Tryz.prog.rowNamed t [101, 114, 114, 111, 114] := List.mem_filter.2 ⟨List.mem_range.2 (by rw [← hSize]; exact e3), e4⟩
  rw [hOneRow] at hm
  obtain rfl := List.mem_singleton.1 hm
  have hh : typeHandle Tryz.prog 63 = .pointer (some ⟨9, 63, none⟩) := by kernel_rfl
  rw [hh] at e5
  exact e5
theorem gv_of {W : World} (h : laidMetH Tryz.prog Rows.traceBackRow.laid W) : GlOk flatG W GV := by
  have hh : laidMet Tryz.prog [("math/bits.deBruijn32tab", Rows.laid_math_bits_deBruijn32tab), ("math/bits.deBruijn64tab", Rows.laid_math_bits_deBruijn64tab), ("internal/strconv.uint64pow10", Rows.laid_internal_strconv_uint64pow10), ("unicode/utf8.acceptRanges", Rows.laid_unicode_utf8_acceptRanges), ("strconv.ErrRange", Rows.laid_strconv_ErrRange), ("strconv.ErrSyntax", Rows.laid_strconv_ErrSyntax), ("unicode/utf8.first", Rows.laid_unicode_utf8_first)] W ∧ handlesMet Tryz.prog [("errors.errorType", Rows.laid_errors_errorType)] W := h
  have h0 := hh.1
  have h3 : laidMet Tryz.prog ((_, Lib.tabData .u64 Lib.pow10Tab) :: _) W := h0.tail.tail
  have tab := Lib.tabIs_of_head (g := 1) (t := 176) (e := 142) (n := 20) (by kernel_rfl) (by kernel_rfl) Tryz.underlying176 Tryz.underlying142 (by kernel_rfl) (by kernel_rfl) h3
  obtain ⟨a, s, hv, _⟩ := laid_sentinel (g := 8) (ti := 63) (h0.tail.tail.tail.tail) (by kernel_rfl) (by kernel_rfl) Tryz.underlying63 (rowE (by decide)) Tryz.underlying221 Tryz.underlying223 rfl rfl Tryz.underlying9 cellsE cellsS
  obtain ⟨a', s', hv', _⟩ := laid_sentinel (g := 7) (ti := 63) (h0.tail.tail.tail.tail.tail) (by kernel_rfl) (by kernel_rfl) Tryz.underlying63 (rowE (by decide)) Tryz.underlying221 Tryz.underlying223 rfl rfl Tryz.underlying9 cellsE cellsS
  exact glOk_of ⟨glAt_tab (by kernel_rfl) tab, glAt_err (by kernel_rfl) hv, glAt_err (by kernel_rfl) hv', glAt_opq hEt rfl (handle_of hh.2), trivial⟩
end Go.Proofs.YtjbgceogkgpjpaaGreatDoor.Sx.T
