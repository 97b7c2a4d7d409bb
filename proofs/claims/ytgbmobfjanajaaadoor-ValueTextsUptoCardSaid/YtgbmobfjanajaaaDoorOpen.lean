/- A value that is handed, read. -/
import Derived.Test.YtgbmobfjanajaaaDoorEvZ
import Derived.Test.YtgbmobfjanajaaaDoorProg
set_option linter.unusedVariables false
set_option linter.unusedSimpArgs false
set_option maxRecDepth 100000
namespace Go.Proofs.YtgbmobfjanajaaaDoor.Sx.T
open Go Go.Proofs.YtgbmobfjanajaaaDoor.Sx Go.RowKit Go.Proofs
theorem open_val {H : Type} {enc : TypeId × Value → H} {W W0 : World} {base b0 : Nat} {spare : Nat → Bool} {held : Bool} {r : Reach} {v : Value} {d : DataW H} {ps : List MemPlace} (hval : Value.okWide Tryd.prog W0 r b0 23 v) (hd : DataW.Trod enc Tryd.prog W base spare held 23 v d ps) :
    ∃ (k n m : Int) (s : ByteArray), v = .agg #[.int .i64 k, .int .i64 n, .int .i64 m, .string s] ∧ IntIn .i64 k ∧ IntIn .i64 n ∧ IntIn .i64 m ∧ s.size ≤ maxLen :=
  open_nnns Tryd.underlying23 Tryd.underlying3 Tryd.underlying2 Tryd.underlying2 Tryd.underlying9 rfl rfl rfl rfl (by kernel_rfl) (by kernel_rfl) (by kernel_rfl) (by kernel_rfl) (by kernel_rfl) hval hd
end Go.Proofs.YtgbmobfjanajaaaDoor.Sx.T
