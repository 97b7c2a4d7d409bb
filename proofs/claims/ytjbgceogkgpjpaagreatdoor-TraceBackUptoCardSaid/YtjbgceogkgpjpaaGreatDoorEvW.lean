/- EV, part W: slices of structs as arguments, read. -/
import Derived.Test.YtjbgceogkgpjpaaGreatDoorEvZ
import Derived.Deep.Slices
set_option linter.unusedVariables false
set_option linter.unusedSimpArgs false
namespace Go.Proofs.YtjbgceogkgpjpaaGreatDoor.Sx
open Go Go.RowKit
theorem add_flat {a : Addr} (h : a.spot = none) (n : Nat) : a.add n = ⟨a.block, a.off + n, none⟩ := by
  obtain ⟨b, o, s⟩ := a
  simp only at h
  subst h
  unfold Addr.add
  split
  · subst_vars; rfl
  · rfl
abbrev N3S := Int × Int × Int × ByteArray
def N3S.vals (x : N3S) : List Value := [.int .i64 x.1, .int .i64 x.2.1, .int .i64 x.2.2.1, .string x.2.2.2]
def N3S.cells (x : N3S) : List AV := [.int .i64 x.1, .int .i64 x.2.1, .int .i64 x.2.2.1, .str x.2.2.2.data.toList]
theorem N3S.rel {W : World} (x : N3S) (j : Nat) (u : AV) (h : x.cells[j]? = some u) : ∃ y : Value, (N3S.vals x)[j]? = some y ∧ RelV flatG W u y := by
  match j with
  | 0 => simp [N3S.cells] at h; subst h; exact ⟨_, rfl, .int _ _⟩
  | 1 => simp [N3S.cells] at h; subst h; exact ⟨_, rfl, .int _ _⟩
  | 2 => simp [N3S.cells] at h; subst h; exact ⟨_, rfl, .int _ _⟩
  | 3 => simp [N3S.cells] at h; subst h; exact ⟨_, rfl, .str _⟩
  | j + 4 => simp [N3S.cells] at h
end Go.Proofs.YtjbgceogkgpjpaaGreatDoor.Sx
