/- Gaps that are handed, read. -/
import Derived.Test.YtgfeladjpjipeaaDoorEvW
import Derived.Test.YtgfeladjpjipeaaDoorU
import Derived.Test.YtgfeladjpjipeaaDoorProg
set_option linter.unusedVariables false
set_option linter.unusedSimpArgs false
set_option maxRecDepth 100000
namespace Go.Proofs.YtgfeladjpjipeaaDoor.Sx.T
open Go Go.Proofs.YtgfeladjpjipeaaDoor.Sx Go.RowKit Go.Proofs
theorem open_gaps {H : Type} {enc : TypeId × Value → H} {W : World} {b0 : Nat} {spare : Nat → Bool} {held : Bool} {r : Reach} {v : Value} {d : DataW H} {ps : List MemPlace} (hval : Value.okWide Tryd.prog W r b0 38 v) (hd : DataW.Trod enc Tryd.prog W 0 spare held 38 v d ps) :
    ∃ (gs : List Int) (x : AV), GvOk gs x ∧ (∀ z ∈ gs, I64 z) ∧ RelV flatG W x v ∧ noFlag x := by
  rcases open_slice_of (α := Int) (Q := fun x => (Lit.int .i64 x).wf = true) (vals := fun x => [.int .i64 x]) (cells := fun x => [AV.int .i64 x]) 1 Tryd.underlying38 (by kernel_rfl)
    (fun n cs y hf hl => by
      obtain ⟨m, rfl, _, hw⟩ := DataW.trod_int Tryd.underlying3 hf
      exact ⟨m, hw, rfl⟩) (fun _ => rfl)
    (fun x j u hj => by
      match j with
      | 0 => simp at hj; subst hj; rfl
      | j + 1 => simp at hj)
    (fun x j u hj => by
      match j with
      | 0 => simp at hj; subst hj; exact ⟨_, rfl, .int _ _⟩
      | j + 1 => simp at hj) hval hd with
    ⟨rfl, rfl⟩ | ⟨a, cap, xs, elems, sp, rfl, rfl, hl, hq, hr⟩
  · exact ⟨[], .nilsl, .inl ⟨rfl, rfl⟩, by simp, .nilsl, trivial⟩
  · exact ⟨xs, .lst .none 1 (xs.map fun z => [AV.int .i64 z]), .inr rfl, fun z hz => i64_wf (hq z hz), hr, trivial⟩
end Go.Proofs.YtgfeladjpjipeaaDoor.Sx.T
