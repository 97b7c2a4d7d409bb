/- Rows that are handed, read. -/
import Derived.Test.YtgbmobfjanajaaaGreatDoorEvW
import Derived.Test.YtgbmobfjanajaaaGreatDoorV
import Derived.Test.YtgbmobfjanajaaaGreatDoorOpen
import Derived.SizedLaws
set_option linter.unusedVariables false
set_option linter.unusedSimpArgs false
set_option maxRecDepth 100000
namespace Go.Proofs.YtgbmobfjanajaaaGreatDoor.Sx.T
open Go Go.Proofs.YtgbmobfjanajaaaGreatDoor.Sx Go.RowKit Go.Proofs
def N3S.val (x : N3S) : Val := ⟨x.1, x.2.1, x.2.2.1, x.2.2.2.data.toList⟩
/-- A row that is handed: nothing, or a slice. -/
theorem open_row {H : Type} {enc : TypeId × Value → H} {W : World} {b0 : Nat} {spare : Nat → Bool} {held : Bool} {r : Reach} {v : Value} {d : DataW H} {ps : List MemPlace} (hval : Value.okWide Tryz.prog W r b0 27 v) (hd : DataW.Trod enc Tryz.prog W 0 spare held 27 v d ps) :
    ∃ (vs : List Val) (x : AV), IsRow x vs ∧ (∀ u ∈ vs, u.ok) ∧ RelV flatG W x v ∧ noFlag x ∧ (vs = [] ∨ ∃ elems sp, d = .slice elems sp ∧ elems.length = vs.length) := by
  rcases open_slice_of (α := N3S) (Q := fun x => IntIn .i64 x.1 ∧ IntIn .i64 x.2.1 ∧ IntIn .i64 x.2.2.1 ∧ x.2.2.2.size ≤ maxLen) (vals := N3S.vals) (cells := N3S.cells) 4 Tryz.underlying27 (by kernel_rfl)
    (fun n cs y hf hl => trod_nnns Tryz.underlying23 Tryz.underlying3 Tryz.underlying2 Tryz.underlying2 Tryz.underlying9 rfl rfl rfl rfl (by kernel_rfl) (by kernel_rfl) (by kernel_rfl) (by kernel_rfl) hf hl) (fun _ => rfl) N3S.free N3S.rel hval hd with
    ⟨rfl, rfl⟩ | ⟨a, cap, xs, elems, sp, rfl, rfl, hl, hq, hr⟩
  · exact ⟨[], .nilsl, .inl ⟨rfl, rfl⟩, by simp, .nilsl, trivial, .inl rfl⟩
  · refine ⟨xs.map N3S.val, .lst .none 4 (xs.map N3S.cells), .inr ⟨.none, .inl rfl, ?_⟩, ?_, hr, trivial, .inr ⟨_, _, rfl, by rw [hl, List.length_map]⟩⟩
    · rw [List.map_map]; rfl
    · intro u hu
      obtain ⟨x, hx, rfl⟩ := List.mem_map.1 hu
      obtain ⟨h1, h2, h3, _⟩ := hq x hx
      exact ⟨i64_wf h1, i64_wf h2, i64_wf h3⟩
theorem row_size {H : Type} {ts : List TypeId} {ds : List (DataW H)} (h : (DataW.weightsEach Tryz.prog ts ds).all (· ≤ reachBytes) = true) {j : Nat} {d : DataW H} {vs : List Val} (ht : ts[j]? = some 27) (hd : ds[j]? = some d)
    (hv : vs = [] ∨ ∃ elems sp, d = .slice elems sp ∧ elems.length = vs.length) : vs.length * 40 ≤ 140737488355328 := by
  rcases hv with rfl | ⟨el, sp, rfl, hl⟩
  · simp
  · have := sized_slice h ht hd Tryz.underlying27
    rw [show Tryz.prog.bytesOf 23 = 40 by kernel_rfl, hl] at this
    have hb := reachBytes_lt
    omega
end Go.Proofs.YtgbmobfjanajaaaGreatDoor.Sx.T
