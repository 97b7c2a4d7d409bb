/- SX: two told answers more: a text cut at a byte (strings.Split), and the number in an error (errors.As at a struct of one number). -/
import Derived.Test.YtafeikbbjhmlaaaGreatDoorSxZ
import Derived.Lib.SplitLaws
set_option linter.unusedVariables false
set_option linter.unusedSimpArgs false
namespace Go.Proofs.YtafeikbbjhmlaaaGreatDoor.Sx
open Go Go.RowKit
theorem rel_texts {G : Gh} {w : World} {b : Nat} {T : TypeId} {l : List ByteArray} (hb : w.heap[b]? = some (.cells (l.map Value.string).toArray T (0, 0))) (hk : G.k b = .st) :
    RelV G w (.lst .tight 1 (l.map fun x => [.str x.data.toList])) (.slice (some ⟨b, 0, none⟩) l.length l.length) := by
  have hlt : b < w.heap.size := by
    rcases Nat.lt_or_ge b w.heap.size with h | h
    · exact h
    · rw [Array.getElem?_eq_none h] at hb; cases hb
  have key : ∀ (i : Nat) (e : List AV) (j : Nat) (v : AV), (l.map fun x => [AV.str x.data.toList])[i]? = some e → e[j]? = some v → ∃ x, l[i]? = some x ∧ e = [.str x.data.toList] ∧ j = 0 ∧ v = .str x.data.toList := by
    intro i e j v hi hj
    rw [List.getElem?_map] at hi
    cases hx : l[i]? with
    | none => rw [hx] at hi; cases hi
    | some x =>
      rw [hx] at hi
      injection hi with hi
      subst hi
      match j with
      | 0 => simp at hj; exact ⟨x, rfl, rfl, rfl, hj.symm⟩
      | j + 1 => simp at hj
  have e0 := RelV.lst (G := G) (w := w) .tight 1 (l.map fun x => [.str x.data.toList]) b 0 l.length (fun i _ => .string (l.getD i ByteArray.empty)) (by decide) (by simp) (fun _ => by simp) ⟨hlt, .inl hk⟩
    (fun i e hi => by
      rw [List.getElem?_map] at hi
      cases hx : l[i]? with
      | none => rw [hx] at hi; cases hi
      | some x => rw [hx] at hi; injection hi with hi; subst hi; rfl)
    (fun i e j v hi hj => by obtain ⟨x, _, _, _, rfl⟩ := key i e j v hi hj; rfl)
    (fun i e j v hi hj => by
      obtain ⟨x, hx, _, rfl, rfl⟩ := key i e j v hi hj
      have : l.getD i ByteArray.empty = x := by simp [List.getD, hx]
      simp only [this]
      simp [World.cell?, hb, hx])
    (fun i e j v hi hj => by
      obtain ⟨x, hx, _, rfl, rfl⟩ := key i e j v hi hj
      have : l.getD i ByteArray.empty = x := by simp [List.getD, hx]
      simp only [this]
      exact .str x)
  simpa using e0
end Go.Proofs.YtafeikbbjhmlaaaGreatDoor.Sx
