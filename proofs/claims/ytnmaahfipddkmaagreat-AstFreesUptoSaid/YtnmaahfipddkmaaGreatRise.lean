/- Part of the proof. -/
import Derived.Test.YtnmaahfipddkmaaGreatSxZ
import Derived.Test.YtnmaahfipddkmaaGreatShelf
import Derived.WalkKit
import Derived.ProofKit
set_option linter.unusedVariables false
set_option linter.unusedSimpArgs false
namespace Go.Proofs.YtnmaahfipddkmaaGreat.Sx.T
open Go Go.Proofs.YtnmaahfipddkmaaGreat.Sx Go.RowKit Go.Sort Go.Proofs
theorem holds_grow {w : World} {os : Array Obj} {blk off : Nat} {d : Array (List UInt8)} (h : Holds encStr w blk off d) (hb : blk < w.heap.size) : Holds encStr (grow w os) blk off d := by
  intro j hj
  obtain ⟨h1, h2⟩ := h j hj
  have e : (grow w os).heap[blk]? = w.heap[blk]? := by simp only [grow]; exact Array.getElem?_append_left hb
  constructor
  · simpa [World.cell?, e] using h1
  · simpa [World.frozen?, e] using h2
set_option maxRecDepth 100000 in
theorem rise_none (a : Option Addr) (cap : Nat) (w : World) : Calls Tryz.prog 44 #[.slice a 0 cap] w fun e w' => e = .returned (.slice a 0 cap) ∧ w' = w := by
  go_enter Tryz.func44, Tryz.ntmps44
  go_wp2_with (first
    | (go_at_call 71; refine (Any.slices_Sort_string_none Tryz.lays190 a cap _).mono ?_; rintro e w' ⟨rfl, rfl⟩)
    | (go_at_call 72; refine (Any.slices_Compact_string_empty Tryz.lays194 a cap _).mono ?_; rintro e w' ⟨rfl, rfl⟩))
  go_ret
  exact ⟨rfl, rfl⟩
set_option maxRecDepth 100000 in
theorem rise_walk (blk off cap : Nat) (ss : List (List UInt8)) (w : World) (hH : Holds encStr w blk off ss.toArray) (hblk : blk < w.heap.size) (hsz : ss.length < 4611686018427387904) (hcap : ss.length ≤ cap) :
    Calls Tryz.prog 44 #[.slice (some ⟨blk, off, none⟩) ss.length cap] w fun e w' => e = .returned (.slice (some ⟨blk, off, none⟩) (riseL ss).length cap) ∧
        ∃ n os q, w' = putRow encStr (Sort.ahead (grow (putRow encStr (Sort.ahead w n) blk off (isortL ss).toArray) os) q) blk off (riseL ss ++ List.replicate (ss.length - (riseL ss).length) []).toArray := by
  have hS : ∀ w0 : World, w0 = w → Calls Tryz.prog 71 #[.slice (some ⟨blk, off, none⟩) ss.length cap] w0 fun e w' => e = .returned (.tuple #[]) ∧ ∃ n os, w' = grow (putRow encStr (Sort.ahead w n) blk off (isortL ss).toArray) os := by
    rintro w0 rfl
    have h := Any.slices_Sort_string Tryz.lays190 blk off cap ss w0 hH hblk hsz
    rw [isort_merge] at h
    exact h
  have hl : (isortL ss).length = ss.length := (isortL_perm ss).length_eq
  have hC : ∀ (n : Nat) (os : Array Obj), Calls Tryz.prog 72 #[.slice (some ⟨blk, off, none⟩) ss.length cap] (grow (putRow encStr (Sort.ahead w n) blk off (isortL ss).toArray) os) fun e w' =>
      e = .returned (.slice (some ⟨blk, off, none⟩) (riseL ss).length cap) ∧ ∃ q, w' = putRow encStr (Sort.ahead (grow (putRow encStr (Sort.ahead w n) blk off (isortL ss).toArray) os) q) blk off (riseL ss ++ List.replicate (ss.length - (riseL ss).length) []).toArray := by
    intro n os
    have hHo : Holds encStr (grow (putRow encStr (Sort.ahead w n) blk off (isortL ss).toArray) os) blk off (isortL ss).toArray :=
      holds_grow (holds_putRow encStr (Sort.ahead w n) blk off ss.toArray (isortL ss).toArray hH (by simp [hl])) (by simpa [Sort.ahead] using hblk)
    have h := Any.slices_Compact_string Tryz.lays194 blk off cap (isortL ss) _ hHo (by omega) (by omega)
    rw [← isort_merge, compact_rise, isort_merge, hl] at h
    exact h
  clear hH
  go_enter Tryz.func44, Tryz.ntmps44
  go_wp2_with (first
    | (go_at_call 71; refine (hS _ rfl).mono ?_; rintro e w' ⟨rfl, n, os, rfl⟩)
    | (go_at_call 72; refine (hC _ _).mono ?_; rintro e w' ⟨rfl, q, rfl⟩))
  go_ret
  exact ⟨rfl, _, _, _, rfl⟩
theorem rise : PrimMOne Tryz.prog 44 100 := prim_rise (by kernel_rfl) rise_none rise_walk
end Go.Proofs.YtnmaahfipddkmaaGreat.Sx.T
