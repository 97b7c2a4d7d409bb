/- Points that are handed, read with their bulk. -/
import Derived.Test.YtjbgceogkgpjpaaGreatDoorOpenT
import Derived.Test.YtjbgceogkgpjpaaGreatDoorEvU
import Derived.Test.YtjbgceogkgpjpaaGreatDoorRows
set_option linter.unusedVariables false
set_option linter.unusedSimpArgs false
set_option maxRecDepth 100000
set_option maxHeartbeats 4000000
namespace Go.Proofs.YtjbgceogkgpjpaaGreatDoor.Sx.T
open Go Go.Proofs.YtjbgceogkgpjpaaGreatDoor.Sx Go.RowKit Go.Proofs Go.Proofs.YtjbgceogkgpjpaaGreatDoor
theorem bulkAll_sum {H : Type} : ∀ l : List (DataW H), Rows.uptoBulkAll l = (l.map Rows.uptoBulk).sum
  | [] => by simp [Rows.uptoBulkAll]
  | d :: l => by rw [Rows.uptoBulkAll, bulkAll_sum l, List.map_cons, List.sum_cons]
theorem bulk_one {H : Type} : ∀ d : DataW H, 1 ≤ Rows.uptoBulk d := by
  intro d
  cases d with
  | lit l => cases l <;> simp [Rows.uptoBulk]
  | _ => simp [Rows.uptoBulk]
theorem bulky {H : Type} : Bulky (Rows.uptoBulk (H := H)) where
  one := bulk_one
  str bs := by simp [Rows.uptoBulk]
  slice el sp := by rw [Rows.uptoBulk, bulkAll_sum el]; omega
  agg ps := by rw [Rows.uptoBulk, bulkAll_sum ps]; omega
theorem plains_small : plains.all (fun t => decide (Tryz.prog.bytesOf t ≤ 4096)) = true := by kernel_rfl
theorem avn_ets {u : AV} {evs : List Et} (h : EvV u evs) : avnE (ets evs) = avn u := by
  rcases h.1 with ⟨rfl, e⟩ | ⟨o, _, rfl⟩
  · rw [e]; rfl
  · rfl
theorem open_pointB {H : Type} {enc : TypeId × Value → H} {W W0 : World} {held : Bool} {r : Reach} {b0 : Nat} {v : Value} {d : DataW H} {ps : List MemPlace} (hok : Value.okWide Tryz.prog W0 r b0 26 v) (hd : DataW.Trod enc Tryz.prog W 0 (fun _ => true) held 26 v d ps) (hwt : Rows.uptoBulk d ≤ 1048576) :
    ∃ (t : Int) (u : AV) (evs : List Et), I64 t ∧ EvV u evs ∧ avnE (ets evs) ≤ 1048576 ∧ RelV flatG W (.agg [.int .i64 t, u]) v ∧ noFlag (.agg [.int .i64 t, u]) := by
  obtain ⟨us, hs, hr, hn, hb⟩ := read_structB (H := H) plains_ok plains_small bulky (t := 26) (by decide) Tryz.underlying26 hok hd hwt
  obtain ⟨t, u, evs, rfl, ht, h1, h2⟩ := sh_point hs
  refine ⟨t, u, evs, ht, h1, ?_, hr, hn⟩
  rw [avn_ets h1]
  simp only [avnL, avn] at hb
  omega
theorem open_sigB {H : Type} {enc : TypeId × Value → H} {W W0 : World} {held : Bool} {r : Reach} {b0 : Nat} {v : Value} {d : DataW H} {ps : List MemPlace} (hok : Value.okWide Tryz.prog W0 r b0 28 v) (hd : DataW.Trod enc Tryz.prog W 0 (fun _ => true) held 28 v d ps) (hwt : Rows.uptoBulk d ≤ 1048576) :
    ∃ (u : AV) (sig : List Dc), SigV u sig ∧ True ∧ RelV flatG W u v ∧ noFlag u := by
  obtain ⟨u, hs, hr, hn, hb⟩ := read_sliceB (H := H) plains_ok plains_small bulky (t := 28) (by decide) Tryz.underlying28 hok hd hwt
  obtain ⟨v', sig, e, h1, h2⟩ := sh_sig hs
  simp at e
  subst e
  exact ⟨_, sig, h1, trivial, hr, hn⟩
end Go.Proofs.YtjbgceogkgpjpaaGreatDoor.Sx.T
