/- Signatures and points that are handed, read. -/
import Derived.Test.YtjbgceogkgpjpaaGreatDoorEvF
import Derived.Test.YtjbgceogkgpjpaaGreatDoorA
import Derived.Test.YtjbgceogkgpjpaaGreatDoorProg
import Derived.KernelRfl
set_option linter.unusedVariables false
set_option linter.unusedSimpArgs false
set_option maxRecDepth 100000
set_option maxHeartbeats 4000000
namespace Go.Proofs.YtjbgceogkgpjpaaGreatDoor.Sx.T
open Go Go.Proofs.YtjbgceogkgpjpaaGreatDoor.Sx Go.RowKit Go.Proofs
def plains : List TypeId := [28, 44, 42, 26, 24, 35, 33, 37, 3, 2, 9]
theorem plains_ok : plainSet Tryz.prog plains = true := by kernel_rfl
theorem i64_in {n : Int} (h : IntIn .i64 n) : I64 n := by
  unfold IntIn at h
  simp [Lit.wf] at h
  have h1 : IntKind.i64.min = -9223372036854775808 := by decide
  have h2 : IntKind.i64.max = 9223372036854775807 := by decide
  unfold I64
  omega
theorem cz42 : Tryz.prog.cellsOf 42 = 1 := by kernel_rfl
theorem cz3 : Tryz.prog.cellsOf 3 = 1 := by kernel_rfl
theorem cz9 : Tryz.prog.cellsOf 9 = 1 := by kernel_rfl
theorem cz44 : Tryz.prog.cellsOf 44 = 2 := by kernel_rfl
theorem bz3 : Tryz.prog.bytesOf 3 = 8 := by kernel_rfl
theorem bz44 : Tryz.prog.bytesOf 44 = 40 := by kernel_rfl
theorem reach_eq : reachBytes = 140737488351232 := by decide
theorem all_of {α : Type} {f : α → List AV} {p : α → Prop} : ∀ es : List (List AV), (∀ x ∈ es, ∃ t : α, p t ∧ x = f t) → ∃ ts : List α, es = ts.map f ∧ ∀ t ∈ ts, p t
  | [], _ => ⟨[], rfl, by simp⟩
  | e :: es, h => by
    obtain ⟨t, ht, rfl⟩ := h e (by simp)
    obtain ⟨ts, rfl, hts⟩ := all_of es (fun x hx => h x (by simp [hx]))
    exact ⟨t :: ts, rfl, fun x hx => by
      rcases List.mem_cons.1 hx with rfl | hx
      · exact ht
      · exact hts x hx⟩
theorem sh_int {us : List AV} (h : Shp Tryz.prog 3 us) : ∃ n, I64 n ∧ us = [.int .i64 n] := by
  cases h with
  | int n h hn => simp [Tryz.underlying3] at h; subst h; exact ⟨n, i64_in hn, rfl⟩
  | bool b h => simp [Tryz.underlying3] at h
  | str s h => simp [Tryz.underlying3] at h
  | nilsl h => simp [Tryz.underlying3] at h
  | lst es h => simp [Tryz.underlying3] at h
  | struct cs h => simp [Tryz.underlying3] at h
theorem sh_str {us : List AV} (h : Shp Tryz.prog 9 us) : ∃ s : List UInt8, s.length ≤ 140737488351232 ∧ us = [.str s] := by
  cases h with
  | str s h hs hb => exact ⟨_, by rw [← reach_eq]; exact hb, rfl⟩
  | bool b h => simp [Tryz.underlying9] at h
  | int n h => simp [Tryz.underlying9] at h
  | nilsl h => simp [Tryz.underlying9] at h
  | lst es h => simp [Tryz.underlying9] at h
  | struct cs h => simp [Tryz.underlying9] at h
theorem sh_kinds {us : List AV} (h : Shp Tryz.prog 42 us) : ∃ (kv : AV) (ks : List Int), us = [kv] ∧ Ls 1 kv (nums ks) ∧ ks.length ≤ 140737488351232 := by
  cases h with
  | nilsl h => exact ⟨.nilsl, [], rfl, .inl ⟨rfl, rfl⟩, by simp⟩
  | lst es h hes hl hb =>
    simp [Tryz.underlying42] at h; subst h
    obtain ⟨ks, rfl, _⟩ := all_of (f := fun k : Int => [AV.int .i64 k]) (p := fun _ => True) es (fun x hx => by obtain ⟨n, _, e⟩ := sh_int (hes x hx); exact ⟨n, trivial, e⟩)
    rw [bz3, reach_eq, List.length_map] at hb
    exact ⟨_, ks, rfl, .inr ⟨.none, .inl rfl, by rw [cz3]; rfl⟩, by omega⟩
  | bool b h => simp [Tryz.underlying42] at h
  | int n h => simp [Tryz.underlying42] at h
  | str s h => simp [Tryz.underlying42] at h
  | struct cs h => simp [Tryz.underlying42] at h
theorem sh_decl {us : List AV} (h : Shp Tryz.prog 44 us) : ∃ x : Dc, x.ok ∧ us = x.cells := by
  cases h with
  | struct cs h hl ih =>
    simp [Tryz.underlying44] at h; subst h
    match us, hl.trans cz44 with
    | [a, b], _ =>
      simp [cz9, cz42] at ih
      obtain ⟨h0, h1⟩ := ih
      obtain ⟨s, hs, e0⟩ := sh_str h0
      obtain ⟨kv, ks, e1, h2, h3⟩ := sh_kinds h1
      simp at e0 e1
      subst e0 e1
      exact ⟨⟨s, ks, b⟩, ⟨h2, by simp only; omega, by simp only; omega⟩, rfl⟩
  | nilsl h => simp [Tryz.underlying44] at h
  | lst es h => simp [Tryz.underlying44] at h
  | bool b h => simp [Tryz.underlying44] at h
  | int n h => simp [Tryz.underlying44] at h
  | str s h => simp [Tryz.underlying44] at h
theorem sh_sig {us : List AV} (h : Shp Tryz.prog 28 us) : ∃ (v : AV) (sig : List Dc), us = [v] ∧ SigV v sig ∧ sig.length * 40 ≤ 140737488351232 := by
  cases h with
  | nilsl h => exact ⟨.nilsl, [], rfl, ⟨.inl ⟨rfl, rfl⟩, by simp, by simp⟩, by simp⟩
  | lst es h hes hl hb =>
    simp [Tryz.underlying28] at h; subst h
    obtain ⟨ds, rfl, ho⟩ := all_of (f := Dc.cells) (p := Dc.ok) es (fun x hx => sh_decl (hes x hx))
    rw [bz44, reach_eq, List.length_map] at hb
    exact ⟨_, ds, rfl, ⟨.inr ⟨.none, .inl rfl, by rw [cz44]; rfl⟩, ho, by omega⟩, hb⟩
  | bool b h => simp [Tryz.underlying28] at h
  | int n h => simp [Tryz.underlying28] at h
  | str s h => simp [Tryz.underlying28] at h
  | struct cs h => simp [Tryz.underlying28] at h
theorem open_sig {H : Type} {enc : TypeId × Value → H} {W W0 : World} {held : Bool} {r : Reach} {b0 : Nat} {v : Value} {d : DataW H} {ps : List MemPlace} (hok : Value.okWide Tryz.prog W0 r b0 28 v) (hd : DataW.Trod enc Tryz.prog W 0 (fun _ => true) held 28 v d ps) (hwt : ∀ m ∈ d.weights Tryz.prog 28, m ≤ reachBytes) :
    ∃ (u : AV) (sig : List Dc), SigV u sig ∧ sig.length * 40 ≤ 140737488351232 ∧ RelV flatG W u v ∧ noFlag u := by
  obtain ⟨u, hs, hr, hn⟩ := read_slice (H := H) plains_ok (t := 28) (by decide) Tryz.underlying28 hok hd hwt
  obtain ⟨v', sig, e, h1, h2⟩ := sh_sig hs
  simp at e
  subst e
  exact ⟨_, sig, h1, h2, hr, hn⟩
end Go.Proofs.YtjbgceogkgpjpaaGreatDoor.Sx.T
