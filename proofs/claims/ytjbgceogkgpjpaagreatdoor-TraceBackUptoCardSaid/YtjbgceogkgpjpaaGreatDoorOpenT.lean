/- Signatures and points that are handed, read. -/
import Derived.Test.YtjbgceogkgpjpaaGreatDoorEvF
import Derived.Test.YtjbgceogkgpjpaaGreatDoorA
import Derived.Test.YtjbgceogkgpjpaaGreatDoorProg
import Derived.KernelRfl
set_option linter.unusedVariables false
set_option linter.unusedSimpArgs false
set_option maxRecDepth 100000
set_option maxHeartbeats 4000000
namespace Go.Proofs.YtjbgceogkgpjpaaGreatDoor.Sx.T
open Go Go.Proofs.YtjbgceogkgpjpaaGreatDoor.Sx Go.RowKit Go.Proofs
def plains : List TypeId := [28, 44, 42, 26, 24, 35, 33, 37, 3, 2, 9]
theorem plains_ok : plainSet Tryz.prog plains = true := by kernel_rfl
theorem i64_in {n : Int} (h : IntIn .i64 n) : I64 n := by
  unfold IntIn at h
  simp [Lit.wf] at h
  have h1 : IntKind.i64.min = -9223372036854775808 := by decide
  have h2 : IntKind.i64.max = 9223372036854775807 := by decide
  unfold I64
  omega
theorem cz42 : Tryz.prog.cellsOf 42 = 1 := by kernel_rfl
theorem cz33 : Tryz.prog.cellsOf 33 = 1 := by kernel_rfl
theorem cz24 : Tryz.prog.cellsOf 24 = 1 := by kernel_rfl
theorem cz3 : Tryz.prog.cellsOf 3 = 1 := by kernel_rfl
theorem cz2 : Tryz.prog.cellsOf 2 = 1 := by kernel_rfl
theorem cz9 : Tryz.prog.cellsOf 9 = 1 := by kernel_rfl
theorem cz37 : Tryz.prog.cellsOf 37 = 4 := by kernel_rfl
theorem cz44 : Tryz.prog.cellsOf 44 = 2 := by kernel_rfl
theorem cz35 : Tryz.prog.cellsOf 35 = 2 := by kernel_rfl
theorem cz26 : Tryz.prog.cellsOf 26 = 2 := by kernel_rfl
theorem bz3 : Tryz.prog.bytesOf 3 = 8 := by kernel_rfl
theorem bz37 : Tryz.prog.bytesOf 37 = 40 := by kernel_rfl
theorem bz44 : Tryz.prog.bytesOf 44 = 40 := by kernel_rfl
theorem bz35 : Tryz.prog.bytesOf 35 = 40 := by kernel_rfl
theorem reach_eq : reachBytes = 140737488351232 := by decide
theorem all_of {α : Type} {f : α → List AV} {p : α → Prop} : ∀ es : List (List AV), (∀ x ∈ es, ∃ t : α, p t ∧ x = f t) → ∃ ts : List α, es = ts.map f ∧ ∀ t ∈ ts, p t
  | [], _ => ⟨[], rfl, by simp⟩
  | e :: es, h => by
    obtain ⟨t, ht, rfl⟩ := h e (by simp)
    obtain ⟨ts, rfl, hts⟩ := all_of es (fun x hx => h x (by simp [hx]))
    exact ⟨t :: ts, rfl, fun x hx => by
      rcases List.mem_cons.1 hx with rfl | hx
      · exact ht
      · exact hts x hx⟩
theorem sh_int {us : List AV} (h : Shp Tryz.prog 3 us) : ∃ n, I64 n ∧ us = [.int .i64 n] := by
  cases h with
  | int n h hn => simp [Tryz.underlying3] at h; subst h; exact ⟨n, i64_in hn, rfl⟩
  | bool b h => simp [Tryz.underlying3] at h
  | str s h => simp [Tryz.underlying3] at h
  | nilsl h => simp [Tryz.underlying3] at h
  | lst es h => simp [Tryz.underlying3] at h
  | struct cs h => simp [Tryz.underlying3] at h
theorem sh_i64 {us : List AV} (h : Shp Tryz.prog 2 us) : ∃ n, I64 n ∧ us = [.int .i64 n] := by
  cases h with
  | int n h hn => simp [Tryz.underlying2] at h; subst h; exact ⟨n, i64_in hn, rfl⟩
  | bool b h => simp [Tryz.underlying2] at h
  | str s h => simp [Tryz.underlying2] at h
  | nilsl h => simp [Tryz.underlying2] at h
  | lst es h => simp [Tryz.underlying2] at h
  | struct cs h => simp [Tryz.underlying2] at h
theorem sh_str {us : List AV} (h : Shp Tryz.prog 9 us) : ∃ s : List UInt8, s.length ≤ 140737488351232 ∧ us = [.str s] := by
  cases h with
  | str s h hs hb => exact ⟨_, by rw [← reach_eq]; exact hb, rfl⟩
  | bool b h => simp [Tryz.underlying9] at h
  | int n h => simp [Tryz.underlying9] at h
  | nilsl h => simp [Tryz.underlying9] at h
  | lst es h => simp [Tryz.underlying9] at h
  | struct cs h => simp [Tryz.underlying9] at h
theorem sh_kinds {us : List AV} (h : Shp Tryz.prog 42 us) : ∃ (kv : AV) (ks : List Int), us = [kv] ∧ Ls 1 kv (nums ks) ∧ ks.length ≤ 140737488351232 := by
  cases h with
  | nilsl h => exact ⟨.nilsl, [], rfl, .inl ⟨rfl, rfl⟩, by simp⟩
  | lst es h hes hl hb =>
    simp [Tryz.underlying42] at h; subst h
    obtain ⟨ks, rfl, _⟩ := all_of (f := fun k : Int => [AV.int .i64 k]) (p := fun _ => True) es (fun x hx => by obtain ⟨n, _, e⟩ := sh_int (hes x hx); exact ⟨n, trivial, e⟩)
    rw [bz3, reach_eq, List.length_map] at hb
    exact ⟨_, ks, rfl, .inr ⟨.none, .inl rfl, by rw [cz3]; rfl⟩, by omega⟩
  | bool b h => simp [Tryz.underlying42] at h
  | int n h => simp [Tryz.underlying42] at h
  | str s h => simp [Tryz.underlying42] at h
  | struct cs h => simp [Tryz.underlying42] at h
theorem sh_val {us : List AV} (h : Shp Tryz.prog 37 us) : ∃ x : Val, x.ok ∧ us = x.cells := by
  cases h with
  | struct cs h hl ih =>
    simp [Tryz.underlying37] at h; subst h
    match us, hl.trans cz37 with
    | [a, b, c, d], _ =>
      simp [cz3, cz2, cz9] at ih
      obtain ⟨h0, h1, h2, h3⟩ := ih
      obtain ⟨k, i0, e0⟩ := sh_int h0
      obtain ⟨n, i1, e1⟩ := sh_i64 h1
      obtain ⟨m, i2, e2⟩ := sh_i64 h2
      obtain ⟨s, _, e3⟩ := sh_str h3
      simp at e0 e1 e2 e3
      subst e0 e1 e2 e3
      exact ⟨⟨k, n, m, s⟩, ⟨i0, i1, i2⟩, rfl⟩
  | nilsl h => simp [Tryz.underlying37] at h
  | lst es h => simp [Tryz.underlying37] at h
  | bool b h => simp [Tryz.underlying37] at h
  | int n h => simp [Tryz.underlying37] at h
  | str s h => simp [Tryz.underlying37] at h
theorem sh_vals {us : List AV} (h : Shp Tryz.prog 33 us) : ∃ (av : AV) (vl : List Val), us = [av] ∧ Ls 4 av (vals vl) ∧ vl.length ≤ 140737488351232 ∧ ∀ x ∈ vl, x.ok := by
  cases h with
  | nilsl h => exact ⟨.nilsl, [], rfl, .inl ⟨rfl, rfl⟩, by simp, by simp⟩
  | lst es h hes hl hb =>
    simp [Tryz.underlying33] at h; subst h
    obtain ⟨vl, rfl, ho⟩ := all_of (f := Val.cells) (p := Val.ok) es (fun x hx => sh_val (hes x hx))
    rw [bz37, reach_eq, List.length_map] at hb
    exact ⟨_, vl, rfl, .inr ⟨.none, .inl rfl, by rw [cz37]; rfl⟩, by omega, ho⟩
  | bool b h => simp [Tryz.underlying33] at h
  | int n h => simp [Tryz.underlying33] at h
  | str s h => simp [Tryz.underlying33] at h
  | struct cs h => simp [Tryz.underlying33] at h
theorem sh_decl {us : List AV} (h : Shp Tryz.prog 44 us) : ∃ x : Dc, x.ok ∧ us = x.cells := by
  cases h with
  | struct cs h hl ih =>
    simp [Tryz.underlying44] at h; subst h
    match us, hl.trans cz44 with
    | [a, b], _ =>
      simp [cz9, cz42] at ih
      obtain ⟨h0, h1⟩ := ih
      obtain ⟨s, hs, e0⟩ := sh_str h0
      obtain ⟨kv, ks, e1, h2, h3⟩ := sh_kinds h1
      simp at e0 e1
      subst e0 e1
      exact ⟨⟨s, ks, b⟩, ⟨h2, by simp only; omega, by simp only; omega⟩, rfl⟩
  | nilsl h => simp [Tryz.underlying44] at h
  | lst es h => simp [Tryz.underlying44] at h
  | bool b h => simp [Tryz.underlying44] at h
  | int n h => simp [Tryz.underlying44] at h
  | str s h => simp [Tryz.underlying44] at h
theorem sh_event {us : List AV} (h : Shp Tryz.prog 35 us) : ∃ x : Et, x.ok ∧ us = x.cells := by
  cases h with
  | struct cs h hl ih =>
    simp [Tryz.underlying35] at h; subst h
    match us, hl.trans cz35 with
    | [a, b], _ =>
      simp [cz9, cz33] at ih
      obtain ⟨h0, h1⟩ := ih
      obtain ⟨s, hs, e0⟩ := sh_str h0
      obtain ⟨av, vl, e1, h2, h3, h4⟩ := sh_vals h1
      simp at e0 e1
      subst e0 e1
      exact ⟨⟨s, vl, b⟩, ⟨h2, by simp only; omega, h4, by simp only; omega⟩, rfl⟩
  | nilsl h => simp [Tryz.underlying35] at h
  | lst es h => simp [Tryz.underlying35] at h
  | bool b h => simp [Tryz.underlying35] at h
  | int n h => simp [Tryz.underlying35] at h
  | str s h => simp [Tryz.underlying35] at h
theorem sh_sig {us : List AV} (h : Shp Tryz.prog 28 us) : ∃ (v : AV) (sig : List Dc), us = [v] ∧ SigV v sig ∧ sig.length * 40 ≤ 140737488351232 := by
  cases h with
  | nilsl h => exact ⟨.nilsl, [], rfl, ⟨.inl ⟨rfl, rfl⟩, by simp, by simp⟩, by simp⟩
  | lst es h hes hl hb =>
    simp [Tryz.underlying28] at h; subst h
    obtain ⟨ds, rfl, ho⟩ := all_of (f := Dc.cells) (p := Dc.ok) es (fun x hx => sh_decl (hes x hx))
    rw [bz44, reach_eq, List.length_map] at hb
    exact ⟨_, ds, rfl, ⟨.inr ⟨.none, .inl rfl, by rw [cz44]; rfl⟩, ho, by omega⟩, hb⟩
  | bool b h => simp [Tryz.underlying28] at h
  | int n h => simp [Tryz.underlying28] at h
  | str s h => simp [Tryz.underlying28] at h
  | struct cs h => simp [Tryz.underlying28] at h
theorem sh_events {us : List AV} (h : Shp Tryz.prog 24 us) : ∃ (v : AV) (evs : List Et), us = [v] ∧ EvV v evs ∧ evs.length * 40 ≤ 140737488351232 := by
  cases h with
  | nilsl h => exact ⟨.nilsl, [], rfl, ⟨.inl ⟨rfl, rfl⟩, by simp, by simp⟩, by simp⟩
  | lst es h hes hl hb =>
    simp [Tryz.underlying24] at h; subst h
    obtain ⟨ds, rfl, ho⟩ := all_of (f := Et.cells) (p := Et.ok) es (fun x hx => sh_event (hes x hx))
    rw [bz35, reach_eq, List.length_map] at hb
    exact ⟨_, ds, rfl, ⟨.inr ⟨.none, .inl rfl, by rw [cz35]; rfl⟩, ho, by omega⟩, hb⟩
  | bool b h => simp [Tryz.underlying24] at h
  | int n h => simp [Tryz.underlying24] at h
  | str s h => simp [Tryz.underlying24] at h
  | struct cs h => simp [Tryz.underlying24] at h
theorem sh_point {us : List AV} (h : Shp Tryz.prog 26 us) : ∃ (t : Int) (v : AV) (evs : List Et), us = [.int .i64 t, v] ∧ I64 t ∧ EvV v evs ∧ evs.length * 40 ≤ 140737488351232 := by
  cases h with
  | struct cs h hl ih =>
    simp [Tryz.underlying26] at h; subst h
    match us, hl.trans cz26 with
    | [a, b], _ =>
      simp [cz2, cz24] at ih
      obtain ⟨h0, h1⟩ := ih
      obtain ⟨t, ht, e0⟩ := sh_i64 h0
      obtain ⟨v, evs, e1, h2, h3⟩ := sh_events h1
      simp at e0 e1
      subst e0 e1
      exact ⟨t, b, evs, rfl, ht, h2, h3⟩
  | nilsl h => simp [Tryz.underlying26] at h
  | lst es h => simp [Tryz.underlying26] at h
  | bool b h => simp [Tryz.underlying26] at h
  | int n h => simp [Tryz.underlying26] at h
  | str s h => simp [Tryz.underlying26] at h
end Go.Proofs.YtjbgceogkgpjpaaGreatDoor.Sx.T
