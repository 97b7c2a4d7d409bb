/- Verdicts and sheets that are handed, read with their bulk. -/
import Derived.Test.YtafeikbbjhmlaaaGreatDoorEvU
import Derived.Test.YtafeikbbjhmlaaaGreatDoorS
import Derived.Test.YtafeikbbjhmlaaaGreatDoorProg
import Derived.Test.YtafeikbbjhmlaaaGreatDoorRows
import Derived.KernelRfl
set_option linter.unusedVariables false
set_option linter.unusedSimpArgs false
set_option maxRecDepth 100000
set_option maxHeartbeats 4000000
namespace Go.Proofs.YtafeikbbjhmlaaaGreatDoor.Sx.T
open Go Go.Proofs.YtafeikbbjhmlaaaGreatDoor.Sx Go.RowKit Go.Proofs Go.Proofs.YtafeikbbjhmlaaaGreatDoor
def plains : List TypeId := [34, 45, 43, 27, 25, 22, 23, 46, 48, 3, 2, 9]
theorem plains_ok : plainSet Tryz.prog plains = true := by kernel_rfl
theorem plains_small : plains.all (fun t => decide (Tryz.prog.bytesOf t ≤ 4096)) = true := by kernel_rfl
theorem i64_in {n : Int} (h : IntIn .i64 n) : I64 n := by
  unfold IntIn at h
  simp [Lit.wf] at h
  have h1 : IntKind.i64.min = -9223372036854775808 := by decide
  have h2 : IntKind.i64.max = 9223372036854775807 := by decide
  unfold I64
  omega
theorem cz46 : Tryz.prog.cellsOf 46 = 1 := by kernel_rfl
theorem cz23 : Tryz.prog.cellsOf 23 = 1 := by kernel_rfl
theorem cz22 : Tryz.prog.cellsOf 22 = 1 := by kernel_rfl
theorem cz3 : Tryz.prog.cellsOf 3 = 1 := by kernel_rfl
theorem cz2 : Tryz.prog.cellsOf 2 = 1 := by kernel_rfl
theorem cz9 : Tryz.prog.cellsOf 9 = 1 := by kernel_rfl
theorem cz48 : Tryz.prog.cellsOf 48 = 4 := by kernel_rfl
theorem cz43 : Tryz.prog.cellsOf 43 = 1 := by kernel_rfl
theorem cz45 : Tryz.prog.cellsOf 45 = 4 := by kernel_rfl
theorem cz25 : Tryz.prog.cellsOf 25 = 2 := by kernel_rfl
theorem bz48 : Tryz.prog.bytesOf 48 = 40 := by kernel_rfl
theorem reach_eq : reachBytes = 140737488351232 := by decide
theorem all_of {α : Type} {f : α → List AV} {p : α → Prop} : ∀ es : List (List AV), (∀ x ∈ es, ∃ t : α, p t ∧ x = f t) → ∃ ts : List α, es = ts.map f ∧ ∀ t ∈ ts, p t
  | [], _ => ⟨[], rfl, by simp⟩
  | e :: es, h => by
    obtain ⟨t, ht, rfl⟩ := h e (by simp)
    obtain ⟨ts, rfl, hts⟩ := all_of es (fun x hx => h x (by simp [hx]))
    exact ⟨t :: ts, rfl, fun x hx => by
      rcases List.mem_cons.1 hx with rfl | hx
      · exact ht
      · exact hts x hx⟩
theorem sh_int {us : List AV} (h : Shp Tryz.prog 3 us) : ∃ n, I64 n ∧ us = [.int .i64 n] := by
  cases h with
  | int n h hn => simp [Tryz.underlying3] at h; subst h; exact ⟨n, i64_in hn, rfl⟩
  | bool b h => simp [Tryz.underlying3] at h
  | str s h => simp [Tryz.underlying3] at h
  | nilsl h => simp [Tryz.underlying3] at h
  | lst es h => simp [Tryz.underlying3] at h
  | struct cs h => simp [Tryz.underlying3] at h
theorem sh_i64 {us : List AV} (h : Shp Tryz.prog 2 us) : ∃ n, I64 n ∧ us = [.int .i64 n] := by
  cases h with
  | int n h hn => simp [Tryz.underlying2] at h; subst h; exact ⟨n, i64_in hn, rfl⟩
  | bool b h => simp [Tryz.underlying2] at h
  | str s h => simp [Tryz.underlying2] at h
  | nilsl h => simp [Tryz.underlying2] at h
  | lst es h => simp [Tryz.underlying2] at h
  | struct cs h => simp [Tryz.underlying2] at h
theorem sh_str {us : List AV} (h : Shp Tryz.prog 9 us) : ∃ s : List UInt8, us = [.str s] := by
  cases h with
  | str s h hs hb => exact ⟨_, rfl⟩
  | bool b h => simp [Tryz.underlying9] at h
  | int n h => simp [Tryz.underlying9] at h
  | nilsl h => simp [Tryz.underlying9] at h
  | lst es h => simp [Tryz.underlying9] at h
  | struct cs h => simp [Tryz.underlying9] at h
theorem sh_val {us : List AV} (h : Shp Tryz.prog 48 us) : ∃ x : Val, x.ok ∧ us = x.cells := by
  cases h with
  | struct cs h hl ih =>
    simp [Tryz.underlying48] at h; subst h
    match us, hl.trans cz48 with
    | [a, b, c, d], _ =>
      simp [cz3, cz2, cz9] at ih
      obtain ⟨h0, h1, h2, h3⟩ := ih
      obtain ⟨k, i0, e0⟩ := sh_int h0
      obtain ⟨n, i1, e1⟩ := sh_i64 h1
      obtain ⟨m, i2, e2⟩ := sh_i64 h2
      obtain ⟨s, e3⟩ := sh_str h3
      simp at e0 e1 e2 e3
      subst e0 e1 e2 e3
      exact ⟨⟨k, n, m, s⟩, ⟨i0, i1, i2⟩, rfl⟩
  | nilsl h => simp [Tryz.underlying48] at h
  | lst es h => simp [Tryz.underlying48] at h
  | bool b h => simp [Tryz.underlying48] at h
  | int n h => simp [Tryz.underlying48] at h
  | str s h => simp [Tryz.underlying48] at h
theorem sh_row {us : List AV} (h : Shp Tryz.prog 46 us) : ∃ r : Rw, r.ok ∧ us = [r.av] := by
  cases h with
  | nilsl h => exact ⟨⟨[], .nilsl⟩, ⟨.inl ⟨rfl, rfl⟩, by simp, by simp⟩, rfl⟩
  | lst es h hes hl hb =>
    simp [Tryz.underlying46] at h; subst h
    obtain ⟨vl, rfl, ho⟩ := all_of (f := Val.cells) (p := Val.ok) es (fun x hx => sh_val (hes x hx))
    rw [bz48, reach_eq, List.length_map] at hb
    exact ⟨⟨vl, _⟩, ⟨.inr ⟨.none, .inl rfl, by rw [cz48]; rfl⟩, by simp only; omega, ho⟩, rfl⟩
  | bool b h => simp [Tryz.underlying46] at h
  | int n h => simp [Tryz.underlying46] at h
  | str s h => simp [Tryz.underlying46] at h
  | struct cs h => simp [Tryz.underlying46] at h
theorem sh_wds {us : List AV} (h : Shp Tryz.prog 22 us) : ∃ (x : AV) (vs : List (List UInt8)), us = [x] ∧ Ls 1 x (wds vs) := by
  cases h with
  | nilsl h => exact ⟨.nilsl, [], rfl, .inl ⟨rfl, rfl⟩⟩
  | lst es h hes hl hb =>
    simp [Tryz.underlying22] at h; subst h
    obtain ⟨vs, rfl, _⟩ := all_of (f := fun w : List UInt8 => [AV.str w]) (p := fun _ => True) es (fun x hx => by obtain ⟨s, e⟩ := sh_str (hes x hx); exact ⟨s, trivial, e⟩)
    exact ⟨_, vs, rfl, .inr ⟨.none, .inl rfl, by rw [cz9]; rfl⟩⟩
  | bool b h => simp [Tryz.underlying22] at h
  | int n h => simp [Tryz.underlying22] at h
  | str s h => simp [Tryz.underlying22] at h
  | struct cs h => simp [Tryz.underlying22] at h
theorem sh_rws {us : List AV} (h : Shp Tryz.prog 23 us) : ∃ (x : AV) (rs : List Rw), us = [x] ∧ Ls 1 x (rws rs) ∧ ∀ r ∈ rs, r.ok := by
  cases h with
  | nilsl h => exact ⟨.nilsl, [], rfl, .inl ⟨rfl, rfl⟩, by simp⟩
  | lst es h hes hl hb =>
    simp [Tryz.underlying23] at h; subst h
    obtain ⟨rs, rfl, ho⟩ := all_of (f := fun r : Rw => [r.av]) (p := Rw.ok) es (fun x hx => sh_row (hes x hx))
    exact ⟨_, rs, rfl, .inr ⟨.none, .inl rfl, by rw [cz46]; rfl⟩, ho⟩
  | bool b h => simp [Tryz.underlying23] at h
  | int n h => simp [Tryz.underlying23] at h
  | str s h => simp [Tryz.underlying23] at h
  | struct cs h => simp [Tryz.underlying23] at h
def Tb.ok0 (t : Tb) : Prop := Ls 1 t.xv (wds t.vs) ∧ Ls 1 t.xr (rws t.rs) ∧ ∀ r ∈ t.rs, r.ok
theorem sh_tab {us : List AV} (h : Shp Tryz.prog 25 us) : ∃ t : Tb, t.ok0 ∧ us = t.cells := by
  cases h with
  | struct cs h hl ih =>
    simp [Tryz.underlying25] at h; subst h
    match us, hl.trans cz25 with
    | [a, b], _ =>
      simp [cz22, cz23] at ih
      obtain ⟨h0, h1⟩ := ih
      obtain ⟨x, vs, e0, g0⟩ := sh_wds h0
      obtain ⟨y, rs, e1, g1, g2⟩ := sh_rws h1
      simp at e0 e1
      subst e0 e1
      exact ⟨⟨vs, rs, a, b⟩, ⟨g0, g1, g2⟩, rfl⟩
  | nilsl h => simp [Tryz.underlying25] at h
  | lst es h => simp [Tryz.underlying25] at h
  | bool b h => simp [Tryz.underlying25] at h
  | int n h => simp [Tryz.underlying25] at h
  | str s h => simp [Tryz.underlying25] at h
theorem bulkAll_sum {H : Type} : ∀ l : List (DataW H), Rows.uptoBulkAll l = (l.map Rows.uptoBulk).sum
  | [] => by simp [Rows.uptoBulkAll]
  | d :: l => by rw [Rows.uptoBulkAll, bulkAll_sum l, List.map_cons, List.sum_cons]
theorem bulk_one {H : Type} : ∀ d : DataW H, 1 ≤ Rows.uptoBulk d := by
  intro d
  cases d with
  | lit l => cases l <;> simp [Rows.uptoBulk]
  | _ => simp [Rows.uptoBulk]
theorem bulky {H : Type} : Bulky (Rows.uptoBulk (H := H)) where
  one := bulk_one
  str bs := by simp [Rows.uptoBulk]
  slice el sp := by rw [Rows.uptoBulk, bulkAll_sum el]; omega
  agg ps := by rw [Rows.uptoBulk, bulkAll_sum ps]; omega
theorem avn_ls {z : Nat} {x : AV} {es : List (List AV)} (h : Ls z x es) : avnE es = avn x := by
  rcases h with ⟨rfl, rfl⟩ | ⟨o, _, rfl⟩
  · rfl
  · rfl
theorem avnE_wds : ∀ vs : List (List UInt8), avnE (wds vs) = (vs.map fun w => w.length + 1).sum
  | [] => rfl
  | w :: vs => by
    have ih := avnE_wds vs
    simp only [wds, List.map_cons, avnE, avnL, avn, List.sum_cons] at ih ⊢
    omega
theorem avnE_len : ∀ es : List (List AV), es.length ≤ avnE es
  | [] => by simp [avnE]
  | e :: es => by
    have := avnE_len es
    simp only [avnE, List.length_cons]
    omega
theorem avnE_rws : ∀ rs : List Rw, (∀ r ∈ rs, r.ok) → (rs.map fun r => 259 * r.vl.length + 4).sum ≤ 259 * avnE (rws rs)
  | [], _ => by simp
  | r :: rs, h => by
    have ih := avnE_rws rs (fun x hx => h x (by simp [hx]))
    have h1 := avn_ls (h r (by simp)).1
    have h2 := avnE_len (vals r.vl)
    rw [vals_len] at h2
    simp only [rws, List.map_cons, avnE, avnL, List.sum_cons] at ih ⊢
    omega
theorem Tb.ok_of {t : Tb} (h : t.ok0) (hb : avnL t.cells ≤ 1048576) : t.ok := by
  obtain ⟨h1, h2, h3⟩ := h
  have a1 := avn_ls h1
  have a2 := avn_ls h2
  have a3 := avnE_wds t.vs
  have a4 := avnE_rws t.rs h3
  have a5 := avnE_len (wds t.vs)
  have a6 := avnE_len (rws t.rs)
  rw [wds_len] at a5
  rw [rws_len] at a6
  simp only [Tb.cells, avnL] at hb
  refine ⟨h1, h2, h3, by omega, by omega, ?_⟩
  unfold Tb.bulk
  omega
theorem Tb.bulk_le {t : Tb} (h : t.ok0) : t.bulk ≤ 259 * avnL t.cells := by
  obtain ⟨h1, h2, h3⟩ := h
  have a1 := avn_ls h1
  have a2 := avn_ls h2
  have a3 := avnE_wds t.vs
  have a4 := avnE_rws t.rs h3
  simp only [Tb.cells, avnL]
  unfold Tb.bulk
  omega
theorem sh_ints {us : List AV} (h : Shp Tryz.prog 43 us) : ∃ (x : AV) (ks : List Int), us = [x] ∧ Ls 1 x (nums ks) := by
  cases h with
  | nilsl h => exact ⟨.nilsl, [], rfl, .inl ⟨rfl, rfl⟩⟩
  | lst es h hes hl hb =>
    simp [Tryz.underlying43] at h; subst h
    obtain ⟨ks, rfl, _⟩ := all_of (f := fun k : Int => [AV.int .i64 k]) (p := fun _ => True) es (fun x hx => by obtain ⟨n, _, e⟩ := sh_int (hes x hx); exact ⟨n, trivial, e⟩)
    exact ⟨_, ks, rfl, .inr ⟨.none, .inl rfl, by rw [cz3]; rfl⟩⟩
  | bool b h => simp [Tryz.underlying43] at h
  | int n h => simp [Tryz.underlying43] at h
  | str s h => simp [Tryz.underlying43] at h
  | struct cs h => simp [Tryz.underlying43] at h
def Se.ok0 (s : Se) : Prop := Ls 1 s.kv (nums s.ks) ∧ I64 s.at_ ∧ s.t.ok0
theorem sh_sheet {us : List AV} (h : Shp Tryz.prog 45 us) : ∃ s : Se, s.ok0 ∧ us = s.cells := by
  cases h with
  | struct cs h hl ih =>
    simp [Tryz.underlying45] at h; subst h
    match us, hl.trans cz45 with
    | [a, b, c, d], _ =>
      simp [cz43, cz3, cz25] at ih
      obtain ⟨h0, h1, h2⟩ := ih
      obtain ⟨x, ks, e0, g0⟩ := sh_ints h0
      obtain ⟨n, i0, e1⟩ := sh_int h1
      obtain ⟨t, ok, e2⟩ := sh_tab h2
      simp [Tb.cells] at e0 e1 e2
      obtain ⟨e2, e3⟩ := e2
      subst e0 e1 e2 e3
      exact ⟨⟨ks, a, n, t⟩, ⟨g0, i0, ok⟩, rfl⟩
  | nilsl h => simp [Tryz.underlying45] at h
  | lst es h => simp [Tryz.underlying45] at h
  | bool b h => simp [Tryz.underlying45] at h
  | int n h => simp [Tryz.underlying45] at h
  | str s h => simp [Tryz.underlying45] at h
theorem sh_sheets {us : List AV} (h : Shp Tryz.prog 34 us) : ∃ (x : AV) (l : List Se), us = [x] ∧ Ls 4 x (ses l) ∧ ∀ s ∈ l, s.ok0 := by
  cases h with
  | nilsl h => exact ⟨.nilsl, [], rfl, .inl ⟨rfl, rfl⟩, by simp⟩
  | lst es h hes hl hb =>
    simp [Tryz.underlying34] at h; subst h
    obtain ⟨l, rfl, ho⟩ := all_of (f := Se.cells) (p := Se.ok0) es (fun x hx => sh_sheet (hes x hx))
    exact ⟨_, l, rfl, .inr ⟨.none, .inl rfl, by rw [cz45]; rfl⟩, ho⟩
  | bool b h => simp [Tryz.underlying34] at h
  | int n h => simp [Tryz.underlying34] at h
  | str s h => simp [Tryz.underlying34] at h
  | struct cs h => simp [Tryz.underlying34] at h
theorem avnL_cells (s : Se) : avnL s.cells = avn s.kv + avnL s.t.cells := by
  simp only [Se.cells, Tb.cells, avnL, avn]
  omega
theorem avnE_ses : ∀ l : List Se, (∀ s ∈ l, s.ok0) → (l.map fun s => s.t.bulk).sum ≤ 259 * avnE (ses l) ∧ ∀ s ∈ l, avnL s.cells ≤ avnE (ses l)
  | [], _ => by simp
  | s :: l, h => by
    obtain ⟨i1, i2⟩ := avnE_ses l (fun x hx => h x (by simp [hx]))
    have h1 := Tb.bulk_le (h s (by simp)).2.2
    have h2 := avnL_cells s
    have h3 : avnE (ses (s :: l)) = avnL s.cells + 1 + avnE (ses l) := rfl
    refine ⟨by rw [List.map_cons, List.sum_cons, h3]; omega, fun x hx => ?_⟩
    rcases List.mem_cons.1 hx with rfl | hx
    · omega
    · have := i2 x hx
      omega
theorem open_sheets {H : Type} {enc : TypeId × Value → H} {W W0 : World} {held : Bool} {r : Reach} {b0 : Nat} {v : Value} {d : DataW H} {ps : List MemPlace} (hok : Value.okWide Tryz.prog W0 r b0 34 v) (hd : DataW.Trod enc Tryz.prog W 0 (fun _ => true) held 34 v d ps) (hwt : Rows.uptoBulk d ≤ 1048576) :
    ∃ x : Sh, SesV x.x x.l ∧ RelV flatG W x.x v ∧ noFlag x.x := by
  obtain ⟨u, hs, hr, hn, hb⟩ := read_sliceB (H := H) plains_ok plains_small bulky (t := 34) (by decide) Tryz.underlying34 hok hd hwt
  obtain ⟨x, l, e, h1, h2⟩ := sh_sheets hs
  simp at e
  subst e
  have a1 := avn_ls h1
  obtain ⟨a2, a3⟩ := avnE_ses l h2
  have a4 := avnE_len (ses l)
  rw [ses_len] at a4
  refine ⟨⟨l, u⟩, ⟨h1, fun s hs => ?_, by simp only; omega, by simp only; omega⟩, hr, hn⟩
  obtain ⟨g1, g2, g3⟩ := h2 s hs
  have b1 := a3 s hs
  have b2 := avnL_cells s
  have b3 := avn_ls g1
  have b4 := avnE_len (nums s.ks)
  rw [nums_len] at b4
  exact ⟨g1, by omega, g2, Tb.ok_of g3 (by omega)⟩
theorem open_tab {H : Type} {enc : TypeId × Value → H} {W W0 : World} {held : Bool} {r : Reach} {b0 : Nat} {v : Value} {d : DataW H} {ps : List MemPlace} (hok : Value.okWide Tryz.prog W0 r b0 25 v) (hd : DataW.Trod enc Tryz.prog W 0 (fun _ => true) held 25 v d ps) (hwt : Rows.uptoBulk d ≤ 1048576) :
    ∃ x : Tb, x.ok ∧ RelV flatG W (.agg x.cells) v ∧ noFlag (.agg x.cells) := by
  obtain ⟨us, hs, hr, hn, hb⟩ := read_structB (H := H) plains_ok plains_small bulky (t := 25) (by decide) Tryz.underlying25 hok hd hwt
  obtain ⟨x, h1, rfl⟩ := sh_tab hs
  exact ⟨x, x.ok_of h1 (by omega), hr, hn⟩
end Go.Proofs.YtafeikbbjhmlaaaGreatDoor.Sx.T
