/- Formulas that are handed, read as trees. -/
import Derived.Test.YtnmaahfipddkmaaGreatEvE
import Derived.Test.YtnmaahfipddkmaaGreatEvU
import Derived.Test.YtnmaahfipddkmaaGreatRows
import Derived.Test.YtnmaahfipddkmaaGreatWe
import Derived.Test.YtnmaahfipddkmaaGreatProg
import Derived.KernelRfl
set_option linter.unusedVariables false
set_option linter.unusedSimpArgs false
set_option maxRecDepth 100000
set_option maxHeartbeats 4000000
namespace Go.Proofs.YtnmaahfipddkmaaGreat.Sx.T
open Go Go.Proofs.YtnmaahfipddkmaaGreat.Sx Go.RowKit Go.Proofs Go.Proofs.YtnmaahfipddkmaaGreat
def plains : List TypeId := [29, 39, 55, 23, 26, 27, 22, 37, 25, 3, 2, 9, 4]
theorem plains_ok : plainSet Tryz.prog plains = true := by kernel_rfl
theorem i64_in {n : Int} (h : IntIn .i64 n) : I64 n := by
  unfold IntIn at h
  simp [Lit.wf] at h
  have h1 : IntKind.i64.min = -9223372036854775808 := by decide
  have h2 : IntKind.i64.max = 9223372036854775807 := by decide
  unfold I64
  omega
def Mo (t : TypeId) (us : List AV) : Prop :=
  (t = 3 → ∃ n, us = [.int .i64 n]) ∧ (t = 2 → ∃ n, I64 n ∧ us = [.int .i64 n]) ∧ (t = 4 → ∃ b, us = [.bool b]) ∧ (t = 9 → ∃ s, us = [.str s]) ∧ (t = 22 → ∃ b ws, us = [slv b 1 (tx ws)] ∧ ws.length * 16 ≤ 140737488351232) ∧
  (t = 37 → ∃ k n d s, I64 n ∧ I64 d ∧ us = [.int .i64 k, .int .i64 n, .int .i64 d, .str s]) ∧ (t = 25 → ∃ lo hi o, us = [.int .i64 lo, .int .i64 hi, .bool o]) ∧
  (t = 39 → ∃ x : Tm, x.fit ∧ us = x.cells) ∧ (t = 23 → ∃ b xs, us = [slv b 7 (Tm.cellsL xs)] ∧ Tm.fitL xs ∧ xs.length * 88 ≤ 140737488351232) ∧ (t = 29 → ∃ x : Fm, x.fit ∧ us = x.cells) ∧ (t = 55 → ∃ x : Rx, x.fit ∧ us = x.cells) ∧
  (t = 26 → ∃ b xs, us = [slv b 10 (Fm.cellsL xs)] ∧ Fm.fitL xs ∧ xs.length * 152 ≤ 140737488351232) ∧ (t = 27 → ∃ b xs, us = [slv b 3 (Rx.cellsL xs)] ∧ Rx.fitL xs ∧ xs.length * 56 ≤ 140737488351232)
theorem cz3 : Tryz.prog.cellsOf 3 = 1 := by kernel_rfl
theorem cz2 : Tryz.prog.cellsOf 2 = 1 := by kernel_rfl
theorem cz4 : Tryz.prog.cellsOf 4 = 1 := by kernel_rfl
theorem cz9 : Tryz.prog.cellsOf 9 = 1 := by kernel_rfl
theorem cz22 : Tryz.prog.cellsOf 22 = 1 := by kernel_rfl
theorem cz23 : Tryz.prog.cellsOf 23 = 1 := by kernel_rfl
theorem cz26 : Tryz.prog.cellsOf 26 = 1 := by kernel_rfl
theorem cz27 : Tryz.prog.cellsOf 27 = 1 := by kernel_rfl
theorem cz37 : Tryz.prog.cellsOf 37 = 4 := by kernel_rfl
theorem cz25 : Tryz.prog.cellsOf 25 = 3 := by kernel_rfl
theorem cz39 : Tryz.prog.cellsOf 39 = 7 := by kernel_rfl
theorem cz29 : Tryz.prog.cellsOf 29 = 10 := by kernel_rfl
theorem cz55 : Tryz.prog.cellsOf 55 = 3 := by kernel_rfl
theorem bz9 : Tryz.prog.bytesOf 9 = 16 := by kernel_rfl
theorem bz39 : Tryz.prog.bytesOf 39 = 88 := by kernel_rfl
theorem bz29 : Tryz.prog.bytesOf 29 = 152 := by kernel_rfl
theorem bz55 : Tryz.prog.bytesOf 55 = 56 := by kernel_rfl
theorem reach_eq : reachBytes = 140737488351232 := by decide
theorem mo_bool {t : TypeId} (b : Bool) (h : Tryz.prog.underlying t = some .bool) : Mo t [.bool b] := by
  unfold Mo
  refine ⟨?_, ?_, ?_, ?_, ?_, ?_, ?_, ?_, ?_, ?_, ?_, ?_, ?_⟩ <;> rintro rfl
  case refine_3 => exact ⟨b, rfl⟩
  all_goals (exfalso; simp [Tryz.underlying3, Tryz.underlying2, Tryz.underlying4, Tryz.underlying9, Tryz.underlying22, Tryz.underlying37, Tryz.underlying25, Tryz.underlying39, Tryz.underlying23, Tryz.underlying29, Tryz.underlying55, Tryz.underlying26, Tryz.underlying27] at h)
theorem mo_int {t : TypeId} {k : IntKind} (n : Int) (h : Tryz.prog.underlying t = some (.int k)) (hn : IntIn k n) : Mo t [.int k n] := by
  unfold Mo
  refine ⟨?_, ?_, ?_, ?_, ?_, ?_, ?_, ?_, ?_, ?_, ?_, ?_, ?_⟩ <;> rintro rfl
  case refine_1 => simp [Tryz.underlying3] at h; subst h; exact ⟨n, rfl⟩
  case refine_2 => simp [Tryz.underlying2] at h; subst h; exact ⟨n, i64_in hn, rfl⟩
  all_goals (exfalso; simp [Tryz.underlying3, Tryz.underlying2, Tryz.underlying4, Tryz.underlying9, Tryz.underlying22, Tryz.underlying37, Tryz.underlying25, Tryz.underlying39, Tryz.underlying23, Tryz.underlying29, Tryz.underlying55, Tryz.underlying26, Tryz.underlying27] at h)
theorem mo_str {t : TypeId} (s : List UInt8) (h : Tryz.prog.underlying t = some .string) : Mo t [.str s] := by
  unfold Mo
  refine ⟨?_, ?_, ?_, ?_, ?_, ?_, ?_, ?_, ?_, ?_, ?_, ?_, ?_⟩ <;> rintro rfl
  case refine_4 => exact ⟨s, rfl⟩
  all_goals (exfalso; simp [Tryz.underlying3, Tryz.underlying2, Tryz.underlying4, Tryz.underlying9, Tryz.underlying22, Tryz.underlying37, Tryz.underlying25, Tryz.underlying39, Tryz.underlying23, Tryz.underlying29, Tryz.underlying55, Tryz.underlying26, Tryz.underlying27] at h)
theorem mo_nil {t e : TypeId} (h : Tryz.prog.underlying t = some (.slice e)) : Mo t [.nilsl] := by
  unfold Mo
  refine ⟨?_, ?_, ?_, ?_, ?_, ?_, ?_, ?_, ?_, ?_, ?_, ?_, ?_⟩ <;> rintro rfl
  case refine_5 => exact ⟨true, [], rfl, by simp⟩
  case refine_9 => exact ⟨true, [], rfl, trivial, by simp⟩
  case refine_12 => exact ⟨true, [], rfl, trivial, by simp⟩
  case refine_13 => exact ⟨true, [], rfl, trivial, by simp⟩
  all_goals (exfalso; simp [Tryz.underlying3, Tryz.underlying2, Tryz.underlying4, Tryz.underlying9, Tryz.underlying22, Tryz.underlying37, Tryz.underlying25, Tryz.underlying39, Tryz.underlying23, Tryz.underlying29, Tryz.underlying55, Tryz.underlying26, Tryz.underlying27] at h)
theorem texts_of : ∀ es : List (List AV), (∀ x ∈ es, ∃ s, x = [.str s]) → ∃ ws, es = tx ws
  | [], _ => ⟨[], rfl⟩
  | e :: es, h => by
    obtain ⟨s, rfl⟩ := h e (by simp)
    obtain ⟨ws, rfl⟩ := texts_of es (fun x hx => h x (by simp [hx]))
    exact ⟨s :: ws, rfl⟩
theorem Tm.of : ∀ es : List (List AV), (∀ x ∈ es, ∃ t : Tm, t.fit ∧ x = t.cells) → ∃ ts, es = Tm.cellsL ts ∧ Tm.fitL ts
  | [], _ => ⟨[], rfl, trivial⟩
  | e :: es, h => by
    obtain ⟨t, ht, rfl⟩ := h e (by simp)
    obtain ⟨ts, rfl, hts⟩ := Tm.of es (fun x hx => h x (by simp [hx]))
    exact ⟨t :: ts, rfl, ht, hts⟩
theorem Fm.of : ∀ es : List (List AV), (∀ x ∈ es, ∃ t : Fm, t.fit ∧ x = t.cells) → ∃ ts, es = Fm.cellsL ts ∧ Fm.fitL ts
  | [], _ => ⟨[], rfl, trivial⟩
  | e :: es, h => by
    obtain ⟨t, ht, rfl⟩ := h e (by simp)
    obtain ⟨ts, rfl, hts⟩ := Fm.of es (fun x hx => h x (by simp [hx]))
    exact ⟨t :: ts, rfl, ht, hts⟩
theorem Rx.of : ∀ es : List (List AV), (∀ x ∈ es, ∃ t : Rx, t.fit ∧ x = t.cells) → ∃ ts, es = Rx.cellsL ts ∧ Rx.fitL ts
  | [], _ => ⟨[], rfl, trivial⟩
  | e :: es, h => by
    obtain ⟨t, ht, rfl⟩ := h e (by simp)
    obtain ⟨ts, rfl, hts⟩ := Rx.of es (fun x hx => h x (by simp [hx]))
    exact ⟨t :: ts, rfl, ht, hts⟩
theorem mo_lst {t e : TypeId} (es : List (List AV)) (h : Tryz.prog.underlying t = some (.slice e)) (ih : ∀ x ∈ es, Mo e x) (hl : es.length * Tryz.prog.bytesOf e ≤ reachBytes) : Mo t [.lst .none (Tryz.prog.cellsOf e) es] := by
  rw [reach_eq] at hl
  unfold Mo
  refine ⟨?_, ?_, ?_, ?_, ?_, ?_, ?_, ?_, ?_, ?_, ?_, ?_, ?_⟩ <;> rintro rfl
  case refine_5 =>
    simp [Tryz.underlying22] at h; subst h
    obtain ⟨ws, rfl⟩ := texts_of es (fun x hx => (ih x hx).2.2.2.1 rfl)
    rw [bz9] at hl
    exact ⟨false, ws, by rw [cz9]; rfl, by simpa [tx] using hl⟩
  case refine_9 =>
    simp [Tryz.underlying23] at h; subst h
    obtain ⟨ts, rfl, hf⟩ := Tm.of es (fun x hx => (ih x hx).2.2.2.2.2.2.2.1 rfl)
    rw [bz39, Tm.cellsL_len] at hl
    exact ⟨false, ts, by rw [cz39]; rfl, hf, hl⟩
  case refine_12 =>
    simp [Tryz.underlying26] at h; subst h
    obtain ⟨ts, rfl, hf⟩ := Fm.of es (fun x hx => (ih x hx).2.2.2.2.2.2.2.2.2.1 rfl)
    rw [bz29, Fm.cellsL_len] at hl
    exact ⟨false, ts, by rw [cz29]; rfl, hf, hl⟩
  case refine_13 =>
    simp [Tryz.underlying27] at h; subst h
    obtain ⟨ts, rfl, hf⟩ := Rx.of es (fun x hx => (ih x hx).2.2.2.2.2.2.2.2.2.2.1 rfl)
    rw [bz55, Rx.cellsL_len] at hl
    exact ⟨false, ts, by rw [cz55]; rfl, hf, hl⟩
  all_goals (exfalso; simp [Tryz.underlying3, Tryz.underlying2, Tryz.underlying4, Tryz.underlying9, Tryz.underlying22, Tryz.underlying37, Tryz.underlying25, Tryz.underlying39, Tryz.underlying23, Tryz.underlying29, Tryz.underlying55, Tryz.underlying26, Tryz.underlying27] at h)
theorem mo_struct {t : TypeId} {fs : Array Field} (cs : List AV) (h : Tryz.prog.underlying t = some (.struct fs)) (hl : cs.length = Tryz.prog.cellsOf t) (ih : ∀ f ∈ fs.toList, Mo f.type ((cs.drop f.offset).take (Tryz.prog.cellsOf f.type))) : Mo t cs := by
  unfold Mo
  refine ⟨?_, ?_, ?_, ?_, ?_, ?_, ?_, ?_, ?_, ?_, ?_, ?_, ?_⟩ <;> rintro rfl
  case refine_6 =>
    simp [Tryz.underlying37] at h; subst h
    match cs, hl.trans cz37 with
    | [a, b, c, d], _ =>
      simp [cz3, cz2, cz4, cz9, cz22, cz23, cz26, cz27, cz37, cz25] at ih
      obtain ⟨h0, h1, h2, h3⟩ := ih
      obtain ⟨k, e0⟩ := h0.1 rfl
      obtain ⟨n, i1, e1⟩ := h1.2.1 rfl
      obtain ⟨m, i2, e2⟩ := h2.2.1 rfl
      obtain ⟨s, e3⟩ := h3.2.2.2.1 rfl
      simp at e0 e1 e2 e3
      subst e0 e1 e2 e3
      exact ⟨k, n, m, s, i1, i2, rfl⟩
  case refine_7 =>
    simp [Tryz.underlying25] at h; subst h
    match cs, hl.trans cz25 with
    | [a, b, c], _ =>
      simp [cz3, cz2, cz4, cz9, cz22, cz23, cz26, cz27, cz37, cz25] at ih
      obtain ⟨h0, h1, h2⟩ := ih
      obtain ⟨k, _, e0⟩ := h0.2.1 rfl
      obtain ⟨n, _, e1⟩ := h1.2.1 rfl
      obtain ⟨m, e2⟩ := h2.2.2.1 rfl
      simp at e0 e1 e2
      subst e0 e1 e2
      exact ⟨k, n, m, rfl⟩
  case refine_8 =>
    simp [Tryz.underlying39] at h; subst h
    match cs, hl.trans cz39 with
    | [a, b, c, d, e, f, g], _ =>
      simp [cz3, cz2, cz4, cz9, cz22, cz23, cz26, cz27, cz37, cz25] at ih
      obtain ⟨h0, h1, h2, h3⟩ := ih
      obtain ⟨k, e0⟩ := h0.1 rfl
      obtain ⟨n, e1⟩ := h1.2.2.2.1 rfl
      obtain ⟨vk, vn, vd, vs, i1, i2, e2⟩ := h2.2.2.2.2.2.1 rfl
      obtain ⟨q, ts, e3, hf, hb⟩ := h3.2.2.2.2.2.2.2.2.1 rfl
      simp at e0 e1 e2 e3
      obtain ⟨rfl, rfl, rfl, rfl⟩ := e2
      subst e0 e1 e3
      exact ⟨.mk k n vk vn vd vs q ts, ⟨i1, i2, hb, hf⟩, rfl⟩
  case refine_10 =>
    simp [Tryz.underlying29] at h; subst h
    match cs, hl.trans cz29 with
    | [a, b, c, d, e, f, g, i, j, l], _ =>
      simp [cz3, cz2, cz4, cz9, cz22, cz23, cz26, cz27, cz37, cz25] at ih
      obtain ⟨h0, h1, h2, h3, h4, h5, h6, h7⟩ := ih
      obtain ⟨k, e0⟩ := h0.1 rfl
      obtain ⟨n, e1⟩ := h1.2.2.2.1 rfl
      obtain ⟨op, e2⟩ := h2.1 rfl
      obtain ⟨x, ws, e3, p2⟩ := h3.2.2.2.2.1 rfl
      obtain ⟨y, tes, e4, q2, q3⟩ := h4.2.2.2.2.2.2.2.2.1 rfl
      obtain ⟨lo, hi, o, e5⟩ := h5.2.2.2.2.2.2.1 rfl
      obtain ⟨z, ses, e6, r2, r3⟩ := h6.2.2.2.2.2.2.2.2.2.2.2.1 rfl
      obtain ⟨u, res, e7, s2, s3⟩ := h7.2.2.2.2.2.2.2.2.2.2.2.2 rfl
      simp at e0 e1 e2 e3 e4 e5 e6 e7
      obtain ⟨rfl, rfl, rfl⟩ := e5
      subst e0 e1 e2 e3 e4 e6 e7
      refine ⟨.mk k n op x ws y tes lo hi o z ses u res, ?_, rfl⟩
      simp only [Fm.fit]
      exact ⟨p2, q3, r3, s3, q2, r2, s2⟩
  case refine_11 =>
    simp [Tryz.underlying55] at h; subst h
    match cs, hl.trans cz55 with
    | [a, b, c], _ =>
      simp [cz3, cz2, cz4, cz9, cz22, cz23, cz26, cz27, cz37, cz25] at ih
      obtain ⟨h0, h1, h2⟩ := ih
      obtain ⟨k, e0⟩ := h0.1 rfl
      obtain ⟨z, ses, e6, r2, r3⟩ := h1.2.2.2.2.2.2.2.2.2.2.2.1 rfl
      obtain ⟨u, res, e7, s2, s3⟩ := h2.2.2.2.2.2.2.2.2.2.2.2.2 rfl
      simp at e0 e6 e7
      subst e0 e6 e7
      refine ⟨.mk k z ses u res, ?_, rfl⟩
      simp only [Rx.fit]
      exact ⟨r3, s3, r2, s2⟩
  all_goals (exfalso; simp [Tryz.underlying3, Tryz.underlying2, Tryz.underlying4, Tryz.underlying9, Tryz.underlying22, Tryz.underlying37, Tryz.underlying25, Tryz.underlying39, Tryz.underlying23, Tryz.underlying29, Tryz.underlying55, Tryz.underlying26, Tryz.underlying27] at h)
theorem mo {t : TypeId} {us : List AV} (h : Shp Tryz.prog t us) : Mo t us := by
  induction h with
  | bool b h => exact mo_bool b h
  | int n h hn => exact mo_int n h hn
  | str s h _ => exact mo_str _ h
  | nilsl h => exact mo_nil h
  | lst es h _ _ hb ih => exact mo_lst es h ih hb
  | struct cs h hl _ ih => exact mo_struct cs h hl ih
theorem bulkAll_sum {H : Type} : ∀ l : List (DataW H), Rows.uptoBulkAll l = (l.map Rows.uptoBulk).sum
  | [] => by simp [Rows.uptoBulkAll]
  | d :: l => by rw [Rows.uptoBulkAll, bulkAll_sum l, List.map_cons, List.sum_cons]
theorem bulk_one {H : Type} : ∀ d : DataW H, 1 ≤ Rows.uptoBulk d := by
  intro d
  cases d with
  | lit l => cases l <;> simp [Rows.uptoBulk]
  | _ => simp [Rows.uptoBulk]
theorem bulky {H : Type} : Bulky (Rows.uptoBulk (H := H)) where
  one := bulk_one
  str bs := by simp [Rows.uptoBulk]
  slice el sp := by rw [Rows.uptoBulk, bulkAll_sum el]; omega
  agg ps := by rw [Rows.uptoBulk, bulkAll_sum ps]; omega
theorem plains_small : plains.all (fun t => decide (Tryz.prog.bytesOf t ≤ 4096)) = true := by kernel_rfl
theorem avn_slv (b : Bool) (z : Nat) (es : List (List AV)) : avn (slv b z es) = avnE es := by
  unfold slv
  by_cases h : b = true ∧ es = []
  · rw [if_pos h, h.2]; rfl
  · rw [if_neg h]; rfl
mutual
theorem Tm.nn_avn : ∀ t : Tm, t.nn ≤ avnL t.cells + 1
  | .mk k n vk vn vd vs b ss => by
    have := Tm.nnL_avn ss
    rw [Tm.nn, Tm.cells]
    simp only [avnL, avn_slv]
    omega
theorem Tm.nnL_avn : ∀ l : List Tm, Tm.nnL l ≤ avnE (Tm.cellsL l)
  | [] => Nat.zero_le _
  | t :: l => by
    have h1 := Tm.nn_avn t
    have h2 := Tm.nnL_avn l
    rw [Tm.nnL, Tm.cellsL, avnE]
    omega
end
theorem open_fm {H : Type} {enc : TypeId × Value → H} {W W0 : World} {held : Bool} {r : Reach} {b0 : Nat} {v : Value} {d : DataW H} {ps : List MemPlace} (hok : Value.okWide Tryz.prog W0 r b0 29 v) (hd : DataW.Trod enc Tryz.prog W 0 (fun _ => true) held 29 v d ps) (hwt : Rows.uptoBulk d ≤ 1048576) :
    ∃ us, (∃ t : Fm, t.fit ∧ us = t.cells) ∧ RelV flatG W (.agg us) v ∧ noFlag (.agg us) := by
  obtain ⟨us, hs, hr, hn, _⟩ := read_structB (H := H) plains_ok plains_small bulky (t := 29) (by decide) Tryz.underlying29 hok hd hwt
  exact ⟨us, (mo hs).2.2.2.2.2.2.2.2.2.1 rfl, hr, hn⟩
theorem open_tm {H : Type} {enc : TypeId × Value → H} {W W0 : World} {held : Bool} {r : Reach} {b0 : Nat} {v : Value} {d : DataW H} {ps : List MemPlace} (hok : Value.okWide Tryz.prog W0 r b0 39 v) (hd : DataW.Trod enc Tryz.prog W 0 (fun _ => true) held 39 v d ps) (hwt : Rows.uptoBulk d ≤ 1048576) :
    ∃ us, (∃ t : Tm, t.fit ∧ t.nn ≤ 1048576 ∧ us = t.cells) ∧ RelV flatG W (.agg us) v ∧ noFlag (.agg us) := by
  obtain ⟨us, hs, hr, hn, hb⟩ := read_structB (H := H) plains_ok plains_small bulky (t := 39) (by decide) Tryz.underlying39 hok hd hwt
  obtain ⟨t, ht, rfl⟩ := (mo hs).2.2.2.2.2.2.2.1 rfl
  have := Tm.nn_avn t
  exact ⟨_, ⟨t, ht, by omega, rfl⟩, hr, hn⟩
end Go.Proofs.YtnmaahfipddkmaaGreat.Sx.T
