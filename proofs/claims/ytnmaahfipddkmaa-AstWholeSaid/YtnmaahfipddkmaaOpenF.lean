/- Formulas that are handed, read as trees. -/
import Derived.Test.YtnmaahfipddkmaaEvE
import Derived.Test.YtnmaahfipddkmaaWb
import Derived.Test.YtnmaahfipddkmaaProg
import Derived.KernelRfl
set_option linter.unusedVariables false
set_option linter.unusedSimpArgs false
set_option maxRecDepth 100000
set_option maxHeartbeats 4000000
namespace Go.Proofs.Ytnmaahfipddkmaa.Sx.T
open Go Go.Proofs.Ytnmaahfipddkmaa.Sx Go.RowKit Go.Proofs
def plains : List TypeId := [32, 45, 65, 26, 29, 30, 25, 43, 28, 3, 2, 9, 4]
theorem plains_ok : plainSet Try.prog plains = true := by kernel_rfl
theorem i64_in {n : Int} (h : IntIn .i64 n) : I64 n := by
  unfold IntIn at h
  simp [Lit.wf] at h
  have h1 : IntKind.i64.min = -9223372036854775808 := by decide
  have h2 : IntKind.i64.max = 9223372036854775807 := by decide
  unfold I64
  omega
def Mo (t : TypeId) (us : List AV) : Prop :=
  (t = 3 → ∃ n, us = [.int .i64 n]) ∧ (t = 2 → ∃ n, I64 n ∧ us = [.int .i64 n]) ∧ (t = 4 → ∃ b, us = [.bool b]) ∧ (t = 9 → ∃ s, us = [.str s]) ∧ (t = 25 → ∃ b ws, us = [slv b 1 (tx ws)] ∧ ws.length * 16 ≤ 140737488351232) ∧
  (t = 43 → ∃ k n d s, I64 n ∧ I64 d ∧ us = [.int .i64 k, .int .i64 n, .int .i64 d, .str s]) ∧ (t = 28 → ∃ lo hi o, us = [.int .i64 lo, .int .i64 hi, .bool o]) ∧
  (t = 45 → ∃ x : Tm, x.fit ∧ us = x.cells) ∧ (t = 26 → ∃ b xs, us = [slv b 7 (Tm.cellsL xs)] ∧ Tm.fitL xs ∧ xs.length * 88 ≤ 140737488351232) ∧ (t = 32 → ∃ x : Fm, x.fit ∧ us = x.cells) ∧ (t = 65 → ∃ x : Rx, x.fit ∧ us = x.cells) ∧
  (t = 29 → ∃ b xs, us = [slv b 10 (Fm.cellsL xs)] ∧ Fm.fitL xs ∧ xs.length * 152 ≤ 140737488351232) ∧ (t = 30 → ∃ b xs, us = [slv b 3 (Rx.cellsL xs)] ∧ Rx.fitL xs ∧ xs.length * 56 ≤ 140737488351232)
theorem cz3 : Try.prog.cellsOf 3 = 1 := by kernel_rfl
theorem cz2 : Try.prog.cellsOf 2 = 1 := by kernel_rfl
theorem cz4 : Try.prog.cellsOf 4 = 1 := by kernel_rfl
theorem cz9 : Try.prog.cellsOf 9 = 1 := by kernel_rfl
theorem cz25 : Try.prog.cellsOf 25 = 1 := by kernel_rfl
theorem cz26 : Try.prog.cellsOf 26 = 1 := by kernel_rfl
theorem cz29 : Try.prog.cellsOf 29 = 1 := by kernel_rfl
theorem cz30 : Try.prog.cellsOf 30 = 1 := by kernel_rfl
theorem cz43 : Try.prog.cellsOf 43 = 4 := by kernel_rfl
theorem cz28 : Try.prog.cellsOf 28 = 3 := by kernel_rfl
theorem cz45 : Try.prog.cellsOf 45 = 7 := by kernel_rfl
theorem cz32 : Try.prog.cellsOf 32 = 10 := by kernel_rfl
theorem cz65 : Try.prog.cellsOf 65 = 3 := by kernel_rfl
theorem bz9 : Try.prog.bytesOf 9 = 16 := by kernel_rfl
theorem bz45 : Try.prog.bytesOf 45 = 88 := by kernel_rfl
theorem bz32 : Try.prog.bytesOf 32 = 152 := by kernel_rfl
theorem bz65 : Try.prog.bytesOf 65 = 56 := by kernel_rfl
theorem reach_eq : reachBytes = 140737488351232 := by decide
theorem mo_bool {t : TypeId} (b : Bool) (h : Try.prog.underlying t = some .bool) : Mo t [.bool b] := by
  unfold Mo
  refine ⟨?_, ?_, ?_, ?_, ?_, ?_, ?_, ?_, ?_, ?_, ?_, ?_, ?_⟩ <;> rintro rfl
  case refine_3 => exact ⟨b, rfl⟩
  all_goals (exfalso; simp [Try.underlying3, Try.underlying2, Try.underlying4, Try.underlying9, Try.underlying25, Try.underlying43, Try.underlying28, Try.underlying45, Try.underlying26, Try.underlying32, Try.underlying65, Try.underlying29, Try.underlying30] at h)
theorem mo_int {t : TypeId} {k : IntKind} (n : Int) (h : Try.prog.underlying t = some (.int k)) (hn : IntIn k n) : Mo t [.int k n] := by
  unfold Mo
  refine ⟨?_, ?_, ?_, ?_, ?_, ?_, ?_, ?_, ?_, ?_, ?_, ?_, ?_⟩ <;> rintro rfl
  case refine_1 => simp [Try.underlying3] at h; subst h; exact ⟨n, rfl⟩
  case refine_2 => simp [Try.underlying2] at h; subst h; exact ⟨n, i64_in hn, rfl⟩
  all_goals (exfalso; simp [Try.underlying3, Try.underlying2, Try.underlying4, Try.underlying9, Try.underlying25, Try.underlying43, Try.underlying28, Try.underlying45, Try.underlying26, Try.underlying32, Try.underlying65, Try.underlying29, Try.underlying30] at h)
theorem mo_str {t : TypeId} (s : List UInt8) (h : Try.prog.underlying t = some .string) : Mo t [.str s] := by
  unfold Mo
  refine ⟨?_, ?_, ?_, ?_, ?_, ?_, ?_, ?_, ?_, ?_, ?_, ?_, ?_⟩ <;> rintro rfl
  case refine_4 => exact ⟨s, rfl⟩
  all_goals (exfalso; simp [Try.underlying3, Try.underlying2, Try.underlying4, Try.underlying9, Try.underlying25, Try.underlying43, Try.underlying28, Try.underlying45, Try.underlying26, Try.underlying32, Try.underlying65, Try.underlying29, Try.underlying30] at h)
theorem mo_nil {t e : TypeId} (h : Try.prog.underlying t = some (.slice e)) : Mo t [.nilsl] := by
  unfold Mo
  refine ⟨?_, ?_, ?_, ?_, ?_, ?_, ?_, ?_, ?_, ?_, ?_, ?_, ?_⟩ <;> rintro rfl
  case refine_5 => exact ⟨true, [], rfl, by simp⟩
  case refine_9 => exact ⟨true, [], rfl, trivial, by simp⟩
  case refine_12 => exact ⟨true, [], rfl, trivial, by simp⟩
  case refine_13 => exact ⟨true, [], rfl, trivial, by simp⟩
  all_goals (exfalso; simp [Try.underlying3, Try.underlying2, Try.underlying4, Try.underlying9, Try.underlying25, Try.underlying43, Try.underlying28, Try.underlying45, Try.underlying26, Try.underlying32, Try.underlying65, Try.underlying29, Try.underlying30] at h)
theorem texts_of : ∀ es : List (List AV), (∀ x ∈ es, ∃ s, x = [.str s]) → ∃ ws, es = tx ws
  | [], _ => ⟨[], rfl⟩
  | e :: es, h => by
    obtain ⟨s, rfl⟩ := h e (by simp)
    obtain ⟨ws, rfl⟩ := texts_of es (fun x hx => h x (by simp [hx]))
    exact ⟨s :: ws, rfl⟩
theorem Tm.of : ∀ es : List (List AV), (∀ x ∈ es, ∃ t : Tm, t.fit ∧ x = t.cells) → ∃ ts, es = Tm.cellsL ts ∧ Tm.fitL ts
  | [], _ => ⟨[], rfl, trivial⟩
  | e :: es, h => by
    obtain ⟨t, ht, rfl⟩ := h e (by simp)
    obtain ⟨ts, rfl, hts⟩ := Tm.of es (fun x hx => h x (by simp [hx]))
    exact ⟨t :: ts, rfl, ht, hts⟩
theorem Fm.of : ∀ es : List (List AV), (∀ x ∈ es, ∃ t : Fm, t.fit ∧ x = t.cells) → ∃ ts, es = Fm.cellsL ts ∧ Fm.fitL ts
  | [], _ => ⟨[], rfl, trivial⟩
  | e :: es, h => by
    obtain ⟨t, ht, rfl⟩ := h e (by simp)
    obtain ⟨ts, rfl, hts⟩ := Fm.of es (fun x hx => h x (by simp [hx]))
    exact ⟨t :: ts, rfl, ht, hts⟩
theorem Rx.of : ∀ es : List (List AV), (∀ x ∈ es, ∃ t : Rx, t.fit ∧ x = t.cells) → ∃ ts, es = Rx.cellsL ts ∧ Rx.fitL ts
  | [], _ => ⟨[], rfl, trivial⟩
  | e :: es, h => by
    obtain ⟨t, ht, rfl⟩ := h e (by simp)
    obtain ⟨ts, rfl, hts⟩ := Rx.of es (fun x hx => h x (by simp [hx]))
    exact ⟨t :: ts, rfl, ht, hts⟩
theorem mo_lst {t e : TypeId} (es : List (List AV)) (h : Try.prog.underlying t = some (.slice e)) (ih : ∀ x ∈ es, Mo e x) (hl : es.length * Try.prog.bytesOf e ≤ reachBytes) : Mo t [.lst .none (Try.prog.cellsOf e) es] := by
  rw [reach_eq] at hl
  unfold Mo
  refine ⟨?_, ?_, ?_, ?_, ?_, ?_, ?_, ?_, ?_, ?_, ?_, ?_, ?_⟩ <;> rintro rfl
  case refine_5 =>
    simp [Try.underlying25] at h; subst h
    obtain ⟨ws, rfl⟩ := texts_of es (fun x hx => (ih x hx).2.2.2.1 rfl)
    rw [bz9] at hl
    exact ⟨false, ws, by rw [cz9]; rfl, by simpa [tx] using hl⟩
  case refine_9 =>
    simp [Try.underlying26] at h; subst h
    obtain ⟨ts, rfl, hf⟩ := Tm.of es (fun x hx => (ih x hx).2.2.2.2.2.2.2.1 rfl)
    rw [bz45, Tm.cellsL_len] at hl
    exact ⟨false, ts, by rw [cz45]; rfl, hf, hl⟩
  case refine_12 =>
    simp [Try.underlying29] at h; subst h
    obtain ⟨ts, rfl, hf⟩ := Fm.of es (fun x hx => (ih x hx).2.2.2.2.2.2.2.2.2.1 rfl)
    rw [bz32, Fm.cellsL_len] at hl
    exact ⟨false, ts, by rw [cz32]; rfl, hf, hl⟩
  case refine_13 =>
    simp [Try.underlying30] at h; subst h
    obtain ⟨ts, rfl, hf⟩ := Rx.of es (fun x hx => (ih x hx).2.2.2.2.2.2.2.2.2.2.1 rfl)
    rw [bz65, Rx.cellsL_len] at hl
    exact ⟨false, ts, by rw [cz65]; rfl, hf, hl⟩
  all_goals (exfalso; simp [Try.underlying3, Try.underlying2, Try.underlying4, Try.underlying9, Try.underlying25, Try.underlying43, Try.underlying28, Try.underlying45, Try.underlying26, Try.underlying32, Try.underlying65, Try.underlying29, Try.underlying30] at h)
theorem mo_struct {t : TypeId} {fs : Array Field} (cs : List AV) (h : Try.prog.underlying t = some (.struct fs)) (hl : cs.length = Try.prog.cellsOf t) (ih : ∀ f ∈ fs.toList, Mo f.type ((cs.drop f.offset).take (Try.prog.cellsOf f.type))) : Mo t cs := by
  unfold Mo
  refine ⟨?_, ?_, ?_, ?_, ?_, ?_, ?_, ?_, ?_, ?_, ?_, ?_, ?_⟩ <;> rintro rfl
  case refine_6 =>
    simp [Try.underlying43] at h; subst h
    match cs, hl.trans cz43 with
    | [a, b, c, d], _ =>
      simp [cz3, cz2, cz4, cz9, cz25, cz26, cz29, cz30, cz43, cz28] at ih
      obtain ⟨h0, h1, h2, h3⟩ := ih
      obtain ⟨k, e0⟩ := h0.1 rfl
      obtain ⟨n, i1, e1⟩ := h1.2.1 rfl
      obtain ⟨m, i2, e2⟩ := h2.2.1 rfl
      obtain ⟨s, e3⟩ := h3.2.2.2.1 rfl
      simp at e0 e1 e2 e3
      subst e0 e1 e2 e3
      exact ⟨k, n, m, s, i1, i2, rfl⟩
  case refine_7 =>
    simp [Try.underlying28] at h; subst h
    match cs, hl.trans cz28 with
    | [a, b, c], _ =>
      simp [cz3, cz2, cz4, cz9, cz25, cz26, cz29, cz30, cz43, cz28] at ih
      obtain ⟨h0, h1, h2⟩ := ih
      obtain ⟨k, _, e0⟩ := h0.2.1 rfl
      obtain ⟨n, _, e1⟩ := h1.2.1 rfl
      obtain ⟨m, e2⟩ := h2.2.2.1 rfl
      simp at e0 e1 e2
      subst e0 e1 e2
      exact ⟨k, n, m, rfl⟩
  case refine_8 =>
    simp [Try.underlying45] at h; subst h
    match cs, hl.trans cz45 with
    | [a, b, c, d, e, f, g], _ =>
      simp [cz3, cz2, cz4, cz9, cz25, cz26, cz29, cz30, cz43, cz28] at ih
      obtain ⟨h0, h1, h2, h3⟩ := ih
      obtain ⟨k, e0⟩ := h0.1 rfl
      obtain ⟨n, e1⟩ := h1.2.2.2.1 rfl
      obtain ⟨vk, vn, vd, vs, i1, i2, e2⟩ := h2.2.2.2.2.2.1 rfl
      obtain ⟨q, ts, e3, hf, hb⟩ := h3.2.2.2.2.2.2.2.2.1 rfl
      simp at e0 e1 e2 e3
      obtain ⟨rfl, rfl, rfl, rfl⟩ := e2
      subst e0 e1 e3
      exact ⟨.mk k n vk vn vd vs q ts, ⟨i1, i2, hb, hf⟩, rfl⟩
  case refine_10 =>
    simp [Try.underlying32] at h; subst h
    match cs, hl.trans cz32 with
    | [a, b, c, d, e, f, g, i, j, l], _ =>
      simp [cz3, cz2, cz4, cz9, cz25, cz26, cz29, cz30, cz43, cz28] at ih
      obtain ⟨h0, h1, h2, h3, h4, h5, h6, h7⟩ := ih
      obtain ⟨k, e0⟩ := h0.1 rfl
      obtain ⟨n, e1⟩ := h1.2.2.2.1 rfl
      obtain ⟨op, e2⟩ := h2.1 rfl
      obtain ⟨x, ws, e3, p2⟩ := h3.2.2.2.2.1 rfl
      obtain ⟨y, tes, e4, q2, q3⟩ := h4.2.2.2.2.2.2.2.2.1 rfl
      obtain ⟨lo, hi, o, e5⟩ := h5.2.2.2.2.2.2.1 rfl
      obtain ⟨z, ses, e6, r2, r3⟩ := h6.2.2.2.2.2.2.2.2.2.2.2.1 rfl
      obtain ⟨u, res, e7, s2, s3⟩ := h7.2.2.2.2.2.2.2.2.2.2.2.2 rfl
      simp at e0 e1 e2 e3 e4 e5 e6 e7
      obtain ⟨rfl, rfl, rfl⟩ := e5
      subst e0 e1 e2 e3 e4 e6 e7
      refine ⟨.mk k n op x ws y tes lo hi o z ses u res, ?_, rfl⟩
      simp only [Fm.fit]
      exact ⟨p2, q3, r3, s3, q2, r2, s2⟩
  case refine_11 =>
    simp [Try.underlying65] at h; subst h
    match cs, hl.trans cz65 with
    | [a, b, c], _ =>
      simp [cz3, cz2, cz4, cz9, cz25, cz26, cz29, cz30, cz43, cz28] at ih
      obtain ⟨h0, h1, h2⟩ := ih
      obtain ⟨k, e0⟩ := h0.1 rfl
      obtain ⟨z, ses, e6, r2, r3⟩ := h1.2.2.2.2.2.2.2.2.2.2.2.1 rfl
      obtain ⟨u, res, e7, s2, s3⟩ := h2.2.2.2.2.2.2.2.2.2.2.2.2 rfl
      simp at e0 e6 e7
      subst e0 e6 e7
      refine ⟨.mk k z ses u res, ?_, rfl⟩
      simp only [Rx.fit]
      exact ⟨r3, s3, r2, s2⟩
  all_goals (exfalso; simp [Try.underlying3, Try.underlying2, Try.underlying4, Try.underlying9, Try.underlying25, Try.underlying43, Try.underlying28, Try.underlying45, Try.underlying26, Try.underlying32, Try.underlying65, Try.underlying29, Try.underlying30] at h)
theorem mo {t : TypeId} {us : List AV} (h : Shp Try.prog t us) : Mo t us := by
  induction h with
  | bool b h => exact mo_bool b h
  | int n h hn => exact mo_int n h hn
  | str s h _ => exact mo_str _ h
  | nilsl h => exact mo_nil h
  | lst es h _ _ hb ih => exact mo_lst es h ih hb
  | struct cs h hl _ ih => exact mo_struct cs h hl ih
theorem open_fm {H : Type} {enc : TypeId × Value → H} {W W0 : World} {held : Bool} {r : Reach} {b0 : Nat} {v : Value} {d : DataW H} {ps : List MemPlace} (hok : Value.okWide Try.prog W0 r b0 32 v) (hd : DataW.Trod enc Try.prog W 0 (fun _ => true) held 32 v d ps) (hwt : ∀ m ∈ d.weights Try.prog 32, m ≤ reachBytes) :
    ∃ us, (∃ t : Fm, t.fit ∧ us = t.cells) ∧ RelV flatG W (.agg us) v ∧ noFlag (.agg us) := by
  obtain ⟨us, hs, hr, hn⟩ := read_struct plains_ok (t := 32) (by decide) Try.underlying32 hok hd hwt
  exact ⟨us, (mo hs).2.2.2.2.2.2.2.2.2.1 rfl, hr, hn⟩
end Go.Proofs.Ytnmaahfipddkmaa.Sx.T
