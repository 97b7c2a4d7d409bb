/- Layer 6, part 44, for AstFrees: free variables handed back, two lists of names alike. -/
import Derived.Test.YtnmaahfipddkmaaGreatWd
import Derived.Test.YtnmaahfipddkmaaGreatTold
set_option linter.unusedVariables false
set_option linter.unusedSimpArgs false
namespace Go.Proofs.YtnmaahfipddkmaaGreat.Sx.T
open Go Go.Proofs.YtnmaahfipddkmaaGreat.Sx
set_option maxRecDepth 100000
set_option maxHeartbeats 8000000
theorem tx_flat : ∀ l : List Nm, (tx l).flatten = l.map AV.str
  | [] => rfl
  | w :: l => by
    have := tx_flat l
    simp only [tx, List.map_cons, List.flatten_cons] at this ⊢
    rw [this]
    rfl
def NmV (hp : Heap) (x : AV) (l : List Nm) : Prop :=
  uf x = x ∧ lensK false x = some (.int .i64 l.length) ∧ (∀ fr t, drop1K x fr t = fr) ∧ ∀ i (h : i < l.length), ∃ p, iaddrK 1 x (some i) = some p ∧ uf p = p ∧ ∀ gl, ldAt gl ([] :: hp) p 1 false = some (.str l[i])
theorem NmV.nil (hp : Heap) : NmV hp .nilsl [] := ⟨rfl, rfl, fun _ _ => rfl, fun i h => by simp at h⟩
theorem NmV.lst (hp : Heap) (l : List Nm) : NmV hp (.lst .none 1 (tx l)) l := by
  refine ⟨rfl, by rw [lensK_lst, tx_len]; rfl, fun _ _ => rfl, fun i h => ⟨.elp [.str l[i]], ?_, rfl, fun gl => rfl⟩⟩
  rw [iaddrK_lst, if_pos ⟨rfl, by rw [tx_len]; exact h⟩, tx_get l i h]
  simp [List.getD, h]
theorem NmV.of_Sl {hp : Heap} {x : AV} {l : List Nm} (h : Sl 1 x (tx l)) : NmV hp x l := by
  rcases h with ⟨rfl, e⟩ | rfl
  · have : l = [] := by simpa [tx] using e
    subst this
    exact .nil hp
  · exact .lst hp l
theorem NmV.blk {hp : Heap} {r : Ref} {l : List Nm} (hc : cellsAt hp r = some (tx l).flatten) : NmV hp (.sl r 1 0 l.length) l := by
  refine ⟨rfl, rfl, fun _ _ => rfl, fun i h => ⟨.ptr r (0 + i * 1), ?_, rfl, fun gl => ?_⟩⟩
  · rw [iaddrK_sl, if_pos ⟨rfl, h⟩]
  · rw [ldAt_cons _ _ _ _ (cellsAt_ne hc), hc, ldK_some, tx_flat, Nat.zero_add, Nat.mul_one, List.drop_eq_getElem_cons (by simpa using h), ldCells_one]
    simp
    rfl
theorem p_same (l : List Nm) (hl : l.length ≤ 1099511627776) (x y : AV) (hp : Heap) (hx : NmV hp x l) (hy : NmV hp y l) : CL X (fun _ => []) 16 [x, y] hp = some (.bool true, hp) := by
  obtain ⟨u1, n1, d1, g1⟩ := hx
  obtain ⟨u2, n2, d2, g2⟩ := hy
  have b0 : ((l.length : Int) != (l.length : Int)) = false := by simp
  rw [CL_eq (fn := x16) rfl]
  simp +contextual -implicitDefEqProofs (maxSteps := 10000000) only [x16, go_sem, ↓reduceIte, reduceCtorEq, Nat.reduceEqDiff, u1, n1, u2, n2, b0]
  obtain ⟨I, hI⟩ : ∃ I : Nat → List AV → Heap → Prop, ∀ i fr hp', I i fr hp' ↔ (hp' = [] :: hp ∧ fget fr 0 = x ∧ fget fr 1 = y ∧ fget fr 5 = .int .i64 (i : Nat)) := ⟨_, fun _ _ _ => Iff.rfl⟩
  obtain ⟨Q, hQ⟩ : ∃ Q : XExit → List AV → Heap → Prop, ∀ e fr hp', Q e fr hp' ↔ (hp' = [] :: hp ∧ e = .exit 0) := ⟨_, fun _ _ _ => Iff.rfl⟩
  refine LC_upK l.length I Q (fun r => finK _ (seqK (blockK 0 r) _) = _) ?_ ?_ ?_ ?_
  · rw [hI]
    refine ⟨rfl, ?_, ?_, ?_⟩ <;> simp only [go_sem, ↓reduceIte, reduceCtorEq, Nat.reduceEqDiff, Int.natCast_zero]
  · intro i hi fr hp' hh
    obtain ⟨rfl, h0, h1, h5⟩ := (hI _ _ _).1 hh
    have k1 : ((i : Int) < (l.length : Int)) = True := by simp; omega
    have w1 : wr .i64 ((i : Int) + 1) = ((i + 1 : Nat) : Int) := by rw [wr_i64 _ (by omega)]; omega
    obtain ⟨p, p1, p2, p3⟩ := g1 i hi
    obtain ⟨q, q1, q2, q3⟩ := g2 i hi
    have hne : (l[i] != l[i]) = false := by simp
    generalize l[i] = w at p3 q3 hne
    simp +contextual -implicitDefEqProofs (maxSteps := 10000000) only [x16_l0_run, go_sem, ↓reduceIte, reduceCtorEq, Nat.reduceEqDiff, h0, h1, h5, u1, n1, u2, k1, w1, p1, p2, p3, q1, q2, q3]
    rw [hI]
    refine ⟨rfl, ?_, ?_, ?_⟩ <;> simp only [go_sem, ↓reduceIte, reduceCtorEq, Nat.reduceEqDiff, h0, h1]
  · intro fr hp' hh
    obtain ⟨rfl, h0, h1, h5⟩ := (hI _ _ _).1 hh
    simp +contextual -implicitDefEqProofs (maxSteps := 10000000) only [x16_l0_run, go_sem, ↓reduceIte, reduceCtorEq, Nat.reduceEqDiff, h0, h5, u1, n1, Int.lt_irrefl]
    rw [hQ]
    exact ⟨rfl, rfl⟩
  · intro e' fr hp' he hh
    obtain ⟨rfl, rfl⟩ := (hQ _ _ _).1 hh
    simp +contextual -implicitDefEqProofs (maxSteps := 10000000) only [go_sem, ↓reduceIte]
noncomputable def frv (t : Fm) : List Nm := if (lookW t).e = 0 then t.fr.1 else []
theorem p_Free (t : Fm) (hf : t.fit) : Ans (fun v => luF v (frv t)) [] (CL X (fun _ => []) 12 [.agg t.cells] []) := by
  have hck := p_check t hf
  have hlo := @look_of t
  have hfreeP : (t.wk 1 ⟨0, 0, 0⟩).e = 0 → FrA t := fun h => p_free t hf (look_ok h).1 (look_ok h).2
  obtain ⟨hCl, hCp, hCm⟩ := (Fm.fxp _ hf).flat
  have hfree := flatFm' hf
  unfold frv
  unfold FrA at hfreeP
  generalize t.cells = C at hck hfreeP hCl hCp hCm hfree ⊢
  have hCl' : C.length = 10 := hCl
  have hCt : C.take 10 = C := List.take_of_length_le (by omega)
  have ldC : ldK 10 true 0 (some C) = some (.agg C) := by
    rw [ldK_some, ldCells_agg, List.drop_zero, if_pos (by omega), hCt, hCm]
  rw [CL_eq (fn := x12) rfl]
  by_cases he : (lookW t).e = 0
  · obtain ⟨u, hu, hcall⟩ := hfreeP (hlo he).1
    rw [if_pos he]
    rcases hu with ⟨h0, rfl⟩ | rfl
    · simp +contextual -implicitDefEqProofs (maxSteps := 10000000) only [x12, go_sem, ↓reduceIte, Nat.reduceEqDiff, Int.reduceBNe, hCm, hCl', hCp, ldAt_topc, ldC, hfree, hck, he, hcall, o_extm, extmK_tup]
      exact ⟨_, .inl ⟨rfl, h0⟩, rfl⟩
    · simp +contextual -implicitDefEqProofs (maxSteps := 10000000) only [x12, go_sem, ↓reduceIte, Nat.reduceEqDiff, Nat.reduceLeDiff, Int.reduceBNe, Nat.reduceLT, Nat.reduceSub, hCm, hCl', hCp, ldAt_topc, ldC, hfree, hck, he, hcall, o_extm, extmK_held]
      exact ⟨_, .inr rfl, rfl⟩
  · rw [if_neg he]
    simp +contextual -implicitDefEqProofs (maxSteps := 10000000) only [x12, go_sem, ↓reduceIte, Nat.reduceEqDiff, hCm, hCl', hCp, ldAt_topc, ldC, hfree, hck, he]
    exact ⟨_, .inl ⟨rfl, rfl⟩, rfl⟩
theorem p_rFree (t : Fm) (hf : t.fit) : Ans (fun v => LV v (frv t)) [] (CL X (fun _ => []) 13 [.agg t.cells] []) := by
  have hck := p_rcheck t hf
  have hlo := @look_of t
  have hv : (t.wk 1 ⟨0, 0, 0⟩).e = 0 → RvA t := fun h => p_rvars t hf (look_ok h).1 (look_ok h).2
  obtain ⟨hCl, hCp, hCm⟩ := (Fm.fxp _ hf).flat
  have hfree := flatFm' hf
  unfold frv
  unfold RvA at hv
  generalize t.cells = C at hck hv hCl hCp hCm hfree ⊢
  have hCl' : C.length = 10 := hCl
  have hCt : C.take 10 = C := List.take_of_length_le (by omega)
  have ldC : ldK 10 true 0 (some C) = some (.agg C) := by
    rw [ldK_some, ldCells_agg, List.drop_zero, if_pos (by omega), hCt, hCm]
  rw [CL_eq (fn := x13) rfl]
  by_cases he : (lookW t).e = 0
  · obtain ⟨u, hu, hcall⟩ := hv (hlo he).1
    obtain ⟨_, _, _, _, _, _, hr⟩ := hu.full
    rw [if_pos he]
    simp +contextual -implicitDefEqProofs (maxSteps := 10000000) only [x13, go_sem, ↓reduceIte, Nat.reduceEqDiff, Int.reduceBNe, hCm, hCl', hCp, ldAt_topc, ldC, hfree, hck, he, hcall, hr]
    exact ⟨_, hu, rfl⟩
  · rw [if_neg he]
    simp +contextual -implicitDefEqProofs (maxSteps := 10000000) only [x13, go_sem, ↓reduceIte, Nat.reduceEqDiff, hCm, hCl', hCp, ldAt_topc, ldC, hfree, hck, he]
    exact ⟨_, .inl ⟨rfl, rfl⟩, rfl⟩
theorem spliceLen : ∀ (l : List AV) (i : Nat) (vs : List AV), (splice l i vs).length = l.length
  | l, i, [] => by rw [splice_nil]
  | [], i, v :: vs => by cases i <;> rfl
  | x :: l, 0, v :: vs => by rw [splice_zero, List.length_cons, List.length_cons, spliceLen l 0 vs]
  | x :: l, i + 1, v :: vs => by rw [splice_succ, List.length_cons, List.length_cons, spliceLen l i (v :: vs)]
def BlkV (L : Level) (q : Nat) (x : AV) (n : Nat) : Prop := (x = .nilsl ∧ n = 0) ∨ (x = .sl ⟨0, q, 0⟩ 1 0 n ∧ ∃ A, lcells L q 0 = some A ∧ A.length = n)
theorem BlkV.one {L : Level} {q : Nat} {x : AV} {n : Nat} (h : BlkV L q x n) : uf x = x ∧ lensK false x = some (.int .i64 n) ∧ ∀ fr t, drop1K x fr t = fr := by
  rcases h with ⟨rfl, rfl⟩ | ⟨rfl, _⟩
  · exact ⟨rfl, rfl, fun _ _ => rfl⟩
  · exact ⟨rfl, rfl, fun _ _ => rfl⟩
theorem BlkV.put {L : Level} {q q' : Nat} {x : AV} {n : Nat} {A : List AV} (h : BlkV L q x n) (hq : q ≠ q') : BlkV (lputc L q' 0 A) q x n := by
  rcases h with h | ⟨h, B, h1, h2⟩
  · exact .inl h
  · exact .inr ⟨h, B, by rw [lcells_put, if_neg hq]; exact h1, h2⟩
structure Kept (C T : List AV) (xa xb xc xd : AV) (na nc : Nat) (fr : List AV) (L : Level) : Prop where
  f2 : fget fr 2 = .ptr ⟨0, 2, 0⟩ 0
  f3 : fget fr 3 = .ptr ⟨0, 3, 0⟩ 0
  f5 : fget fr 5 = xa
  f6 : fget fr 6 = xb
  f7 : fget fr 7 = xc
  f8 : fget fr 8 = xd
  f9 : fget fr 9 = .bool true
  c2 : lcells L 2 0 = some C
  c3 : lcells L 3 0 = some T
  b5 : BlkV L 5 xa na
  b7 : BlkV L 7 xc nc
theorem l_spoilA (C T : List AV) (xa xb xc xd : AV) (na nc : Nat) (hna : na ≤ 1099511627776) {fr : List AV} {L : Level} (K : Option (XExit × St) → Prop) (h : Kept C T xa xb xc xd na nc fr L) (h10 : fget fr 10 = .int .i64 0)
    (hk : ∀ fr' L', Kept C T xa xb xc xd na nc fr' L' → K (some (.exit 0, ⟨fr', [L']⟩))) : K (LC X (fun _ => []) (.loop x4_l0) ⟨fr, [L]⟩) := by
  obtain ⟨I, hI⟩ : ∃ I : Nat → List AV → Heap → Prop, ∀ i fr hp', I i fr hp' ↔ ((∃ L, hp' = [L] ∧ Kept C T xa xb xc xd na nc fr L) ∧ fget fr 10 = .int .i64 (i : Nat)) := ⟨_, fun _ _ _ => Iff.rfl⟩
  obtain ⟨Q, hQ⟩ : ∃ Q : XExit → List AV → Heap → Prop, ∀ e fr hp', Q e fr hp' ↔ (e = .exit 0 ∧ ∃ L, hp' = [L] ∧ Kept C T xa xb xc xd na nc fr L) := ⟨_, fun _ _ _ => Iff.rfl⟩
  refine LC_upK na I Q K ?_ ?_ ?_ ?_
  · rw [hI]
    exact ⟨⟨L, rfl, h⟩, h10⟩
  · intro i hi fr hp' hh
    obtain ⟨⟨L, rfl, k⟩, h10⟩ := (hI _ _ _).1 hh
    obtain ⟨rfl, A, hA, hAl⟩ : xa = .sl ⟨0, 5, 0⟩ 1 0 na ∧ ∃ A, lcells L 5 0 = some A ∧ A.length = na := by
      rcases k.b5 with ⟨_, e⟩ | e
      · omega
      · exact e
    have h5 := k.f5
    have k1 : ((i : Int) < (na : Int)) = True := by simp; omega
    have k2 : (i < na) = True := by simp; omega
    have w1 : wr .i64 ((i : Int) + 1) = ((i + 1 : Nat) : Int) := by rw [wr_i64 _ (by omega)]; omega
    have k3 : (i + 1 ≤ A.length) = True := by simp; omega
    simp +contextual -implicitDefEqProofs (maxSteps := 10000000) only [x4_l0_run, go_sem, ↓reduceIte, Nat.reduceEqDiff, h5, h10, k1, k2, k3, w1, uf_sl, lensK_sl, iaddrK_sl, stAt_topc, hA]
    rw [hI]
    refine ⟨⟨_, rfl, ?_, ?_, ?_, ?_, ?_, ?_, ?_, ?_, ?_, ?_, k.b7.put (by decide)⟩, ?_⟩
    case refine_8 => rw [lcells_put, if_neg (by decide)]; exact k.c2
    case refine_9 => rw [lcells_put, if_neg (by decide)]; exact k.c3
    case refine_10 => exact .inr ⟨rfl, _, by rw [lcells_put, if_pos rfl, if_pos rfl], by rw [spliceLen, hAl]⟩
    all_goals simp only [go_sem, ↓reduceIte, Nat.reduceEqDiff, k.f2, k.f3, k.f5, k.f6, k.f7, k.f8, k.f9]
  · intro fr hp' hh
    obtain ⟨⟨L, rfl, k⟩, h10⟩ := (hI _ _ _).1 hh
    obtain ⟨u1, n1, d1⟩ := k.b5.one
    have h5 := k.f5
    simp +contextual -implicitDefEqProofs (maxSteps := 10000000) only [x4_l0_run, go_sem, ↓reduceIte, Nat.reduceEqDiff, h5, h10, u1, n1, Int.lt_irrefl]
    rw [hQ]
    refine ⟨rfl, L, rfl, ?_, ?_, ?_, ?_, ?_, ?_, ?_, k.c2, k.c3, k.b5, k.b7⟩
    all_goals simp only [go_sem, ↓reduceIte, Nat.reduceEqDiff, k.f2, k.f3, k.f5, k.f6, k.f7, k.f8, k.f9]
  · intro e fr hp' he hh
    obtain ⟨rfl, L, rfl, k⟩ := (hQ _ _ _).1 hh
    exact hk fr L k
theorem l_spoilC (C T : List AV) (xa xb xc xd : AV) (na nc : Nat) (hnc : nc ≤ 1099511627776) {fr : List AV} {L : Level} (K : Option (XExit × St) → Prop) (h : Kept C T xa xb xc xd na nc fr L) (h10 : fget fr 11 = .int .i64 0)
    (hk : ∀ fr' L', Kept C T xa xb xc xd na nc fr' L' → K (some (.exit 2, ⟨fr', [L']⟩))) : K (LC X (fun _ => []) (.loop x4_l1) ⟨fr, [L]⟩) := by
  obtain ⟨I, hI⟩ : ∃ I : Nat → List AV → Heap → Prop, ∀ i fr hp', I i fr hp' ↔ ((∃ L, hp' = [L] ∧ Kept C T xa xb xc xd na nc fr L) ∧ fget fr 11 = .int .i64 (i : Nat)) := ⟨_, fun _ _ _ => Iff.rfl⟩
  obtain ⟨Q, hQ⟩ : ∃ Q : XExit → List AV → Heap → Prop, ∀ e fr hp', Q e fr hp' ↔ (e = .exit 2 ∧ ∃ L, hp' = [L] ∧ Kept C T xa xb xc xd na nc fr L) := ⟨_, fun _ _ _ => Iff.rfl⟩
  refine LC_upK nc I Q K ?_ ?_ ?_ ?_
  · rw [hI]
    exact ⟨⟨L, rfl, h⟩, h10⟩
  · intro i hi fr hp' hh
    obtain ⟨⟨L, rfl, k⟩, h10⟩ := (hI _ _ _).1 hh
    obtain ⟨rfl, A, hA, hAl⟩ : xc = .sl ⟨0, 7, 0⟩ 1 0 nc ∧ ∃ A, lcells L 7 0 = some A ∧ A.length = nc := by
      rcases k.b7 with ⟨_, e⟩ | e
      · omega
      · exact e
    have h5 := k.f7
    have k1 : ((i : Int) < (nc : Int)) = True := by simp; omega
    have k2 : (i < nc) = True := by simp; omega
    have w1 : wr .i64 ((i : Int) + 1) = ((i + 1 : Nat) : Int) := by rw [wr_i64 _ (by omega)]; omega
    have k3 : (i + 1 ≤ A.length) = True := by simp; omega
    simp +contextual -implicitDefEqProofs (maxSteps := 10000000) only [x4_l1_run, go_sem, ↓reduceIte, Nat.reduceEqDiff, h5, h10, k1, k2, k3, w1, uf_sl, lensK_sl, iaddrK_sl, stAt_topc, hA]
    rw [hI]
    refine ⟨⟨_, rfl, ?_, ?_, ?_, ?_, ?_, ?_, ?_, ?_, ?_, k.b5.put (by decide), ?_⟩, ?_⟩
    case refine_8 => rw [lcells_put, if_neg (by decide)]; exact k.c2
    case refine_9 => rw [lcells_put, if_neg (by decide)]; exact k.c3
    case refine_10 => exact .inr ⟨rfl, _, by rw [lcells_put, if_pos rfl, if_pos rfl], by rw [spliceLen, hAl]⟩
    all_goals simp only [go_sem, ↓reduceIte, Nat.reduceEqDiff, k.f2, k.f3, k.f5, k.f6, k.f7, k.f8, k.f9]
  · intro fr hp' hh
    obtain ⟨⟨L, rfl, k⟩, h10⟩ := (hI _ _ _).1 hh
    obtain ⟨u1, n1, d1⟩ := k.b7.one
    have h5 := k.f7
    simp +contextual -implicitDefEqProofs (maxSteps := 10000000) only [x4_l1_run, go_sem, ↓reduceIte, Nat.reduceEqDiff, h5, h10, u1, n1, Int.lt_irrefl]
    rw [hQ]
    refine ⟨rfl, L, rfl, ?_, ?_, ?_, ?_, ?_, ?_, ?_, k.c2, k.c3, k.b5, k.b7⟩
    all_goals simp only [go_sem, ↓reduceIte, Nat.reduceEqDiff, k.f2, k.f3, k.f5, k.f6, k.f7, k.f8, k.f9]
  · intro e fr hp' he hh
    obtain ⟨rfl, L, rfl, k⟩ := (hQ _ _ _).1 hh
    exact hk fr L k
theorem bare_tx (l : List Nm) : (tx l).all (fun e => e.all bareV) = true := by simp [tx, bareV]
theorem luF_dem {v : AV} {l : List Nm} (h : luF v l) : Sl 1 (uf (demV v)) (tx l) ∧ refFree (uf (demV v)) = true ∧ uf (uf (demV v)) = uf (demV v) := by
  rcases h with ⟨rfl, rfl⟩ | rfl
  · exact ⟨.inl ⟨rfl, rfl⟩, rfl, rfl⟩
  · exact ⟨.inr rfl, by simp [demV, Go.Proofs.YtnmaahfipddkmaaGreat.Sx.uf, refFree], rfl⟩
theorem Fm.fr_le (t : Fm) : (frv t).length ≤ 1048576 := by
  unfold frv
  by_cases he : (lookW t).e = 0
  · rw [if_pos he]
    have h1 := (look_ok (look_of he).1).2
    have h2 := Fm.fr_len t
    omega
  · rw [if_neg he]; simp
theorem v_AstFrees (us ts : List AV) (h : ∃ t : Fm, t.fit ∧ us = t.cells) (h' : ∃ t : Tm, t.fit ∧ t.nn ≤ 1048576 ∧ ts = t.cells) : CL X (fun _ => []) 4 [.agg us, .agg ts] [] = some (.bool true, []) := by
  obtain ⟨t, hf, rfl⟩ := h
  obtain ⟨s, hs, hsn, rfl⟩ := h'
  have hla := Fm.fr_le t
  have hlc : s.tv.length ≤ 1048576 := Nat.le_trans (Tm.tv_len s) hsn
  obtain ⟨va, hva, ha⟩ := p_Free t hf
  obtain ⟨vb, hvb, hb⟩ := p_rFree t hf
  have hc := p_tv s hs hsn []
  have hvc := luq_luF s.tv
  obtain ⟨vd, hvd, hd⟩ := p_rtv s hs hsn
  have hl : CL X (fun _ => []) 11 [] [] = some (.bool true, []) := liveTold
  obtain ⟨hCl, hCp, hCm⟩ := (Fm.fxp _ hf).flat
  have hfree := flatFm' hf
  obtain ⟨hTl, hTp, hTm, _⟩ := flatTm hs
  have hTfree := (Tm.tmp s hs).free.2
  generalize frv t = la at hla hva hvb
  generalize s.tv = lc at hlc hc hvc hvd
  generalize luq lc = vc at hc hvc
  generalize t.cells = C at ha hb hCl hCp hCm hfree ⊢
  generalize s.cells = T at hc hd hTl hTp hTm hTfree ⊢
  have hCl' : C.length = 10 := hCl
  have hCt : C.take 10 = C := List.take_of_length_le (by omega)
  have ldC : ldK 10 true 0 (some C) = some (.agg C) := by
    rw [ldK_some, ldCells_agg, List.drop_zero, if_pos (by omega), hCt, hCm]
  obtain ⟨da1, da2, da3⟩ := luF_dem hva
  obtain ⟨dc1, dc2, dc3⟩ := luF_dem hvc
  obtain ⟨fb, _, ufb, _, rfb, _, _⟩ := hvb.full
  obtain ⟨fd, _, ufd, _, rfd, _, _⟩ := hvd.full
  have s1 := p_same la (by omega) _ _ [] (.of_Sl da1) (.of_Sl fb)
  have s2 := p_same lc (by omega) _ _ [] (.of_Sl dc1) (.of_Sl fd)
  -- the four cases
  have hB5 : ∀ L, lcells L 5 0 = some (tx la).flatten → CL X (fun _ => []) 16 [.sl ⟨0, 5, 0⟩ 1 0 la.length, uf vb] [L] = some (.bool true, [L]) := fun L h => p_same la (by omega) _ _ [L] (.blk ((cellsAt_topc (h := []) rfl).trans h)) (.of_Sl fb)
  have hB7 : ∀ L, lcells L 7 0 = some (tx lc).flatten → CL X (fun _ => []) 16 [.sl ⟨0, 7, 0⟩ 1 0 lc.length, uf vd] [L] = some (.bool true, [L]) := fun L h => p_same lc (by omega) _ _ [L] (.blk ((cellsAt_topc (h := []) rfl).trans h)) (.of_Sl fd)
  have hN5 : la = [] → ∀ L, CL X (fun _ => []) 16 [.nilsl, uf vb] [L] = some (.bool true, [L]) := fun e L => by subst e; exact p_same [] (by simp) _ _ [L] (.nil _) (.of_Sl fb)
  have hN7 : lc = [] → ∀ L, CL X (fun _ => []) 16 [.nilsl, uf vd] [L] = some (.bool true, [L]) := fun e L => by subst e; exact p_same [] (by simp) _ _ [L] (.nil _) (.of_Sl fd)
  have hb5 := bare_tx la
  have hb7 := bare_tx lc
  have hT7 : (7 ≤ T.length) = True := by simp; omega
  have hTt : T.take 7 = T := List.take_of_length_le (by omega)
  have ldT : ldK 7 true 0 (some T) = some (.agg T) := by
    rw [ldK_some, ldCells_agg, List.drop_zero, if_pos (by omega), hTt, hTm]
  have hf5 : (tx la).flatten.length = la.length := by rw [tx_flat, List.length_map]
  have hf7 : (tx lc).flatten.length = lc.length := by rw [tx_flat, List.length_map]
  have nv : nextVer [] 5 = 0 := rfl
  rw [CL_eq (fn := x4) rfl]
  rcases hva with ⟨e1, e2⟩ | e1
  · rcases hvc with ⟨e3, e4⟩ | e3
    · subst e1
      subst e3
      simp +contextual -implicitDefEqProofs (maxSteps := 10000000) only [x4, go_sem, ↓reduceIte, Nat.reduceEqDiff, hCm, hCl', hCp, hTm, hTl, hTp, ldAt_topc, ldC, ldT, hfree, hTfree, ha, hb, hc, hd, o_thw, thwK_nil, o_callw, hN5 e2, hN7 e4, cwK_same, ufb, ufd, fget_drop1K]
      refine l_spoilA C T .nilsl vb .nilsl vd 0 0 (by omega) (fun r => finK _ (seqK (blockK 0 r) _) = _) ⟨?_, ?_, ?_, ?_, ?_, ?_, ?_, ?_, ?_, ?_, ?_⟩ ?_ ?_
      case refine_8 => simp only [go_sem, ↓reduceIte, Nat.reduceEqDiff]
      case refine_9 => simp only [go_sem, ↓reduceIte]
      case refine_10 => exact .inl ⟨rfl, rfl⟩
      case refine_11 => exact .inl ⟨rfl, rfl⟩
      all_goals first | (simp only [go_sem, ↓reduceIte, Nat.reduceEqDiff, fget_drop1K]; done) | skip
      intro fr L k
      simp +contextual -implicitDefEqProofs (maxSteps := 10000000) only [go_sem, ↓reduceIte]
      refine l_spoilC C T .nilsl vb .nilsl vd 0 0 (by omega) (fun r => finK _ (seqK (blockK 2 r) _) = _) ⟨?_, ?_, ?_, ?_, ?_, ?_, ?_, k.c2, k.c3, k.b5, k.b7⟩ ?_ ?_
      all_goals first | (simp only [go_sem, ↓reduceIte, Nat.reduceEqDiff, k.f2, k.f3, k.f5, k.f6, k.f7, k.f8, k.f9]; done) | skip
      intro fr L k
      have k2 := k.f2
      have k3 := k.f3
      have k6 := k.f6
      have k8 := k.f8
      have k9 := k.f9
      have kc := k.c2
      have kt := k.c3
      simp only [demV_nil, uf_nilsl] at s1 s2
      simp +contextual -implicitDefEqProofs (maxSteps := 10000000) only [go_sem, ↓reduceIte, Nat.reduceEqDiff, k2, k3, k6, k8, k9, kc, kt, hl, ldAt_topc, ldC, ldT, hfree, hTfree, ha, hc, s1, s2, rfb, rfd, ufb, ufd]
    · subst e1
      subst e3
      simp +contextual -implicitDefEqProofs (maxSteps := 10000000) only [x4, go_sem, ↓reduceIte, Nat.reduceEqDiff, Nat.reduceLT, hCm, hCl', hCp, hTm, hTl, hTp, ldAt_topc, ldC, ldT, hfree, hTfree, ha, hb, hc, hd, o_thw, thwK_nil, thwK_uniq, tx_len, uf_sl, o_callw, hN5 e2, hB7, hb7, cwK_same, ufb, ufd, fget_drop1K]
      refine l_spoilA C T .nilsl vb (.sl ⟨0, 7, 0⟩ 1 0 lc.length) vd 0 lc.length (by omega) (fun r => finK _ (seqK (blockK 0 r) _) = _) ⟨?_, ?_, ?_, ?_, ?_, ?_, ?_, ?_, ?_, ?_, ?_⟩ ?_ ?_
      case refine_8 => simp only [go_sem, ↓reduceIte, Nat.reduceEqDiff]
      case refine_9 => simp only [go_sem, ↓reduceIte, Nat.reduceEqDiff]
      case refine_10 => exact .inl ⟨rfl, rfl⟩
      case refine_11 => exact .inr ⟨rfl, _, by simp only [go_sem, ↓reduceIte] <;> rfl, hf7⟩
      all_goals first | (simp only [go_sem, ↓reduceIte, Nat.reduceEqDiff, fget_drop1K]; done) | skip
      intro fr L k
      simp +contextual -implicitDefEqProofs (maxSteps := 10000000) only [go_sem, ↓reduceIte]
      refine l_spoilC C T .nilsl vb (.sl ⟨0, 7, 0⟩ 1 0 lc.length) vd 0 lc.length (by omega) (fun r => finK _ (seqK (blockK 2 r) _) = _) ⟨?_, ?_, ?_, ?_, ?_, ?_, ?_, k.c2, k.c3, k.b5, k.b7⟩ ?_ ?_
      all_goals first | (simp only [go_sem, ↓reduceIte, Nat.reduceEqDiff, k.f2, k.f3, k.f5, k.f6, k.f7, k.f8, k.f9]; done) | skip
      intro fr L k
      have k2 := k.f2
      have k3 := k.f3
      have k6 := k.f6
      have k8 := k.f8
      have k9 := k.f9
      have kc := k.c2
      have kt := k.c3
      simp only [demV_nil, uf_nilsl, demV_uniq, Nat.reduceLT, if_true, uf_own] at s1 s2
      simp +contextual -implicitDefEqProofs (maxSteps := 10000000) only [go_sem, ↓reduceIte, Nat.reduceEqDiff, Nat.reduceLT, k2, k3, k6, k8, k9, kc, kt, hl, ldAt_topc, ldC, ldT, hfree, hTfree, ha, hc, s1, s2, rfb, rfd, ufb, ufd]
  · rcases hvc with ⟨e3, e4⟩ | e3
    · subst e1
      subst e3
      simp +contextual -implicitDefEqProofs (maxSteps := 10000000) only [x4, go_sem, ↓reduceIte, Nat.reduceEqDiff, Nat.reduceLT, hCm, hCl', hCp, hTm, hTl, hTp, ldAt_topc, ldC, ldT, hfree, hTfree, ha, hb, hc, hd, o_thw, thwK_nil, thwK_uniq, tx_len, uf_sl, o_callw, hB5, hb5, hN7 e4, cwK_same, ufb, ufd, fget_drop1K]
      refine l_spoilA C T (.sl ⟨0, 5, 0⟩ 1 0 la.length) vb .nilsl vd la.length 0 (by omega) (fun r => finK _ (seqK (blockK 0 r) _) = _) ⟨?_, ?_, ?_, ?_, ?_, ?_, ?_, ?_, ?_, ?_, ?_⟩ ?_ ?_
      case refine_8 => simp only [go_sem, ↓reduceIte, Nat.reduceEqDiff]
      case refine_9 => simp only [go_sem, ↓reduceIte, Nat.reduceEqDiff]
      case refine_10 => exact .inr ⟨rfl, _, by simp only [go_sem, ↓reduceIte] <;> rfl, hf5⟩
      case refine_11 => exact .inl ⟨rfl, rfl⟩
      all_goals first | (simp only [go_sem, ↓reduceIte, Nat.reduceEqDiff, fget_drop1K]; done) | skip
      intro fr L k
      simp +contextual -implicitDefEqProofs (maxSteps := 10000000) only [go_sem, ↓reduceIte]
      refine l_spoilC C T (.sl ⟨0, 5, 0⟩ 1 0 la.length) vb .nilsl vd la.length 0 (by omega) (fun r => finK _ (seqK (blockK 2 r) _) = _) ⟨?_, ?_, ?_, ?_, ?_, ?_, ?_, k.c2, k.c3, k.b5, k.b7⟩ ?_ ?_
      all_goals first | (simp only [go_sem, ↓reduceIte, Nat.reduceEqDiff, k.f2, k.f3, k.f5, k.f6, k.f7, k.f8, k.f9]; done) | skip
      intro fr L k
      have k2 := k.f2
      have k3 := k.f3
      have k6 := k.f6
      have k8 := k.f8
      have k9 := k.f9
      have kc := k.c2
      have kt := k.c3
      simp only [demV_nil, uf_nilsl, demV_uniq, Nat.reduceLT, if_true, uf_own] at s1 s2
      simp +contextual -implicitDefEqProofs (maxSteps := 10000000) only [go_sem, ↓reduceIte, Nat.reduceEqDiff, Nat.reduceLT, k2, k3, k6, k8, k9, kc, kt, hl, ldAt_topc, ldC, ldT, hfree, hTfree, ha, hc, s1, s2, rfb, rfd, ufb, ufd]
    · subst e1
      subst e3
      simp +contextual -implicitDefEqProofs (maxSteps := 10000000) only [x4, go_sem, ↓reduceIte, Nat.reduceEqDiff, Nat.reduceLT, hCm, hCl', hCp, hTm, hTl, hTp, ldAt_topc, ldC, ldT, hfree, hTfree, ha, hb, hc, hd, o_thw, thwK_uniq, tx_len, uf_sl, o_callw, hB5, hb5, hB7, hb7, cwK_same, ufb, ufd, fget_drop1K]
      refine l_spoilA C T (.sl ⟨0, 5, 0⟩ 1 0 la.length) vb (.sl ⟨0, 7, 0⟩ 1 0 lc.length) vd la.length lc.length (by omega) (fun r => finK _ (seqK (blockK 0 r) _) = _) ⟨?_, ?_, ?_, ?_, ?_, ?_, ?_, ?_, ?_, ?_, ?_⟩ ?_ ?_
      case refine_8 => simp only [go_sem, ↓reduceIte, Nat.reduceEqDiff]
      case refine_9 => simp only [go_sem, ↓reduceIte, Nat.reduceEqDiff]
      case refine_10 => exact .inr ⟨rfl, _, by simp only [go_sem, ↓reduceIte, Nat.reduceEqDiff] <;> rfl, hf5⟩
      case refine_11 => exact .inr ⟨rfl, _, by simp only [go_sem, ↓reduceIte] <;> rfl, hf7⟩
      all_goals first | (simp only [go_sem, ↓reduceIte, Nat.reduceEqDiff, fget_drop1K]; done) | skip
      intro fr L k
      simp +contextual -implicitDefEqProofs (maxSteps := 10000000) only [go_sem, ↓reduceIte]
      refine l_spoilC C T (.sl ⟨0, 5, 0⟩ 1 0 la.length) vb (.sl ⟨0, 7, 0⟩ 1 0 lc.length) vd la.length lc.length (by omega) (fun r => finK _ (seqK (blockK 2 r) _) = _) ⟨?_, ?_, ?_, ?_, ?_, ?_, ?_, k.c2, k.c3, k.b5, k.b7⟩ ?_ ?_
      all_goals first | (simp only [go_sem, ↓reduceIte, Nat.reduceEqDiff, k.f2, k.f3, k.f5, k.f6, k.f7, k.f8, k.f9]; done) | skip
      intro fr L k
      have k2 := k.f2
      have k3 := k.f3
      have k6 := k.f6
      have k8 := k.f8
      have k9 := k.f9
      have kc := k.c2
      have kt := k.c3
      simp only [demV_uniq, Nat.reduceLT, if_true, uf_own] at s1 s2
      simp +contextual -implicitDefEqProofs (maxSteps := 10000000) only [go_sem, ↓reduceIte, Nat.reduceEqDiff, Nat.reduceLT, k2, k3, k6, k8, k9, kc, kt, hl, ldAt_topc, ldC, ldT, hfree, hTfree, ha, hc, s1, s2, rfb, rfd, ufb, ufd]
end Go.Proofs.YtnmaahfipddkmaaGreat.Sx.T
