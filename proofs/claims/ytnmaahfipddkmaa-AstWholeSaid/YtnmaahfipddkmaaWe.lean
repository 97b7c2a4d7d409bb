/- Layer 6, part 34: checks, sizes. -/
import Derived.Test.YtnmaahfipddkmaaWd
import Derived.Test.YtnmaahfipddkmaaTold
import Derived.Test.YtnmaahfipddkmaaWb
set_option linter.unusedVariables false
set_option linter.unusedSimpArgs false
namespace Go.Proofs.Ytnmaahfipddkmaa.Sx.T
open Go Go.Proofs.Ytnmaahfipddkmaa.Sx
set_option maxRecDepth 100000
set_option maxHeartbeats 16000000
theorem dmax_mem : ∀ (P : List (List Nm × Int)) (d : Int), d ≤ P.foldl (fun d p => if p.2 > d then p.2 else d) d ∧ ∀ p ∈ P, p.2 ≤ P.foldl (fun d p => if p.2 > d then p.2 else d) d
  | [], d => ⟨Int.le_refl _, fun p hp => by simp at hp⟩
  | q :: P, d => by
    obtain ⟨h1, h2⟩ := dmax_mem P (if q.2 > d then q.2 else d)
    rw [List.foldl_cons]
    have h3 : d ≤ (if q.2 > d then q.2 else d) ∧ q.2 ≤ (if q.2 > d then q.2 else d) := by split <;> omega
    refine ⟨by omega, fun p hp => ?_⟩
    rcases List.mem_cons.1 hp with rfl | hp
    · omega
    · exact h2 p hp
noncomputable def lookW (t : Fm) : Wk := if (t.wk 1 ⟨0, 0, 0⟩).e = 0 then mustW (decide (t.fr.2 ≤ 8)) 30 (t.wk 1 ⟨0, 0, 0⟩) else t.wk 1 ⟨0, 0, 0⟩
theorem look_ok {t : Fm} (h : (t.wk 1 ⟨0, 0, 0⟩).e = 0) : t.good ∧ t.sz ≤ 1048576 := by
  obtain ⟨_, h1, h2, h3⟩ := Fm.wk_ok t 1 ⟨0, 0, 0⟩ h (by simp)
  refine ⟨h1, ?_⟩
  have := Fm.sz_nn t h1
  simp only [Nat.zero_add] at h2
  omega
theorem ldK_wk2 (s : Wk) : ldK 1 false 2 (some (wkC s)) = some (.int .i64 s.e) := rfl
theorem ldK_wk0 (s : Wk) : ldCells (wkC s) 1 false = some (.int .i64 s.n) := rfl
theorem ldK_wk1 (s : Wk) : ldCells ((wkC s).drop 1) 1 false = some (.int .i64 s.m) := rfl
theorem ldK_wk2' (s : Wk) : ldCells ((wkC s).drop 2) 1 false = some (.int .i64 s.e) := rfl
theorem retOf_wk {l : Level} {s u : Nat} {w : Wk} (hl : lcells l s u = some (wkC w)) : retOf [l] 0 [.ptr ⟨0, s, u⟩ 0] = some (.elp (wkC w)) := by
  have hc : cellsAt [l] ⟨0, s, u⟩ = some (wkC w) := (cellsAt_topc (h := []) (m := 0) rfl).trans hl
  show shut [l] 0 shutDepth (.ptr ⟨0, s, u⟩ 0) = _
  rw [shut6]
  show (if (0 : Nat) = 0 then (match cellsAt [l] ⟨0, s, u⟩ with | some vs => (match mapO (shut [l] 0 5) (vs.drop 0) with | some cs => if refFreeL cs = true then some (AV.elp cs) else none | none => none) | none => none) else some (AV.ptr ⟨0, s, u⟩ 0)) = _
  rw [hc]
  rfl
theorem p_look (t : Fm) (hf : t.fit) : CL X (fun _ => []) 26 [.agg t.cells] [] = some (.elp (wkC (lookW t)), []) := by
  have hform := p_formula t hf
  have hfx := (Fm.fxp _ hf).flat
  have hfree := flatFm' hf
  have hfreeP : (t.wk 1 ⟨0, 0, 0⟩).e = 0 → FrA t := fun h => p_free t hf (look_ok h).1 (look_ok h).2
  unfold lookW
  obtain ⟨s, hs⟩ : ∃ s, t.wk 1 ⟨0, 0, 0⟩ = s := ⟨_, rfl⟩
  rw [hs] at hfreeP ⊢
  have hfc : ∀ r hp, isWk (cellsAt hp r) = true → CL X (fun _ => []) 48 [.ptr r 0, .agg t.cells, .int .i64 1] hp = some (.tup [], bput hp r (wkC (t.wk 1 (wkOf (cellsAt hp r))))) := fun r hp h => hform r 1 (by decide) (by decide) hp h
  have hmust := fun r ok c hp h => p_must r ok c hp h
  obtain ⟨D, hD⟩ : ∃ D, t.fr.2 = D := ⟨_, rfl⟩
  unfold FrA at hfreeP
  rw [hD] at hfreeP ⊢
  have hwk : ∀ s0, t.wk 1 s0 = t.wk 1 s0 := fun _ => rfl
  generalize t.cells = C at hfc hfx hfree hfreeP ⊢
  obtain ⟨hCl, hCp, hCm⟩ := hfx
  have hCl' : C.length = 10 := hCl
  have hCt : C.take 10 = C := List.take_of_length_le (by omega)
  have ldC : ldK 10 true 0 (some C) = some (.agg C) := by
    rw [ldK_some, ldCells_agg, List.drop_zero, if_pos (by omega), hCt, hCm]
  have iw0 : isWk (some [.int .i64 0, .int .i64 0, .int .i64 0]) = true := rfl
  have ow0 : wkOf (some [.int .i64 0, .int .i64 0, .int .i64 0]) = ⟨0, 0, 0⟩ := rfl
  have hput : ∀ l D E, lputc (lputc l 7 0 D) 7 0 E = lputc l 7 0 E := fun l D E => by unfold lputc; rw [lput_lput]
  have hret : ∀ w, retOf [lputc (lputc [] 1 0 C) 7 0 (wkC w)] 0 [.ptr ⟨0, 7, 0⟩ 0] = some (.elp (wkC w)) := fun w => retOf_wk (by rw [lcells_put]; simp)
  have hcw : ∀ d fr v (D E : List AV), cwK [lputc (lputc [] 1 0 C) 7 0 D] d fr (some (v, [lputc (lputc [] 1 0 C) 7 0 E])) = some (fput fr d v, [lputc (lputc [] 1 0 C) 7 0 E]) := by
    intro d fr v D E
    have := cwK_put (l := lputc (lputc [] 1 0 C) 7 0 D) (h := []) (s := 7) (u := 0) (cs0 := D) (by rw [lcells_put]; simp) d fr v E
    rwa [hput] at this
  rw [CL_eq (fn := x26) rfl]
  by_cases he : s.e = 0
  · obtain ⟨u, ⟨w, rfl, hw⟩, hcall⟩ := hfreeP he
    rw [if_pos he]
    obtain ⟨_, wu, _, wd, _⟩ := hw.one
    simp +contextual -implicitDefEqProofs (maxSteps := 10000000) only [x26, go_sem, ↓reduceIte, Nat.reduceEqDiff, Nat.reduceAdd, hCm, hCl', hCp, ldAt_topc, cellsAt_topc, bput_topc, ldC, hfc, iw0, ow0, hs, o_callw, hput, hcw, ldK_wk2, he, hcall, hfree, wu, wd, hmust, isWk_C, wkOf_C, hret]
  · rw [if_neg he]
    simp +contextual -implicitDefEqProofs (maxSteps := 10000000) only [x26, go_sem, ↓reduceIte, Nat.reduceEqDiff, Nat.reduceAdd, hCm, hCl', hCp, ldAt_topc, cellsAt_topc, bput_topc, ldC, hfc, iw0, ow0, hs, o_callw, hput, hcw, ldK_wk2, he, hret]
theorem p_check (t : Fm) (hf : t.fit) : CL X (fun _ => []) 9 [.agg t.cells] [] = some (.int .i64 (lookW t).e, []) := by
  have hl := p_look t hf
  obtain ⟨hCl, hCp, hCm⟩ := (Fm.fxp _ hf).flat
  have hfree := flatFm' hf
  generalize t.cells = C at hl hCl hCp hCm hfree ⊢
  have hCl' : C.length = 10 := hCl
  have hCt : C.take 10 = C := List.take_of_length_le (by omega)
  have ldC : ldK 10 true 0 (some C) = some (.agg C) := by
    rw [ldK_some, ldCells_agg, List.drop_zero, if_pos (by omega), hCt, hCm]
  have hle : (2 ≤ (wkC (lookW t)).length) = True := by simp [wkC]
  rw [CL_eq (fn := x9) rfl]
  simp +contextual -implicitDefEqProofs (maxSteps := 10000000) only [x9, go_sem, ↓reduceIte, Nat.reduceEqDiff, hCm, hCl', hCp, ldAt_topc, ldC, hfree, hl, hle, ldK_wk2']
theorem p_nodes (t : Fm) (hf : t.fit) : CL X (fun _ => []) 17 [.agg t.cells] [] = some (.int .i64 (if (lookW t).e = 0 then ((lookW t).n : Int) else 0), []) := by
  have hl := p_look t hf
  obtain ⟨hCl, hCp, hCm⟩ := (Fm.fxp _ hf).flat
  have hfree := flatFm' hf
  generalize t.cells = C at hl hCl hCp hCm hfree ⊢
  have hCl' : C.length = 10 := hCl
  have hCt : C.take 10 = C := List.take_of_length_le (by omega)
  have ldC : ldK 10 true 0 (some C) = some (.agg C) := by
    rw [ldK_some, ldCells_agg, List.drop_zero, if_pos (by omega), hCt, hCm]
  have hle : (2 ≤ (wkC (lookW t)).length) = True := by simp [wkC]
  have hle0 : (0 ≤ (wkC (lookW t)).length) = True := by simp
  rw [CL_eq (fn := x17) rfl]
  by_cases he : (lookW t).e = 0
  · rw [if_pos he]
    simp +contextual -implicitDefEqProofs (maxSteps := 10000000) only [x17, go_sem, ↓reduceIte, Nat.reduceEqDiff, hCm, hCl', hCp, ldAt_topc, ldC, hfree, hl, hle, hle0, ldK_wk2', ldK_wk0, he]
  · rw [if_neg he]
    simp +contextual -implicitDefEqProofs (maxSteps := 10000000) only [x17, go_sem, ↓reduceIte, Nat.reduceEqDiff, hCm, hCl', hCp, ldAt_topc, ldC, hfree, hl, hle, hle0, ldK_wk2', ldK_wk0, he]
theorem p_depth (t : Fm) (hf : t.fit) : CL X (fun _ => []) 19 [.agg t.cells] [] = some (.int .i64 (if (lookW t).e = 0 then (lookW t).m else 0), []) := by
  have hl := p_look t hf
  obtain ⟨hCl, hCp, hCm⟩ := (Fm.fxp _ hf).flat
  have hfree := flatFm' hf
  generalize t.cells = C at hl hCl hCp hCm hfree ⊢
  have hCl' : C.length = 10 := hCl
  have hCt : C.take 10 = C := List.take_of_length_le (by omega)
  have ldC : ldK 10 true 0 (some C) = some (.agg C) := by
    rw [ldK_some, ldCells_agg, List.drop_zero, if_pos (by omega), hCt, hCm]
  have hle : (2 ≤ (wkC (lookW t)).length) = True := by simp [wkC]
  have hle1 : (1 ≤ (wkC (lookW t)).length) = True := by simp [wkC]
  rw [CL_eq (fn := x19) rfl]
  by_cases he : (lookW t).e = 0
  · rw [if_pos he]
    simp +contextual -implicitDefEqProofs (maxSteps := 10000000) only [x19, go_sem, ↓reduceIte, Nat.reduceEqDiff, hCm, hCl', hCp, ldAt_topc, ldC, hfree, hl, hle, hle1, ldK_wk2', ldK_wk1, he]
  · rw [if_neg he]
    simp +contextual -implicitDefEqProofs (maxSteps := 10000000) only [x19, go_sem, ↓reduceIte, Nat.reduceEqDiff, hCm, hCl', hCp, ldAt_topc, ldC, hfree, hl, hle, hle1, ldK_wk2', ldK_wk1, he]
theorem look_of {t : Fm} (h : (lookW t).e = 0) : (t.wk 1 ⟨0, 0, 0⟩).e = 0 ∧ lookW t = t.wk 1 ⟨0, 0, 0⟩ := by
  unfold lookW at h ⊢
  by_cases he : (t.wk 1 ⟨0, 0, 0⟩).e = 0
  · rw [if_pos he] at h ⊢
    refine ⟨he, ?_⟩
    unfold mustW at h ⊢
    split
    · rename_i hc
      rw [if_pos hc] at h
      simp at h
    · rfl
  · rw [if_neg he] at h
    exact absurd h he
mutual
def Tm.cl : Tm → Tm
  | .mk k n vk vn vd vs _ ss => .mk k n vk vn vd vs true (Tm.clL ss)
def Tm.clL : List Tm → List Tm
  | [] => []
  | t :: l => t.cl :: Tm.clL l
end
mutual
def Fm.cl : Fm → Fm
  | .mk k n op bv vs _ ts lo hi o _ ss _ rs => .mk k n op bv vs true (Tm.clL ts) lo hi o true (Fm.clL ss) true (Rx.clL rs)
def Fm.clL : List Fm → List Fm
  | [] => []
  | t :: l => t.cl :: Fm.clL l
def Rx.cl : Rx → Rx
  | .mk k _ ts _ ss => .mk k true (Fm.clL ts) true (Rx.clL ss)
def Rx.clL : List Rx → List Rx
  | [] => []
  | t :: l => t.cl :: Rx.clL l
end
theorem Tm.clL_eq : ∀ l : List Tm, Tm.clL l = l.map Tm.cl
  | [] => rfl
  | t :: l => by simp [Tm.clL, Tm.clL_eq l]
theorem Tm.clL_len (l : List Tm) : (Tm.clL l).length = l.length := by simp [Tm.clL_eq]
theorem Fm.clL_eq : ∀ l : List Fm, Fm.clL l = l.map Fm.cl
  | [] => rfl
  | t :: l => by simp [Fm.clL, Fm.clL_eq l]
theorem Fm.clL_len (l : List Fm) : (Fm.clL l).length = l.length := by simp [Fm.clL_eq]
theorem Rx.clL_eq : ∀ l : List Rx, Rx.clL l = l.map Rx.cl
  | [] => rfl
  | t :: l => by simp [Rx.clL, Rx.clL_eq l]
theorem Rx.clL_len (l : List Rx) : (Rx.clL l).length = l.length := by simp [Rx.clL_eq]
mutual
theorem Tm.cl_fit : ∀ t : Tm, t.fit → t.cl.fit
  | .mk k n vk vn vd vs b ss, h => by
    simp only [Tm.fit] at h
    simp only [Tm.cl, Tm.fit, Tm.clL_len]
    exact ⟨h.1, h.2.1, h.2.2.1, Tm.clL_fit ss h.2.2.2⟩
theorem Tm.clL_fit : ∀ l : List Tm, Tm.fitL l → Tm.fitL (Tm.clL l)
  | [], _ => trivial
  | t :: l, h => ⟨Tm.cl_fit t h.1, Tm.clL_fit l h.2⟩
end
mutual
theorem Fm.cl_fit : ∀ t : Fm, t.fit → t.cl.fit
  | .mk k n op bv vs bt ts lo hi o bs ss br rs, h => by
    simp only [Fm.fit] at h
    obtain ⟨h1, h2, h3, h4, h5, h6, h7⟩ := h
    simp only [Fm.cl, Fm.fit, Fm.clL_len, Tm.clL_len, Rx.clL_len]
    exact ⟨h1, h2, h3, h4, Tm.clL_fit ts h5, Fm.clL_fit ss h6, Rx.clL_fit rs h7⟩
theorem Fm.clL_fit : ∀ l : List Fm, Fm.fitL l → Fm.fitL (Fm.clL l)
  | [], _ => trivial
  | t :: l, h => ⟨Fm.cl_fit t h.1, Fm.clL_fit l h.2⟩
theorem Rx.cl_fit : ∀ t : Rx, t.fit → t.cl.fit
  | .mk k bt ts bs ss, h => by
    simp only [Rx.fit] at h
    obtain ⟨h1, h2, h3, h4⟩ := h
    simp only [Rx.cl, Rx.fit, Fm.clL_len, Rx.clL_len]
    exact ⟨h1, h2, Fm.clL_fit ts h3, Rx.clL_fit ss h4⟩
theorem Rx.clL_fit : ∀ l : List Rx, Rx.fitL l → Rx.fitL (Rx.clL l)
  | [], _ => trivial
  | t :: l, h => ⟨Rx.cl_fit t h.1, Rx.clL_fit l h.2⟩
end
theorem chunks_one (z : Nat) (l : List AV) : chunks z 1 l = [l.take z] := rfl
def TmC (t : Tm) : Prop := ∀ hp, CL X (fun _ => []) 41 [.agg t.cells] hp = some (.agg t.cl.cells, hp)
def FmC (t : Fm) : Prop := ∀ hp, CL X (fun _ => []) 14 [.agg t.cells] hp = some (.agg t.cl.cells, hp)
def RxC (t : Rx) : Prop := ∀ hp, CL X (fun _ => []) 43 [.agg t.cells] hp = some (.agg t.cl.cells, hp)
theorem Tm.free {t : Tm} (h : t.fit) : refFreeL t.cells = true := (Tm.tmp t h).free.2
theorem Fm.free' {t : Fm} (h : t.fit) : refFreeL t.cells = true := (Fm.fxp t h).free.2
theorem Rx.free' {t : Rx} (h : t.fit) : refFreeL t.cells = true := (Rx.fxp t h).free.2
def accTm (l : List Tm) : AV := if l = [] then .nilsl else .lst .own 7 (Tm.cellsL l)
theorem accTm_app (l : List Tm) (t : Tm) (ht : t.fit) (hs : (l.length + 1) * 88 ≤ room) : appK false 7 88 (accTm l) (some [t.cells]) = some (accTm (l ++ [t])) := by
  have h1 : refFreeL ([t.cells] : List (List AV)).flatten = true ∧ ([t.cells] : List (List AV)).flatten.all plain1 = true := by
    rw [List.flatten_cons, List.flatten_nil, List.append_nil]
    exact ⟨Tm.free ht, (flatTm ht).2.1⟩
  have hn : ¬ ([t.cells] : List (List AV)) = [] := by simp
  have hc : Tm.cellsL (l ++ [t]) = Tm.cellsL l ++ [t.cells] := by simp [Tm.cellsL_eq]
  have ha : ¬ l ++ [t] = [] := by simp
  unfold accTm
  rw [if_neg ha, hc]
  by_cases h0 : l = []
  · subst h0
    rw [if_pos rfl, appK_nilsl, if_neg hn, if_pos h1, if_pos (by simpa using hs)]
    rfl
  · rw [if_neg h0, appK_lst, if_neg hn, if_pos h1, if_pos ⟨rfl, rfl, by simpa [Tm.cellsL_len] using hs⟩]
    rfl
theorem accTm_uf (l : List Tm) : uf (accTm l) = slv true 7 (Tm.cellsL l) := by
  unfold accTm slv
  by_cases h : l = []
  · subst h; simp [Tm.cellsL, uf]
  · have h' : ¬ Tm.cellsL l = [] := by
      intro e
      have := Tm.cellsL_len l
      rw [e] at this
      simp at this
      exact h (List.length_eq_zero_iff.1 this.symm)
    simp [h, h', uf]
theorem p_eachTm (l : List Tm) (hfit : Tm.fitL l) (hl : l.length * 88 ≤ 140737488351232) (v : AV) (hv : Sl 7 v (Tm.cellsL l)) (hp : Heap) (ih : ∀ t ∈ l, TmC t) :
    CL X (fun _ => []) 40 [v, .fn 41 [] []] hp = some (slv true 7 (Tm.cellsL (Tm.clL l)), hp) := by
  obtain ⟨p1, u1, n1, d1, f1⟩ := hv.one
  have hlen := Tm.cellsL_len l
  rw [hlen] at n1
  rw [CL_eq (fn := x40) rfl]
  simp +contextual -implicitDefEqProofs (maxSteps := 10000000) only [x40, go_sem, ↓reduceIte, reduceCtorEq, u1, n1]
  obtain ⟨I, hI⟩ : ∃ I : Nat → List AV → Heap → Prop, ∀ i fr hp', I i fr hp' ↔ ((∃ L, hp' = L :: hp) ∧ fget fr 1 = .fn 41 [] [] ∧ fget fr 5 = accTm (Tm.clL (l.take i)) ∧ fget fr 8 = v ∧ fget fr 9 = .int .i64 l.length ∧ fget fr 10 = .int .i64 (i : Nat)) := ⟨_, fun _ _ _ => Iff.rfl⟩
  obtain ⟨Q, hQ⟩ : ∃ Q : XExit → List AV → Heap → Prop, ∀ e fr hp', Q e fr hp' ↔ ((∃ L, hp' = L :: hp) ∧ e = .exit 0 ∧ fget fr 5 = accTm (Tm.clL l)) := ⟨_, fun _ _ _ => Iff.rfl⟩
  refine LC_upK l.length I Q (fun r => finK _ (seqK (blockK 0 r) _) = _) ?_ ?_ ?_ ?_
  · rw [hI]
    refine ⟨⟨[], rfl⟩, ?_, ?_, ?_, ?_, ?_⟩ <;> simp only [go_sem, ↓reduceIte, Nat.reduceEqDiff, Int.natCast_zero, List.take_zero, Tm.clL, accTm]
  · intro i hi fr hp' h
    obtain ⟨⟨L, rfl⟩, h1, h5, h8, h9, h10⟩ := (hI _ _ _).1 h
    have hv' : v = .lst .none 7 (Tm.cellsL l) := by
      rcases hv with ⟨_, e⟩ | e
      · rw [e] at hlen; simp at hlen; omega
      · exact e
    have k1 : ((i : Int) < (l.length : Int)) = True := by simp; omega
    have k2 : (i < (Tm.cellsL l).length) = True := by rw [hlen]; simp; omega
    have w1 : wr .i64 ((i : Int) + 1) = ((i + 1 : Nat) : Int) := by rw [wr_i64 _ (by omega)]; omega
    have g1 : (Tm.cellsL l).getD i [] = (l[i]).cells := by simp [Tm.cellsL_eq, List.getD, hi]
    have hmem : l[i] ∈ l := List.getElem_mem hi
    have hft := Tm.fitL_mem hfit _ hmem
    obtain ⟨a1, a2, a3, a4, a5⟩ := flatTm hft
    have a1' : (7 ≤ (l[i]).cells.length) = True := by simp; omega
    obtain ⟨b1, b2, b3, b4, b5⟩ := flatTm (Tm.cl_fit _ hft)
    have b6 := Tm.free (Tm.cl_fit _ hft)
    have hih := ih _ hmem
    unfold TmC at hih
    have htk : Tm.clL (l.take (i + 1)) = Tm.clL (l.take i) ++ [(l[i]).cl] := by
      rw [List.take_succ_eq_append_getElem hi, Tm.clL_eq, Tm.clL_eq, List.map_append]; rfl
    have happ := accTm_app (Tm.clL (l.take i)) (l[i]).cl (Tm.cl_fit _ hft) (by rw [Tm.clL_len, List.length_take]; simp [room]; omega)
    rw [← htk] at happ
    generalize (l[i]).cl.cells = D at b1 b2 b3 b4 b5 b6 hih happ
    obtain ⟨A, hA⟩ : ∃ A, accTm (Tm.clL (l.take i)) = A := ⟨_, rfl⟩
    obtain ⟨A', hA'⟩ : ∃ A, accTm (Tm.clL (l.take (i + 1))) = A := ⟨_, rfl⟩
    rw [hA, hA'] at happ
    rw [hA] at h5
    simp +contextual -implicitDefEqProofs (maxSteps := 10000000) only [x40_l0_run, go_sem, ↓reduceIte, Nat.reduceEqDiff, Nat.reduceAdd, Nat.reduceLT, Nat.reduceDiv, h1, h5, h8, h9, h10, hv', k1, k2, w1, g1, a1, a2, a3, a4, a5, b1, b3, b4, b5, b6, o_calld, hih, cwK_same, chunks_one, fget_drop1K, happ, stAt_topc, ldAt_topc]
    rw [hI]
    refine ⟨⟨_, rfl⟩, ?_, ?_, ?_, ?_, ?_⟩ <;> simp only [go_sem, ↓reduceIte, Nat.reduceEqDiff, h1, h8, h9, hv', fget_drop1K, hA']
  · intro fr hp' h
    obtain ⟨⟨L, rfl⟩, h1, h5, h8, h9, h10⟩ := (hI _ _ _).1 h
    simp +contextual -implicitDefEqProofs (maxSteps := 10000000) only [x40_l0_run, go_sem, ↓reduceIte, h9, h10, Int.lt_irrefl]
    rw [hQ]
    rw [List.take_length] at h5
    exact ⟨⟨L, rfl⟩, rfl, by simp only [go_sem, ↓reduceIte, Nat.reduceEqDiff, h5]⟩
  · intro e fr hp' he h
    obtain ⟨⟨L, rfl⟩, rfl, h5⟩ := (hQ _ _ _).1 h
    have hu := accTm_uf (Tm.clL l)
    have hs := (slv_Sl true 7 (Tm.cellsL (Tm.clL l)))
    obtain ⟨c1, c2, c3, c4, c5⟩ := hs.one
    generalize slv true 7 (Tm.cellsL (Tm.clL l)) = S at hu hs c1 c2 c3 c4 c5
    have hr : ∀ hp lev, retOf hp lev [S] = some S := by
      rcases hs with ⟨rfl, _⟩ | rfl <;> intro hp lev <;> rfl
    simp +contextual -implicitDefEqProofs (maxSteps := 10000000) only [go_sem, ↓reduceIte, h5, hu, c4, hr]
def accRx (l : List Rx) : AV := if l = [] then .nilsl else .lst .own 3 (Rx.cellsL l)
theorem accRx_app (l : List Rx) (t : Rx) (ht : t.fit) (hs : (l.length + 1) * 56 ≤ room) : appK false 3 56 (accRx l) (some [t.cells]) = some (accRx (l ++ [t])) := by
  have h1 : refFreeL ([t.cells] : List (List AV)).flatten = true ∧ ([t.cells] : List (List AV)).flatten.all plain1 = true := by
    rw [List.flatten_cons, List.flatten_nil, List.append_nil]
    exact ⟨Rx.free' ht, (flatRx ht).2.1⟩
  have hn : ¬ ([t.cells] : List (List AV)) = [] := by simp
  have hc : Rx.cellsL (l ++ [t]) = Rx.cellsL l ++ [t.cells] := by simp [Rx.cellsL_eq]
  have ha : ¬ l ++ [t] = [] := by simp
  unfold accRx
  rw [if_neg ha, hc]
  by_cases h0 : l = []
  · subst h0
    rw [if_pos rfl, appK_nilsl, if_neg hn, if_pos h1, if_pos (by simpa using hs)]
    rfl
  · rw [if_neg h0, appK_lst, if_neg hn, if_pos h1, if_pos ⟨rfl, rfl, by simpa [Rx.cellsL_len] using hs⟩]
    rfl
theorem accRx_uf (l : List Rx) : uf (accRx l) = slv true 3 (Rx.cellsL l) := by
  unfold accRx slv
  by_cases h : l = []
  · subst h; simp [Rx.cellsL, uf]
  · have h' : ¬ Rx.cellsL l = [] := by
      intro e
      have := Rx.cellsL_len l
      rw [e] at this
      simp at this
      exact h (List.length_eq_zero_iff.1 this.symm)
    simp [h, h', uf]
theorem p_eachRx (l : List Rx) (hfit : Rx.fitL l) (hl : l.length * 56 ≤ 140737488351232) (v : AV) (hv : Sl 3 v (Rx.cellsL l)) (hp : Heap) (ih : ∀ t ∈ l, RxC t) :
    CL X (fun _ => []) 42 [v, .fn 43 [] []] hp = some (slv true 3 (Rx.cellsL (Rx.clL l)), hp) := by
  obtain ⟨p1, u1, n1, d1, f1⟩ := hv.one
  have hlen := Rx.cellsL_len l
  rw [hlen] at n1
  rw [CL_eq (fn := x42) rfl]
  simp +contextual -implicitDefEqProofs (maxSteps := 10000000) only [x42, go_sem, ↓reduceIte, reduceCtorEq, u1, n1]
  obtain ⟨I, hI⟩ : ∃ I : Nat → List AV → Heap → Prop, ∀ i fr hp', I i fr hp' ↔ ((∃ L, hp' = L :: hp) ∧ fget fr 1 = .fn 43 [] [] ∧ fget fr 5 = accRx (Rx.clL (l.take i)) ∧ fget fr 8 = v ∧ fget fr 9 = .int .i64 l.length ∧ fget fr 10 = .int .i64 (i : Nat)) := ⟨_, fun _ _ _ => Iff.rfl⟩
  obtain ⟨Q, hQ⟩ : ∃ Q : XExit → List AV → Heap → Prop, ∀ e fr hp', Q e fr hp' ↔ ((∃ L, hp' = L :: hp) ∧ e = .exit 0 ∧ fget fr 5 = accRx (Rx.clL l)) := ⟨_, fun _ _ _ => Iff.rfl⟩
  refine LC_upK l.length I Q (fun r => finK _ (seqK (blockK 0 r) _) = _) ?_ ?_ ?_ ?_
  · rw [hI]
    refine ⟨⟨[], rfl⟩, ?_, ?_, ?_, ?_, ?_⟩ <;> simp only [go_sem, ↓reduceIte, Nat.reduceEqDiff, Int.natCast_zero, List.take_zero, Rx.clL, accRx]
  · intro i hi fr hp' h
    obtain ⟨⟨L, rfl⟩, h1, h5, h8, h9, h10⟩ := (hI _ _ _).1 h
    have hv' : v = .lst .none 3 (Rx.cellsL l) := by
      rcases hv with ⟨_, e⟩ | e
      · rw [e] at hlen; simp at hlen; omega
      · exact e
    have k1 : ((i : Int) < (l.length : Int)) = True := by simp; omega
    have k2 : (i < (Rx.cellsL l).length) = True := by rw [hlen]; simp; omega
    have w1 : wr .i64 ((i : Int) + 1) = ((i + 1 : Nat) : Int) := by rw [wr_i64 _ (by omega)]; omega
    have g1 : (Rx.cellsL l).getD i [] = (l[i]).cells := by simp [Rx.cellsL_eq, List.getD, hi]
    have hmem : l[i] ∈ l := List.getElem_mem hi
    have hft := Rx.fitL_mem hfit _ hmem
    obtain ⟨a1, a2, a3, a4, a5⟩ := flatRx hft
    have a1' : (3 ≤ (l[i]).cells.length) = True := by simp; omega
    obtain ⟨b1, b2, b3, b4, b5⟩ := flatRx (Rx.cl_fit _ hft)
    have b6 := Rx.free' (Rx.cl_fit _ hft)
    have hih := ih _ hmem
    unfold RxC at hih
    have htk : Rx.clL (l.take (i + 1)) = Rx.clL (l.take i) ++ [(l[i]).cl] := by
      rw [List.take_succ_eq_append_getElem hi, Rx.clL_eq, Rx.clL_eq, List.map_append]; rfl
    have happ := accRx_app (Rx.clL (l.take i)) (l[i]).cl (Rx.cl_fit _ hft) (by rw [Rx.clL_len, List.length_take]; simp [room]; omega)
    rw [← htk] at happ
    generalize (l[i]).cl.cells = D at b1 b2 b3 b4 b5 b6 hih happ
    obtain ⟨A, hA⟩ : ∃ A, accRx (Rx.clL (l.take i)) = A := ⟨_, rfl⟩
    obtain ⟨A', hA'⟩ : ∃ A, accRx (Rx.clL (l.take (i + 1))) = A := ⟨_, rfl⟩
    rw [hA, hA'] at happ
    rw [hA] at h5
    simp +contextual -implicitDefEqProofs (maxSteps := 10000000) only [x42_l0_run, go_sem, ↓reduceIte, Nat.reduceEqDiff, Nat.reduceAdd, Nat.reduceLT, Nat.reduceDiv, h1, h5, h8, h9, h10, hv', k1, k2, w1, g1, a1, a2, a3, a4, a5, b1, b3, b4, b5, b6, o_calld, hih, cwK_same, chunks_one, fget_drop1K, happ, stAt_topc, ldAt_topc]
    rw [hI]
    refine ⟨⟨_, rfl⟩, ?_, ?_, ?_, ?_, ?_⟩ <;> simp only [go_sem, ↓reduceIte, Nat.reduceEqDiff, h1, h8, h9, hv', fget_drop1K, hA']
  · intro fr hp' h
    obtain ⟨⟨L, rfl⟩, h1, h5, h8, h9, h10⟩ := (hI _ _ _).1 h
    simp +contextual -implicitDefEqProofs (maxSteps := 10000000) only [x42_l0_run, go_sem, ↓reduceIte, h9, h10, Int.lt_irrefl]
    rw [hQ]
    rw [List.take_length] at h5
    exact ⟨⟨L, rfl⟩, rfl, by simp only [go_sem, ↓reduceIte, Nat.reduceEqDiff, h5]⟩
  · intro e fr hp' he h
    obtain ⟨⟨L, rfl⟩, rfl, h5⟩ := (hQ _ _ _).1 h
    have hu := accRx_uf (Rx.clL l)
    have hs := (slv_Sl true 3 (Rx.cellsL (Rx.clL l)))
    obtain ⟨c1, c2, c3, c4, c5⟩ := hs.one
    generalize slv true 3 (Rx.cellsL (Rx.clL l)) = S at hu hs c1 c2 c3 c4 c5
    have hr : ∀ hp lev, retOf hp lev [S] = some S := by
      rcases hs with ⟨rfl, _⟩ | rfl <;> intro hp lev <;> rfl
    simp +contextual -implicitDefEqProofs (maxSteps := 10000000) only [go_sem, ↓reduceIte, h5, hu, c4, hr]
def accFm (l : List Fm) : AV := if l = [] then .nilsl else .lst .own 10 (Fm.cellsL l)
theorem accFm_app (l : List Fm) (t : Fm) (ht : t.fit) (hs : (l.length + 1) * 152 ≤ room) : appK false 10 152 (accFm l) (some [t.cells]) = some (accFm (l ++ [t])) := by
  have h1 : refFreeL ([t.cells] : List (List AV)).flatten = true ∧ ([t.cells] : List (List AV)).flatten.all plain1 = true := by
    rw [List.flatten_cons, List.flatten_nil, List.append_nil]
    exact ⟨Fm.free' ht, (flatFm ht).2.1⟩
  have hn : ¬ ([t.cells] : List (List AV)) = [] := by simp
  have hc : Fm.cellsL (l ++ [t]) = Fm.cellsL l ++ [t.cells] := by simp [Fm.cellsL_eq]
  have ha : ¬ l ++ [t] = [] := by simp
  unfold accFm
  rw [if_neg ha, hc]
  by_cases h0 : l = []
  · subst h0
    rw [if_pos rfl, appK_nilsl, if_neg hn, if_pos h1, if_pos (by simpa using hs)]
    rfl
  · rw [if_neg h0, appK_lst, if_neg hn, if_pos h1, if_pos ⟨rfl, rfl, by simpa [Fm.cellsL_len] using hs⟩]
    rfl
theorem accFm_uf (l : List Fm) : uf (accFm l) = slv true 10 (Fm.cellsL l) := by
  unfold accFm slv
  by_cases h : l = []
  · subst h; simp [Fm.cellsL, uf]
  · have h' : ¬ Fm.cellsL l = [] := by
      intro e
      have := Fm.cellsL_len l
      rw [e] at this
      simp at this
      exact h (List.length_eq_zero_iff.1 this.symm)
    simp [h, h', uf]
theorem p_eachFm (l : List Fm) (hfit : Fm.fitL l) (hl : l.length * 152 ≤ 140737488351232) (v : AV) (hv : Sl 10 v (Fm.cellsL l)) (hp : Heap) (ih : ∀ t ∈ l, FmC t) :
    CL X (fun _ => []) 44 [v, .fn 14 [] []] hp = some (slv true 10 (Fm.cellsL (Fm.clL l)), hp) := by
  obtain ⟨p1, u1, n1, d1, f1⟩ := hv.one
  have hlen := Fm.cellsL_len l
  rw [hlen] at n1
  rw [CL_eq (fn := x44) rfl]
  simp +contextual -implicitDefEqProofs (maxSteps := 10000000) only [x44, go_sem, ↓reduceIte, reduceCtorEq, u1, n1]
  obtain ⟨I, hI⟩ : ∃ I : Nat → List AV → Heap → Prop, ∀ i fr hp', I i fr hp' ↔ ((∃ L, hp' = L :: hp) ∧ fget fr 1 = .fn 14 [] [] ∧ fget fr 5 = accFm (Fm.clL (l.take i)) ∧ fget fr 8 = v ∧ fget fr 9 = .int .i64 l.length ∧ fget fr 10 = .int .i64 (i : Nat)) := ⟨_, fun _ _ _ => Iff.rfl⟩
  obtain ⟨Q, hQ⟩ : ∃ Q : XExit → List AV → Heap → Prop, ∀ e fr hp', Q e fr hp' ↔ ((∃ L, hp' = L :: hp) ∧ e = .exit 0 ∧ fget fr 5 = accFm (Fm.clL l)) := ⟨_, fun _ _ _ => Iff.rfl⟩
  refine LC_upK l.length I Q (fun r => finK _ (seqK (blockK 0 r) _) = _) ?_ ?_ ?_ ?_
  · rw [hI]
    refine ⟨⟨[], rfl⟩, ?_, ?_, ?_, ?_, ?_⟩ <;> simp only [go_sem, ↓reduceIte, Nat.reduceEqDiff, Int.natCast_zero, List.take_zero, Fm.clL, accFm]
  · intro i hi fr hp' h
    obtain ⟨⟨L, rfl⟩, h1, h5, h8, h9, h10⟩ := (hI _ _ _).1 h
    have hv' : v = .lst .none 10 (Fm.cellsL l) := by
      rcases hv with ⟨_, e⟩ | e
      · rw [e] at hlen; simp at hlen; omega
      · exact e
    have k1 : ((i : Int) < (l.length : Int)) = True := by simp; omega
    have k2 : (i < (Fm.cellsL l).length) = True := by rw [hlen]; simp; omega
    have w1 : wr .i64 ((i : Int) + 1) = ((i + 1 : Nat) : Int) := by rw [wr_i64 _ (by omega)]; omega
    have g1 : (Fm.cellsL l).getD i [] = (l[i]).cells := by simp [Fm.cellsL_eq, List.getD, hi]
    have hmem : l[i] ∈ l := List.getElem_mem hi
    have hft := Fm.fitL_mem hfit _ hmem
    obtain ⟨a1, a2, a3, a4, a5⟩ := flatFm hft
    have a1' : (10 ≤ (l[i]).cells.length) = True := by simp; omega
    obtain ⟨b1, b2, b3, b4, b5⟩ := flatFm (Fm.cl_fit _ hft)
    have b6 := Fm.free' (Fm.cl_fit _ hft)
    have hih := ih _ hmem
    unfold FmC at hih
    have htk : Fm.clL (l.take (i + 1)) = Fm.clL (l.take i) ++ [(l[i]).cl] := by
      rw [List.take_succ_eq_append_getElem hi, Fm.clL_eq, Fm.clL_eq, List.map_append]; rfl
    have happ := accFm_app (Fm.clL (l.take i)) (l[i]).cl (Fm.cl_fit _ hft) (by rw [Fm.clL_len, List.length_take]; simp [room]; omega)
    rw [← htk] at happ
    generalize (l[i]).cl.cells = D at b1 b2 b3 b4 b5 b6 hih happ
    obtain ⟨A, hA⟩ : ∃ A, accFm (Fm.clL (l.take i)) = A := ⟨_, rfl⟩
    obtain ⟨A', hA'⟩ : ∃ A, accFm (Fm.clL (l.take (i + 1))) = A := ⟨_, rfl⟩
    rw [hA, hA'] at happ
    rw [hA] at h5
    simp +contextual -implicitDefEqProofs (maxSteps := 10000000) only [x44_l0_run, go_sem, ↓reduceIte, Nat.reduceEqDiff, Nat.reduceAdd, Nat.reduceLT, Nat.reduceDiv, h1, h5, h8, h9, h10, hv', k1, k2, w1, g1, a1, a2, a3, a4, a5, b1, b3, b4, b5, b6, o_calld, hih, cwK_same, chunks_one, fget_drop1K, happ, stAt_topc, ldAt_topc]
    rw [hI]
    refine ⟨⟨_, rfl⟩, ?_, ?_, ?_, ?_, ?_⟩ <;> simp only [go_sem, ↓reduceIte, Nat.reduceEqDiff, h1, h8, h9, hv', fget_drop1K, hA']
  · intro fr hp' h
    obtain ⟨⟨L, rfl⟩, h1, h5, h8, h9, h10⟩ := (hI _ _ _).1 h
    simp +contextual -implicitDefEqProofs (maxSteps := 10000000) only [x44_l0_run, go_sem, ↓reduceIte, h9, h10, Int.lt_irrefl]
    rw [hQ]
    rw [List.take_length] at h5
    exact ⟨⟨L, rfl⟩, rfl, by simp only [go_sem, ↓reduceIte, Nat.reduceEqDiff, h5]⟩
  · intro e fr hp' he h
    obtain ⟨⟨L, rfl⟩, rfl, h5⟩ := (hQ _ _ _).1 h
    have hu := accFm_uf (Fm.clL l)
    have hs := (slv_Sl true 10 (Fm.cellsL (Fm.clL l)))
    obtain ⟨c1, c2, c3, c4, c5⟩ := hs.one
    generalize slv true 10 (Fm.cellsL (Fm.clL l)) = S at hu hs c1 c2 c3 c4 c5
    have hr : ∀ hp lev, retOf hp lev [S] = some S := by
      rcases hs with ⟨rfl, _⟩ | rfl <;> intro hp lev <;> rfl
    simp +contextual -implicitDefEqProofs (maxSteps := 10000000) only [go_sem, ↓reduceIte, h5, hu, c4, hr]
theorem Sl.shut {z : Nat} {v : AV} {es : List (List AV)} (h : Sl z v es) (hp : Heap) (lev n : Nat) : shut hp lev (n + 1) v = some v := by
  rcases h with ⟨rfl, _⟩ | rfl <;> rfl
theorem Sl.cellsOf {z : Nat} {v : AV} {es : List (List AV)} (h : Sl z v es) : cellsOf v = [v] := by
  rcases h with ⟨rfl, _⟩ | rfl <;> rfl
theorem p_sclone2 (b : Bool) (l : List Nm) (hs : l.length * 16 ≤ room) (hp : Heap) : ∃ w, CL X (fun _ => []) 39 [slv b 1 (tx l)] hp = some (w, hp) ∧ (demV w = slv b 1 (tx l) ∨ demV w = .lst .own 1 (tx l) ∧ slv b 1 (tx l) = .lst .none 1 (tx l)) := by
  by_cases h : b = true ∧ tx l = []
  · have e : slv b 1 (tx l) = .nilsl := if_pos h
    rw [e]
    refine ⟨.nilsl, ?_, .inl rfl⟩
    rw [CL_eq (fn := x39) rfl]
    simp +contextual -implicitDefEqProofs (maxSteps := 10000000) only [x39, go_sem, ↓reduceIte, reduceCtorEq, o_eqnil, nilK_nilsl]
  · have e : slv b 1 (tx l) = .lst .none 1 (tx l) := if_neg h
    rw [e]
    refine ⟨_, p_sclone l hs hp, ?_⟩
    unfold scl
    by_cases h0 : l = []
    · subst h0; exact .inl rfl
    · rw [if_neg h0]; exact .inr ⟨rfl, rfl⟩
theorem p_cloneTm_step (k : Int) (n : List UInt8) (vk vn vd : Int) (vs : List UInt8) (b : Bool) (ss : List Tm) (hfit : (Tm.mk k n vk vn vd vs b ss).fit) (ih : ∀ t ∈ ss, TmC t) : TmC (Tm.mk k n vk vn vd vs b ss) := by
  intro hp
  rw [Tm.cells, Tm.cl, Tm.cells]
  simp only [Tm.fit] at hfit
  have hsl := slv_Sl b 7 (Tm.cellsL ss)
  have hea := fun hp => p_eachTm ss hfit.2.2.2 hfit.2.2.1 _ hsl hp ih
  generalize slv b 7 (Tm.cellsL ss) = v at hsl hea
  obtain ⟨p1, u1, n1, d1, f1⟩ := hsl.one
  have hs2 := slv_Sl true 7 (Tm.cellsL (Tm.clL ss))
  generalize slv true 7 (Tm.cellsL (Tm.clL ss)) = S at hs2 hea
  obtain ⟨q1, v1, m1, e1, g1⟩ := hs2.one
  have hsh := hs2.shut
  have hco := hs2.cellsOf
  rw [CL_eq (fn := x41) rfl]
  simp +contextual -implicitDefEqProofs (maxSteps := 10000000) only [x41, go_sem, ↓reduceIte, Nat.reduceEqDiff, Nat.reduceAdd, p1, u1, q1, v1, e1, hea, o_callw, cwK_same, hsh, hco, ldAt_topc, stAt_topc]
theorem p_cloneRx_step (k : Int) (bt : Bool) (ts : List Fm) (bs : Bool) (ss : List Rx) (hfit : (Rx.mk k bt ts bs ss).fit) (ih1 : ∀ t ∈ ts, FmC t) (ih2 : ∀ t ∈ ss, RxC t) : RxC (Rx.mk k bt ts bs ss) := by
  intro hp
  rw [Rx.cells, Rx.cl, Rx.cells]
  simp only [Rx.fit] at hfit
  obtain ⟨i1, i2, i3, i4⟩ := hfit
  have hsl := slv_Sl bt 10 (Fm.cellsL ts)
  have hea := fun hp => p_eachFm ts i3 i1 _ hsl hp ih1
  generalize slv bt 10 (Fm.cellsL ts) = v at hsl hea
  obtain ⟨p1, u1, n1, d1, f1⟩ := hsl.one
  have hs2 := slv_Sl true 10 (Fm.cellsL (Fm.clL ts))
  generalize slv true 10 (Fm.cellsL (Fm.clL ts)) = S at hs2 hea
  obtain ⟨q1, v1, m1, e1, g1⟩ := hs2.one
  have hsh := hs2.shut
  have hco := hs2.cellsOf
  have hsl' := slv_Sl bs 3 (Rx.cellsL ss)
  have hea' := fun hp => p_eachRx ss i4 i2 _ hsl' hp ih2
  generalize slv bs 3 (Rx.cellsL ss) = v' at hsl' hea'
  obtain ⟨p1', u1', n1', d1', f1'⟩ := hsl'.one
  have hs2' := slv_Sl true 3 (Rx.cellsL (Rx.clL ss))
  generalize slv true 3 (Rx.cellsL (Rx.clL ss)) = S' at hs2' hea'
  obtain ⟨q1', v1', m1', e1', g1'⟩ := hs2'.one
  have hsh' := hs2'.shut
  have hco' := hs2'.cellsOf
  rw [CL_eq (fn := x43) rfl]
  simp +contextual -implicitDefEqProofs (maxSteps := 10000000) only [x43, go_sem, ↓reduceIte, Nat.reduceEqDiff, Nat.reduceAdd, Nat.reduceLeDiff, p1, u1, q1, v1, e1, hea, p1', u1', q1', v1', e1', hea', o_callw, cwK_same, hsh, hsh', hco, hco', ldAt_topc, stAt_topc]
theorem p_cloneFm_step (k : Int) (n : List UInt8) (op : Int) (bv : Bool) (vs : List (List UInt8)) (bt : Bool) (ts : List Tm) (lo hi : Int) (o bs : Bool) (ss : List Fm) (br : Bool) (rs : List Rx) (hfit : (Fm.mk k n op bv vs bt ts lo hi o bs ss br rs).fit)
    (ih0 : ∀ t ∈ ts, TmC t) (ih1 : ∀ t ∈ ss, FmC t) (ih2 : ∀ t ∈ rs, RxC t) : FmC (Fm.mk k n op bv vs bt ts lo hi o bs ss br rs) := by
  intro hp
  rw [Fm.cells, Fm.cl, Fm.cells]
  simp only [Fm.fit] at hfit
  obtain ⟨i1, i2, i3, i4, j1, j2, j3⟩ := hfit
  obtain ⟨w, hw, hwu⟩ := p_sclone2 bv vs (by simp [room]; omega) []
  have hsl0 := slv_Sl bv 1 (tx vs)
  generalize slv bv 1 (tx vs) = v0 at hsl0 hw hwu
  obtain ⟨p10, u10, n10, d10, f10⟩ := hsl0.one
  have hsh0 := hsl0.shut
  have hco0 := hsl0.cellsOf
  have hsla := slv_Sl bt 7 (Tm.cellsL ts)
  have heaa := fun hp => p_eachTm ts j1 i2 _ hsla hp ih0
  generalize slv bt 7 (Tm.cellsL ts) = va at hsla heaa
  obtain ⟨p1a, u1a, n1a, d1a, f1a⟩ := hsla.one
  have hs2a := slv_Sl true 7 (Tm.cellsL (Tm.clL ts))
  generalize slv true 7 (Tm.cellsL (Tm.clL ts)) = Sa at hs2a heaa
  obtain ⟨q1a, v1a, m1a, e1a, g1a⟩ := hs2a.one
  have hsha := hs2a.shut
  have hcoa := hs2a.cellsOf
  have hslb := slv_Sl bs 10 (Fm.cellsL ss)
  have heab := fun hp => p_eachFm ss j2 i3 _ hslb hp ih1
  generalize slv bs 10 (Fm.cellsL ss) = vb at hslb heab
  obtain ⟨p1b, u1b, n1b, d1b, f1b⟩ := hslb.one
  have hs2b := slv_Sl true 10 (Fm.cellsL (Fm.clL ss))
  generalize slv true 10 (Fm.cellsL (Fm.clL ss)) = Sb at hs2b heab
  obtain ⟨q1b, v1b, m1b, e1b, g1b⟩ := hs2b.one
  have hshb := hs2b.shut
  have hcob := hs2b.cellsOf
  have hslc := slv_Sl br 3 (Rx.cellsL rs)
  have heac := fun hp => p_eachRx rs j3 i4 _ hslc hp ih2
  generalize slv br 3 (Rx.cellsL rs) = vc at hslc heac
  obtain ⟨p1c, u1c, n1c, d1c, f1c⟩ := hslc.one
  have hs2c := slv_Sl true 3 (Rx.cellsL (Rx.clL rs))
  generalize slv true 3 (Rx.cellsL (Rx.clL rs)) = Sc at hs2c heac
  obtain ⟨q1c, v1c, m1c, e1c, g1c⟩ := hs2c.one
  have hshc := hs2c.shut
  have hcoc := hs2c.cellsOf
  rw [CL_eq (fn := x14) rfl]
  rcases hwu with hd | ⟨hd, rfl⟩
  · simp +contextual -implicitDefEqProofs (maxSteps := 10000000) only [x14, go_sem, ↓reduceIte, Nat.reduceEqDiff, Nat.reduceAdd, Nat.reduceLeDiff, p10, u10, d10, f10, hw, hd, hsh0, hco0, p1a, u1a, q1a, v1a, e1a, heaa, hsha, hcoa, p1b, u1b, q1b, v1b, e1b, heab, hshb, hcob, p1c, u1c, q1c, v1c, e1c, heac, hshc, hcoc, o_callw, cwK_same, ldAt_topc, stAt_topc]
  · simp +contextual -implicitDefEqProofs (maxSteps := 10000000) only [x14, go_sem, ↓reduceIte, Nat.reduceEqDiff, Nat.reduceAdd, Nat.reduceLeDiff, hw, hd, p1a, u1a, q1a, v1a, e1a, heaa, hsha, hcoa, p1b, u1b, q1b, v1b, e1b, heab, hshb, hcob, p1c, u1c, q1c, v1c, e1c, heac, hshc, hcoc, o_callw, cwK_same, ldAt_topc, stAt_topc]
mutual
theorem p_cloneTm : ∀ t : Tm, t.fit → TmC t
  | .mk k n vk vn vd vs b ss, h => p_cloneTm_step k n vk vn vd vs b ss h (p_cloneTmL ss (by simp only [Tm.fit] at h; exact h.2.2.2))
theorem p_cloneTmL : ∀ l : List Tm, Tm.fitL l → ∀ t ∈ l, TmC t
  | [], _, t, ht => by simp at ht
  | u :: l, h, t, ht => by
    rcases List.mem_cons.1 ht with e | ht
    · rw [e]; exact p_cloneTm u h.1
    · exact p_cloneTmL l h.2 t ht
end
mutual
theorem p_cloneFm : ∀ t : Fm, t.fit → FmC t
  | .mk k n op bv vs bt ts lo hi o bs ss br rs, h => p_cloneFm_step k n op bv vs bt ts lo hi o bs ss br rs h (p_cloneTmL ts (by simp only [Fm.fit] at h; exact h.2.2.2.2.1)) (p_cloneFmL ss (by simp only [Fm.fit] at h; exact h.2.2.2.2.2.1)) (p_cloneRxL rs (by simp only [Fm.fit] at h; exact h.2.2.2.2.2.2))
theorem p_cloneFmL : ∀ l : List Fm, Fm.fitL l → ∀ t ∈ l, FmC t
  | [], _, t, ht => by simp at ht
  | u :: l, h, t, ht => by
    rcases List.mem_cons.1 ht with e | ht
    · rw [e]; exact p_cloneFm u h.1
    · exact p_cloneFmL l h.2 t ht
theorem p_cloneRx : ∀ t : Rx, t.fit → RxC t
  | .mk k bt ts bs ss, h => p_cloneRx_step k bt ts bs ss h (p_cloneFmL ts (by simp only [Rx.fit] at h; exact h.2.2.1)) (p_cloneRxL ss (by simp only [Rx.fit] at h; exact h.2.2.2))
theorem p_cloneRxL : ∀ l : List Rx, Rx.fitL l → ∀ t ∈ l, RxC t
  | [], _, t, ht => by simp at ht
  | u :: l, h, t, ht => by
    rcases List.mem_cons.1 ht with e | ht
    · rw [e]; exact p_cloneRx u h.1
    · exact p_cloneRxL l h.2 t ht
end
theorem eqV_slv (b c : Bool) (z : Nat) (es fs : List (List AV)) (h : eqVss es fs = true) (hl : es.length = fs.length) : eqV (slv b z es) (slv c z fs) = true := by
  have h0 : es = [] ↔ fs = [] := by rw [← List.length_eq_zero_iff, ← List.length_eq_zero_iff, hl]
  unfold slv
  by_cases h1 : b = true ∧ es = [] <;> by_cases h2 : c = true ∧ fs = []
  · rw [if_pos h1, if_pos h2]; simp [eqV]
  · rw [if_pos h1, if_neg h2]; simp [eqV, h0.1 h1.2]
  · rw [if_neg h1, if_pos h2]; simp [eqV, h0.2 h2.2]
  · rw [if_neg h1, if_neg h2]; simp only [eqV]; exact h
theorem tx_eqVss : ∀ l : List Nm, eqVss (tx l) (tx l) = true
  | [] => by simp [tx, eqVss]
  | w :: l => by
    have := tx_eqVss l
    simp only [tx] at this
    simp [tx, eqVss, eqVs, eqV, this]
mutual
theorem Tm.cl_eq : ∀ t : Tm, eqVs t.cells t.cl.cells = true
  | .mk k n vk vn vd vs b ss => by
    have h := eqV_slv b true 7 _ _ (Tm.clL_eqV ss) (by rw [Tm.cellsL_len, Tm.cellsL_len, Tm.clL_len])
    rw [Tm.cl, Tm.cells, Tm.cells]
    simp [eqVs, eqV, h]
theorem Tm.clL_eqV : ∀ l : List Tm, eqVss (Tm.cellsL l) (Tm.cellsL (Tm.clL l)) = true
  | [] => by simp [Tm.clL, Tm.cellsL, eqVss]
  | t :: l => by
    simp only [Tm.clL, Tm.cellsL, eqVss, Bool.and_eq_true]
    exact ⟨Tm.cl_eq t, Tm.clL_eqV l⟩
end
mutual
theorem Fm.cl_eq : ∀ t : Fm, eqVs t.cells t.cl.cells = true
  | .mk k n op bv vs bt ts lo hi o bs ss br rs => by
    have h0 := eqV_slv bv true 1 _ _ (tx_eqVss vs) rfl
    have h1 := eqV_slv bt true 7 _ _ (Tm.clL_eqV ts) (by rw [Tm.cellsL_len, Tm.cellsL_len, Tm.clL_len])
    have h2 := eqV_slv bs true 10 _ _ (Fm.clL_eqV ss) (by rw [Fm.cellsL_len, Fm.cellsL_len, Fm.clL_len])
    have h3 := eqV_slv br true 3 _ _ (Rx.clL_eqV rs) (by rw [Rx.cellsL_len, Rx.cellsL_len, Rx.clL_len])
    have h0' := eqV_slv bv bv 1 _ _ (tx_eqVss vs) rfl
    rw [Fm.cl, Fm.cells, Fm.cells]
    simp [eqVs, eqV, h0', h1, h2, h3]
theorem Fm.clL_eqV : ∀ l : List Fm, eqVss (Fm.cellsL l) (Fm.cellsL (Fm.clL l)) = true
  | [] => by simp [Fm.clL, Fm.cellsL, eqVss]
  | t :: l => by
    simp only [Fm.clL, Fm.cellsL, eqVss, Bool.and_eq_true]
    exact ⟨Fm.cl_eq t, Fm.clL_eqV l⟩
theorem Rx.cl_eq : ∀ t : Rx, eqVs t.cells t.cl.cells = true
  | .mk k bt ts bs ss => by
    have h1 := eqV_slv bt true 10 _ _ (Fm.clL_eqV ts) (by rw [Fm.cellsL_len, Fm.cellsL_len, Fm.clL_len])
    have h2 := eqV_slv bs true 3 _ _ (Rx.clL_eqV ss) (by rw [Rx.cellsL_len, Rx.cellsL_len, Rx.clL_len])
    rw [Rx.cl, Rx.cells, Rx.cells]
    simp [eqVs, eqV, h1, h2]
theorem Rx.clL_eqV : ∀ l : List Rx, eqVss (Rx.cellsL l) (Rx.cellsL (Rx.clL l)) = true
  | [] => by simp [Rx.clL, Rx.cellsL, eqVss]
  | t :: l => by
    simp only [Rx.clL, Rx.cellsL, eqVss, Bool.and_eq_true]
    exact ⟨Rx.cl_eq t, Rx.clL_eqV l⟩
end
mutual
noncomputable def Tm.ok : Tm → Prop
  | .mk k n vk vn vd vs _ ss => tErr k n vk vn vd vs ss.length = 0 ∧ Tm.okL ss
noncomputable def Tm.okL : List Tm → Prop
  | [] => True
  | t :: l => t.ok ∧ Tm.okL l
end
mutual
noncomputable def Fm.ok : Fm → Prop
  | .mk k n op _ vs _ ts lo hi o _ ss _ rs => fErr k n op vs ts.length lo hi o ss.length rs.length = 0 ∧ Tm.okL ts ∧ Rx.okL rs ∧ Fm.okL ss
noncomputable def Fm.okL : List Fm → Prop
  | [] => True
  | t :: l => t.ok ∧ Fm.okL l
noncomputable def Rx.ok : Rx → Prop
  | .mk k _ ts _ ss => rErr k ts.length ss.length = 0 ∧ Fm.okL ts ∧ Rx.okL ss
noncomputable def Rx.okL : List Rx → Prop
  | [] => True
  | t :: l => t.ok ∧ Rx.okL l
end
mutual
def Tm.ct : Tm → Nat
  | .mk _ _ _ _ _ _ _ ss => 1 + Tm.ctL ss
def Tm.ctL : List Tm → Nat
  | [] => 0
  | t :: l => t.ct + Tm.ctL l
end
mutual
def Fm.ct : Fm → Nat
  | .mk _ _ _ _ _ _ ts _ _ _ _ ss _ rs => 1 + Tm.ctL ts + Rx.ctL rs + Fm.ctL ss
def Fm.ctL : List Fm → Nat
  | [] => 0
  | t :: l => t.ct + Fm.ctL l
def Rx.ct : Rx → Nat
  | .mk _ _ ts _ ss => 1 + Fm.ctL ts + Rx.ctL ss
def Rx.ctL : List Rx → Nat
  | [] => 0
  | t :: l => t.ct + Rx.ctL l
end
mutual
def Tm.ht : Tm → Nat
  | .mk _ _ _ _ _ _ _ ss => 1 + Tm.htL ss
def Tm.htL : List Tm → Nat
  | [] => 0
  | t :: l => max t.ht (Tm.htL l)
end
mutual
def Fm.ht : Fm → Nat
  | .mk _ _ _ _ _ _ ts _ _ _ _ ss _ rs => 1 + max (Tm.htL ts) (max (Rx.htL rs) (Fm.htL ss))
def Fm.htL : List Fm → Nat
  | [] => 0
  | t :: l => max t.ht (Fm.htL l)
def Rx.ht : Rx → Nat
  | .mk _ _ ts _ ss => 1 + max (Fm.htL ts) (Rx.htL ss)
def Rx.htL : List Rx → Nat
  | [] => 0
  | t :: l => max t.ht (Rx.htL l)
end
def Wlk (f : Int → Wk → Wk) (ok : Prop) (c h : Nat) : Prop := ∀ (d : Int) (s : Wk), s.e = 0 → d - 1 ≤ s.m → d ≤ 25 → s.n ≤ 256 →
  ((ok ∧ s.n + c ≤ 256 ∧ d + h - 1 ≤ 24) → f d s = ⟨s.n + c, max s.m (d + h - 1), 0⟩) ∧ ((f d s).e = 0 → ok ∧ s.n + c ≤ 256 ∧ d + h - 1 ≤ 24)
theorem Wlk.nil : Wlk (fun _ s => s) True 0 0 := by
  intro d s h0 hm hd hn
  refine ⟨fun _ => ?_, fun _ => ⟨trivial, by omega, by omega⟩⟩
  obtain ⟨n, m, e⟩ := s
  simp only at h0 hm ⊢
  subst h0
  simp
  omega
theorem Wlk.seq {f g : Int → Wk → Wk} {ok1 ok2 : Prop} {c1 c2 h1 h2 : Nat} (hf : Wlk f ok1 c1 h1) (hg : Wlk g ok2 c2 h2) (he : ∀ d s, s.e ≠ 0 → g d s = s) : Wlk (fun d s => g d (f d s)) (ok1 ∧ ok2) (c1 + c2) (max h1 h2) := by
  intro d s h0 hm hd hn
  obtain ⟨a1, a2⟩ := hf d s h0 hm hd hn
  constructor
  · rintro ⟨⟨o1, o2⟩, hc, hh⟩
    have e1 := a1 ⟨o1, by omega, by omega⟩
    show g d (f d s) = _
    rw [e1]
    rw [(hg d ⟨s.n + c1, max s.m (d + h1 - 1), 0⟩ rfl (by simp only; omega) hd (by simp only; omega)).1 ⟨o2, by simp only; omega, by omega⟩]
    simp only [Wk.mk.injEq, and_true]
    omega
  · intro h
    have hf0 : (f d s).e = 0 := by
      rcases Classical.em ((f d s).e = 0) with h' | h'
      · exact h'
      · simp only [he d _ h'] at h; exact h
    obtain ⟨o1, b1, b2⟩ := a2 hf0
    have e1 := a1 ⟨o1, b1, b2⟩
    simp only [e1] at h
    obtain ⟨o2, b3, b4⟩ := (hg d ⟨s.n + c1, max s.m (d + h1 - 1), 0⟩ rfl (by simp only; omega) hd (by simp only; omega)).2 h
    simp only at b3
    exact ⟨⟨o1, o2⟩, by omega, by omega⟩
theorem Wlk.node {f : Int → Wk → Wk} {ok : Prop} {c h : Nat} {E : Int} {g : Int → Wk → Wk} (hf : Wlk f ok c h) (hg : ∀ d s, g d s = if (enterW d s).e ≠ 0 then enterW d s else if E ≠ 0 then { enterW d s with e := E } else f (d + 1) (enterW d s)) : Wlk g (E = 0 ∧ ok) (1 + c) (1 + h) := by
  intro d s h0 hm hd hn
  rw [hg]
  obtain ⟨n, m, e⟩ := s
  simp only at h0 hm hn ⊢
  subst h0
  by_cases hd24 : 24 < d
  · have e1 : (enterW d ⟨n, m, 0⟩) = ⟨n, m, 71⟩ := by simp [enterW, hd24]
    rw [e1]
    exact ⟨fun ⟨_, _, h3⟩ => by omega, fun h => by simp at h⟩
  · by_cases hn2 : 256 ≤ n
    · have e1 : (enterW d ⟨n, m, 0⟩) = ⟨n, m, 3⟩ := by simp [enterW, hd24, hn2]
      rw [e1]
      exact ⟨fun ⟨_, h3, _⟩ => by omega, fun h => by simp at h⟩
    · have e1 : (enterW d ⟨n, m, 0⟩) = ⟨n + 1, max m d, 0⟩ := by
        simp only [enterW, hd24, hn2, if_false, ne_eq, not_true_eq_false, Wk.mk.injEq, true_and, and_true]
        omega
      rw [e1]
      simp only [ne_eq, not_true_eq_false, if_false]
      by_cases hE : E = 0
      · subst hE
        simp only [not_true_eq_false, if_false, true_and]
        obtain ⟨a1, a2⟩ := hf (d + 1) ⟨n + 1, max m d, 0⟩ rfl (by simp only; omega) (by omega) (by simp only; omega)
        simp only at a1 a2
        constructor
        · rintro ⟨o, b1, b2⟩
          rw [a1 ⟨o, by omega, by omega⟩]
          simp only [Wk.mk.injEq, and_true]
          omega
        · intro h
          obtain ⟨o, b1, b2⟩ := a2 h
          exact ⟨o, by omega, by omega⟩
      · simp only [hE, not_false_eq_true, if_true]
        exact ⟨fun ⟨⟨h3, _⟩, _⟩ => h3.elim, fun h => h.elim⟩
mutual
theorem Tm.wlk : ∀ t : Tm, Wlk t.wk t.ok t.ct t.ht
  | .mk k n vk vn vd vs b ss => by
    rw [Tm.ok, Tm.ct, Tm.ht]
    exact Wlk.node (Tm.wlkL ss) (fun d s => by rw [Tm.wk])
theorem Tm.wlkL : ∀ l : List Tm, Wlk (Tm.wkL l) (Tm.okL l) (Tm.ctL l) (Tm.htL l)
  | [] => by
    rw [Tm.okL, Tm.ctL, Tm.htL, show Tm.wkL [] = fun _ s => s from by funext d s; rw [Tm.wkL]]
    exact Wlk.nil
  | t :: l => by
    rw [Tm.okL, Tm.ctL, Tm.htL, show Tm.wkL (t :: l) = fun d s => Tm.wkL l d (t.wk d s) from by funext d s; rw [Tm.wkL]]
    exact Wlk.seq (Tm.wlk t) (Tm.wlkL l) (fun d s h => Tm.wkL_err h)
end
mutual
theorem Fm.wlk : ∀ t : Fm, Wlk t.wk t.ok t.ct t.ht
  | .mk k n op bv vs bt ts lo hi o bs ss br rs => by
    rw [Fm.ok, Fm.ct, Fm.ht]
    have h := Wlk.seq (Wlk.seq (Tm.wlkL ts) (Rx.wlkL rs) (fun d s h => Rx.wkL_err h)) (Fm.wlkL ss) (fun d s h => Fm.wkL_err h)
    have h2 := Wlk.node (E := fErr k n op vs ts.length lo hi o ss.length rs.length) (g := (Fm.mk k n op bv vs bt ts lo hi o bs ss br rs).wk) h (fun d s => by rw [Fm.wk])
    rw [and_assoc, Nat.max_assoc, ← Nat.add_assoc, ← Nat.add_assoc] at h2
    exact h2
theorem Fm.wlkL : ∀ l : List Fm, Wlk (Fm.wkL l) (Fm.okL l) (Fm.ctL l) (Fm.htL l)
  | [] => by
    rw [Fm.okL, Fm.ctL, Fm.htL, show Fm.wkL [] = fun _ s => s from by funext d s; rw [Fm.wkL]]
    exact Wlk.nil
  | t :: l => by
    rw [Fm.okL, Fm.ctL, Fm.htL, show Fm.wkL (t :: l) = fun d s => Fm.wkL l d (t.wk d s) from by funext d s; rw [Fm.wkL]]
    exact Wlk.seq (Fm.wlk t) (Fm.wlkL l) (fun d s h => Fm.wkL_err h)
theorem Rx.wlk : ∀ t : Rx, Wlk t.wk t.ok t.ct t.ht
  | .mk k bt ts bs ss => by
    rw [Rx.ok, Rx.ct, Rx.ht]
    have h := Wlk.seq (Fm.wlkL ts) (Rx.wlkL ss) (fun d s h => Rx.wkL_err h)
    have h2 := Wlk.node (E := rErr k ts.length ss.length) (g := (Rx.mk k bt ts bs ss).wk) h (fun d s => by rw [Rx.wk])
    rw [← Nat.add_assoc] at h2
    exact h2
theorem Rx.wlkL : ∀ l : List Rx, Wlk (Rx.wkL l) (Rx.okL l) (Rx.ctL l) (Rx.htL l)
  | [] => by
    rw [Rx.okL, Rx.ctL, Rx.htL, show Rx.wkL [] = fun _ s => s from by funext d s; rw [Rx.wkL]]
    exact Wlk.nil
  | t :: l => by
    rw [Rx.okL, Rx.ctL, Rx.htL, show Rx.wkL (t :: l) = fun d s => Rx.wkL l d (t.wk d s) from by funext d s; rw [Rx.wkL]]
    exact Wlk.seq (Rx.wlk t) (Rx.wlkL l) (fun d s h => Rx.wkL_err h)
end
/-! ### a part is smaller -/
theorem Fm.ctL_app : ∀ a b : List Fm, Fm.ctL (a ++ b) = Fm.ctL a + Fm.ctL b
  | [], b => by rw [List.nil_append, Fm.ctL]; omega
  | t :: a, b => by rw [List.cons_append, Fm.ctL, Fm.ctL, Fm.ctL_app a]; omega
theorem Fm.htL_app : ∀ a b : List Fm, Fm.htL (a ++ b) = max (Fm.htL a) (Fm.htL b)
  | [], b => by rw [List.nil_append, Fm.htL]; omega
  | t :: a, b => by rw [List.cons_append, Fm.htL, Fm.htL, Fm.htL_app a]; omega
theorem Fm.okL_app : ∀ a b : List Fm, Fm.okL (a ++ b) = (Fm.okL a ∧ Fm.okL b)
  | [], b => by rw [List.nil_append, Fm.okL]; simp
  | t :: a, b => by rw [List.cons_append, Fm.okL, Fm.okL, Fm.okL_app a]; simp [and_assoc]
mutual
theorem Rx.tests_sub : ∀ x : Rx, Fm.ctL x.tests + 1 ≤ x.ct ∧ Fm.htL x.tests + 1 ≤ x.ht ∧ (x.ok → Fm.okL x.tests)
  | .mk k bt ts bs ss => by
    obtain ⟨h1, h2, h3⟩ := Rx.testsL_sub ss
    rw [Rx.tests, Rx.ct, Rx.ht, Rx.ok, Fm.ctL_app, Fm.htL_app, Fm.okL_app]
    exact ⟨by omega, by omega, fun ⟨_, o1, o2⟩ => ⟨o1, h3 o2⟩⟩
theorem Rx.testsL_sub : ∀ l : List Rx, Fm.ctL (Rx.testsL l) ≤ Rx.ctL l ∧ Fm.htL (Rx.testsL l) ≤ Rx.htL l ∧ (Rx.okL l → Fm.okL (Rx.testsL l))
  | [] => by rw [Rx.testsL, Fm.ctL, Fm.htL, Rx.ctL, Rx.htL, Fm.okL]; exact ⟨Nat.le_refl _, Nat.le_refl _, fun _ => trivial⟩
  | x :: l => by
    obtain ⟨h1, h2, h3⟩ := Rx.tests_sub x
    obtain ⟨g1, g2, g3⟩ := Rx.testsL_sub l
    rw [Rx.testsL, Rx.ctL, Rx.htL, Rx.okL, Fm.ctL_app, Fm.htL_app, Fm.okL_app]
    exact ⟨by omega, by omega, fun ⟨o1, o2⟩ => ⟨h3 o1, g3 o2⟩⟩
end
theorem Fm.parts_sub : ∀ t : Fm, Fm.ctL t.parts + 1 ≤ t.ct ∧ Fm.htL t.parts + 1 ≤ t.ht ∧ (t.ok → Fm.okL t.parts)
  | .mk k n op bv vs bt ts lo hi o bs ss br rs => by
    rw [Fm.ct, Fm.ht, Fm.ok]
    cases rs with
    | nil => rw [Fm.parts]; exact ⟨by omega, by omega, fun h => h.2.2.2⟩
    | cons x rs =>
      obtain ⟨h1, h2, h3⟩ := Rx.tests_sub x
      rw [Fm.parts, Rx.ctL, Rx.htL, Rx.okL]
      exact ⟨by omega, by omega, fun h => h3 h.2.2.1.1⟩
mutual
theorem Tm.cl_wk : ∀ (t : Tm) (d : Int) (s : Wk), t.cl.wk d s = t.wk d s
  | .mk k n vk vn vd vs b ss, d, s => by
    rw [Tm.cl, Tm.wk, Tm.wk, Tm.clL_len, Tm.clL_wk ss]
theorem Tm.clL_wk : ∀ (l : List Tm) (d : Int) (s : Wk), Tm.wkL (Tm.clL l) d s = Tm.wkL l d s
  | [], d, s => by rw [Tm.clL]
  | t :: l, d, s => by rw [Tm.clL, Tm.wkL, Tm.wkL, Tm.cl_wk t, Tm.clL_wk l]
end
mutual
theorem Fm.cl_wk : ∀ (t : Fm) (d : Int) (s : Wk), t.cl.wk d s = t.wk d s
  | .mk k n op bv vs bt ts lo hi o bs ss br rs, d, s => by
    rw [Fm.cl, Fm.wk, Fm.wk, Tm.clL_len, Fm.clL_len, Rx.clL_len]
    simp only [Tm.clL_wk ts, Fm.clL_wk ss, Rx.clL_wk rs]
theorem Fm.clL_wk : ∀ (l : List Fm) (d : Int) (s : Wk), Fm.wkL (Fm.clL l) d s = Fm.wkL l d s
  | [], d, s => by rw [Fm.clL]
  | t :: l, d, s => by rw [Fm.clL, Fm.wkL, Fm.wkL, Fm.cl_wk t, Fm.clL_wk l]
theorem Rx.cl_wk : ∀ (t : Rx) (d : Int) (s : Wk), t.cl.wk d s = t.wk d s
  | .mk k bt ts bs ss, d, s => by
    rw [Rx.cl, Rx.wk, Rx.wk, Fm.clL_len, Rx.clL_len]
    simp only [Fm.clL_wk ts, Rx.clL_wk ss]
theorem Rx.clL_wk : ∀ (l : List Rx) (d : Int) (s : Wk), Rx.wkL (Rx.clL l) d s = Rx.wkL l d s
  | [], d, s => by rw [Rx.clL]
  | t :: l, d, s => by rw [Rx.clL, Rx.wkL, Rx.wkL, Rx.cl_wk t, Rx.clL_wk l]
end
mutual
theorem Tm.cl_tv : ∀ t : Tm, t.cl.tv = t.tv
  | .mk k n vk vn vd vs b ss => by rw [Tm.cl, Tm.tv, Tm.tv, Tm.clL_tv ss]
theorem Tm.clL_tv : ∀ l : List Tm, Tm.tvC (Tm.clL l) = Tm.tvC l
  | [] => by rw [Tm.clL]
  | t :: l => by rw [Tm.clL, Tm.tvC, Tm.tvC, Tm.cl_tv t, Tm.clL_tv l]
end
mutual
theorem Fm.cl_fr : ∀ t : Fm, t.cl.fr = t.fr
  | .mk k n op bv vs bt ts lo hi o bs ss br rs => by
    cases rs with
    | nil => rw [Fm.cl, Rx.clL, Fm.fr, Fm.fr, Tm.clL_tv ts, Fm.clL_fr ss]
    | cons x rs => rw [Fm.cl, Rx.clL, Fm.fr, Fm.fr, Tm.clL_tv ts, Rx.cl_fr x]
theorem Fm.clL_fr : ∀ l : List Fm, Fm.frL (Fm.clL l) = Fm.frL l
  | [] => by rw [Fm.clL]
  | t :: l => by rw [Fm.clL, Fm.frL, Fm.frL, Fm.cl_fr t, Fm.clL_fr l]
theorem Rx.cl_fr : ∀ t : Rx, t.cl.frT = t.frT
  | .mk k bt ts bs ss => by rw [Rx.cl, Rx.frT, Rx.frT, Fm.clL_fr ts, Rx.clL_fr ss]
theorem Rx.clL_fr : ∀ l : List Rx, Rx.frTL (Rx.clL l) = Rx.frTL l
  | [] => by rw [Rx.clL]
  | t :: l => by rw [Rx.clL, Rx.frTL, Rx.frTL, Rx.cl_fr t, Rx.clL_fr l]
end
theorem look_cl (t : Fm) : lookW t.cl = lookW t := by
  unfold lookW
  rw [Fm.cl_wk, Fm.cl_fr]
theorem look_iff (t : Fm) : ((lookW t).e = 0 ↔ (t.ok ∧ t.ct ≤ 256 ∧ t.ht ≤ 24) ∧ t.fr.2 ≤ 8) ∧ ((lookW t).e = 0 → lookW t = ⟨t.ct, (t.ht : Int), 0⟩) := by
  obtain ⟨h1, h2⟩ := Fm.wlk t 1 ⟨0, 0, 0⟩ rfl (by simp) (by omega) (by simp)
  simp only [Nat.zero_add] at h1 h2
  have h3 : ((lookW t).e = 0 ↔ (t.ok ∧ t.ct ≤ 256 ∧ t.ht ≤ 24) ∧ t.fr.2 ≤ 8) := by
    unfold lookW
    constructor
    · intro h
      by_cases he : (t.wk 1 ⟨0, 0, 0⟩).e = 0
      · rw [if_pos he] at h
        obtain ⟨a, b, c⟩ := h2 he
        refine ⟨⟨a, b, by omega⟩, ?_⟩
        rcases Classical.em (t.fr.2 ≤ 8) with hd | hd
        · exact hd
        · simp [mustW, hd, he] at h
      · rw [if_neg he] at h
        exact absurd h he
    · rintro ⟨⟨a, b, c⟩, d⟩
      have e := h1 ⟨a, b, by omega⟩
      rw [e]
      simp [mustW, d]
  refine ⟨h3, fun h => ?_⟩
  obtain ⟨⟨a, b, c⟩, d⟩ := h3.1 h
  have e := h1 ⟨a, b, by omega⟩
  unfold lookW
  rw [e]
  simp [mustW, d]
  omega
theorem Fm.mem_sub : ∀ (l : List Fm) (p : Fm), p ∈ l → p.ct ≤ Fm.ctL l ∧ p.ht ≤ Fm.htL l ∧ (Fm.okL l → p.ok)
  | t :: l, p, hp => by
    rw [Fm.ctL, Fm.htL, Fm.okL]
    rcases List.mem_cons.1 hp with rfl | hp
    · exact ⟨by omega, by omega, fun h => h.1⟩
    · obtain ⟨h1, h2, h3⟩ := Fm.mem_sub l p hp
      exact ⟨by omega, by omega, fun h => h3 h.2⟩
theorem Fm.ct_pos (t : Fm) : 1 ≤ t.ct := by cases t; rw [Fm.ct]; omega
theorem Fm.part_fr (t p : Fm) (hp : p ∈ t.parts) : p.fr.2 ≤ t.fr.2 := by
  cases t with
  | mk k n op bv vs bt ts lo hi o bs ss br rs =>
    rw [Fm.fr_eq]
    have h1 := (dmax_mem ((Fm.mk k n op bv vs bt ts lo hi o bs ss br rs).parts.map Fm.fr) 0).2 p.fr (List.mem_map.2 ⟨p, hp, rfl⟩)
    unfold frcomb
    simp only
    have h2 : p.fr.2 ≤ dmax ((Fm.mk k n op bv vs bt ts lo hi o bs ss br rs).parts.map Fm.fr) := h1
    split <;> omega
theorem Fm.part_look (t p : Fm) (h : (lookW t).e = 0) (hp : p ∈ t.parts) : (lookW p).e = 0 ∧ (lookW p).m < (lookW t).m ∧ 1 ≤ (lookW p).n := by
  obtain ⟨⟨a, b, c⟩, d⟩ := (look_iff t).1.1 h
  obtain ⟨s1, s2, s3⟩ := Fm.parts_sub t
  obtain ⟨m1, m2, m3⟩ := Fm.mem_sub t.parts p hp
  have hfr := Fm.part_fr t p hp
  have h0 : (lookW p).e = 0 := (look_iff p).1.2 ⟨⟨m3 (s3 a), by omega, by omega⟩, by omega⟩
  have e1 := (look_iff t).2 h
  have e2 := (look_iff p).2 h0
  have := Fm.ct_pos p
  rw [e1, e2]
  refine ⟨rfl, ?_, this⟩
  simp only
  omega
theorem Fm.parts_fit (t : Fm) (h : t.fit) : Fm.fitL t.parts := by
  cases t with
  | mk k n op bv vs bt ts lo hi o bs ss br rs =>
    simp only [Fm.fit] at h
    cases rs with
    | nil => rw [Fm.parts]; exact h.2.2.2.2.2.1
    | cons x rs => rw [Fm.parts]; exact Rx.tests_fit x h.2.2.2.2.2.2.1
theorem pcolA_mem (k : Int) (x : Nm) : ∀ (P : List (List Nm × Int)) (i : Nat), x ∈ pcolA k i P → ∃ p ∈ P, x ∈ p.1
  | [], i, h => by simp [pcolA] at h
  | p :: P, i, h => by
    rw [pcolA] at h
    rcases List.mem_append.1 h with h | h
    · refine ⟨p, by simp, ?_⟩
      split at h
      · simp at h
      · split at h
        · split at h
          · exact h
          · simp at h
        · exact h
    · obtain ⟨q, h1, h2⟩ := pcolA_mem k x P (i + 1) h
      exact ⟨q, by simp [h1], h2⟩
theorem Fm.fr_mem (k : Int) (n : Nm) (op : Int) (bv : Bool) (vs : List Nm) (bt : Bool) (ts : List Tm) (lo hi : Int) (o bs : Bool) (ss : List Fm) (br : Bool) (rs : List Rx) (hk : k ≠ 19) (x : Nm) (hx : x ∈ (Fm.mk k n op bv vs bt ts lo hi o bs ss br rs).fr.1) :
    x ∈ Tm.tvC ts ∨ ∃ p ∈ (Fm.mk k n op bv vs bt ts lo hi o bs ss br rs).parts, x ∈ p.fr.1 := by
  rw [Fm.fr_eq] at hx
  unfold frcomb at hx
  simp only at hx
  rw [mem_riseL] at hx
  unfold fcol at hx
  rw [if_neg hk] at hx
  have key : ∀ x, x ∈ Tm.tvC ts ++ pcolA k 0 ((Fm.mk k n op bv vs bt ts lo hi o bs ss br rs).parts.map Fm.fr) → x ∈ Tm.tvC ts ∨ ∃ p ∈ (Fm.mk k n op bv vs bt ts lo hi o bs ss br rs).parts, x ∈ p.fr.1 := by
    intro x hx
    rcases List.mem_append.1 hx with h | h
    · exact .inl h
    · obtain ⟨q, h1, h2⟩ := pcolA_mem _ _ _ _ h
      obtain ⟨p, h3, rfl⟩ := List.mem_map.1 h1
      exact .inr ⟨p, h3, h2⟩
  split at hx
  · exact key x (List.mem_filter.1 hx).1
  · exact key x hx
theorem Fm.fr_ss (t : Fm) : SS t.fr.1 := by
  cases t with
  | mk k n op bv vs bt ts lo hi o bs ss br rs =>
    rw [Fm.fr_eq]
    exact riseL_ss _
theorem mapO_shut {l : List AV} (h : ∀ v ∈ l, ∀ hp lev n, shut hp lev (n + 1) v = some v) (hp : Heap) (lev n : Nat) : mapO (shut hp lev (n + 1)) l = some l := by
  induction l with
  | nil => rfl
  | cons v l ih =>
    have h1 := h v (by simp) hp lev n
    have h2 := ih (fun u hu => h u (by simp [hu]))
    simp only [mapO, h1, h2]
theorem Fm.shut (t : Fm) (hp : Heap) (lev n : Nat) : shut hp lev (n + 2) (.agg t.cells) = some (.agg t.cells) := by
  have h : ∀ v ∈ t.cells, ∀ hp lev n, Go.Proofs.Ytnmaahfipddkmaa.Sx.shut hp lev (n + 1) v = some v := by
    cases t with
    | mk k n op bv vs bt ts lo hi o bs ss br rs =>
      rw [Fm.cells]
      intro v hv hp lev n
      simp only [List.mem_cons, List.not_mem_nil, or_false] at hv
      rcases hv with rfl | rfl | rfl | rfl | rfl | rfl | rfl | rfl | rfl | rfl
      · rfl
      · rfl
      · rfl
      · exact (slv_Sl _ _ _).shut hp lev n
      · exact (slv_Sl _ _ _).shut hp lev n
      · rfl
      · rfl
      · rfl
      · exact (slv_Sl _ _ _).shut hp lev n
      · exact (slv_Sl _ _ _).shut hp lev n
  rw [shut_agg, mapO_shut h]
  rfl
def zFm : List AV := [.int .i64 0, .str [], .int .i64 0, .nilsl, .nilsl, .int .i64 0, .int .i64 0, .bool false, .nilsl, .nilsl]
theorem p_parts' (t : Fm) (hf : t.fit) (hsz : t.sz ≤ 1048576) : Ans (fun v => FV v t.parts) [] (CL X (fun _ => []) 47 [.agg t.cells] []) := by
  cases t with
  | mk k n op bv vs bt ts lo hi o bs ss br rs => exact p_parts k n op bv vs bt ts lo hi o bs ss br rs hf hsz
theorem p_part0 (t : Fm) (hf : t.fit) (h0 : (lookW t).e = 0) : CL X (fun _ => []) 21 [.agg t.cells, .nilsl] [] = some (.tup [.agg t.cl.cells, .int .i64 0], []) := by
  have hck := p_check t hf
  rw [h0] at hck
  have hcl := p_cloneFm t hf
  unfold FmC at hcl
  have hsh := fun hp lev n => Fm.shut t.cl hp lev n
  have hf' := Fm.cl_fit t hf
  obtain ⟨a1, a2, a3, a4, a5⟩ := flatFm hf
  have a6 := Fm.free' hf
  obtain ⟨b1, b2, b3, b4, b5⟩ := flatFm hf'
  have b6 := Fm.free' hf'
  generalize t.cells = C at hck hcl a1 a2 a3 a4 a5 a6 ⊢
  generalize t.cl.cells = D at hcl hsh b1 b2 b3 b4 b5 b6 ⊢
  have hDg : (10 ≤ D.length) = True := by simp; omega
  have ldC : ldK 10 true 0 (some C) = some (.agg C) := by
    rw [ldK_some, ldCells_agg, List.drop_zero, if_pos (by omega), a4, a3]
  have ldD : ldK 10 true 0 (some D) = some (.agg D) := by
    rw [ldK_some, ldCells_agg, List.drop_zero, if_pos (by omega), b4, b3]
  rw [CL_eq (fn := x21) rfl]
  simp +contextual -implicitDefEqProofs (maxSteps := 10000000) only [x21, go_sem, ↓reduceIte, Nat.reduceEqDiff, Nat.reduceAdd, Int.reduceBNe, a1, a2, a3, a6, ldAt_topc, stAt_topc, ldC, hck]
  obtain ⟨I, hI⟩ : ∃ I : Nat → List AV → Heap → Prop, ∀ i fr hp', I i fr hp' ↔ (hp' = [lputc (lputc [] 2 0 C) 4 0 zFm] ∧ fget fr 2 = .ptr ⟨0, 2, 0⟩ 0 ∧ fget fr 4 = .ptr ⟨0, 4, 0⟩ 0 ∧ fget fr 17 = .int .i64 0 ∧ fget fr 18 = .int .i64 0) := ⟨_, fun _ _ _ => Iff.rfl⟩
  obtain ⟨Q, hQ⟩ : ∃ Q : XExit → List AV → Heap → Prop, ∀ e fr hp', Q e fr hp' ↔ (e = .exit 0 ∧ hp' = [lputc (lputc [] 2 0 C) 4 0 zFm] ∧ fget fr 2 = .ptr ⟨0, 2, 0⟩ 0 ∧ fget fr 4 = .ptr ⟨0, 4, 0⟩ 0) := ⟨_, fun _ _ _ => Iff.rfl⟩
  refine LC_upK 0 I Q (fun r => finK _ (seqK (blockK 0 r) _) = _) ?_ ?_ ?_ ?_
  · rw [hI]
    refine ⟨rfl, ?_, ?_, ?_, ?_⟩ <;> simp only [go_sem, ↓reduceIte, Nat.reduceEqDiff]
  · intro i hi
    omega
  · intro fr hp' h
    obtain ⟨rfl, h2, h4, h17, h18⟩ := (hI _ _ _).1 h
    simp +contextual -implicitDefEqProofs (maxSteps := 10000000) only [x21_l0_run, go_sem, ↓reduceIte, h17, h18, Int.lt_irrefl]
    rw [hQ]
    refine ⟨rfl, rfl, ?_, ?_⟩ <;> simp only [go_sem, ↓reduceIte, Nat.reduceEqDiff, h2, h4]
  · intro e fr hp' he h
    obtain ⟨rfl, rfl, h2, h4⟩ := (hQ _ _ _).1 h
    unfold zFm
    simp +contextual -implicitDefEqProofs (maxSteps := 10000000) only [go_sem, ↓reduceIte, Nat.reduceEqDiff, Nat.reduceAdd, h2, h4, ldAt_topc, stAt_topc, ecellK_topc, ldC, ldD, hcl, a6, b1, b2, b3, b5, hsh]
theorem p_part_in (t : Fm) (hf : t.fit) (h0 : (lookW t).e = 0) (i : Nat) (hi : i < t.parts.length) (hi2 : i ≤ 256) : CL X (fun _ => []) 21 [.agg t.cells, .lst .tight 1 [[.int .i64 i]]] [] = some (.tup [.agg (t.parts[i]).cl.cells, .int .i64 0], []) := by
  have hck := p_check t hf
  rw [h0] at hck
  obtain ⟨pv, hpv, hparts⟩ := p_parts' t hf (look_ok (look_of h0).1).2
  have hia := hpv.uf.1.iaddr i hi
  obtain ⟨_, y2, y3, _, _⟩ := hpv.uf
  have hlu := hpv.uf.1.lens
  have hmem : t.parts[i] ∈ t.parts := List.getElem_mem hi
  have hfP := Fm.fitL_mem (Fm.parts_fit t hf) _ hmem
  have hcl := p_cloneFm (t.parts[i]) hfP
  unfold FmC at hcl
  have hsh := fun hp lev n => Fm.shut (t.parts[i]).cl hp lev n
  obtain ⟨a1, a2, a3, a4, a5⟩ := flatFm hf
  have a6 := Fm.free' hf
  obtain ⟨b1, b2, b3, b4, b5⟩ := flatFm (Fm.cl_fit _ hfP)
  have b6 := Fm.free' (Fm.cl_fit _ hfP)
  obtain ⟨c1, c2, c3, c4, c5⟩ := flatFm hfP
  have c6 := Fm.free' hfP
  have hlen : (t.parts.length : Int) ≤ (i : Int) ↔ False := by simp; omega
  have hlen' : ((t.parts.length : Int) ≤ (i : Int)) = False := by simp; omega
  have hi0 : ((i : Int) < 0) = False := by simp
  generalize t.parts.length = N at hlen hlen' hlu
  generalize (t.parts[i]).cl.cells = D at hcl hsh b1 b2 b3 b4 b5 b6 ⊢
  generalize (t.parts[i]).cells = P at hcl hia c1 c2 c3 c4 c5 c6
  generalize t.cells = C at hck hparts a1 a2 a3 a4 a5 a6 ⊢
  have hCP : splice C 0 P = P := splice_all _ _ (by omega)
  have hDg : (10 ≤ D.length) = True := by simp; omega
  have hPg : (10 ≤ P.length) = True := by simp; omega
  have hCg : (10 ≤ C.length) = True := by simp; omega
  have ldC : ldK 10 true 0 (some C) = some (.agg C) := by
    rw [ldK_some, ldCells_agg, List.drop_zero, if_pos (by omega), a4, a3]
  have ldP : ldK 10 true 0 (some P) = some (.agg P) := by
    rw [ldK_some, ldCells_agg, List.drop_zero, if_pos (by omega), c4, c3]
  have ldD : ldK 10 true 0 (some D) = some (.agg D) := by
    rw [ldK_some, ldCells_agg, List.drop_zero, if_pos (by omega), b4, b3]
  rw [CL_eq (fn := x21) rfl]
  simp +contextual -implicitDefEqProofs (maxSteps := 10000000) only [x21, go_sem, ↓reduceIte, Nat.reduceEqDiff, Nat.reduceAdd, Int.reduceBNe, a1, a2, a3, a6, ldAt_topc, stAt_topc, ldC, hck]
  obtain ⟨I, hI⟩ : ∃ I : Nat → List AV → Heap → Prop, ∀ j fr hp', I j fr hp' ↔ ((∃ L, hp' = [L] ∧ lcells L 2 0 = some (if j = 0 then C else P) ∧ lcells L 4 0 = some zFm) ∧ fget fr 2 = .ptr ⟨0, 2, 0⟩ 0 ∧ fget fr 4 = .ptr ⟨0, 4, 0⟩ 0 ∧ fget fr 16 = .lst .tight 1 [[.int .i64 i]] ∧ fget fr 17 = .int .i64 1 ∧ fget fr 18 = .int .i64 (j : Nat)) := ⟨_, fun _ _ _ => Iff.rfl⟩
  obtain ⟨Q, hQ⟩ : ∃ Q : XExit → List AV → Heap → Prop, ∀ e fr hp', Q e fr hp' ↔ (e = .exit 0 ∧ (∃ L, hp' = [L] ∧ lcells L 2 0 = some P ∧ lcells L 4 0 = some zFm) ∧ fget fr 2 = .ptr ⟨0, 2, 0⟩ 0 ∧ fget fr 4 = .ptr ⟨0, 4, 0⟩ 0) := ⟨_, fun _ _ _ => Iff.rfl⟩
  refine LC_upK 1 I Q (fun r => finK _ (seqK (blockK 0 r) _) = _) ?_ ?_ ?_ ?_
  · rw [hI]
    refine ⟨⟨_, rfl, by rw [lcells_put]; simp [lcells_put], by rw [lcells_put]; simp [zFm]⟩, ?_, ?_, ?_, ?_, ?_⟩ <;> simp only [go_sem, ↓reduceIte, Nat.reduceEqDiff, Int.natCast_zero, Int.natCast_one]
  · intro j hj fr hp' h
    obtain rfl : j = 0 := by omega
    obtain ⟨⟨L, rfl, hL2, hL4⟩, h2, h4, h16, h17, h18⟩ := (hI _ _ _).1 h
    rw [if_pos rfl] at hL2
    rw [Int.natCast_zero] at h18
    have ia : iaddrK 1 (.lst .tight 1 [[.int .i64 (i : Int)]]) (some 0) = some (.elp [.int .i64 (i : Int)]) := rfl
    have hw1 : wr .i64 (0 + 1) = 1 := by decide
    simp +contextual -implicitDefEqProofs (maxSteps := 10000000) only [x21_l0_run, go_sem, ↓reduceIte, Nat.reduceEqDiff, Nat.reduceAdd, Int.reduceLT, Int.reduceLE, Int.reduceNeg, Int.reduceToNat, h2, h4, h16, h17, h18, ia, hL2, hL4, ldAt_topc, stAt_topc, ldC, hparts, y2, hlu, hlen', hi0, hia, a1, a6, c1, c2, c3, c4, hCP, fget_drop1K]
    rw [hI]
    refine ⟨⟨_, rfl, by rw [lcells_put]; simp, by rw [lcells_put]; simp [hL4]⟩, ?_, ?_, ?_, ?_, ?_⟩ <;> simp only [go_sem, ↓reduceIte, Nat.reduceEqDiff, h2, h4, h16, h17, Int.natCast_one, fget_drop1K]
  · intro fr hp' h
    obtain ⟨⟨L, rfl, hL2, hL4⟩, h2, h4, h16, h17, h18⟩ := (hI _ _ _).1 h
    rw [if_neg (by omega)] at hL2
    rw [Int.natCast_one] at h18
    simp +contextual -implicitDefEqProofs (maxSteps := 10000000) only [x21_l0_run, go_sem, ↓reduceIte, h17, h18, Int.lt_irrefl]
    rw [hQ]
    refine ⟨rfl, ⟨L, rfl, hL2, hL4⟩, ?_, ?_⟩ <;> simp only [go_sem, ↓reduceIte, Nat.reduceEqDiff, h2, h4]
  · intro e fr hp' he h
    obtain ⟨rfl, ⟨L, rfl, hL2, hL4⟩, h2, h4⟩ := (hQ _ _ _).1 h
    unfold zFm at hL4
    simp +contextual -implicitDefEqProofs (maxSteps := 10000000) only [go_sem, ↓reduceIte, Nat.reduceEqDiff, Nat.reduceAdd, h2, h4, hL2, hL4, ldAt_topc, stAt_topc, ecellK_topc, ldP, ldD, hcl, c6, b1, b2, b3, b5, hsh]
theorem p_part_out (t : Fm) (hf : t.fit) (h0 : (lookW t).e = 0) (i : Nat) (hi : t.parts.length ≤ i) (hi2 : i ≤ 256) : CL X (fun _ => []) 21 [.agg t.cells, .lst .tight 1 [[.int .i64 i]]] [] = some (.tup [.agg zFm, .int .i64 5], []) := by
  have hck := p_check t hf
  rw [h0] at hck
  obtain ⟨pv, hpv, hparts⟩ := p_parts' t hf (look_ok (look_of h0).1).2
  obtain ⟨_, y2, y3, _, _⟩ := hpv.uf
  have hlu := hpv.uf.1.lens
  obtain ⟨a1, a2, a3, a4, a5⟩ := flatFm hf
  have a6 := Fm.free' hf
  have hlen' : ((t.parts.length : Int) ≤ (i : Int)) = True := by simp; omega
  have hi0 : ((i : Int) < 0) = False := by simp
  generalize t.parts.length = N at hlen' hlu
  generalize t.cells = C at hck hparts a1 a2 a3 a4 a5 a6 ⊢
  have hCg : (10 ≤ C.length) = True := by simp; omega
  have ldC : ldK 10 true 0 (some C) = some (.agg C) := by
    rw [ldK_some, ldCells_agg, List.drop_zero, if_pos (by omega), a4, a3]
  rw [CL_eq (fn := x21) rfl]
  simp +contextual -implicitDefEqProofs (maxSteps := 10000000) only [x21, go_sem, ↓reduceIte, Nat.reduceEqDiff, Nat.reduceAdd, Int.reduceBNe, a1, a2, a3, a6, ldAt_topc, stAt_topc, ldC, hck]
  obtain ⟨I, hI⟩ : ∃ I : Nat → List AV → Heap → Prop, ∀ j fr hp', I j fr hp' ↔ (j = 0 ∧ (∃ L, hp' = [L] ∧ lcells L 2 0 = some C ∧ lcells L 4 0 = some zFm) ∧ fget fr 2 = .ptr ⟨0, 2, 0⟩ 0 ∧ fget fr 4 = .ptr ⟨0, 4, 0⟩ 0 ∧ fget fr 16 = .lst .tight 1 [[.int .i64 i]] ∧ fget fr 17 = .int .i64 1 ∧ fget fr 18 = .int .i64 (j : Nat)) := ⟨_, fun _ _ _ => Iff.rfl⟩
  obtain ⟨Q, hQ⟩ : ∃ Q : XExit → List AV → Heap → Prop, ∀ e fr hp', Q e fr hp' ↔ (e = .ret ∧ (∃ L, hp' = [L] ∧ lcells L 4 0 = some zFm) ∧ fget fr 4 = .ptr ⟨0, 4, 0⟩ 0 ∧ fget fr 5 = .int .i64 5) := ⟨_, fun _ _ _ => Iff.rfl⟩
  refine LC_upK 1 I Q (fun r => finK _ (seqK (blockK 0 r) _) = _) ?_ ?_ ?_ ?_
  · rw [hI]
    refine ⟨rfl, ⟨_, rfl, by rw [lcells_put]; simp [lcells_put], by rw [lcells_put]; simp [zFm]⟩, ?_, ?_, ?_, ?_, ?_⟩ <;> simp only [go_sem, ↓reduceIte, Nat.reduceEqDiff, Int.natCast_zero, Int.natCast_one]
  · intro j hj fr hp' h
    obtain rfl : j = 0 := by omega
    obtain ⟨_, ⟨L, rfl, hL2, hL4⟩, h2, h4, h16, h17, h18⟩ := (hI _ _ _).1 h
    rw [Int.natCast_zero] at h18
    unfold zFm at hL4
    have ia : iaddrK 1 (.lst .tight 1 [[.int .i64 (i : Int)]]) (some 0) = some (.elp [.int .i64 (i : Int)]) := rfl
    simp +contextual -implicitDefEqProofs (maxSteps := 10000000) only [x21_l0_run, go_sem, ↓reduceIte, Nat.reduceEqDiff, Nat.reduceAdd, Int.reduceLT, Int.reduceLE, Int.reduceToNat, h2, h4, h16, h17, h18, ia, hL2, hL4, ldAt_topc, stAt_topc, ldC, hparts, hlu, hlen', hi0, a6, fget_drop1K]
    rw [hQ]
    refine ⟨rfl, ⟨_, rfl, by rw [lcells_put]; simp [zFm]⟩, ?_, ?_⟩ <;> simp only [go_sem, ↓reduceIte, Nat.reduceEqDiff, h4, fget_drop1K]
  · intro fr hp' h
    obtain ⟨h, _⟩ := (hI _ _ _).1 h
    cases h
  · intro e fr hp' he h
    obtain ⟨rfl, ⟨L, rfl, hL4⟩, h4, h5⟩ := (hQ _ _ _).1 h
    unfold zFm at hL4 ⊢
    simp +contextual -implicitDefEqProofs (maxSteps := 10000000) only [go_sem, ↓reduceIte, Nat.reduceAdd, h4, h5, hL4, ecellK_topc]
theorem appK_lvo (a b : List Nm) (h : (a.length + b.length) * 16 ≤ room) : appK false 1 16 (lvo a) (some (tx b)) = some (lvo (a ++ b)) := by
  unfold lvo
  by_cases hb : b = []
  · subst hb
    have t0 : tx ([] : List Nm) = [] := rfl
    rw [List.append_nil, t0]
    by_cases ha : a = []
    · rw [if_pos ha]; rfl
    · rw [if_neg ha]; rfl
  · have hb' : ¬ tx b = [] := by rw [tx_nil]; exact hb
    have hab : ¬ a ++ b = [] := by simp [hb]
    rw [if_neg hab]
    by_cases ha : a = []
    · subst ha
      rw [if_pos rfl, appK_nilsl, if_neg hb', if_pos ⟨tx_free b, tx_plain b⟩, tx_len, if_pos (by simpa using h)]
      rfl
    · rw [if_neg ha, appK_lst, if_neg hb', if_pos ⟨tx_free b, tx_plain b⟩, tx_len, tx_len, if_pos ⟨rfl, rfl, h⟩, tx_app]
      rfl
theorem strs_geq (x y : List UInt8) : strs .geq x y = some (.bool !(bless x y)) := rfl
theorem Fm.len_ct : ∀ l : List Fm, l.length ≤ Fm.ctL l
  | [] => Nat.zero_le _
  | t :: l => by
    have := Fm.len_ct l
    have := Fm.ct_pos t
    rw [Fm.ctL, List.length_cons]; omega
theorem Fm.ctL_take (l : List Fm) (i : Nat) (h : i < l.length) : Fm.ctL (l.take (i + 1)) = Fm.ctL (l.take i) + (l[i]).ct := by
  rw [List.take_succ_eq_append_getElem h, Fm.ctL_app, Fm.ctL, Fm.ctL]; omega
theorem Fm.ctL_take_le (l : List Fm) (i : Nat) : Fm.ctL (l.take i) ≤ Fm.ctL l := by
  have h := Fm.ctL_app (l.take i) (l.drop i)
  rw [List.take_append_drop] at h
  omega
def nmsOf (l : List Fm) : List Nm := (l.map fun t => t.fr.1).flatten
theorem nmsOf_take (l : List Fm) (i : Nat) (h : i < l.length) : nmsOf (l.take (i + 1)) = nmsOf (l.take i) ++ (l[i]).fr.1 := by
  unfold nmsOf
  rw [List.take_succ_eq_append_getElem h, List.map_append, List.flatten_append]
  simp only [List.map_cons, List.map_nil, List.flatten_cons, List.flatten_nil, List.append_nil]
theorem nmsOf_len : ∀ (l : List Fm), (∀ t ∈ l, t.fr.1.length ≤ 8) → (nmsOf l).length ≤ 8 * l.length
  | [], _ => by simp [nmsOf]
  | t :: l, h => by
    have h1 := h t (by simp)
    have h2 := nmsOf_len l (fun u hu => h u (by simp [hu]))
    unfold nmsOf at h2 ⊢
    rw [List.map_cons, List.flatten_cons, List.length_append, List.length_cons]
    omega
theorem p_Free (t : Fm) (hf : t.fit) (h0 : (lookW t).e = 0) : Ans (fun v => Sl 1 v (tx t.fr.1)) [] (CL X (fun _ => []) 16 [.agg t.cells] []) := by
  have hck := p_check t hf
  rw [h0] at hck
  have hl := look_ok (look_of h0).1
  obtain ⟨u, ⟨v, rfl, hv⟩, hfr⟩ := p_free t hf hl.1 hl.2
  obtain ⟨hCl, hCp, hCm⟩ := (Fm.fxp _ hf).flat
  have hfree := flatFm' hf
  generalize t.cells = C at hck hfr hCl hCp hCm hfree ⊢
  have hCl' : C.length = 10 := hCl
  have hCt : C.take 10 = C := List.take_of_length_le (by omega)
  have ldC : ldK 10 true 0 (some C) = some (.agg C) := by
    rw [ldK_some, ldCells_agg, List.drop_zero, if_pos (by omega), hCt, hCm]
  obtain ⟨p1, u1, n1, d1, f1⟩ := hv.one
  have hr : ∀ hp lev, retOf hp lev [v] = some v := by
    rcases hv with ⟨rfl, _⟩ | rfl <;> intro hp lev <;> rfl
  rw [CL_eq (fn := x16) rfl]
  simp +contextual -implicitDefEqProofs (maxSteps := 10000000) only [x16, go_sem, ↓reduceIte, Nat.reduceEqDiff, Int.reduceBNe, hCm, hCl', hCp, ldAt_topc, ldC, hfree, hck, hfr, u1, d1, hr]
  exact ⟨v, hv, rfl⟩
theorem p_Free_err (t : Fm) (hf : t.fit) (h0 : ¬ (lookW t).e = 0) : CL X (fun _ => []) 16 [.agg t.cells] [] = some (.nilsl, []) := by
  have hck := p_check t hf
  generalize (lookW t).e = e at hck h0
  obtain ⟨hCl, hCp, hCm⟩ := (Fm.fxp _ hf).flat
  have hfree := flatFm' hf
  generalize t.cells = C at hck hCl hCp hCm hfree ⊢
  have hCl' : C.length = 10 := hCl
  have hCt : C.take 10 = C := List.take_of_length_le (by omega)
  have ldC : ldK 10 true 0 (some C) = some (.agg C) := by
    rw [ldK_some, ldCells_agg, List.drop_zero, if_pos (by omega), hCt, hCm]
  rw [CL_eq (fn := x16) rfl]
  simp +contextual -implicitDefEqProofs (maxSteps := 10000000) only [x16, go_sem, ↓reduceIte, Nat.reduceEqDiff, hCm, hCl', hCp, ldAt_topc, ldC, hfree, hck, h0]
theorem v_AstWhole_err (t : Fm) (hf : t.fit) (h0 : ¬ (lookW t).e = 0) : CL X (fun _ => []) 7 [.agg t.cells] [] = some (.bool true, []) := by
  have hck := p_check t hf
  have hnd := p_nodes t hf
  have hdp := p_depth t hf
  rw [if_neg h0] at hnd hdp
  have hfr := p_Free_err t hf h0
  have hl : CL X (fun _ => []) 8 [] [] = some (.bool true, []) := liveTold
  generalize (lookW t).e = e at hck h0
  obtain ⟨hCl, hCp, hCm⟩ := (Fm.fxp _ hf).flat
  have hfree := flatFm' hf
  generalize t.cells = C at hck hnd hdp hfr hCl hCp hCm hfree ⊢
  have hCl' : C.length = 10 := hCl
  have hCt : C.take 10 = C := List.take_of_length_le (by omega)
  have ldC : ldK 10 true 0 (some C) = some (.agg C) := by
    rw [ldK_some, ldCells_agg, List.drop_zero, if_pos (by omega), hCt, hCm]
  rw [CL_eq (fn := x7) rfl]
  simp +contextual -implicitDefEqProofs (maxSteps := 10000000) only [x7, go_sem, ↓reduceIte, Nat.reduceEqDiff, hCm, hCl', hCp, ldAt_topc, ldC, hfree, hck, h0, hnd, hdp, hfr, hl]
theorem Fm.fr_le (t : Fm) : (t.fr.1.length : Int) ≤ t.fr.2 := by
  cases t
  rw [Fm.fr_eq]
  unfold frcomb
  simp only
  split <;> omega
theorem lvo_Sl (l : List Nm) : Sl 1 (uf (lvo l)) (tx l) := (lvo_LV l).uf
theorem lvo_nil : lvo [] = .nilsl := rfl
structure PartOk (C : List AV) (M : Int) (j : Nat) (p : Fm) (D E : List AV) (fv : AV) : Prop where
  part : CL X (fun _ => []) 21 [.agg C, .lst .tight 1 [[.int .i64 (j : Nat)]]] [] = some (.tup [.agg D, .int .i64 0], [])
  check : CL X (fun _ => []) 9 [.agg D] [] = some (.int .i64 0, [])
  depth : CL X (fun _ => []) 19 [.agg D] [] = some (.int .i64 (p.ht : Nat), [])
  nodes : CL X (fun _ => []) 17 [.agg D] [] = some (.int .i64 (p.ct : Nat), [])
  again : CL X (fun _ => []) 21 [.agg D, .nilsl] [] = some (.tup [.agg E, .int .i64 0], [])
  same : CL X (fun _ => []) 13 [.agg E, .agg D] [] = some (.bool true, [])
  free : CL X (fun _ => []) 16 [.agg D] [] = some (fv, [])
  sl : Sl 1 fv (tx p.fr.1)
  lt : (M ≤ ((p.ht : Nat) : Int)) = False
  pos : (((p.ct : Nat) : Int) < 1) = False
  d : D.length = 10 ∧ D.all plain1 = true ∧ D.map uf = D ∧ D.take 10 = D ∧ splice zFm 0 D = D ∧ refFreeL D = true
  e : E.length = 10 ∧ E.all plain1 = true ∧ E.map uf = E ∧ E.take 10 = E ∧ splice zFm 0 E = E ∧ refFreeL E = true
theorem part_ok (t : Fm) (hf : t.fit) (h0 : (lookW t).e = 0) (j : Nat) (hj : j < t.parts.length) (hj2 : j ≤ 256) : ∃ D E fv, PartOk t.cells (t.ht : Nat) j t.parts[j] D E fv := by
  have hmem : t.parts[j] ∈ t.parts := List.getElem_mem hj
  have hfP := Fm.fitL_mem (Fm.parts_fit t hf) _ hmem
  have hpart := p_part_in t hf h0 j hj hj2
  obtain ⟨q0, q1, q2⟩ := Fm.part_look t _ h0 hmem
  have e1 := (look_iff _).2 q0
  have e2 := (look_iff _).2 h0
  generalize t.parts[j] = p at hfP hpart q0 q1 q2 e1
  have hfD := Fm.cl_fit p hfP
  have hfE := Fm.cl_fit p.cl hfD
  have k0 : (lookW p.cl).e = 0 := by rw [look_cl]; exact q0
  have hck := p_check p.cl hfD
  have hnd := p_nodes p.cl hfD
  have hdp := p_depth p.cl hfD
  rw [look_cl] at hck hnd hdp
  rw [if_pos q0] at hnd hdp
  rw [q0] at hck
  have hag := p_part0 p.cl hfD k0
  have hsm := (v_fx (Fm.fxp _ hfE)).1 rfl _ (Fm.fxp _ hfD) []
  rw [← (Fm.fxp _ hfD).pl.symm, Fm.cl_eq] at hsm
  obtain ⟨fv, hfv, hfr⟩ := p_Free p.cl hfD k0
  rw [Fm.cl_fr] at hfv
  obtain ⟨b1, b2, b3, b4, b5⟩ := flatFm hfD
  have b6 := Fm.free' hfD
  obtain ⟨c1, c2, c3, c4, c5⟩ := flatFm hfE
  have c6 := Fm.free' hfE
  rw [e1] at hdp hnd q1 q2
  rw [e2] at q1
  exact ⟨_, _, fv, ⟨hpart, hck, hdp, hnd, hag, hsm, hfr, hfv, by simp at q1 ⊢; omega, by simp at q2 ⊢; omega, ⟨b1, b2, b3, b4, b5, b6⟩, ⟨c1, c2, c3, c4, c5, c6⟩⟩⟩
theorem v_AstWhole_ok (k : Int) (n : List UInt8) (op : Int) (bv : Bool) (vs : List (List UInt8)) (bt : Bool) (ts : List Tm) (lo hi : Int) (o bs : Bool) (ss : List Fm) (br : Bool) (rs : List Rx) (hfit : (Fm.mk k n op bv vs bt ts lo hi o bs ss br rs).fit)
    (h0 : (lookW (Fm.mk k n op bv vs bt ts lo hi o bs ss br rs)).e = 0) : CL X (fun _ => []) 7 [.agg (Fm.mk k n op bv vs bt ts lo hi o bs ss br rs).cells] [] = some (.bool true, []) := by
  have hck := p_check _ hfit
  have hnd := p_nodes _ hfit
  have hdp := p_depth _ hfit
  have e2 := (look_iff _).2 h0
  rw [if_pos h0, e2] at hnd hdp
  rw [h0] at hck
  have hlk := look_ok (look_of h0).1
  obtain ⟨⟨ok1, ok2, ok3⟩, ok4⟩ := (look_iff _).1.1 h0
  obtain ⟨fv0, hfv0, hfr⟩ := p_Free _ hfit h0
  have hmem0 := fun x hk hx => Fm.fr_mem k n op bv vs bt ts lo hi o bs ss br rs hk x hx
  have hss := Fm.fr_ss (Fm.mk k n op bv vs bt ts lo hi o bs ss br rs)
  have hsub := Fm.parts_sub (Fm.mk k n op bv vs bt ts lo hi o bs ss br rs)
  have hpok := fun j hj hj2 => part_ok _ hfit h0 j hj hj2
  have hout := fun j hj hj2 => p_part_out _ hfit h0 j hj hj2
  have hlive : CL X (fun _ => []) 8 [] [] = some (.bool true, []) := liveTold
  have hfrl : ∀ p ∈ (Fm.mk k n op bv vs bt ts lo hi o bs ss br rs).parts, p.fr.1.length ≤ 8 := by
    intro p hp
    have h1 := Fm.part_fr _ p hp
    have h2 := Fm.fr_le p
    omega
  have hT : (Tm.tvC ts).length ≤ 1048576 := by
    have h1 := Tm.tvC_len ts
    have h2 := hlk.2
    rw [Fm.sz] at h2
    omega
  have hTn : Tm.nnL ts ≤ 1048576 := by
    have h2 := hlk.2
    rw [Fm.sz] at h2
    omega
  obtain ⟨a1, a2, a3, a4, a5⟩ := flatFm hfit
  have a6 := Fm.free' hfit
  have hts : Tm.fitL ts := by simp only [Fm.fit] at hfit; exact hfit.2.2.2.2.1
  have htl : ts.length * 88 ≤ 140737488351232 := by simp only [Fm.fit] at hfit; exact hfit.2.1
  have hsl := slv_Sl bt 7 (Tm.cellsL ts)
  have g4 : (Fm.mk k n op bv vs bt ts lo hi o bs ss br rs).cells.drop 4 = slv bt 7 (Tm.cellsL ts) :: [.int .i64 lo, .int .i64 hi, .bool o, slv bs 10 (Fm.cellsL ss), slv br 3 (Rx.cellsL rs)] := by rw [Fm.cells]; rfl
  have g0 : (Fm.mk k n op bv vs bt ts lo hi o bs ss br rs).cells = .int .i64 k :: (Fm.mk k n op bv vs bt ts lo hi o bs ss br rs).cells.drop 1 := by rw [Fm.cells]; rfl
  generalize (Fm.mk k n op bv vs bt ts lo hi o bs ss br rs).parts = G at hmem0 hsub hpok hout hfrl
  generalize hF : (Fm.mk k n op bv vs bt ts lo hi o bs ss br rs).fr.1 = F at hfv0 hmem0 hss
  generalize hct : (Fm.mk k n op bv vs bt ts lo hi o bs ss br rs).ct = ct at hnd ok2 hsub e2
  generalize hht : (Fm.mk k n op bv vs bt ts lo hi o bs ss br rs).ht = ht at hdp ok3 hsub hpok e2
  have hFl : F.length ≤ 8 := by
    have := Fm.fr_le (Fm.mk k n op bv vs bt ts lo hi o bs ss br rs)
    rw [hF] at this
    omega
  have hGl := Fm.len_ct G
  generalize (Fm.mk k n op bv vs bt ts lo hi o bs ss br rs).cells = C at hck hnd hdp hfr hpok hout a1 a2 a3 a4 a5 a6 g4 g0 ⊢
  have ldC : ldK 10 true 0 (some C) = some (.agg C) := by
    rw [ldK_some, ldCells_agg, List.drop_zero, if_pos (by omega), a4, a3]
  generalize slv bt 7 (Tm.cellsL ts) = tv at hsl g4
  obtain ⟨p1, u1, n1, d1, f1⟩ := hsl.one
  rw [Tm.cellsL_len] at n1
  have ld4 : ldK 1 false 4 (some C) = some tv := by
    rw [ldK_some, g4]
    show some (uf tv) = some tv
    rw [u1]
  have ld0 : ldK 1 false 0 (some C) = some (.int .i64 k) := by
    rw [ldK_some, List.drop_zero, g0]
    rfl
  obtain ⟨p1', u1', n1', d1', f1'⟩ := hfv0.one
  rw [tx_len] at n1'
  have hnames : ∀ j, j ≤ G.length → (Tm.tvC ts ++ nmsOf (G.take j)).length ≤ 1048576 + 2048 := by
    intro j hj
    have h1 := nmsOf_len (G.take j) (fun p hp => hfrl p (List.mem_of_mem_take hp))
    rw [List.length_take] at h1
    rw [List.length_append]
    omega
  rw [CL_eq (fn := x7) rfl]
  simp +contextual -implicitDefEqProofs (maxSteps := 10000000) only [x7, go_sem, ↓reduceIte, Nat.reduceEqDiff, Int.reduceBNe, a1, a2, a3, a6, ldAt_topc, ldC, hck]
  -- the terms' names
  obtain ⟨I1, hI1⟩ : ∃ I : Nat → List AV → Heap → Prop, ∀ i fr hp', I i fr hp' ↔ ((∃ L, hp' = [L] ∧ lcells L 1 0 = some C) ∧ fget fr 1 = .ptr ⟨0, 1, 0⟩ 0 ∧ fget fr 3 = .int .i64 0 ∧ fget fr 4 = lvo (Tm.tvC (ts.take i)) ∧ fget fr 5 = .int .i64 (i : Nat)) := ⟨_, fun _ _ _ => Iff.rfl⟩
  obtain ⟨Q1, hQ1⟩ : ∃ Q : XExit → List AV → Heap → Prop, ∀ e fr hp', Q e fr hp' ↔ (e = .exit 0 ∧ (∃ L, hp' = [L] ∧ lcells L 1 0 = some C) ∧ fget fr 1 = .ptr ⟨0, 1, 0⟩ 0 ∧ fget fr 3 = .int .i64 0 ∧ fget fr 4 = lvo (Tm.tvC ts)) := ⟨_, fun _ _ _ => Iff.rfl⟩
  refine LC_upK ts.length I1 Q1 (fun r => finK _ (seqK (blockK 0 r) _) = _) ?_ ?_ ?_ ?_
  · rw [hI1]
    refine ⟨⟨_, rfl, by rw [lcells_put]; simp⟩, ?_, ?_, ?_, ?_⟩ <;> simp only [go_sem, ↓reduceIte, Nat.reduceEqDiff, Int.natCast_zero, List.take_zero, Tm.tvC, lvo_nil]
  · intro i hi fr hp' h
    obtain ⟨⟨L, rfl, hL⟩, e1, e3, e4, e5⟩ := (hI1 _ _ _).1 h
    have hlen := Tm.cellsL_len ts
    have hv' : tv = .lst .none 7 (Tm.cellsL ts) := by
      rcases hsl with ⟨_, e⟩ | e
      · rw [e] at hlen; simp at hlen; omega
      · exact e
    have k1 : ((i : Int) < (ts.length : Int)) = True := by simp; omega
    have k2 : (i < ts.length) = True := by simp; omega
    have w1 : wr .i64 ((i : Int) + 1) = ((i + 1 : Nat) : Int) := by rw [wr_i64 _ (by omega)]; omega
    have g1 : (Tm.cellsL ts).getD i [] = (ts[i]).cells := by simp [Tm.cellsL_eq, List.getD, hi]
    have hmem : ts[i] ∈ ts := List.getElem_mem hi
    obtain ⟨b1, b2, b3, b4, b5⟩ := flatTm (Tm.fitL_mem hts _ hmem)
    have b6 := Tm.free (Tm.fitL_mem hts _ hmem)
    have b7 : (7 ≤ (ts[i]).cells.length) = True := by simp; omega
    have htv := p_tvL ts hts hTn _ hmem []
    have htk := Tm.tvC_take ts i hi
    have hap : appK false 1 16 (lvo (Tm.tvC (ts.take i))) (some (tx (ts[i]).tv)) = some (lvo (Tm.tvC (ts.take (i + 1)))) := by
      rw [htk]
      refine appK_lvo _ _ ?_
      have h1 := Tm.tvC_append (ts.take (i + 1)) (ts.drop (i + 1))
      rw [List.take_append_drop] at h1
      rw [h1, htk] at hT
      simp only [List.length_append] at hT
      simp [room]; omega
    have hlo := fun hp => listOf_lvo hp (ts[i]).tv
    generalize lvo (Tm.tvC (ts.take i)) = A at e4 hap
    obtain ⟨A', hA'⟩ : ∃ A', lvo (Tm.tvC (ts.take (i + 1))) = A' := ⟨_, rfl⟩
    rw [hA'] at hap
    simp +contextual -implicitDefEqProofs (maxSteps := 10000000) only [x7_l0_run, go_sem, ↓reduceIte, Nat.reduceEqDiff, e1, e4, e5, hL, ldAt_topc, ld4, k1, k2, w1, hv', lensK_lst, hlen, g1, b1, b3, b4, b6, htv, hlo, hap, fget_drop1K]
    rw [hI1]
    refine ⟨⟨L, rfl, hL⟩, ?_, ?_, ?_, ?_⟩ <;> simp only [go_sem, ↓reduceIte, Nat.reduceEqDiff, e1, e3, fget_drop1K, hA']
  · intro fr hp' h
    obtain ⟨⟨L, rfl, hL⟩, e1, e3, e4, e5⟩ := (hI1 _ _ _).1 h
    simp +contextual -implicitDefEqProofs (maxSteps := 10000000) only [x7_l0_run, go_sem, ↓reduceIte, Nat.reduceEqDiff, e1, e5, hL, ldAt_topc, ld4, n1, Int.lt_irrefl]
    rw [hQ1]
    rw [List.take_length] at e4
    refine ⟨rfl, ⟨L, rfl, hL⟩, ?_, ?_, ?_⟩ <;> simp only [go_sem, ↓reduceIte, Nat.reduceEqDiff, e1, e3, e4]
  intro e fr hp' he h
  obtain ⟨rfl, ⟨L, rfl, hL⟩, e1, e3, e4⟩ := (hQ1 _ _ _).1 h
  simp +contextual -implicitDefEqProofs (maxSteps := 10000000) only [go_sem, ↓reduceIte]
  -- the parts
  obtain ⟨I2, hI2⟩ : ∃ I : Nat → List AV → Heap → Prop, ∀ i fr hp', I i fr hp' ↔ ((∃ L, hp' = [L] ∧ lcells L 1 0 = some C) ∧ fget fr 1 = .ptr ⟨0, 1, 0⟩ 0 ∧ fget fr 3 = .int .i64 (Fm.ctL (G.take i) : Nat) ∧ fget fr 4 = lvo (Tm.tvC ts ++ nmsOf (G.take i)) ∧ fget fr 6 = .int .i64 (i : Nat)) := ⟨_, fun _ _ _ => Iff.rfl⟩
  obtain ⟨Q2, hQ2⟩ : ∃ Q : XExit → List AV → Heap → Prop, ∀ e fr hp', Q e fr hp' ↔ (e = .exit 2 ∧ (∃ L, hp' = [L] ∧ lcells L 1 0 = some C) ∧ fget fr 1 = .ptr ⟨0, 1, 0⟩ 0 ∧ fget fr 3 = .int .i64 (Fm.ctL G : Nat) ∧ fget fr 4 = lvo (Tm.tvC ts ++ nmsOf G)) := ⟨_, fun _ _ _ => Iff.rfl⟩
  refine LC_upK G.length I2 Q2 (fun r => finK _ (seqK (blockK 2 r) _) = _) ?_ ?_ ?_ ?_
  · rw [hI2]
    refine ⟨⟨L, rfl, hL⟩, ?_, ?_, ?_, ?_⟩ <;> simp only [go_sem, ↓reduceIte, Nat.reduceEqDiff, Int.natCast_zero, List.take_zero, Fm.ctL, nmsOf, List.map_nil, List.flatten_nil, e1, e3, e4]
  · intro i hi fr hp' h
    obtain ⟨⟨L, rfl, hL⟩, e1, e3, e4, e6⟩ := (hI2 _ _ _).1 h
    obtain ⟨D, E, fv, hp⟩ := hpok i hi (by omega)
    have k1 : ((i : Int) ≤ 256) = True := by simp; omega
    have w1 : wr .i64 ((i : Int) + 1) = ((i + 1 : Nat) : Int) := by rw [wr_i64 _ (by omega)]; omega
    have hct1 := Fm.ctL_take G i hi
    have hct2 := Fm.ctL_take_le G (i + 1)
    have w2 : wr .i64 ((Fm.ctL (G.take i) : Nat) + ((G[i]).ct : Nat) : Int) = ((Fm.ctL (G.take (i + 1)) : Nat) : Int) := by rw [wr_i64 _ (by omega)]; omega
    have hnt := nmsOf_take G i hi
    have hap : appK false 1 16 (lvo (Tm.tvC ts ++ nmsOf (G.take i))) (some (tx (G[i]).fr.1)) = some (lvo (Tm.tvC ts ++ nmsOf (G.take (i + 1)))) := by
      rw [hnt, ← List.append_assoc]
      refine appK_lvo _ _ ?_
      have h1 := hnames (i + 1) (by omega)
      rw [hnt, ← List.append_assoc] at h1
      simp only [List.length_append, room] at h1 ⊢
      omega
    obtain ⟨h1, h2, h3, h4, h5, h6, h7, h8, h9, h10, ⟨b1, b2, b3, b4, b5, b6⟩, ⟨c1, c2, c3, c4, c5, c6⟩⟩ := hp
    unfold zFm at b5 c5
    have hlo := h8.listOf
    obtain ⟨r1, r2, r3, r4, r5⟩ := h8.one
    have b7 : (10 ≤ D.length) = True := by simp; omega
    have c7 : (10 ≤ E.length) = True := by simp; omega
    have ldD : ldK 10 true 0 (some D) = some (.agg D) := by
      rw [ldK_some, ldCells_agg, List.drop_zero, if_pos (by omega), b4, b3]
    have ldE : ldK 10 true 0 (some E) = some (.agg E) := by
      rw [ldK_some, ldCells_agg, List.drop_zero, if_pos (by omega), c4, c3]
    generalize lvo (Tm.tvC ts ++ nmsOf (G.take i)) = A at e4 hap
    obtain ⟨A', hA'⟩ : ∃ A', lvo (Tm.tvC ts ++ nmsOf (G.take (i + 1))) = A' := ⟨_, rfl⟩
    rw [hA'] at hap
    generalize (G[i]).ct = pc at h4 h10 w2
    generalize (G[i]).ht = ph at h3 h9
    simp +contextual -implicitDefEqProofs (maxSteps := 10000000) only [x7_l1_run, go_sem, ↓reduceIte, Nat.reduceEqDiff, Nat.reduceAdd, Int.reduceBEq, Int.reduceBNe, Nat.reduceLT, Nat.reduceDiv, e1, e3, e4, e6, hL, ldAt_topc, stAt_topc, ldC, ldD, ldE, k1, w1, w2, chunks_one, h1, h2, h3, h4, h5, h6, h7, h9, h10, hdp, hlo, hap, a6, b1, b2, b3, b5, b6, c1, c2, c3, c5, c6, fget_drop1K]
    rw [hI2]
    refine ⟨⟨_, rfl, by simp [lcells_put, hL]⟩, ?_, ?_, ?_, ?_⟩ <;> simp only [go_sem, ↓reduceIte, Nat.reduceEqDiff, e1, fget_drop1K, hA']
  · intro fr hp' h
    obtain ⟨⟨L, rfl, hL⟩, e1, e3, e4, e6⟩ := (hI2 _ _ _).1 h
    have ho := hout G.length (Nat.le_refl _) (by omega)
    unfold zFm at ho
    have k1 : ((G.length : Int) ≤ 256) = True := by simp; omega
    simp +contextual -implicitDefEqProofs (maxSteps := 10000000) only [x7_l1_run, go_sem, ↓reduceIte, Nat.reduceEqDiff, Nat.reduceAdd, Nat.reduceLT, Nat.reduceDiv, e1, e6, hL, ldAt_topc, stAt_topc, ldC, k1, chunks_one, ho, a6]
    rw [hQ2]
    rw [List.take_length] at e3 e4
    refine ⟨rfl, ⟨_, rfl, by simp [lcells_put, hL]⟩, ?_, ?_, ?_⟩ <;> simp only [go_sem, ↓reduceIte, Nat.reduceEqDiff, e1, e3, e4]
  clear e1 e3 e4 hL h
  intro e fr hp' he h
  obtain ⟨rfl, ⟨L, rfl, hL⟩, e1, e3, e4⟩ := (hQ2 _ _ _).1 h
  have hsum : ((ct : Int) ≤ ((Fm.ctL G : Nat) : Int)) = False := by simp; omega
  simp +contextual -implicitDefEqProofs (maxSteps := 10000000) only [go_sem, ↓reduceIte, Nat.reduceEqDiff, e1, e3, hL, ldAt_topc, ldC, hnd, hsum, hfr, d1', a6]
  -- the free variables
  have hNl : (Tm.tvC ts ++ nmsOf G).length ≤ 1048576 + 2048 := by
    have := hnames G.length (Nat.le_refl _)
    rwa [List.take_length] at this
  have hN : ∀ x, k ≠ 19 → x ∈ F → (Tm.tvC ts ++ nmsOf G).contains x = true := by
    intro x hk hx
    rw [List.contains_iff_mem, List.mem_append]
    rcases hmem0 x hk hx with h | ⟨p, h1, h2⟩
    · exact .inl h
    · exact .inr (by unfold nmsOf; exact List.mem_flatten.2 ⟨_, List.mem_map.2 ⟨p, h1, rfl⟩, h2⟩)
  generalize Tm.tvC ts ++ nmsOf G = N at e4 hNl hN
  have hSl := lvo_Sl N
  have hhas := fun x => p_has N x _ hSl (by omega) []
  obtain ⟨s1, s2, s3, s4, s5⟩ := hSl.one
  obtain ⟨A, hA⟩ : ∃ A, lvo N = A := ⟨_, rfl⟩
  rw [hA] at e4 hhas s1 s2 s4 s5
  obtain ⟨I3, hI3⟩ : ∃ I : Nat → List AV → Heap → Prop, ∀ i fr hp', I i fr hp' ↔ ((∃ L, hp' = [L] ∧ lcells L 1 0 = some C) ∧ fget fr 1 = .ptr ⟨0, 1, 0⟩ 0 ∧ fget fr 4 = A ∧ fget fr 11 = fv0 ∧ fget fr 12 = .int .i64 (i : Nat)) := ⟨_, fun _ _ _ => Iff.rfl⟩
  obtain ⟨Q3, hQ3⟩ : ∃ Q : XExit → List AV → Heap → Prop, ∀ e fr hp', Q e fr hp' ↔ (e = .exit 4 ∧ (∃ L, hp' = [L] ∧ lcells L 1 0 = some C)) := ⟨_, fun _ _ _ => Iff.rfl⟩
  refine LC_upK F.length I3 Q3 (fun r => finK _ (seqK (blockK 4 r) _) = _) ?_ ?_ ?_ ?_
  · rw [hI3]
    refine ⟨⟨L, rfl, hL⟩, ?_, ?_, ?_, ?_⟩ <;> simp only [go_sem, ↓reduceIte, Nat.reduceEqDiff, Int.natCast_zero, e1, e4]
  · clear e1 e3 e4 hL h
    intro i hi fr hp' h
    obtain ⟨⟨L, rfl, hL⟩, e1, e4, e11, e12⟩ := (hI3 _ _ _).1 h
    have hv' : fv0 = .lst .none 1 (tx F) := by
      rcases hfv0 with ⟨_, e⟩ | e
      · rw [tx_nil] at e; rw [e] at hi; simp at hi
      · exact e
    have hia : ∀ j (hj : j < F.length), iaddrK 1 fv0 (some j) = some (.elp [.str F[j]]) := by
      intro j hj
      rw [hv', iaddrK_lst, if_pos ⟨rfl, by rw [tx_len]; exact hj⟩]
      simp [tx, List.getD, hj]
    have k1 : ((i : Int) < (F.length : Int)) = True := by simp; omega
    have w1 : wr .i64 ((i : Int) + 1) = ((i + 1 : Nat) : Int) := by rw [wr_i64 _ (by omega)]; omega
    have hx := hhas F[i]
    have hi1 := hia i hi
    have hcon : k ≠ 19 → N.contains F[i] = true := fun hk => hN _ hk (List.getElem_mem hi)
    generalize hc : N.contains F[i] = c at hx hcon
    rcases i with _ | m
    · have z1 : ((0 : Int) < ((0 : Nat) : Int)) = False := by simp
      by_cases hk : k = 19
      · have hk' : (k != 19) = false := by simp [hk]
        simp +contextual -implicitDefEqProofs (maxSteps := 10000000) only [x7_l2_run, go_sem, ↓reduceIte, Nat.reduceEqDiff, e1, e4, e11, e12, hL, ldAt_topc, ld0, hk', k1, w1, n1', u1', z1]
        rw [hI3]
        refine ⟨⟨L, rfl, hL⟩, ?_, ?_, ?_, ?_⟩ <;> simp only [go_sem, ↓reduceIte, Nat.reduceEqDiff, e1, e4, e11]
      · have hk' : (k != 19) = true := by simp [hk]
        have hc' := hcon hk
        subst hc'
        simp +contextual -implicitDefEqProofs (maxSteps := 10000000) only [x7_l2_run, go_sem, ↓reduceIte, Nat.reduceEqDiff, e1, e4, e11, e12, hL, ldAt_topc, ld0, hk', k1, w1, n1', u1', s2, s5, hx, hi1, z1]
        rw [hI3]
        refine ⟨⟨L, rfl, hL⟩, ?_, ?_, ?_, ?_⟩ <;> simp only [go_sem, ↓reduceIte, Nat.reduceEqDiff, e1, e4, e11]
    · have z1 : ((0 : Int) < ((m + 1 : Nat) : Int)) = True := eq_true (by omega)
      have w2 : wr .i64 (((m + 1 : Nat) : Int) - 1) = ((m : Nat) : Int) := by rw [wr_i64 _ (by omega)]; omega
      have hi2 := hia m (by omega)
      have hbl : bless F[m] F[m + 1] = true := (bless_lt _ _).2 (List.pairwise_iff_getElem.1 hss m (m + 1) (by omega) hi (by omega))
      generalize F[m] = x0 at hi2 hbl
      generalize F[m + 1] = x1 at hx hi1 hbl
      by_cases hk : k = 19
      · have hk' : (k != 19) = false := by simp [hk]
        simp +contextual -implicitDefEqProofs (maxSteps := 10000000) only [x7_l2_run, go_sem, ↓reduceIte, Nat.reduceEqDiff, e1, e4, e11, e12, hL, ldAt_topc, ld0, hk', k1, w1, w2, n1', u1', hi1, hi2, z1, strs_geq, hbl]
        rw [hI3]
        refine ⟨⟨L, rfl, hL⟩, ?_, ?_, ?_, ?_⟩ <;> simp only [go_sem, ↓reduceIte, Nat.reduceEqDiff, e1, e4, e11]
      · have hk' : (k != 19) = true := by simp [hk]
        have hc' := hcon hk
        subst hc'
        simp +contextual -implicitDefEqProofs (maxSteps := 10000000) only [x7_l2_run, go_sem, ↓reduceIte, Nat.reduceEqDiff, e1, e4, e11, e12, hL, ldAt_topc, ld0, hk', k1, w1, w2, n1', u1', s2, s5, hx, hi1, hi2, z1, strs_geq, hbl]
        rw [hI3]
        refine ⟨⟨L, rfl, hL⟩, ?_, ?_, ?_, ?_⟩ <;> simp only [go_sem, ↓reduceIte, Nat.reduceEqDiff, e1, e4, e11]
  · clear e1 e3 e4 hL h
    intro fr hp' h
    obtain ⟨⟨L, rfl, hL⟩, e1, e4, e11, e12⟩ := (hI3 _ _ _).1 h
    simp +contextual -implicitDefEqProofs (maxSteps := 10000000) only [x7_l2_run, go_sem, ↓reduceIte, Nat.reduceEqDiff, e11, e12, n1', u1', Int.lt_irrefl]
    rw [hQ3]
    exact ⟨rfl, L, rfl, hL⟩
  · intro e fr hp' he h
    obtain ⟨rfl, L, rfl, hL⟩ := (hQ3 _ _ _).1 h
    simp +contextual -implicitDefEqProofs (maxSteps := 10000000) only [go_sem, ↓reduceIte, hlive]
theorem v_AstWhole (us : List AV) (h : ∃ t : Fm, t.fit ∧ us = t.cells) : CL X (fun _ => []) 7 [.agg us] [] = some (.bool true, []) := by
  obtain ⟨t, hf, rfl⟩ := h
  by_cases h0 : (lookW t).e = 0
  · cases t with
    | mk k n op bv vs bt ts lo hi o bs ss br rs => exact v_AstWhole_ok k n op bv vs bt ts lo hi o bs ss br rs hf h0
  · exact v_AstWhole_err t hf h0
end Go.Proofs.Ytnmaahfipddkmaa.Sx.T
