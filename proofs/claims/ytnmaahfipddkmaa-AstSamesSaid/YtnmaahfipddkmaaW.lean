/- Layer 6, part 2: terms, the same or not. -/
import Derived.Test.YtnmaahfipddkmaaEvB
import Derived.Test.YtnmaahfipddkmaaEvX
import Derived.Test.YtnmaahfipddkmaaSxRun
import Derived.Test.YtnmaahfipddkmaaEvE
import Derived.Test.YtnmaahfipddkmaaTold
set_option linter.unusedVariables false
set_option linter.unusedSimpArgs false
namespace Go.Proofs.Ytnmaahfipddkmaa.Sx.T
open Go Go.Proofs.Ytnmaahfipddkmaa.Sx
set_option maxRecDepth 100000
set_option maxHeartbeats 8000000
/-- A slice that is handed. -/
def Sl (z : Nat) (x : AV) (es : List (List AV)) : Prop := (x = .nilsl ∧ es = []) ∨ x = .lst .none z es
theorem Sl.eq {z : Nat} {x y : AV} {es fs : List (List AV)} (hx : Sl z x es) (hy : Sl z y fs) : eqV x y = eqVss es fs := by
  rcases hx with ⟨rfl, rfl⟩ | rfl <;> rcases hy with ⟨rfl, rfl⟩ | rfl
  · simp [eqV, eqVss]
  · cases fs <;> simp [eqV, eqVss]
  · cases es <;> simp [eqV, eqVss]
  · simp [eqV]
theorem eqVss_len : ∀ (es fs : List (List AV)), es.length ≠ fs.length → eqVss es fs = false
  | [], [], h => absurd rfl h
  | [], f :: fs, _ => by simp [eqVss]
  | e :: es, [], _ => by simp [eqVss]
  | e :: es, f :: fs, h => by
    rw [eqVss, eqVss_len es fs (by simpa using h), Bool.and_false]
/-- A term's cells. -/
inductive TmP : List AV → Prop where
  | mk (k : Int) (n : List UInt8) (vk vn vd : Int) (vs : List UInt8) (s : AV) (es : List (List AV)) (hs : Sl 7 s es) (h : ∀ e ∈ es, TmP e) (hl : es.length ≤ 9223372036854775807) : TmP [.int .i64 k, .str n, .int .i64 vk, .int .i64 vn, .int .i64 vd, .str vs, s]
theorem Sl.one {z : Nat} {x : AV} {es : List (List AV)} (h : Sl z x es) : plain1 x = true ∧ uf x = x ∧ lensK false x = some (.int .i64 es.length) ∧ (∀ fr t, drop1K x fr t = fr) ∧ refFree x = true := by
  rcases h with ⟨rfl, rfl⟩ | rfl
  · exact ⟨rfl, rfl, rfl, fun _ _ => rfl, rfl⟩
  · exact ⟨rfl, rfl, by simp [lensK_lst], fun _ _ => rfl, rfl⟩
theorem TmP.flat {e : List AV} (h : TmP e) : e.length = 7 ∧ e.all plain1 = true ∧ e.map uf = e := by
  cases h with
  | mk k n vk vn vd vs s es hs h hl =>
    obtain ⟨p1, p2, _⟩ := hs.one
    exact ⟨rfl, by simp only [List.all_cons, List.all_nil, p1, Bool.and_true]; rfl, by simp only [List.map_cons, List.map_nil, p2]; rfl⟩
theorem w_vsame (k n d : Int) (s : List UInt8) (k' n' d' : Int) (s' : List UInt8) (hp : Heap) : CL X (fun _ => []) 51 [.agg [.int .i64 k, .int .i64 n, .int .i64 d, .str s], .agg [.int .i64 k', .int .i64 n', .int .i64 d', .str s']] hp =
    some (.bool (k == k' && n == n' && d == d' && s == s'), hp) := by
  rw [CL_eq (fn := x51) rfl]
  simp (config := {contextual := true, maxSteps := 10000000, implicitDefEqProofs := false}) only [x51, go_sem, ↓reduceIte, reduceCtorEq, Nat.reduceEqDiff, Nat.reduceAdd, Nat.reduceLeDiff, Nat.reduceMul, Int.reduceEq, Int.reduceLT, Int.reduceLE, Int.reduceAdd, Int.reduceSub, Int.reduceMul, Int.reduceNeg, Int.reduceToNat, Int.reduceNe, Int.reduceBEq, Int.reduceBNe, Nat.reduceLT, Nat.reduceSub, Nat.reduceDiv, Nat.reduceMod, Int.reduceTDiv, Int.reduceTMod]
  congr 3
  rw [Bool.eq_iff_iff]
  simp [and_assoc]
theorem splice_all : ∀ (l vs : List AV), l.length = vs.length → splice l 0 vs = vs
  | [], [], _ => rfl
  | x :: l, v :: vs, h => by rw [splice_zero, splice_all l vs (by simpa using h)]
def OEq (R : Bool) (h : Heap) (r : Option (XExit × St)) : Prop := (R = true ∧ ∃ fr' L, r = some (.exit 0, ⟨fr', L :: h⟩)) ∨ (R = false ∧ ∃ fr' L, r = some (.ret, ⟨fr', L :: h⟩) ∧ fget fr' 6 = .bool false)
theorem eqVss_drop (es fs : List (List AV)) (i : Nat) (h1 : i < es.length) (h2 : i < fs.length) : eqVss (es.drop i) (fs.drop i) = (eqVs (es.getD i []) (fs.getD i []) && eqVss (es.drop (i + 1)) (fs.drop (i + 1))) := by
  rw [List.drop_eq_getElem_cons h1, List.drop_eq_getElem_cons h2, eqVss]
  simp [List.getD, h1, h2]
theorem l_eqt (es fs : List (List AV)) (hl : es.length = fs.length) (hm : es.length ≤ 9223372036854775807) (y : AV) (hy : y = .lst .none 7 fs) (ih : ∀ e ∈ es, ∀ f ∈ fs, ∀ hp, CL X (fun _ => []) 35 [.agg e, .agg f] hp = some (.bool (eqVs e f), hp))
    (hz : ∀ e ∈ es, e.length = 7 ∧ e.all plain1 = true ∧ e.map uf = e) (hz2 : ∀ e ∈ fs, e.length = 7 ∧ e.all plain1 = true ∧ e.map uf = e) (h : Heap) : ∀ (m i : Nat) (_ : i + m = es.length) (L : Level) (fr : List AV), fget fr 1 = y → fget fr 2 = .fn 35 [] [] → fget fr 15 = .lst .none 7 es → fget fr 16 = .int .i64 es.length → fget fr 17 = .int .i64 (i : Nat) →
    OEq (eqVss (es.drop i) (fs.drop i)) h (LC X (fun _ => []) (.loop x34_l0) ⟨fr, L :: h⟩) := by
  subst hy
  intro m
  induction m with
  | zero =>
    intro i hi L fr h1 h2 h15 h16 h17
    rw [LC_loop]
    have hc : ((i : Int) < (es.length : Int)) = False := by simp; omega
    simp (config := {contextual := true, maxSteps := 10000000, implicitDefEqProofs := false}) only [x34_l0_run, go_sem, ↓reduceIte, reduceCtorEq, Nat.reduceEqDiff, Nat.reduceAdd, Nat.reduceLeDiff, Nat.reduceMul, Int.reduceEq, Int.reduceLT, Int.reduceLE, Int.reduceAdd, Int.reduceSub, Int.reduceMul, Int.reduceNeg, Int.reduceToNat, Int.reduceNe, Int.reduceBEq, Int.reduceBNe, Nat.reduceLT, Nat.reduceSub, Nat.reduceDiv, Nat.reduceMod, Int.reduceTDiv, Int.reduceTMod, h16, h17, hc]
    refine .inl ⟨?_, _, _, rfl⟩
    rw [List.drop_of_length_le (by omega), List.drop_of_length_le (by omega)]
    simp [eqVss]
  | succ m ihm =>
    intro i hi L fr h1 h2 h15 h16 h17
    rw [LC_loop]
    have hc : ((i : Int) < (es.length : Int)) = True := by simp; omega
    have k1 : (i < es.length) = True := by simp; omega
    have k2 : (i < fs.length) = True := by simp; omega
    have wi : wr .i64 ((i : Int) + 1) = ((i + 1 : Nat) : Int) := by rw [wr_i64 _ (by omega)]; omega
    have hd := eqVss_drop es fs i (by omega) (by omega)
    have m1 : es.getD i [] ∈ es := by simp [List.getD, show i < es.length by omega]
    have m2 : fs.getD i [] ∈ fs := by simp [List.getD, show i < fs.length by omega]
    have hs := ih _ m1 _ m2
    obtain ⟨a1, a2, a3⟩ := hz _ m1
    obtain ⟨b1, b2, b3⟩ := hz2 _ m2
    have t1 : (es.getD i []).take 7 = es.getD i [] := List.take_of_length_le (by omega)
    have t2 : (fs.getD i []).take 7 = fs.getD i [] := List.take_of_length_le (by omega)
    obtain ⟨e, he⟩ : ∃ e, es.getD i [] = e := ⟨_, rfl⟩
    obtain ⟨f, hf⟩ : ∃ f, fs.getD i [] = f := ⟨_, rfl⟩
    rw [he, hf] at hd hs
    rw [he] at a1 a2 a3 t1
    rw [hf] at b1 b2 b3 t2
    have sp1 := splice_all [.int .i64 0, .str [], .int .i64 0, .int .i64 0, .int .i64 0, .str [], .nilsl] e (by rw [a1]; rfl)
    have sp2 := splice_all [.int .i64 0, .str [], .int .i64 0, .int .i64 0, .int .i64 0, .str [], .nilsl] f (by rw [b1]; rfl)
    have a1' : (7 ≤ e.length) = True := by simp; omega
    have b1' : (7 ≤ f.length) = True := by simp; omega
    rw [hd]
    obtain ⟨R, hR⟩ : ∃ R, eqVs e f = R := ⟨_, rfl⟩
    rw [hR] at hs ⊢
    cases R with
    | false =>
      simp (config := {contextual := true, maxSteps := 10000000, implicitDefEqProofs := false}) only [x34_l0_run, go_sem, ↓reduceIte, reduceCtorEq, Nat.reduceEqDiff, Nat.reduceAdd, Nat.reduceLeDiff, Nat.reduceMul, Int.reduceEq, Int.reduceLT, Int.reduceLE, Int.reduceAdd, Int.reduceSub, Int.reduceMul, Int.reduceNeg, Int.reduceToNat, Int.reduceNe, Int.reduceBEq, Int.reduceBNe, Nat.reduceLT, Nat.reduceSub, Nat.reduceDiv, Nat.reduceMod, Int.reduceTDiv, Int.reduceTMod, h1, h2, h15, h16, h17, hc, k1, k2, he, hf, a1, a2, a3, b1, b2, b3, t1, t2, a1', b1', sp1, sp2, wi, hs, o_calld, cwK_same]
      exact .inr ⟨rfl, _, _, rfl, by simp only [go_sem, ↓reduceIte, reduceCtorEq, Nat.reduceEqDiff, Nat.reduceAdd, Nat.reduceLeDiff, Nat.reduceMul, Int.reduceEq, Int.reduceLT, Int.reduceLE, Int.reduceAdd, Int.reduceSub, Int.reduceMul, Int.reduceNeg, Int.reduceToNat, Int.reduceNe, Int.reduceBEq, Int.reduceBNe, Nat.reduceLT, Nat.reduceSub, Nat.reduceDiv, Nat.reduceMod, Int.reduceTDiv, Int.reduceTMod]⟩
    | true =>
      simp (config := {contextual := true, maxSteps := 10000000, implicitDefEqProofs := false}) only [x34_l0_run, go_sem, ↓reduceIte, reduceCtorEq, Nat.reduceEqDiff, Nat.reduceAdd, Nat.reduceLeDiff, Nat.reduceMul, Int.reduceEq, Int.reduceLT, Int.reduceLE, Int.reduceAdd, Int.reduceSub, Int.reduceMul, Int.reduceNeg, Int.reduceToNat, Int.reduceNe, Int.reduceBEq, Int.reduceBNe, Nat.reduceLT, Nat.reduceSub, Nat.reduceDiv, Nat.reduceMod, Int.reduceTDiv, Int.reduceTMod, h1, h2, h15, h16, h17, hc, k1, k2, he, hf, a1, a2, a3, b1, b2, b3, t1, t2, a1', b1', sp1, sp2, wi, hs, o_calld, cwK_same]
      refine ihm (i + 1) (by omega) _ _ ?_ ?_ ?_ ?_ ?_ <;> simp only [go_sem, ↓reduceIte, reduceCtorEq, Nat.reduceEqDiff, Nat.reduceAdd, Nat.reduceLeDiff, Nat.reduceMul, Int.reduceEq, Int.reduceLT, Int.reduceLE, Int.reduceAdd, Int.reduceSub, Int.reduceMul, Int.reduceNeg, Int.reduceToNat, Int.reduceNe, Int.reduceBEq, Int.reduceBNe, Nat.reduceLT, Nat.reduceSub, Nat.reduceDiv, Nat.reduceMod, Int.reduceTDiv, Int.reduceTMod, h1, h2, h15, h16, h17]
theorem v_eqt (es fs : List (List AV)) (x y : AV) (hx : Sl 7 x es) (hy : Sl 7 y fs) (hm : es.length ≤ 9223372036854775807) (ih : ∀ e ∈ es, ∀ f ∈ fs, ∀ hp, CL X (fun _ => []) 35 [.agg e, .agg f] hp = some (.bool (eqVs e f), hp))
    (hz : ∀ e ∈ es, TmP e) (hz2 : ∀ e ∈ fs, TmP e) (hp : Heap) : CL X (fun _ => []) 34 [x, y, .fn 35 [] []] hp = some (.bool (eqVss es fs), hp) := by
  obtain ⟨_, u1, n1, d1, f1⟩ := hx.one
  obtain ⟨_, u2, n2, d2, f2⟩ := hy.one
  rw [CL_eq (fn := x34) rfl]
  by_cases hl : es.length = fs.length
  · have e1 : ((es.length : Int) = (fs.length : Int)) = True := by simp [hl]
    by_cases he : es = []
    · subst he
      have hf : fs = [] := List.eq_nil_of_length_eq_zero (by simpa using hl.symm)
      subst hf
      have c0 : (((0 : Nat) : Int) < ((0 : Nat) : Int)) = False := by simp
      simp (config := {contextual := true, maxSteps := 10000000, implicitDefEqProofs := false}) only [x34, go_sem, ↓reduceIte, reduceCtorEq, Nat.reduceEqDiff, Nat.reduceAdd, Nat.reduceLeDiff, Nat.reduceMul, Int.reduceEq, Int.reduceLT, Int.reduceLE, Int.reduceAdd, Int.reduceSub, Int.reduceMul, Int.reduceNeg, Int.reduceToNat, Int.reduceNe, Int.reduceBEq, Int.reduceBNe, Nat.reduceLT, Nat.reduceSub, Nat.reduceDiv, Nat.reduceMod, Int.reduceTDiv, Int.reduceTMod, u1, u2, n1, n2, d1, d2, e1]
      rw [LC_loop]
      simp (config := {contextual := true, maxSteps := 10000000, implicitDefEqProofs := false}) only [x34_l0_run, go_sem, ↓reduceIte, reduceCtorEq, Nat.reduceEqDiff, Nat.reduceAdd, Nat.reduceLeDiff, Nat.reduceMul, Int.reduceEq, Int.reduceLT, Int.reduceLE, Int.reduceAdd, Int.reduceSub, Int.reduceMul, Int.reduceNeg, Int.reduceToNat, Int.reduceNe, Int.reduceBEq, Int.reduceBNe, Nat.reduceLT, Nat.reduceSub, Nat.reduceDiv, Nat.reduceMod, Int.reduceTDiv, Int.reduceTMod, Int.lt_irrefl, eqVss]
      try simp [eqVss]
    · have hx' : x = .lst .none 7 es := hx.resolve_left (fun h => he h.2)
      have hy' : y = .lst .none 7 fs := hy.resolve_left (fun h => he (List.eq_nil_of_length_eq_zero (by rw [hl, h.2]; rfl)))
      simp (config := {contextual := true, maxSteps := 10000000, implicitDefEqProofs := false}) only [x34, go_sem, ↓reduceIte, reduceCtorEq, Nat.reduceEqDiff, Nat.reduceAdd, Nat.reduceLeDiff, Nat.reduceMul, Int.reduceEq, Int.reduceLT, Int.reduceLE, Int.reduceAdd, Int.reduceSub, Int.reduceMul, Int.reduceNeg, Int.reduceToNat, Int.reduceNe, Int.reduceBEq, Int.reduceBNe, Nat.reduceLT, Nat.reduceSub, Nat.reduceDiv, Nat.reduceMod, Int.reduceTDiv, Int.reduceTMod, u1, u2, n1, n2, d1, d2, e1]
      refine elimL (fun r => finK _ (seqK (blockK 0 r) _) = _) (l_eqt es fs hl hm y hy' ih (fun e he => (hz e he).flat) (fun e he => (hz2 e he).flat) hp es.length 0 (by omega) [] _ ?_ ?_ ?_ ?_ ?_) ?_
      all_goals try simp only [go_sem, ↓reduceIte, reduceCtorEq, Nat.reduceEqDiff, Nat.reduceAdd, Nat.reduceLeDiff, Nat.reduceMul, Int.reduceEq, Int.reduceLT, Int.reduceLE, Int.reduceAdd, Int.reduceSub, Int.reduceMul, Int.reduceNeg, Int.reduceToNat, Int.reduceNe, Int.reduceBEq, Int.reduceBNe, Nat.reduceLT, Nat.reduceSub, Nat.reduceDiv, Nat.reduceMod, Int.reduceTDiv, Int.reduceTMod, hx']
      · rfl
      · rintro r (⟨hR, fr', L, rfl⟩ | ⟨hR, fr', L, rfl, g6⟩)
        · simp (config := {contextual := true, maxSteps := 10000000, implicitDefEqProofs := false}) only [go_sem, ↓reduceIte, reduceCtorEq, Nat.reduceEqDiff, Nat.reduceAdd, Nat.reduceLeDiff, Nat.reduceMul, Int.reduceEq, Int.reduceLT, Int.reduceLE, Int.reduceAdd, Int.reduceSub, Int.reduceMul, Int.reduceNeg, Int.reduceToNat, Int.reduceNe, Int.reduceBEq, Int.reduceBNe, Nat.reduceLT, Nat.reduceSub, Nat.reduceDiv, Nat.reduceMod, Int.reduceTDiv, Int.reduceTMod, hR]
        · simp (config := {contextual := true, maxSteps := 10000000, implicitDefEqProofs := false}) only [go_sem, ↓reduceIte, reduceCtorEq, Nat.reduceEqDiff, Nat.reduceAdd, Nat.reduceLeDiff, Nat.reduceMul, Int.reduceEq, Int.reduceLT, Int.reduceLE, Int.reduceAdd, Int.reduceSub, Int.reduceMul, Int.reduceNeg, Int.reduceToNat, Int.reduceNe, Int.reduceBEq, Int.reduceBNe, Nat.reduceLT, Nat.reduceSub, Nat.reduceDiv, Nat.reduceMod, Int.reduceTDiv, Int.reduceTMod, hR, g6]
  · have e1 : ((es.length : Int) = (fs.length : Int)) = False := by simp; omega
    have e2 := eqVss_len es fs hl
    simp (config := {contextual := true, maxSteps := 10000000, implicitDefEqProofs := false}) only [x34, go_sem, ↓reduceIte, reduceCtorEq, Nat.reduceEqDiff, Nat.reduceAdd, Nat.reduceLeDiff, Nat.reduceMul, Int.reduceEq, Int.reduceLT, Int.reduceLE, Int.reduceAdd, Int.reduceSub, Int.reduceMul, Int.reduceNeg, Int.reduceToNat, Int.reduceNe, Int.reduceBEq, Int.reduceBNe, Nat.reduceLT, Nat.reduceSub, Nat.reduceDiv, Nat.reduceMod, Int.reduceTDiv, Int.reduceTMod, u1, u2, n1, n2, d1, d2, e1, e2]
theorem v_sameTerm (a : List AV) (ha : TmP a) : ∀ (b : List AV), TmP b → ∀ hp, CL X (fun _ => []) 35 [.agg a, .agg b] hp = some (.bool (eqVs a b), hp) := by
  induction ha with
  | mk k n vk vn vd vs s es hs h hl ih =>
    intro b hb hp
    cases hb with
    | mk k' n' vk' vn' vd' vs' s' fs hs' h' hl' =>
      have he := fun hp => v_eqt es fs s s' hs hs' hl (fun e he f hf hp => ih e he f (h' f hf) hp) h h' hp
      rw [← hs.eq hs'] at he
      have hv := fun hp => w_vsame vk vn vd vs vk' vn' vd' vs' hp
      obtain ⟨p1, u1, n1, d1, f1⟩ := hs.one
      obtain ⟨p2, u2, n2, d2, f2⟩ := hs'.one
      obtain ⟨R, hR⟩ : ∃ R, eqV s s' = R := ⟨_, rfl⟩
      obtain ⟨V, hV⟩ : ∃ V, (vk == vk' && vn == vn' && vd == vd' && vs == vs') = V := ⟨_, rfl⟩
      simp only [hR] at he
      simp only [hV] at hv
      have hg : eqVs [.int .i64 k, .str n, .int .i64 vk, .int .i64 vn, .int .i64 vd, .str vs, s] [.int .i64 k', .str n', .int .i64 vk', .int .i64 vn', .int .i64 vd', .str vs', s'] = (k == k' && (n == n' && (V && R))) := by
        simp only [eqVs, eqV, hR, ← hV, Bool.and_true, Bool.and_assoc]
      rw [hg]
      rw [CL_eq (fn := x35) rfl]
      by_cases c1 : k = k'
      · by_cases c2 : n = n'
        · cases V
          · simp (config := {contextual := true, maxSteps := 10000000, implicitDefEqProofs := false}) only [x35, go_sem, ↓reduceIte, reduceCtorEq, Nat.reduceEqDiff, Nat.reduceAdd, Nat.reduceLeDiff, Nat.reduceMul, Int.reduceEq, Int.reduceLT, Int.reduceLE, Int.reduceAdd, Int.reduceSub, Int.reduceMul, Int.reduceNeg, Int.reduceToNat, Int.reduceNe, Int.reduceBEq, Int.reduceBNe, Nat.reduceLT, Nat.reduceSub, Nat.reduceDiv, Nat.reduceMod, Int.reduceTDiv, Int.reduceTMod, c1, c2, hv, u1, u2, d1, d2, f1, f2, p1, p2, he, o_callw, cwK_same, Bool.false_and]
          · simp (config := {contextual := true, maxSteps := 10000000, implicitDefEqProofs := false}) only [x35, go_sem, ↓reduceIte, reduceCtorEq, Nat.reduceEqDiff, Nat.reduceAdd, Nat.reduceLeDiff, Nat.reduceMul, Int.reduceEq, Int.reduceLT, Int.reduceLE, Int.reduceAdd, Int.reduceSub, Int.reduceMul, Int.reduceNeg, Int.reduceToNat, Int.reduceNe, Int.reduceBEq, Int.reduceBNe, Nat.reduceLT, Nat.reduceSub, Nat.reduceDiv, Nat.reduceMod, Int.reduceTDiv, Int.reduceTMod, c1, c2, hv, u1, u2, d1, d2, f1, f2, p1, p2, he, o_callw, cwK_same]
        · have c2' : (n == n') = false := by simp [c2]
          simp (config := {contextual := true, maxSteps := 10000000, implicitDefEqProofs := false}) only [x35, go_sem, ↓reduceIte, reduceCtorEq, Nat.reduceEqDiff, Nat.reduceAdd, Nat.reduceLeDiff, Nat.reduceMul, Int.reduceEq, Int.reduceLT, Int.reduceLE, Int.reduceAdd, Int.reduceSub, Int.reduceMul, Int.reduceNeg, Int.reduceToNat, Int.reduceNe, Int.reduceBEq, Int.reduceBNe, Nat.reduceLT, Nat.reduceSub, Nat.reduceDiv, Nat.reduceMod, Int.reduceTDiv, Int.reduceTMod, c1, c2, c2', hv, u1, u2, d1, d2, f1, f2, p1, p2, he, o_callw, cwK_same, Bool.false_and, Bool.and_false]
      · have c1' : (k == k') = false := by simp [c1]
        simp (config := {contextual := true, maxSteps := 10000000, implicitDefEqProofs := false}) only [x35, go_sem, ↓reduceIte, reduceCtorEq, Nat.reduceEqDiff, Nat.reduceAdd, Nat.reduceLeDiff, Nat.reduceMul, Int.reduceEq, Int.reduceLT, Int.reduceLE, Int.reduceAdd, Int.reduceSub, Int.reduceMul, Int.reduceNeg, Int.reduceToNat, Int.reduceNe, Int.reduceBEq, Int.reduceBNe, Nat.reduceLT, Nat.reduceSub, Nat.reduceDiv, Nat.reduceMod, Int.reduceTDiv, Int.reduceTMod, c1, c1', hv, u1, u2, d1, d2, f1, f2, p1, p2, he, o_callw, cwK_same, Bool.false_and]
end Go.Proofs.Ytnmaahfipddkmaa.Sx.T
namespace Go.Proofs.Ytnmaahfipddkmaa.Sx.T
open Go Go.Proofs.Ytnmaahfipddkmaa.Sx
set_option maxRecDepth 100000
set_option maxHeartbeats 8000000
theorem l_eqx (es fs : List (List AV)) (hl : es.length = fs.length) (hm : es.length ≤ 9223372036854775807) (y : AV) (hy : y = .lst .none 3 fs) (ih : ∀ e ∈ es, ∀ f ∈ fs, ∀ hp, CL X (fun _ => []) 37 [.agg e, .agg f] hp = some (.bool (eqVs e f), hp))
    (hz : ∀ e ∈ es, e.length = 3 ∧ e.all plain1 = true ∧ e.map uf = e) (hz2 : ∀ e ∈ fs, e.length = 3 ∧ e.all plain1 = true ∧ e.map uf = e) (h : Heap) : ∀ (m i : Nat) (_ : i + m = es.length) (L : Level) (fr : List AV), fget fr 1 = y → fget fr 2 = .fn 37 [] [] → fget fr 15 = .lst .none 3 es → fget fr 16 = .int .i64 es.length → fget fr 17 = .int .i64 (i : Nat) →
    OEq (eqVss (es.drop i) (fs.drop i)) h (LC X (fun _ => []) (.loop x36_l0) ⟨fr, L :: h⟩) := by
  subst hy
  intro m
  induction m with
  | zero =>
    intro i hi L fr h1 h2 h15 h16 h17
    rw [LC_loop]
    have hc : ((i : Int) < (es.length : Int)) = False := by simp; omega
    simp (config := {contextual := true, maxSteps := 10000000, implicitDefEqProofs := false}) only [x36_l0_run, go_sem, ↓reduceIte, reduceCtorEq, Nat.reduceEqDiff, Nat.reduceAdd, Nat.reduceLeDiff, Nat.reduceMul, Int.reduceEq, Int.reduceLT, Int.reduceLE, Int.reduceAdd, Int.reduceSub, Int.reduceMul, Int.reduceNeg, Int.reduceToNat, Int.reduceNe, Int.reduceBEq, Int.reduceBNe, Nat.reduceLT, Nat.reduceSub, Nat.reduceDiv, Nat.reduceMod, Int.reduceTDiv, Int.reduceTMod, h16, h17, hc]
    refine .inl ⟨?_, _, _, rfl⟩
    rw [List.drop_of_length_le (by omega), List.drop_of_length_le (by omega)]
    simp [eqVss]
  | succ m ihm =>
    intro i hi L fr h1 h2 h15 h16 h17
    rw [LC_loop]
    have hc : ((i : Int) < (es.length : Int)) = True := by simp; omega
    have k1 : (i < es.length) = True := by simp; omega
    have k2 : (i < fs.length) = True := by simp; omega
    have wi : wr .i64 ((i : Int) + 1) = ((i + 1 : Nat) : Int) := by rw [wr_i64 _ (by omega)]; omega
    have hd := eqVss_drop es fs i (by omega) (by omega)
    have m1 : es.getD i [] ∈ es := by simp [List.getD, show i < es.length by omega]
    have m2 : fs.getD i [] ∈ fs := by simp [List.getD, show i < fs.length by omega]
    have hs := ih _ m1 _ m2
    obtain ⟨a1, a2, a3⟩ := hz _ m1
    obtain ⟨b1, b2, b3⟩ := hz2 _ m2
    have t1 : (es.getD i []).take 3 = es.getD i [] := List.take_of_length_le (by omega)
    have t2 : (fs.getD i []).take 3 = fs.getD i [] := List.take_of_length_le (by omega)
    obtain ⟨e, he⟩ : ∃ e, es.getD i [] = e := ⟨_, rfl⟩
    obtain ⟨f, hf⟩ : ∃ f, fs.getD i [] = f := ⟨_, rfl⟩
    rw [he, hf] at hd hs
    rw [he] at a1 a2 a3 t1
    rw [hf] at b1 b2 b3 t2
    have sp1 := splice_all [.int .i64 0, .nilsl, .nilsl] e (by rw [a1]; rfl)
    have sp2 := splice_all [.int .i64 0, .nilsl, .nilsl] f (by rw [b1]; rfl)
    have a1' : (3 ≤ e.length) = True := by simp; omega
    have b1' : (3 ≤ f.length) = True := by simp; omega
    rw [hd]
    obtain ⟨R, hR⟩ : ∃ R, eqVs e f = R := ⟨_, rfl⟩
    rw [hR] at hs ⊢
    cases R with
    | false =>
      simp (config := {contextual := true, maxSteps := 10000000, implicitDefEqProofs := false}) only [x36_l0_run, go_sem, ↓reduceIte, reduceCtorEq, Nat.reduceEqDiff, Nat.reduceAdd, Nat.reduceLeDiff, Nat.reduceMul, Int.reduceEq, Int.reduceLT, Int.reduceLE, Int.reduceAdd, Int.reduceSub, Int.reduceMul, Int.reduceNeg, Int.reduceToNat, Int.reduceNe, Int.reduceBEq, Int.reduceBNe, Nat.reduceLT, Nat.reduceSub, Nat.reduceDiv, Nat.reduceMod, Int.reduceTDiv, Int.reduceTMod, h1, h2, h15, h16, h17, hc, k1, k2, he, hf, a1, a2, a3, b1, b2, b3, t1, t2, a1', b1', sp1, sp2, wi, hs, o_calld, cwK_same]
      exact .inr ⟨rfl, _, _, rfl, by simp only [go_sem, ↓reduceIte, reduceCtorEq, Nat.reduceEqDiff, Nat.reduceAdd, Nat.reduceLeDiff, Nat.reduceMul, Int.reduceEq, Int.reduceLT, Int.reduceLE, Int.reduceAdd, Int.reduceSub, Int.reduceMul, Int.reduceNeg, Int.reduceToNat, Int.reduceNe, Int.reduceBEq, Int.reduceBNe, Nat.reduceLT, Nat.reduceSub, Nat.reduceDiv, Nat.reduceMod, Int.reduceTDiv, Int.reduceTMod]⟩
    | true =>
      simp (config := {contextual := true, maxSteps := 10000000, implicitDefEqProofs := false}) only [x36_l0_run, go_sem, ↓reduceIte, reduceCtorEq, Nat.reduceEqDiff, Nat.reduceAdd, Nat.reduceLeDiff, Nat.reduceMul, Int.reduceEq, Int.reduceLT, Int.reduceLE, Int.reduceAdd, Int.reduceSub, Int.reduceMul, Int.reduceNeg, Int.reduceToNat, Int.reduceNe, Int.reduceBEq, Int.reduceBNe, Nat.reduceLT, Nat.reduceSub, Nat.reduceDiv, Nat.reduceMod, Int.reduceTDiv, Int.reduceTMod, h1, h2, h15, h16, h17, hc, k1, k2, he, hf, a1, a2, a3, b1, b2, b3, t1, t2, a1', b1', sp1, sp2, wi, hs, o_calld, cwK_same]
      refine ihm (i + 1) (by omega) _ _ ?_ ?_ ?_ ?_ ?_ <;> simp only [go_sem, ↓reduceIte, reduceCtorEq, Nat.reduceEqDiff, Nat.reduceAdd, Nat.reduceLeDiff, Nat.reduceMul, Int.reduceEq, Int.reduceLT, Int.reduceLE, Int.reduceAdd, Int.reduceSub, Int.reduceMul, Int.reduceNeg, Int.reduceToNat, Int.reduceNe, Int.reduceBEq, Int.reduceBNe, Nat.reduceLT, Nat.reduceSub, Nat.reduceDiv, Nat.reduceMod, Int.reduceTDiv, Int.reduceTMod, h1, h2, h15, h16, h17]
theorem v_eqx (es fs : List (List AV)) (x y : AV) (hx : Sl 3 x es) (hy : Sl 3 y fs) (hm : es.length ≤ 9223372036854775807) (ih : ∀ e ∈ es, ∀ f ∈ fs, ∀ hp, CL X (fun _ => []) 37 [.agg e, .agg f] hp = some (.bool (eqVs e f), hp))
    (hz : ∀ e ∈ es, e.length = 3 ∧ e.all plain1 = true ∧ e.map uf = e) (hz2 : ∀ e ∈ fs, e.length = 3 ∧ e.all plain1 = true ∧ e.map uf = e) (hp : Heap) : CL X (fun _ => []) 36 [x, y, .fn 37 [] []] hp = some (.bool (eqVss es fs), hp) := by
  obtain ⟨_, u1, n1, d1, f1⟩ := hx.one
  obtain ⟨_, u2, n2, d2, f2⟩ := hy.one
  rw [CL_eq (fn := x36) rfl]
  by_cases hl : es.length = fs.length
  · have e1 : ((es.length : Int) = (fs.length : Int)) = True := by simp [hl]
    by_cases he : es = []
    · subst he
      have hf : fs = [] := List.eq_nil_of_length_eq_zero (by simpa using hl.symm)
      subst hf
      have c0 : (((0 : Nat) : Int) < ((0 : Nat) : Int)) = False := by simp
      simp (config := {contextual := true, maxSteps := 10000000, implicitDefEqProofs := false}) only [x36, go_sem, ↓reduceIte, reduceCtorEq, Nat.reduceEqDiff, Nat.reduceAdd, Nat.reduceLeDiff, Nat.reduceMul, Int.reduceEq, Int.reduceLT, Int.reduceLE, Int.reduceAdd, Int.reduceSub, Int.reduceMul, Int.reduceNeg, Int.reduceToNat, Int.reduceNe, Int.reduceBEq, Int.reduceBNe, Nat.reduceLT, Nat.reduceSub, Nat.reduceDiv, Nat.reduceMod, Int.reduceTDiv, Int.reduceTMod, u1, u2, n1, n2, d1, d2, e1]
      rw [LC_loop]
      simp (config := {contextual := true, maxSteps := 10000000, implicitDefEqProofs := false}) only [x36_l0_run, go_sem, ↓reduceIte, reduceCtorEq, Nat.reduceEqDiff, Nat.reduceAdd, Nat.reduceLeDiff, Nat.reduceMul, Int.reduceEq, Int.reduceLT, Int.reduceLE, Int.reduceAdd, Int.reduceSub, Int.reduceMul, Int.reduceNeg, Int.reduceToNat, Int.reduceNe, Int.reduceBEq, Int.reduceBNe, Nat.reduceLT, Nat.reduceSub, Nat.reduceDiv, Nat.reduceMod, Int.reduceTDiv, Int.reduceTMod, Int.lt_irrefl, eqVss]
      try simp [eqVss]
    · have hx' : x = .lst .none 3 es := hx.resolve_left (fun h => he h.2)
      have hy' : y = .lst .none 3 fs := hy.resolve_left (fun h => he (List.eq_nil_of_length_eq_zero (by rw [hl, h.2]; rfl)))
      simp (config := {contextual := true, maxSteps := 10000000, implicitDefEqProofs := false}) only [x36, go_sem, ↓reduceIte, reduceCtorEq, Nat.reduceEqDiff, Nat.reduceAdd, Nat.reduceLeDiff, Nat.reduceMul, Int.reduceEq, Int.reduceLT, Int.reduceLE, Int.reduceAdd, Int.reduceSub, Int.reduceMul, Int.reduceNeg, Int.reduceToNat, Int.reduceNe, Int.reduceBEq, Int.reduceBNe, Nat.reduceLT, Nat.reduceSub, Nat.reduceDiv, Nat.reduceMod, Int.reduceTDiv, Int.reduceTMod, u1, u2, n1, n2, d1, d2, e1]
      refine elimL (fun r => finK _ (seqK (blockK 0 r) _) = _) (l_eqx es fs hl hm y hy' ih hz hz2 hp es.length 0 (by omega) [] _ ?_ ?_ ?_ ?_ ?_) ?_
      all_goals try simp only [go_sem, ↓reduceIte, reduceCtorEq, Nat.reduceEqDiff, Nat.reduceAdd, Nat.reduceLeDiff, Nat.reduceMul, Int.reduceEq, Int.reduceLT, Int.reduceLE, Int.reduceAdd, Int.reduceSub, Int.reduceMul, Int.reduceNeg, Int.reduceToNat, Int.reduceNe, Int.reduceBEq, Int.reduceBNe, Nat.reduceLT, Nat.reduceSub, Nat.reduceDiv, Nat.reduceMod, Int.reduceTDiv, Int.reduceTMod, hx']
      · rfl
      · rintro r (⟨hR, fr', L, rfl⟩ | ⟨hR, fr', L, rfl, g6⟩)
        · simp (config := {contextual := true, maxSteps := 10000000, implicitDefEqProofs := false}) only [go_sem, ↓reduceIte, reduceCtorEq, Nat.reduceEqDiff, Nat.reduceAdd, Nat.reduceLeDiff, Nat.reduceMul, Int.reduceEq, Int.reduceLT, Int.reduceLE, Int.reduceAdd, Int.reduceSub, Int.reduceMul, Int.reduceNeg, Int.reduceToNat, Int.reduceNe, Int.reduceBEq, Int.reduceBNe, Nat.reduceLT, Nat.reduceSub, Nat.reduceDiv, Nat.reduceMod, Int.reduceTDiv, Int.reduceTMod, hR]
        · simp (config := {contextual := true, maxSteps := 10000000, implicitDefEqProofs := false}) only [go_sem, ↓reduceIte, reduceCtorEq, Nat.reduceEqDiff, Nat.reduceAdd, Nat.reduceLeDiff, Nat.reduceMul, Int.reduceEq, Int.reduceLT, Int.reduceLE, Int.reduceAdd, Int.reduceSub, Int.reduceMul, Int.reduceNeg, Int.reduceToNat, Int.reduceNe, Int.reduceBEq, Int.reduceBNe, Nat.reduceLT, Nat.reduceSub, Nat.reduceDiv, Nat.reduceMod, Int.reduceTDiv, Int.reduceTMod, hR, g6]
  · have e1 : ((es.length : Int) = (fs.length : Int)) = False := by simp; omega
    have e2 := eqVss_len es fs hl
    simp (config := {contextual := true, maxSteps := 10000000, implicitDefEqProofs := false}) only [x36, go_sem, ↓reduceIte, reduceCtorEq, Nat.reduceEqDiff, Nat.reduceAdd, Nat.reduceLeDiff, Nat.reduceMul, Int.reduceEq, Int.reduceLT, Int.reduceLE, Int.reduceAdd, Int.reduceSub, Int.reduceMul, Int.reduceNeg, Int.reduceToNat, Int.reduceNe, Int.reduceBEq, Int.reduceBNe, Nat.reduceLT, Nat.reduceSub, Nat.reduceDiv, Nat.reduceMod, Int.reduceTDiv, Int.reduceTMod, u1, u2, n1, n2, d1, d2, e1, e2]
theorem l_eqf (es fs : List (List AV)) (hl : es.length = fs.length) (hm : es.length ≤ 9223372036854775807) (y : AV) (hy : y = .lst .none 10 fs) (ih : ∀ e ∈ es, ∀ f ∈ fs, ∀ hp, CL X (fun _ => []) 13 [.agg e, .agg f] hp = some (.bool (eqVs e f), hp))
    (hz : ∀ e ∈ es, e.length = 10 ∧ e.all plain1 = true ∧ e.map uf = e) (hz2 : ∀ e ∈ fs, e.length = 10 ∧ e.all plain1 = true ∧ e.map uf = e) (h : Heap) : ∀ (m i : Nat) (_ : i + m = es.length) (L : Level) (fr : List AV), fget fr 1 = y → fget fr 2 = .fn 13 [] [] → fget fr 15 = .lst .none 10 es → fget fr 16 = .int .i64 es.length → fget fr 17 = .int .i64 (i : Nat) →
    OEq (eqVss (es.drop i) (fs.drop i)) h (LC X (fun _ => []) (.loop x38_l0) ⟨fr, L :: h⟩) := by
  subst hy
  intro m
  induction m with
  | zero =>
    intro i hi L fr h1 h2 h15 h16 h17
    rw [LC_loop]
    have hc : ((i : Int) < (es.length : Int)) = False := by simp; omega
    simp (config := {contextual := true, maxSteps := 10000000, implicitDefEqProofs := false}) only [x38_l0_run, go_sem, ↓reduceIte, reduceCtorEq, Nat.reduceEqDiff, Nat.reduceAdd, Nat.reduceLeDiff, Nat.reduceMul, Int.reduceEq, Int.reduceLT, Int.reduceLE, Int.reduceAdd, Int.reduceSub, Int.reduceMul, Int.reduceNeg, Int.reduceToNat, Int.reduceNe, Int.reduceBEq, Int.reduceBNe, Nat.reduceLT, Nat.reduceSub, Nat.reduceDiv, Nat.reduceMod, Int.reduceTDiv, Int.reduceTMod, h16, h17, hc]
    refine .inl ⟨?_, _, _, rfl⟩
    rw [List.drop_of_length_le (by omega), List.drop_of_length_le (by omega)]
    simp [eqVss]
  | succ m ihm =>
    intro i hi L fr h1 h2 h15 h16 h17
    rw [LC_loop]
    have hc : ((i : Int) < (es.length : Int)) = True := by simp; omega
    have k1 : (i < es.length) = True := by simp; omega
    have k2 : (i < fs.length) = True := by simp; omega
    have wi : wr .i64 ((i : Int) + 1) = ((i + 1 : Nat) : Int) := by rw [wr_i64 _ (by omega)]; omega
    have hd := eqVss_drop es fs i (by omega) (by omega)
    have m1 : es.getD i [] ∈ es := by simp [List.getD, show i < es.length by omega]
    have m2 : fs.getD i [] ∈ fs := by simp [List.getD, show i < fs.length by omega]
    have hs := ih _ m1 _ m2
    obtain ⟨a1, a2, a3⟩ := hz _ m1
    obtain ⟨b1, b2, b3⟩ := hz2 _ m2
    have t1 : (es.getD i []).take 10 = es.getD i [] := List.take_of_length_le (by omega)
    have t2 : (fs.getD i []).take 10 = fs.getD i [] := List.take_of_length_le (by omega)
    obtain ⟨e, he⟩ : ∃ e, es.getD i [] = e := ⟨_, rfl⟩
    obtain ⟨f, hf⟩ : ∃ f, fs.getD i [] = f := ⟨_, rfl⟩
    rw [he, hf] at hd hs
    rw [he] at a1 a2 a3 t1
    rw [hf] at b1 b2 b3 t2
    have sp1 := splice_all [.int .i64 0, .str [], .int .i64 0, .nilsl, .nilsl, .int .i64 0, .int .i64 0, .bool false, .nilsl, .nilsl] e (by rw [a1]; rfl)
    have sp2 := splice_all [.int .i64 0, .str [], .int .i64 0, .nilsl, .nilsl, .int .i64 0, .int .i64 0, .bool false, .nilsl, .nilsl] f (by rw [b1]; rfl)
    have a1' : (10 ≤ e.length) = True := by simp; omega
    have b1' : (10 ≤ f.length) = True := by simp; omega
    rw [hd]
    obtain ⟨R, hR⟩ : ∃ R, eqVs e f = R := ⟨_, rfl⟩
    rw [hR] at hs ⊢
    cases R with
    | false =>
      simp (config := {contextual := true, maxSteps := 10000000, implicitDefEqProofs := false}) only [x38_l0_run, go_sem, ↓reduceIte, reduceCtorEq, Nat.reduceEqDiff, Nat.reduceAdd, Nat.reduceLeDiff, Nat.reduceMul, Int.reduceEq, Int.reduceLT, Int.reduceLE, Int.reduceAdd, Int.reduceSub, Int.reduceMul, Int.reduceNeg, Int.reduceToNat, Int.reduceNe, Int.reduceBEq, Int.reduceBNe, Nat.reduceLT, Nat.reduceSub, Nat.reduceDiv, Nat.reduceMod, Int.reduceTDiv, Int.reduceTMod, h1, h2, h15, h16, h17, hc, k1, k2, he, hf, a1, a2, a3, b1, b2, b3, t1, t2, a1', b1', sp1, sp2, wi, hs, o_calld, cwK_same]
      exact .inr ⟨rfl, _, _, rfl, by simp only [go_sem, ↓reduceIte, reduceCtorEq, Nat.reduceEqDiff, Nat.reduceAdd, Nat.reduceLeDiff, Nat.reduceMul, Int.reduceEq, Int.reduceLT, Int.reduceLE, Int.reduceAdd, Int.reduceSub, Int.reduceMul, Int.reduceNeg, Int.reduceToNat, Int.reduceNe, Int.reduceBEq, Int.reduceBNe, Nat.reduceLT, Nat.reduceSub, Nat.reduceDiv, Nat.reduceMod, Int.reduceTDiv, Int.reduceTMod]⟩
    | true =>
      simp (config := {contextual := true, maxSteps := 10000000, implicitDefEqProofs := false}) only [x38_l0_run, go_sem, ↓reduceIte, reduceCtorEq, Nat.reduceEqDiff, Nat.reduceAdd, Nat.reduceLeDiff, Nat.reduceMul, Int.reduceEq, Int.reduceLT, Int.reduceLE, Int.reduceAdd, Int.reduceSub, Int.reduceMul, Int.reduceNeg, Int.reduceToNat, Int.reduceNe, Int.reduceBEq, Int.reduceBNe, Nat.reduceLT, Nat.reduceSub, Nat.reduceDiv, Nat.reduceMod, Int.reduceTDiv, Int.reduceTMod, h1, h2, h15, h16, h17, hc, k1, k2, he, hf, a1, a2, a3, b1, b2, b3, t1, t2, a1', b1', sp1, sp2, wi, hs, o_calld, cwK_same]
      refine ihm (i + 1) (by omega) _ _ ?_ ?_ ?_ ?_ ?_ <;> simp only [go_sem, ↓reduceIte, reduceCtorEq, Nat.reduceEqDiff, Nat.reduceAdd, Nat.reduceLeDiff, Nat.reduceMul, Int.reduceEq, Int.reduceLT, Int.reduceLE, Int.reduceAdd, Int.reduceSub, Int.reduceMul, Int.reduceNeg, Int.reduceToNat, Int.reduceNe, Int.reduceBEq, Int.reduceBNe, Nat.reduceLT, Nat.reduceSub, Nat.reduceDiv, Nat.reduceMod, Int.reduceTDiv, Int.reduceTMod, h1, h2, h15, h16, h17]
theorem v_eqf (es fs : List (List AV)) (x y : AV) (hx : Sl 10 x es) (hy : Sl 10 y fs) (hm : es.length ≤ 9223372036854775807) (ih : ∀ e ∈ es, ∀ f ∈ fs, ∀ hp, CL X (fun _ => []) 13 [.agg e, .agg f] hp = some (.bool (eqVs e f), hp))
    (hz : ∀ e ∈ es, e.length = 10 ∧ e.all plain1 = true ∧ e.map uf = e) (hz2 : ∀ e ∈ fs, e.length = 10 ∧ e.all plain1 = true ∧ e.map uf = e) (hp : Heap) : CL X (fun _ => []) 38 [x, y, .fn 13 [] []] hp = some (.bool (eqVss es fs), hp) := by
  obtain ⟨_, u1, n1, d1, f1⟩ := hx.one
  obtain ⟨_, u2, n2, d2, f2⟩ := hy.one
  rw [CL_eq (fn := x38) rfl]
  by_cases hl : es.length = fs.length
  · have e1 : ((es.length : Int) = (fs.length : Int)) = True := by simp [hl]
    by_cases he : es = []
    · subst he
      have hf : fs = [] := List.eq_nil_of_length_eq_zero (by simpa using hl.symm)
      subst hf
      have c0 : (((0 : Nat) : Int) < ((0 : Nat) : Int)) = False := by simp
      simp (config := {contextual := true, maxSteps := 10000000, implicitDefEqProofs := false}) only [x38, go_sem, ↓reduceIte, reduceCtorEq, Nat.reduceEqDiff, Nat.reduceAdd, Nat.reduceLeDiff, Nat.reduceMul, Int.reduceEq, Int.reduceLT, Int.reduceLE, Int.reduceAdd, Int.reduceSub, Int.reduceMul, Int.reduceNeg, Int.reduceToNat, Int.reduceNe, Int.reduceBEq, Int.reduceBNe, Nat.reduceLT, Nat.reduceSub, Nat.reduceDiv, Nat.reduceMod, Int.reduceTDiv, Int.reduceTMod, u1, u2, n1, n2, d1, d2, e1]
      rw [LC_loop]
      simp (config := {contextual := true, maxSteps := 10000000, implicitDefEqProofs := false}) only [x38_l0_run, go_sem, ↓reduceIte, reduceCtorEq, Nat.reduceEqDiff, Nat.reduceAdd, Nat.reduceLeDiff, Nat.reduceMul, Int.reduceEq, Int.reduceLT, Int.reduceLE, Int.reduceAdd, Int.reduceSub, Int.reduceMul, Int.reduceNeg, Int.reduceToNat, Int.reduceNe, Int.reduceBEq, Int.reduceBNe, Nat.reduceLT, Nat.reduceSub, Nat.reduceDiv, Nat.reduceMod, Int.reduceTDiv, Int.reduceTMod, Int.lt_irrefl, eqVss]
      try simp [eqVss]
    · have hx' : x = .lst .none 10 es := hx.resolve_left (fun h => he h.2)
      have hy' : y = .lst .none 10 fs := hy.resolve_left (fun h => he (List.eq_nil_of_length_eq_zero (by rw [hl, h.2]; rfl)))
      simp (config := {contextual := true, maxSteps := 10000000, implicitDefEqProofs := false}) only [x38, go_sem, ↓reduceIte, reduceCtorEq, Nat.reduceEqDiff, Nat.reduceAdd, Nat.reduceLeDiff, Nat.reduceMul, Int.reduceEq, Int.reduceLT, Int.reduceLE, Int.reduceAdd, Int.reduceSub, Int.reduceMul, Int.reduceNeg, Int.reduceToNat, Int.reduceNe, Int.reduceBEq, Int.reduceBNe, Nat.reduceLT, Nat.reduceSub, Nat.reduceDiv, Nat.reduceMod, Int.reduceTDiv, Int.reduceTMod, u1, u2, n1, n2, d1, d2, e1]
      refine elimL (fun r => finK _ (seqK (blockK 0 r) _) = _) (l_eqf es fs hl hm y hy' ih hz hz2 hp es.length 0 (by omega) [] _ ?_ ?_ ?_ ?_ ?_) ?_
      all_goals try simp only [go_sem, ↓reduceIte, reduceCtorEq, Nat.reduceEqDiff, Nat.reduceAdd, Nat.reduceLeDiff, Nat.reduceMul, Int.reduceEq, Int.reduceLT, Int.reduceLE, Int.reduceAdd, Int.reduceSub, Int.reduceMul, Int.reduceNeg, Int.reduceToNat, Int.reduceNe, Int.reduceBEq, Int.reduceBNe, Nat.reduceLT, Nat.reduceSub, Nat.reduceDiv, Nat.reduceMod, Int.reduceTDiv, Int.reduceTMod, hx']
      · rfl
      · rintro r (⟨hR, fr', L, rfl⟩ | ⟨hR, fr', L, rfl, g6⟩)
        · simp (config := {contextual := true, maxSteps := 10000000, implicitDefEqProofs := false}) only [go_sem, ↓reduceIte, reduceCtorEq, Nat.reduceEqDiff, Nat.reduceAdd, Nat.reduceLeDiff, Nat.reduceMul, Int.reduceEq, Int.reduceLT, Int.reduceLE, Int.reduceAdd, Int.reduceSub, Int.reduceMul, Int.reduceNeg, Int.reduceToNat, Int.reduceNe, Int.reduceBEq, Int.reduceBNe, Nat.reduceLT, Nat.reduceSub, Nat.reduceDiv, Nat.reduceMod, Int.reduceTDiv, Int.reduceTMod, hR]
        · simp (config := {contextual := true, maxSteps := 10000000, implicitDefEqProofs := false}) only [go_sem, ↓reduceIte, reduceCtorEq, Nat.reduceEqDiff, Nat.reduceAdd, Nat.reduceLeDiff, Nat.reduceMul, Int.reduceEq, Int.reduceLT, Int.reduceLE, Int.reduceAdd, Int.reduceSub, Int.reduceMul, Int.reduceNeg, Int.reduceToNat, Int.reduceNe, Int.reduceBEq, Int.reduceBNe, Nat.reduceLT, Nat.reduceSub, Nat.reduceDiv, Nat.reduceMod, Int.reduceTDiv, Int.reduceTMod, hR, g6]
  · have e1 : ((es.length : Int) = (fs.length : Int)) = False := by simp; omega
    have e2 := eqVss_len es fs hl
    simp (config := {contextual := true, maxSteps := 10000000, implicitDefEqProofs := false}) only [x38, go_sem, ↓reduceIte, reduceCtorEq, Nat.reduceEqDiff, Nat.reduceAdd, Nat.reduceLeDiff, Nat.reduceMul, Int.reduceEq, Int.reduceLT, Int.reduceLE, Int.reduceAdd, Int.reduceSub, Int.reduceMul, Int.reduceNeg, Int.reduceToNat, Int.reduceNe, Int.reduceBEq, Int.reduceBNe, Nat.reduceLT, Nat.reduceSub, Nat.reduceDiv, Nat.reduceMod, Int.reduceTDiv, Int.reduceTMod, u1, u2, n1, n2, d1, d2, e1, e2]
end Go.Proofs.Ytnmaahfipddkmaa.Sx.T
namespace Go.Proofs.Ytnmaahfipddkmaa.Sx.T
open Go Go.Proofs.Ytnmaahfipddkmaa.Sx
set_option maxRecDepth 100000
set_option maxHeartbeats 8000000
def tx (ws : List (List UInt8)) : List (List AV) := ws.map fun w => [.str w]
def OEs (R : Bool) (hp : Heap) (r : Option (XExit × St)) : Prop := (R = true ∧ ∃ fr', r = some (.exit 0, ⟨fr', hp⟩)) ∨ (R = false ∧ ∃ fr', r = some (.ret, ⟨fr', hp⟩) ∧ fget fr' 4 = .bool false)
theorem l_eqs (ws us : List (List UInt8)) (hl : ws.length = us.length) (hm : ws.length ≤ 9223372036854775807) (x y : AV) (hx : x = .lst .none 1 (tx ws)) (hy : y = .lst .none 1 (tx us)) (hp : Heap) :
    ∀ (m i : Nat) (_ : i + m = ws.length) (fr : List AV), fget fr 0 = x → fget fr 1 = y → fget fr 12 = .int .i64 ws.length → fget fr 13 = .int .i64 (i : Nat) →
    OEs (eqVss ((tx ws).drop i) ((tx us).drop i)) hp (LC X (fun _ => []) (.loop x33_l0) ⟨fr, hp⟩) := by
  subst hx hy
  have l1 : (tx ws).length = ws.length := by simp [tx]
  have l2 : (tx us).length = us.length := by simp [tx]
  intro m
  induction m with
  | zero =>
    intro i hi fr h0 h1 h12 h13
    rw [LC_loop]
    have hc : ((i : Int) < (ws.length : Int)) = False := by simp; omega
    simp (config := {contextual := true, maxSteps := 10000000, implicitDefEqProofs := false}) only [x33_l0_run, go_sem, ↓reduceIte, reduceCtorEq, Nat.reduceEqDiff, Nat.reduceAdd, Nat.reduceLeDiff, Nat.reduceMul, Int.reduceEq, Int.reduceLT, Int.reduceLE, Int.reduceAdd, Int.reduceSub, Int.reduceMul, Int.reduceNeg, Int.reduceToNat, Int.reduceNe, Int.reduceBEq, Int.reduceBNe, Nat.reduceLT, Nat.reduceSub, Nat.reduceDiv, Nat.reduceMod, Int.reduceTDiv, Int.reduceTMod, h12, h13, hc]
    refine .inl ⟨?_, _, rfl⟩
    rw [List.drop_of_length_le (by omega), List.drop_of_length_le (by omega)]
    simp [eqVss]
  | succ m ihm =>
    intro i hi fr h0 h1 h12 h13
    rw [LC_loop]
    have hc : ((i : Int) < (ws.length : Int)) = True := by simp; omega
    have k1 : (i < (tx ws).length) = True := by simp; omega
    have k2 : (i < (tx us).length) = True := by simp; omega
    have wi : wr .i64 ((i : Int) + 1) = ((i + 1 : Nat) : Int) := by rw [wr_i64 _ (by omega)]; omega
    have hd := eqVss_drop (tx ws) (tx us) i (by omega) (by omega)
    have g1 : (tx ws).getD i [] = [.str (ws.getD i [])] := by simp [tx, List.getD, show i < ws.length by omega]
    have g2 : (tx us).getD i [] = [.str (us.getD i [])] := by simp [tx, List.getD, show i < us.length by omega]
    obtain ⟨a, ha⟩ : ∃ a, ws.getD i [] = a := ⟨_, rfl⟩
    obtain ⟨b, hb⟩ : ∃ b, us.getD i [] = b := ⟨_, rfl⟩
    rw [ha] at g1
    rw [hb] at g2
    rw [hd, g1, g2]
    by_cases e : a = b
    · have e1 : (a = b) = True := by simp [e]
      have e2 : eqVs [.str a] [.str b] = true := by simp [eqVs, eqV, e]
      rw [e2, Bool.true_and]
      simp (config := {contextual := true, maxSteps := 10000000, implicitDefEqProofs := false}) only [x33_l0_run, go_sem, ↓reduceIte, reduceCtorEq, Nat.reduceEqDiff, Nat.reduceAdd, Nat.reduceLeDiff, Nat.reduceMul, Int.reduceEq, Int.reduceLT, Int.reduceLE, Int.reduceAdd, Int.reduceSub, Int.reduceMul, Int.reduceNeg, Int.reduceToNat, Int.reduceNe, Int.reduceBEq, Int.reduceBNe, Nat.reduceLT, Nat.reduceSub, Nat.reduceDiv, Nat.reduceMod, Int.reduceTDiv, Int.reduceTMod, h0, h1, h12, h13, hc, k1, k2, g1, g2, wi, e1]
      refine ihm (i + 1) (by omega) _ ?_ ?_ ?_ ?_ <;> simp only [go_sem, ↓reduceIte, reduceCtorEq, Nat.reduceEqDiff, Nat.reduceAdd, Nat.reduceLeDiff, Nat.reduceMul, Int.reduceEq, Int.reduceLT, Int.reduceLE, Int.reduceAdd, Int.reduceSub, Int.reduceMul, Int.reduceNeg, Int.reduceToNat, Int.reduceNe, Int.reduceBEq, Int.reduceBNe, Nat.reduceLT, Nat.reduceSub, Nat.reduceDiv, Nat.reduceMod, Int.reduceTDiv, Int.reduceTMod, h0, h1, h12, h13]
    · have e1 : (a = b) = False := by simp [e]
      have e2 : eqVs [.str a] [.str b] = false := by simp [eqVs, eqV, e]
      rw [e2, Bool.false_and]
      simp (config := {contextual := true, maxSteps := 10000000, implicitDefEqProofs := false}) only [x33_l0_run, go_sem, ↓reduceIte, reduceCtorEq, Nat.reduceEqDiff, Nat.reduceAdd, Nat.reduceLeDiff, Nat.reduceMul, Int.reduceEq, Int.reduceLT, Int.reduceLE, Int.reduceAdd, Int.reduceSub, Int.reduceMul, Int.reduceNeg, Int.reduceToNat, Int.reduceNe, Int.reduceBEq, Int.reduceBNe, Nat.reduceLT, Nat.reduceSub, Nat.reduceDiv, Nat.reduceMod, Int.reduceTDiv, Int.reduceTMod, h0, h1, h12, h13, hc, k1, k2, g1, g2, wi, e1]
      exact .inr ⟨rfl, _, rfl, by simp only [go_sem, ↓reduceIte, reduceCtorEq, Nat.reduceEqDiff, Nat.reduceAdd, Nat.reduceLeDiff, Nat.reduceMul, Int.reduceEq, Int.reduceLT, Int.reduceLE, Int.reduceAdd, Int.reduceSub, Int.reduceMul, Int.reduceNeg, Int.reduceToNat, Int.reduceNe, Int.reduceBEq, Int.reduceBNe, Nat.reduceLT, Nat.reduceSub, Nat.reduceDiv, Nat.reduceMod, Int.reduceTDiv, Int.reduceTMod]⟩
theorem v_eqs (ws us : List (List UInt8)) (x y : AV) (hx : Sl 1 x (tx ws)) (hy : Sl 1 y (tx us)) (hm : ws.length ≤ 9223372036854775807) (hp : Heap) :
    CL X (fun _ => []) 33 [x, y] hp = some (.bool (eqVss (tx ws) (tx us)), hp) := by
  obtain ⟨_, u1, n1, d1, f1⟩ := hx.one
  obtain ⟨_, u2, n2, d2, f2⟩ := hy.one
  have l1 : (tx ws).length = ws.length := by simp [tx]
  have l2 : (tx us).length = us.length := by simp [tx]
  rw [l1] at n1
  rw [l2] at n2
  rw [CL_eq (fn := x33) rfl]
  by_cases hl : ws.length = us.length
  · have e1 : ((ws.length : Int) = (us.length : Int)) = True := by simp [hl]
    by_cases he : ws = []
    · subst he
      have hf : us = [] := List.eq_nil_of_length_eq_zero (by simpa using hl.symm)
      subst hf
      simp (config := {contextual := true, maxSteps := 10000000, implicitDefEqProofs := false}) only [x33, go_sem, ↓reduceIte, reduceCtorEq, Nat.reduceEqDiff, Nat.reduceAdd, Nat.reduceLeDiff, Nat.reduceMul, Int.reduceEq, Int.reduceLT, Int.reduceLE, Int.reduceAdd, Int.reduceSub, Int.reduceMul, Int.reduceNeg, Int.reduceToNat, Int.reduceNe, Int.reduceBEq, Int.reduceBNe, Nat.reduceLT, Nat.reduceSub, Nat.reduceDiv, Nat.reduceMod, Int.reduceTDiv, Int.reduceTMod, u1, u2, n1, n2, d1, d2, e1]
      rw [LC_loop]
      simp (config := {contextual := true, maxSteps := 10000000, implicitDefEqProofs := false}) only [x33_l0_run, go_sem, ↓reduceIte, reduceCtorEq, Nat.reduceEqDiff, Nat.reduceAdd, Nat.reduceLeDiff, Nat.reduceMul, Int.reduceEq, Int.reduceLT, Int.reduceLE, Int.reduceAdd, Int.reduceSub, Int.reduceMul, Int.reduceNeg, Int.reduceToNat, Int.reduceNe, Int.reduceBEq, Int.reduceBNe, Nat.reduceLT, Nat.reduceSub, Nat.reduceDiv, Nat.reduceMod, Int.reduceTDiv, Int.reduceTMod, Int.lt_irrefl]
      try simp [tx, eqVss]
    · have hx' : x = .lst .none 1 (tx ws) := hx.resolve_left (fun h => he (by have := h.2; simpa [tx] using this))
      have hy' : y = .lst .none 1 (tx us) := hy.resolve_left (fun h => he (by have h3 : us = [] := by simpa [tx] using h.2
                                                                              rw [h3] at hl; exact List.eq_nil_of_length_eq_zero hl))
      simp (config := {contextual := true, maxSteps := 10000000, implicitDefEqProofs := false}) only [x33, go_sem, ↓reduceIte, reduceCtorEq, Nat.reduceEqDiff, Nat.reduceAdd, Nat.reduceLeDiff, Nat.reduceMul, Int.reduceEq, Int.reduceLT, Int.reduceLE, Int.reduceAdd, Int.reduceSub, Int.reduceMul, Int.reduceNeg, Int.reduceToNat, Int.reduceNe, Int.reduceBEq, Int.reduceBNe, Nat.reduceLT, Nat.reduceSub, Nat.reduceDiv, Nat.reduceMod, Int.reduceTDiv, Int.reduceTMod, u1, u2, n1, n2, d1, d2, e1]
      refine elimL (fun r => finK _ (seqK (blockK 0 r) _) = _) (l_eqs ws us hl hm x y hx' hy' ([] :: hp) ws.length 0 (by omega) _ ?_ ?_ ?_ ?_) ?_
      all_goals try simp only [go_sem, ↓reduceIte, reduceCtorEq, Nat.reduceEqDiff, Nat.reduceAdd, Nat.reduceLeDiff, Nat.reduceMul, Int.reduceEq, Int.reduceLT, Int.reduceLE, Int.reduceAdd, Int.reduceSub, Int.reduceMul, Int.reduceNeg, Int.reduceToNat, Int.reduceNe, Int.reduceBEq, Int.reduceBNe, Nat.reduceLT, Nat.reduceSub, Nat.reduceDiv, Nat.reduceMod, Int.reduceTDiv, Int.reduceTMod]
      · rfl
      · rintro r (⟨hR, fr', rfl⟩ | ⟨hR, fr', rfl, g4⟩)
        · simp (config := {contextual := true, maxSteps := 10000000, implicitDefEqProofs := false}) only [go_sem, ↓reduceIte, reduceCtorEq, Nat.reduceEqDiff, Nat.reduceAdd, Nat.reduceLeDiff, Nat.reduceMul, Int.reduceEq, Int.reduceLT, Int.reduceLE, Int.reduceAdd, Int.reduceSub, Int.reduceMul, Int.reduceNeg, Int.reduceToNat, Int.reduceNe, Int.reduceBEq, Int.reduceBNe, Nat.reduceLT, Nat.reduceSub, Nat.reduceDiv, Nat.reduceMod, Int.reduceTDiv, Int.reduceTMod, hR]
        · simp (config := {contextual := true, maxSteps := 10000000, implicitDefEqProofs := false}) only [go_sem, ↓reduceIte, reduceCtorEq, Nat.reduceEqDiff, Nat.reduceAdd, Nat.reduceLeDiff, Nat.reduceMul, Int.reduceEq, Int.reduceLT, Int.reduceLE, Int.reduceAdd, Int.reduceSub, Int.reduceMul, Int.reduceNeg, Int.reduceToNat, Int.reduceNe, Int.reduceBEq, Int.reduceBNe, Nat.reduceLT, Nat.reduceSub, Nat.reduceDiv, Nat.reduceMod, Int.reduceTDiv, Int.reduceTMod, hR, g4]
  · have e1 : ((ws.length : Int) = (us.length : Int)) = False := by simp; omega
    have e2 := eqVss_len (tx ws) (tx us) (by rw [l1, l2]; exact hl)
    simp (config := {contextual := true, maxSteps := 10000000, implicitDefEqProofs := false}) only [x33, go_sem, ↓reduceIte, reduceCtorEq, Nat.reduceEqDiff, Nat.reduceAdd, Nat.reduceLeDiff, Nat.reduceMul, Int.reduceEq, Int.reduceLT, Int.reduceLE, Int.reduceAdd, Int.reduceSub, Int.reduceMul, Int.reduceNeg, Int.reduceToNat, Int.reduceNe, Int.reduceBEq, Int.reduceBNe, Nat.reduceLT, Nat.reduceSub, Nat.reduceDiv, Nat.reduceMod, Int.reduceTDiv, Int.reduceTMod, u1, u2, n1, n2, d1, d2, e1, e2]
/-- A formula's cells, a regex's. -/
inductive FxP : Bool → List AV → Prop where
  | fm (k : Int) (n : List UInt8) (op : Int) (vs : AV) (ws : List (List UInt8)) (ts : AV) (tes : List (List AV)) (lo hi : Int) (o : Bool) (ss : AV) (ses : List (List AV)) (rs : AV) (res : List (List AV))
      (hv : Sl 1 vs (tx ws)) (ht : Sl 7 ts tes) (hte : ∀ e ∈ tes, TmP e) (hs : Sl 10 ss ses) (hse : ∀ e ∈ ses, FxP true e) (hr : Sl 3 rs res) (hre : ∀ e ∈ res, FxP false e)
      (l1 : ws.length ≤ 9223372036854775807) (l2 : tes.length ≤ 9223372036854775807) (l3 : ses.length ≤ 9223372036854775807) (l4 : res.length ≤ 9223372036854775807) :
      FxP true [.int .i64 k, .str n, .int .i64 op, vs, ts, .int .i64 lo, .int .i64 hi, .bool o, ss, rs]
  | rx (k : Int) (ts : AV) (tes : List (List AV)) (ss : AV) (ses : List (List AV)) (ht : Sl 10 ts tes) (hte : ∀ e ∈ tes, FxP true e) (hs : Sl 3 ss ses) (hse : ∀ e ∈ ses, FxP false e)
      (l1 : tes.length ≤ 9223372036854775807) (l2 : ses.length ≤ 9223372036854775807) : FxP false [.int .i64 k, ts, ss]
theorem FxP.flat {b : Bool} {e : List AV} (h : FxP b e) : e.length = (if b then 10 else 3) ∧ e.all plain1 = true ∧ e.map uf = e := by
  cases h with
  | fm k n op vs ws ts tes lo hi o ss ses rs res hv ht hte hs hse hr hre =>
    obtain ⟨p1, q1, _⟩ := hv.one
    obtain ⟨p2, q2, _⟩ := ht.one
    obtain ⟨p3, q3, _⟩ := hs.one
    obtain ⟨p4, q4, _⟩ := hr.one
    exact ⟨rfl, by simp only [List.all_cons, List.all_nil, p1, p2, p3, p4, Bool.and_true]; rfl, by simp only [List.map_cons, List.map_nil, q1, q2, q3, q4]; rfl⟩
  | rx k ts tes ss ses ht hte hs hse =>
    obtain ⟨p1, q1, _⟩ := ht.one
    obtain ⟨p2, q2, _⟩ := hs.one
    exact ⟨rfl, by simp only [List.all_cons, List.all_nil, p1, p2, Bool.and_true]; rfl, by simp only [List.map_cons, List.map_nil, q1, q2]; rfl⟩
end Go.Proofs.Ytnmaahfipddkmaa.Sx.T
namespace Go.Proofs.Ytnmaahfipddkmaa.Sx.T
open Go Go.Proofs.Ytnmaahfipddkmaa.Sx
set_option maxRecDepth 100000
set_option maxHeartbeats 8000000
theorem v_fx {b : Bool} {a : List AV} (ha : FxP b a) : (b = true → ∀ c, FxP true c → ∀ hp, CL X (fun _ => []) 13 [.agg a, .agg c] hp = some (.bool (eqVs a c), hp)) ∧
    (b = false → ∀ c, FxP false c → ∀ hp, CL X (fun _ => []) 37 [.agg a, .agg c] hp = some (.bool (eqVs a c), hp)) := by
  induction ha with
  | rx k ts tes ss ses ht hte hs hse l1 l2 ihte ihse =>
    refine ⟨fun h => (by cases h), fun _ c hc hp => ?_⟩
    cases hc with
    | rx k' ts' tes' ss' ses' ht' hte' hs' hse' l1' l2' =>
      have e1 := fun hp => v_eqf tes tes' ts ts' ht ht' l1 (fun e he f hf hp => (ihte e he).1 rfl f (hte' f hf) hp) (fun e he => (hte e he).flat) (fun e he => (hte' e he).flat) hp
      have e2 := fun hp => v_eqx ses ses' ss ss' hs hs' l2 (fun e he f hf hp => (ihse e he).2 rfl f (hse' f hf) hp) (fun e he => (hse e he).flat) (fun e he => (hse' e he).flat) hp
      rw [← ht.eq ht'] at e1
      rw [← hs.eq hs'] at e2
      obtain ⟨p1, u1, _, d1, f1⟩ := ht.one
      obtain ⟨p2, u2, _, d2, f2⟩ := ht'.one
      obtain ⟨p3, u3, _, d3, f3⟩ := hs.one
      obtain ⟨p4, u4, _, d4, f4⟩ := hs'.one
      obtain ⟨R, hR⟩ : ∃ R, eqV ts ts' = R := ⟨_, rfl⟩
      obtain ⟨V, hV⟩ : ∃ V, eqV ss ss' = V := ⟨_, rfl⟩
      simp only [hR] at e1
      simp only [hV] at e2
      have hg : eqVs [.int .i64 k, ts, ss] [.int .i64 k', ts', ss'] = (k == k' && (R && V)) := by
        simp only [eqVs, eqV, hR, hV, Bool.and_true]
      rw [hg]
      rw [CL_eq (fn := x37) rfl]
      by_cases c1 : k = k'
      · cases R
        · simp (config := {contextual := true, maxSteps := 10000000, implicitDefEqProofs := false}) only [x37, go_sem, ↓reduceIte, reduceCtorEq, Nat.reduceEqDiff, Nat.reduceAdd, Nat.reduceLeDiff, Nat.reduceMul, Int.reduceEq, Int.reduceLT, Int.reduceLE, Int.reduceAdd, Int.reduceSub, Int.reduceMul, Int.reduceNeg, Int.reduceToNat, Int.reduceNe, Int.reduceBEq, Int.reduceBNe, Nat.reduceLT, Nat.reduceSub, Nat.reduceDiv, Nat.reduceMod, Int.reduceTDiv, Int.reduceTMod, c1, u1, u2, u3, u4, d1, d2, d3, d4, f1, f2, f3, f4, p1, p2, p3, p4, e1, e2, o_callw, cwK_same, Bool.false_and]
        · simp (config := {contextual := true, maxSteps := 10000000, implicitDefEqProofs := false}) only [x37, go_sem, ↓reduceIte, reduceCtorEq, Nat.reduceEqDiff, Nat.reduceAdd, Nat.reduceLeDiff, Nat.reduceMul, Int.reduceEq, Int.reduceLT, Int.reduceLE, Int.reduceAdd, Int.reduceSub, Int.reduceMul, Int.reduceNeg, Int.reduceToNat, Int.reduceNe, Int.reduceBEq, Int.reduceBNe, Nat.reduceLT, Nat.reduceSub, Nat.reduceDiv, Nat.reduceMod, Int.reduceTDiv, Int.reduceTMod, c1, u1, u2, u3, u4, d1, d2, d3, d4, f1, f2, f3, f4, p1, p2, p3, p4, e1, e2, o_callw, cwK_same]
      · have c1' : (k == k') = false := by simp [c1]
        simp (config := {contextual := true, maxSteps := 10000000, implicitDefEqProofs := false}) only [x37, go_sem, ↓reduceIte, reduceCtorEq, Nat.reduceEqDiff, Nat.reduceAdd, Nat.reduceLeDiff, Nat.reduceMul, Int.reduceEq, Int.reduceLT, Int.reduceLE, Int.reduceAdd, Int.reduceSub, Int.reduceMul, Int.reduceNeg, Int.reduceToNat, Int.reduceNe, Int.reduceBEq, Int.reduceBNe, Nat.reduceLT, Nat.reduceSub, Nat.reduceDiv, Nat.reduceMod, Int.reduceTDiv, Int.reduceTMod, c1, c1', u1, u2, u3, u4, d1, d2, d3, d4, f1, f2, f3, f4, p1, p2, p3, p4, e1, e2, o_callw, cwK_same, Bool.false_and]
  | fm k n op vs ws ts tes lo hi o ss ses rs res hv ht hte hs hse hr hre l1 l2 l3 l4 ihse ihre =>
    refine ⟨fun _ c hc hp => ?_, fun h => by cases h⟩
    cases hc with
    | fm k' n' op' vs' ws' ts' tes' lo' hi' o' ss' ses' rs' res' hv' ht' hte' hs' hse' hr' hre' l1' l2' l3' l4' =>
      have e1 := fun hp => v_eqs ws ws' vs vs' hv hv' l1 hp
      have e2 := fun hp => v_eqt tes tes' ts ts' ht ht' l2 (fun e he f hf hp => v_sameTerm e (hte e he) f (hte' f hf) hp) hte hte' hp
      have e3 := fun hp => v_eqf ses ses' ss ss' hs hs' l3 (fun e he f hf hp => (ihse e he).1 rfl f (hse' f hf) hp) (fun e he => (hse e he).flat) (fun e he => (hse' e he).flat) hp
      have e4 := fun hp => v_eqx res res' rs rs' hr hr' l4 (fun e he f hf hp => (ihre e he).2 rfl f (hre' f hf) hp) (fun e he => (hre e he).flat) (fun e he => (hre' e he).flat) hp
      rw [← hv.eq hv'] at e1
      rw [← ht.eq ht'] at e2
      rw [← hs.eq hs'] at e3
      rw [← hr.eq hr'] at e4
      obtain ⟨p1, u1, _, d1, f1⟩ := hv.one
      obtain ⟨p2, u2, _, d2, f2⟩ := hv'.one
      obtain ⟨p3, u3, _, d3, f3⟩ := ht.one
      obtain ⟨p4, u4, _, d4, f4⟩ := ht'.one
      obtain ⟨p5, u5, _, d5, f5⟩ := hs.one
      obtain ⟨p6, u6, _, d6, f6⟩ := hs'.one
      obtain ⟨p7, u7, _, d7, f7⟩ := hr.one
      obtain ⟨p8, u8, _, d8, f8⟩ := hr'.one
      obtain ⟨A, hA⟩ : ∃ R, eqV vs vs' = R := ⟨_, rfl⟩
      obtain ⟨B, hB⟩ : ∃ R, eqV ts ts' = R := ⟨_, rfl⟩
      obtain ⟨D, hD⟩ : ∃ R, eqV ss ss' = R := ⟨_, rfl⟩
      obtain ⟨E, hE⟩ : ∃ R, eqV rs rs' = R := ⟨_, rfl⟩
      simp only [hA] at e1
      simp only [hB] at e2
      simp only [hD] at e3
      simp only [hE] at e4
      have hg : eqVs [.int .i64 k, .str n, .int .i64 op, vs, ts, .int .i64 lo, .int .i64 hi, .bool o, ss, rs] [.int .i64 k', .str n', .int .i64 op', vs', ts', .int .i64 lo', .int .i64 hi', .bool o', ss', rs'] =
          (k == k' && (n == n' && (op == op' && (A && (B && (lo == lo' && (hi == hi' && (o == o' && (D && E))))))))) := by
        simp only [eqVs, eqV, hA, hB, hD, hE, Bool.and_true]
      rw [hg]
      clear hg
      rw [CL_eq (fn := x13) rfl]
      by_cases c1 : k = k'
      · subst c1
        by_cases c2 : n = n'
        · subst c2
          by_cases c3 : op = op'
          · subst c3
            by_cases c4 : lo = lo'
            · subst c4
              by_cases c5 : hi = hi'
              · subst c5
                by_cases c6 : o = o'
                · subst c6
                  cases A <;> cases B <;> cases E <;> cases D
                  all_goals simp (config := {contextual := true, maxSteps := 10000000, implicitDefEqProofs := false}) only [x13, go_sem, ↓reduceIte, reduceCtorEq, Nat.reduceEqDiff, Nat.reduceAdd, Nat.reduceLeDiff, Nat.reduceMul, Int.reduceEq, Int.reduceLT, Int.reduceLE, Int.reduceAdd, Int.reduceSub, Int.reduceMul, Int.reduceNeg, Int.reduceToNat, Int.reduceNe, Int.reduceBEq, Int.reduceBNe, Nat.reduceLT, Nat.reduceSub, Nat.reduceDiv, Nat.reduceMod, Int.reduceTDiv, Int.reduceTMod, u1, u2, u3, u4, u5, u6, u7, u8, d1, d2, d3, d4, d5, d6, d7, d8, f1, f2, f3, f4, f5, f6, f7, f8, p1, p2, p3, p4, p5, p6, p7, p8, e1, e2, e3, e4, o_callw, cwK_same, Bool.false_and, Bool.and_false, Bool.true_and, Bool.and_true]
                · have c6' : (o == o') = false := by simp [c6]
                  simp (config := {contextual := true, maxSteps := 10000000, implicitDefEqProofs := false}) only [x13, go_sem, ↓reduceIte, reduceCtorEq, Nat.reduceEqDiff, Nat.reduceAdd, Nat.reduceLeDiff, Nat.reduceMul, Int.reduceEq, Int.reduceLT, Int.reduceLE, Int.reduceAdd, Int.reduceSub, Int.reduceMul, Int.reduceNeg, Int.reduceToNat, Int.reduceNe, Int.reduceBEq, Int.reduceBNe, Nat.reduceLT, Nat.reduceSub, Nat.reduceDiv, Nat.reduceMod, Int.reduceTDiv, Int.reduceTMod, u1, u2, u3, u4, u5, u6, u7, u8, d1, d2, d3, d4, d5, d6, d7, d8, f1, f2, f3, f4, f5, f6, f7, f8, p1, p2, p3, p4, p5, p6, p7, p8, e1, e2, e3, e4, o_callw, cwK_same, Bool.false_and, Bool.and_false, Bool.true_and, Bool.and_true, c6, c6']
              · have c5' : (hi == hi') = false := by simp [c5]
                simp (config := {contextual := true, maxSteps := 10000000, implicitDefEqProofs := false}) only [x13, go_sem, ↓reduceIte, reduceCtorEq, Nat.reduceEqDiff, Nat.reduceAdd, Nat.reduceLeDiff, Nat.reduceMul, Int.reduceEq, Int.reduceLT, Int.reduceLE, Int.reduceAdd, Int.reduceSub, Int.reduceMul, Int.reduceNeg, Int.reduceToNat, Int.reduceNe, Int.reduceBEq, Int.reduceBNe, Nat.reduceLT, Nat.reduceSub, Nat.reduceDiv, Nat.reduceMod, Int.reduceTDiv, Int.reduceTMod, u1, u2, u3, u4, u5, u6, u7, u8, d1, d2, d3, d4, d5, d6, d7, d8, f1, f2, f3, f4, f5, f6, f7, f8, p1, p2, p3, p4, p5, p6, p7, p8, e1, e2, e3, e4, o_callw, cwK_same, Bool.false_and, Bool.and_false, Bool.true_and, Bool.and_true, c5, c5']
            · have c4' : (lo == lo') = false := by simp [c4]
              simp (config := {contextual := true, maxSteps := 10000000, implicitDefEqProofs := false}) only [x13, go_sem, ↓reduceIte, reduceCtorEq, Nat.reduceEqDiff, Nat.reduceAdd, Nat.reduceLeDiff, Nat.reduceMul, Int.reduceEq, Int.reduceLT, Int.reduceLE, Int.reduceAdd, Int.reduceSub, Int.reduceMul, Int.reduceNeg, Int.reduceToNat, Int.reduceNe, Int.reduceBEq, Int.reduceBNe, Nat.reduceLT, Nat.reduceSub, Nat.reduceDiv, Nat.reduceMod, Int.reduceTDiv, Int.reduceTMod, u1, u2, u3, u4, u5, u6, u7, u8, d1, d2, d3, d4, d5, d6, d7, d8, f1, f2, f3, f4, f5, f6, f7, f8, p1, p2, p3, p4, p5, p6, p7, p8, e1, e2, e3, e4, o_callw, cwK_same, Bool.false_and, Bool.and_false, Bool.true_and, Bool.and_true, c4, c4']
          · have c3' : (op == op') = false := by simp [c3]
            simp (config := {contextual := true, maxSteps := 10000000, implicitDefEqProofs := false}) only [x13, go_sem, ↓reduceIte, reduceCtorEq, Nat.reduceEqDiff, Nat.reduceAdd, Nat.reduceLeDiff, Nat.reduceMul, Int.reduceEq, Int.reduceLT, Int.reduceLE, Int.reduceAdd, Int.reduceSub, Int.reduceMul, Int.reduceNeg, Int.reduceToNat, Int.reduceNe, Int.reduceBEq, Int.reduceBNe, Nat.reduceLT, Nat.reduceSub, Nat.reduceDiv, Nat.reduceMod, Int.reduceTDiv, Int.reduceTMod, u1, u2, u3, u4, u5, u6, u7, u8, d1, d2, d3, d4, d5, d6, d7, d8, f1, f2, f3, f4, f5, f6, f7, f8, p1, p2, p3, p4, p5, p6, p7, p8, e1, e2, e3, e4, o_callw, cwK_same, Bool.false_and, Bool.and_false, Bool.true_and, Bool.and_true, c3, c3']
        · have c2' : (n == n') = false := by simp [c2]
          simp (config := {contextual := true, maxSteps := 10000000, implicitDefEqProofs := false}) only [x13, go_sem, ↓reduceIte, reduceCtorEq, Nat.reduceEqDiff, Nat.reduceAdd, Nat.reduceLeDiff, Nat.reduceMul, Int.reduceEq, Int.reduceLT, Int.reduceLE, Int.reduceAdd, Int.reduceSub, Int.reduceMul, Int.reduceNeg, Int.reduceToNat, Int.reduceNe, Int.reduceBEq, Int.reduceBNe, Nat.reduceLT, Nat.reduceSub, Nat.reduceDiv, Nat.reduceMod, Int.reduceTDiv, Int.reduceTMod, u1, u2, u3, u4, u5, u6, u7, u8, d1, d2, d3, d4, d5, d6, d7, d8, f1, f2, f3, f4, f5, f6, f7, f8, p1, p2, p3, p4, p5, p6, p7, p8, e1, e2, e3, e4, o_callw, cwK_same, Bool.false_and, Bool.and_false, Bool.true_and, Bool.and_true, c2, c2']
      · have c1' : (k == k') = false := by simp [c1]
        simp (config := {contextual := true, maxSteps := 10000000, implicitDefEqProofs := false}) only [x13, go_sem, ↓reduceIte, reduceCtorEq, Nat.reduceEqDiff, Nat.reduceAdd, Nat.reduceLeDiff, Nat.reduceMul, Int.reduceEq, Int.reduceLT, Int.reduceLE, Int.reduceAdd, Int.reduceSub, Int.reduceMul, Int.reduceNeg, Int.reduceToNat, Int.reduceNe, Int.reduceBEq, Int.reduceBNe, Nat.reduceLT, Nat.reduceSub, Nat.reduceDiv, Nat.reduceMod, Int.reduceTDiv, Int.reduceTMod, u1, u2, u3, u4, u5, u6, u7, u8, d1, d2, d3, d4, d5, d6, d7, d8, f1, f2, f3, f4, f5, f6, f7, f8, p1, p2, p3, p4, p5, p6, p7, p8, e1, e2, e3, e4, o_callw, cwK_same, Bool.false_and, Bool.and_false, Bool.true_and, Bool.and_true, c1, c1']
end Go.Proofs.Ytnmaahfipddkmaa.Sx.T
namespace Go.Proofs.Ytnmaahfipddkmaa.Sx.T
open Go Go.Proofs.Ytnmaahfipddkmaa.Sx
set_option maxRecDepth 100000
set_option maxHeartbeats 8000000
theorem l_rst (es fs : List (List AV)) (hl : es.length = fs.length) (hm : es.length ≤ 9223372036854775807) (x y : AV) (hx : x = .lst .none 7 es) (hy : y = .lst .none 7 fs) (ih : ∀ e ∈ es, ∀ f ∈ fs, ∀ hp, CL X (fun _ => []) 50 [.agg e, .agg f] hp = some (.bool (eqVs e f), hp))
    (hz : ∀ e ∈ es, (e.length = 7 ∧ e.all plain1 = true ∧ e.map uf = e) ∧ refFreeL e = true) (hz2 : ∀ e ∈ fs, (e.length = 7 ∧ e.all plain1 = true ∧ e.map uf = e) ∧ refFreeL e = true) (hp : Heap) : ∀ (m i : Nat) (_ : i + m = es.length) (fr : List AV), fget fr 0 = x → fget fr 1 = y → fget fr 5 = .int .i64 (i : Nat) →
    OEs (eqVss (es.drop i) (fs.drop i)) hp (LC X (fun _ => []) (.loop x30_l0) ⟨fr, hp⟩) := by
  subst hx hy
  intro m
  induction m with
  | zero =>
    intro i hi fr h0 h1 h5
    rw [LC_loop]
    have hc : ((i : Int) < (es.length : Int)) = False := by simp; omega
    simp (config := {contextual := true, maxSteps := 10000000, implicitDefEqProofs := false}) only [x30_l0_run, go_sem, ↓reduceIte, reduceCtorEq, Nat.reduceEqDiff, Nat.reduceAdd, Nat.reduceLeDiff, Nat.reduceMul, Int.reduceEq, Int.reduceLT, Int.reduceLE, Int.reduceAdd, Int.reduceSub, Int.reduceMul, Int.reduceNeg, Int.reduceToNat, Int.reduceNe, Int.reduceBEq, Int.reduceBNe, Nat.reduceLT, Nat.reduceSub, Nat.reduceDiv, Nat.reduceMod, Int.reduceTDiv, Int.reduceTMod, h0, h5, hc]
    refine .inl ⟨?_, _, rfl⟩
    rw [List.drop_of_length_le (by omega), List.drop_of_length_le (by omega)]
    simp [eqVss]
  | succ m ihm =>
    intro i hi fr h0 h1 h5
    rw [LC_loop]
    have hc : ((i : Int) < (es.length : Int)) = True := by simp; omega
    have k1 : (i < es.length) = True := by simp; omega
    have k2 : (i < fs.length) = True := by simp; omega
    have wi : wr .i64 ((i : Int) + 1) = ((i + 1 : Nat) : Int) := by rw [wr_i64 _ (by omega)]; omega
    have hd := eqVss_drop es fs i (by omega) (by omega)
    have m1 : es.getD i [] ∈ es := by simp [List.getD, show i < es.length by omega]
    have m2 : fs.getD i [] ∈ fs := by simp [List.getD, show i < fs.length by omega]
    have hs := ih _ m1 _ m2
    obtain ⟨⟨a1, a2, a3⟩, a4⟩ := hz _ m1
    obtain ⟨⟨b1, b2, b3⟩, b4⟩ := hz2 _ m2
    have t1 : (es.getD i []).take 7 = es.getD i [] := List.take_of_length_le (by omega)
    have t2 : (fs.getD i []).take 7 = fs.getD i [] := List.take_of_length_le (by omega)
    obtain ⟨e, he⟩ : ∃ e, es.getD i [] = e := ⟨_, rfl⟩
    obtain ⟨f, hf⟩ : ∃ f, fs.getD i [] = f := ⟨_, rfl⟩
    rw [he, hf] at hd hs
    rw [he] at a1 a2 a3 a4 t1
    rw [hf] at b1 b2 b3 b4 t2
    have a1' : (7 ≤ e.length) = True := by simp; omega
    have b1' : (7 ≤ f.length) = True := by simp; omega
    rw [hd]
    obtain ⟨R, hR⟩ : ∃ R, eqVs e f = R := ⟨_, rfl⟩
    rw [hR] at hs ⊢
    cases R with
    | false =>
      simp (config := {contextual := true, maxSteps := 10000000, implicitDefEqProofs := false}) only [x30_l0_run, go_sem, ↓reduceIte, reduceCtorEq, Nat.reduceEqDiff, Nat.reduceAdd, Nat.reduceLeDiff, Nat.reduceMul, Int.reduceEq, Int.reduceLT, Int.reduceLE, Int.reduceAdd, Int.reduceSub, Int.reduceMul, Int.reduceNeg, Int.reduceToNat, Int.reduceNe, Int.reduceBEq, Int.reduceBNe, Nat.reduceLT, Nat.reduceSub, Nat.reduceDiv, Nat.reduceMod, Int.reduceTDiv, Int.reduceTMod, h0, h1, h5, hc, k1, k2, he, hf, a2, a3, a4, b2, b3, b4, t1, t2, a1', b1', wi, hs]
      exact .inr ⟨rfl, _, rfl, by simp only [go_sem, ↓reduceIte, reduceCtorEq, Nat.reduceEqDiff, Nat.reduceAdd, Nat.reduceLeDiff, Nat.reduceMul, Int.reduceEq, Int.reduceLT, Int.reduceLE, Int.reduceAdd, Int.reduceSub, Int.reduceMul, Int.reduceNeg, Int.reduceToNat, Int.reduceNe, Int.reduceBEq, Int.reduceBNe, Nat.reduceLT, Nat.reduceSub, Nat.reduceDiv, Nat.reduceMod, Int.reduceTDiv, Int.reduceTMod]⟩
    | true =>
      simp (config := {contextual := true, maxSteps := 10000000, implicitDefEqProofs := false}) only [x30_l0_run, go_sem, ↓reduceIte, reduceCtorEq, Nat.reduceEqDiff, Nat.reduceAdd, Nat.reduceLeDiff, Nat.reduceMul, Int.reduceEq, Int.reduceLT, Int.reduceLE, Int.reduceAdd, Int.reduceSub, Int.reduceMul, Int.reduceNeg, Int.reduceToNat, Int.reduceNe, Int.reduceBEq, Int.reduceBNe, Nat.reduceLT, Nat.reduceSub, Nat.reduceDiv, Nat.reduceMod, Int.reduceTDiv, Int.reduceTMod, h0, h1, h5, hc, k1, k2, he, hf, a2, a3, a4, b2, b3, b4, t1, t2, a1', b1', wi, hs]
      refine ihm (i + 1) (by omega) _ ?_ ?_ ?_ <;> simp only [go_sem, ↓reduceIte, reduceCtorEq, Nat.reduceEqDiff, Nat.reduceAdd, Nat.reduceLeDiff, Nat.reduceMul, Int.reduceEq, Int.reduceLT, Int.reduceLE, Int.reduceAdd, Int.reduceSub, Int.reduceMul, Int.reduceNeg, Int.reduceToNat, Int.reduceNe, Int.reduceBEq, Int.reduceBNe, Nat.reduceLT, Nat.reduceSub, Nat.reduceDiv, Nat.reduceMod, Int.reduceTDiv, Int.reduceTMod, h0, h1, h5]
theorem v_rst (es fs : List (List AV)) (x y : AV) (hx : Sl 7 x es) (hy : Sl 7 y fs) (hm : es.length ≤ 9223372036854775807) (ih : ∀ e ∈ es, ∀ f ∈ fs, ∀ hp, CL X (fun _ => []) 50 [.agg e, .agg f] hp = some (.bool (eqVs e f), hp))
    (hz : ∀ e ∈ es, (e.length = 7 ∧ e.all plain1 = true ∧ e.map uf = e) ∧ refFreeL e = true) (hz2 : ∀ e ∈ fs, (e.length = 7 ∧ e.all plain1 = true ∧ e.map uf = e) ∧ refFreeL e = true) (hp : Heap) :
    CL X (fun _ => []) 30 [x, y] hp = some (.bool (eqVss es fs), hp) := by
  obtain ⟨_, u1, n1, d1, f1⟩ := hx.one
  obtain ⟨_, u2, n2, d2, f2⟩ := hy.one
  rw [CL_eq (fn := x30) rfl]
  by_cases hl : es.length = fs.length
  · have e1 : ((es.length : Int) = (fs.length : Int)) = True := by simp [hl]
    by_cases he : es = []
    · subst he
      have hf : fs = [] := List.eq_nil_of_length_eq_zero (by simpa using hl.symm)
      subst hf
      simp (config := {contextual := true, maxSteps := 10000000, implicitDefEqProofs := false}) only [x30, go_sem, ↓reduceIte, reduceCtorEq, Nat.reduceEqDiff, Nat.reduceAdd, Nat.reduceLeDiff, Nat.reduceMul, Int.reduceEq, Int.reduceLT, Int.reduceLE, Int.reduceAdd, Int.reduceSub, Int.reduceMul, Int.reduceNeg, Int.reduceToNat, Int.reduceNe, Int.reduceBEq, Int.reduceBNe, Nat.reduceLT, Nat.reduceSub, Nat.reduceDiv, Nat.reduceMod, Int.reduceTDiv, Int.reduceTMod, u1, u2, n1, n2, d1, d2, e1]
      rw [LC_loop]
      simp (config := {contextual := true, maxSteps := 10000000, implicitDefEqProofs := false}) only [x30_l0_run, go_sem, ↓reduceIte, reduceCtorEq, Nat.reduceEqDiff, Nat.reduceAdd, Nat.reduceLeDiff, Nat.reduceMul, Int.reduceEq, Int.reduceLT, Int.reduceLE, Int.reduceAdd, Int.reduceSub, Int.reduceMul, Int.reduceNeg, Int.reduceToNat, Int.reduceNe, Int.reduceBEq, Int.reduceBNe, Nat.reduceLT, Nat.reduceSub, Nat.reduceDiv, Nat.reduceMod, Int.reduceTDiv, Int.reduceTMod, u1, n1, d1, Int.lt_irrefl, eqVss]
      try simp [eqVss]
    · have hx' : x = .lst .none 7 es := hx.resolve_left (fun h => he h.2)
      have hy' : y = .lst .none 7 fs := hy.resolve_left (fun h => he (List.eq_nil_of_length_eq_zero (by rw [hl, h.2]; rfl)))
      simp (config := {contextual := true, maxSteps := 10000000, implicitDefEqProofs := false}) only [x30, go_sem, ↓reduceIte, reduceCtorEq, Nat.reduceEqDiff, Nat.reduceAdd, Nat.reduceLeDiff, Nat.reduceMul, Int.reduceEq, Int.reduceLT, Int.reduceLE, Int.reduceAdd, Int.reduceSub, Int.reduceMul, Int.reduceNeg, Int.reduceToNat, Int.reduceNe, Int.reduceBEq, Int.reduceBNe, Nat.reduceLT, Nat.reduceSub, Nat.reduceDiv, Nat.reduceMod, Int.reduceTDiv, Int.reduceTMod, u1, u2, n1, n2, d1, d2, e1]
      refine elimL (fun r => finK _ (seqK (blockK 0 r) _) = _) (l_rst es fs hl hm x y hx' hy' ih hz hz2 ([] :: hp) es.length 0 (by omega) _ ?_ ?_ ?_) ?_
      all_goals try simp only [go_sem, ↓reduceIte, reduceCtorEq, Nat.reduceEqDiff, Nat.reduceAdd, Nat.reduceLeDiff, Nat.reduceMul, Int.reduceEq, Int.reduceLT, Int.reduceLE, Int.reduceAdd, Int.reduceSub, Int.reduceMul, Int.reduceNeg, Int.reduceToNat, Int.reduceNe, Int.reduceBEq, Int.reduceBNe, Nat.reduceLT, Nat.reduceSub, Nat.reduceDiv, Nat.reduceMod, Int.reduceTDiv, Int.reduceTMod]
      · rfl
      · rintro r (⟨hR, fr', rfl⟩ | ⟨hR, fr', rfl, g4⟩)
        · simp (config := {contextual := true, maxSteps := 10000000, implicitDefEqProofs := false}) only [go_sem, ↓reduceIte, reduceCtorEq, Nat.reduceEqDiff, Nat.reduceAdd, Nat.reduceLeDiff, Nat.reduceMul, Int.reduceEq, Int.reduceLT, Int.reduceLE, Int.reduceAdd, Int.reduceSub, Int.reduceMul, Int.reduceNeg, Int.reduceToNat, Int.reduceNe, Int.reduceBEq, Int.reduceBNe, Nat.reduceLT, Nat.reduceSub, Nat.reduceDiv, Nat.reduceMod, Int.reduceTDiv, Int.reduceTMod, hR]
        · simp (config := {contextual := true, maxSteps := 10000000, implicitDefEqProofs := false}) only [go_sem, ↓reduceIte, reduceCtorEq, Nat.reduceEqDiff, Nat.reduceAdd, Nat.reduceLeDiff, Nat.reduceMul, Int.reduceEq, Int.reduceLT, Int.reduceLE, Int.reduceAdd, Int.reduceSub, Int.reduceMul, Int.reduceNeg, Int.reduceToNat, Int.reduceNe, Int.reduceBEq, Int.reduceBNe, Nat.reduceLT, Nat.reduceSub, Nat.reduceDiv, Nat.reduceMod, Int.reduceTDiv, Int.reduceTMod, hR, g4]
  · have e1 : ((es.length : Int) = (fs.length : Int)) = False := by simp; omega
    have e2 := eqVss_len es fs hl
    simp (config := {contextual := true, maxSteps := 10000000, implicitDefEqProofs := false}) only [x30, go_sem, ↓reduceIte, reduceCtorEq, Nat.reduceEqDiff, Nat.reduceAdd, Nat.reduceLeDiff, Nat.reduceMul, Int.reduceEq, Int.reduceLT, Int.reduceLE, Int.reduceAdd, Int.reduceSub, Int.reduceMul, Int.reduceNeg, Int.reduceToNat, Int.reduceNe, Int.reduceBEq, Int.reduceBNe, Nat.reduceLT, Nat.reduceSub, Nat.reduceDiv, Nat.reduceMod, Int.reduceTDiv, Int.reduceTMod, u1, u2, n1, n2, d1, d2, e1, e2]
theorem l_rsa (es fs : List (List AV)) (hl : es.length = fs.length) (hm : es.length ≤ 9223372036854775807) (x y : AV) (hx : x = .lst .none 10 es) (hy : y = .lst .none 10 fs) (ih : ∀ e ∈ es, ∀ f ∈ fs, ∀ hp, CL X (fun _ => []) 12 [.agg e, .agg f] hp = some (.bool (eqVs e f), hp))
    (hz : ∀ e ∈ es, (e.length = 10 ∧ e.all plain1 = true ∧ e.map uf = e) ∧ refFreeL e = true) (hz2 : ∀ e ∈ fs, (e.length = 10 ∧ e.all plain1 = true ∧ e.map uf = e) ∧ refFreeL e = true) (hp : Heap) : ∀ (m i : Nat) (_ : i + m = es.length) (fr : List AV), fget fr 0 = x → fget fr 1 = y → fget fr 5 = .int .i64 (i : Nat) →
    OEs (eqVss (es.drop i) (fs.drop i)) hp (LC X (fun _ => []) (.loop x32_l0) ⟨fr, hp⟩) := by
  subst hx hy
  intro m
  induction m with
  | zero =>
    intro i hi fr h0 h1 h5
    rw [LC_loop]
    have hc : ((i : Int) < (es.length : Int)) = False := by simp; omega
    simp (config := {contextual := true, maxSteps := 10000000, implicitDefEqProofs := false}) only [x32_l0_run, go_sem, ↓reduceIte, reduceCtorEq, Nat.reduceEqDiff, Nat.reduceAdd, Nat.reduceLeDiff, Nat.reduceMul, Int.reduceEq, Int.reduceLT, Int.reduceLE, Int.reduceAdd, Int.reduceSub, Int.reduceMul, Int.reduceNeg, Int.reduceToNat, Int.reduceNe, Int.reduceBEq, Int.reduceBNe, Nat.reduceLT, Nat.reduceSub, Nat.reduceDiv, Nat.reduceMod, Int.reduceTDiv, Int.reduceTMod, h0, h5, hc]
    refine .inl ⟨?_, _, rfl⟩
    rw [List.drop_of_length_le (by omega), List.drop_of_length_le (by omega)]
    simp [eqVss]
  | succ m ihm =>
    intro i hi fr h0 h1 h5
    rw [LC_loop]
    have hc : ((i : Int) < (es.length : Int)) = True := by simp; omega
    have k1 : (i < es.length) = True := by simp; omega
    have k2 : (i < fs.length) = True := by simp; omega
    have wi : wr .i64 ((i : Int) + 1) = ((i + 1 : Nat) : Int) := by rw [wr_i64 _ (by omega)]; omega
    have hd := eqVss_drop es fs i (by omega) (by omega)
    have m1 : es.getD i [] ∈ es := by simp [List.getD, show i < es.length by omega]
    have m2 : fs.getD i [] ∈ fs := by simp [List.getD, show i < fs.length by omega]
    have hs := ih _ m1 _ m2
    obtain ⟨⟨a1, a2, a3⟩, a4⟩ := hz _ m1
    obtain ⟨⟨b1, b2, b3⟩, b4⟩ := hz2 _ m2
    have t1 : (es.getD i []).take 10 = es.getD i [] := List.take_of_length_le (by omega)
    have t2 : (fs.getD i []).take 10 = fs.getD i [] := List.take_of_length_le (by omega)
    obtain ⟨e, he⟩ : ∃ e, es.getD i [] = e := ⟨_, rfl⟩
    obtain ⟨f, hf⟩ : ∃ f, fs.getD i [] = f := ⟨_, rfl⟩
    rw [he, hf] at hd hs
    rw [he] at a1 a2 a3 a4 t1
    rw [hf] at b1 b2 b3 b4 t2
    have a1' : (10 ≤ e.length) = True := by simp; omega
    have b1' : (10 ≤ f.length) = True := by simp; omega
    rw [hd]
    obtain ⟨R, hR⟩ : ∃ R, eqVs e f = R := ⟨_, rfl⟩
    rw [hR] at hs ⊢
    cases R with
    | false =>
      simp (config := {contextual := true, maxSteps := 10000000, implicitDefEqProofs := false}) only [x32_l0_run, go_sem, ↓reduceIte, reduceCtorEq, Nat.reduceEqDiff, Nat.reduceAdd, Nat.reduceLeDiff, Nat.reduceMul, Int.reduceEq, Int.reduceLT, Int.reduceLE, Int.reduceAdd, Int.reduceSub, Int.reduceMul, Int.reduceNeg, Int.reduceToNat, Int.reduceNe, Int.reduceBEq, Int.reduceBNe, Nat.reduceLT, Nat.reduceSub, Nat.reduceDiv, Nat.reduceMod, Int.reduceTDiv, Int.reduceTMod, h0, h1, h5, hc, k1, k2, he, hf, a2, a3, a4, b2, b3, b4, t1, t2, a1', b1', wi, hs]
      exact .inr ⟨rfl, _, rfl, by simp only [go_sem, ↓reduceIte, reduceCtorEq, Nat.reduceEqDiff, Nat.reduceAdd, Nat.reduceLeDiff, Nat.reduceMul, Int.reduceEq, Int.reduceLT, Int.reduceLE, Int.reduceAdd, Int.reduceSub, Int.reduceMul, Int.reduceNeg, Int.reduceToNat, Int.reduceNe, Int.reduceBEq, Int.reduceBNe, Nat.reduceLT, Nat.reduceSub, Nat.reduceDiv, Nat.reduceMod, Int.reduceTDiv, Int.reduceTMod]⟩
    | true =>
      simp (config := {contextual := true, maxSteps := 10000000, implicitDefEqProofs := false}) only [x32_l0_run, go_sem, ↓reduceIte, reduceCtorEq, Nat.reduceEqDiff, Nat.reduceAdd, Nat.reduceLeDiff, Nat.reduceMul, Int.reduceEq, Int.reduceLT, Int.reduceLE, Int.reduceAdd, Int.reduceSub, Int.reduceMul, Int.reduceNeg, Int.reduceToNat, Int.reduceNe, Int.reduceBEq, Int.reduceBNe, Nat.reduceLT, Nat.reduceSub, Nat.reduceDiv, Nat.reduceMod, Int.reduceTDiv, Int.reduceTMod, h0, h1, h5, hc, k1, k2, he, hf, a2, a3, a4, b2, b3, b4, t1, t2, a1', b1', wi, hs]
      refine ihm (i + 1) (by omega) _ ?_ ?_ ?_ <;> simp only [go_sem, ↓reduceIte, reduceCtorEq, Nat.reduceEqDiff, Nat.reduceAdd, Nat.reduceLeDiff, Nat.reduceMul, Int.reduceEq, Int.reduceLT, Int.reduceLE, Int.reduceAdd, Int.reduceSub, Int.reduceMul, Int.reduceNeg, Int.reduceToNat, Int.reduceNe, Int.reduceBEq, Int.reduceBNe, Nat.reduceLT, Nat.reduceSub, Nat.reduceDiv, Nat.reduceMod, Int.reduceTDiv, Int.reduceTMod, h0, h1, h5]
theorem v_rsa (es fs : List (List AV)) (x y : AV) (hx : Sl 10 x es) (hy : Sl 10 y fs) (hm : es.length ≤ 9223372036854775807) (ih : ∀ e ∈ es, ∀ f ∈ fs, ∀ hp, CL X (fun _ => []) 12 [.agg e, .agg f] hp = some (.bool (eqVs e f), hp))
    (hz : ∀ e ∈ es, (e.length = 10 ∧ e.all plain1 = true ∧ e.map uf = e) ∧ refFreeL e = true) (hz2 : ∀ e ∈ fs, (e.length = 10 ∧ e.all plain1 = true ∧ e.map uf = e) ∧ refFreeL e = true) (hp : Heap) :
    CL X (fun _ => []) 32 [x, y] hp = some (.bool (eqVss es fs), hp) := by
  obtain ⟨_, u1, n1, d1, f1⟩ := hx.one
  obtain ⟨_, u2, n2, d2, f2⟩ := hy.one
  rw [CL_eq (fn := x32) rfl]
  by_cases hl : es.length = fs.length
  · have e1 : ((es.length : Int) = (fs.length : Int)) = True := by simp [hl]
    by_cases he : es = []
    · subst he
      have hf : fs = [] := List.eq_nil_of_length_eq_zero (by simpa using hl.symm)
      subst hf
      simp (config := {contextual := true, maxSteps := 10000000, implicitDefEqProofs := false}) only [x32, go_sem, ↓reduceIte, reduceCtorEq, Nat.reduceEqDiff, Nat.reduceAdd, Nat.reduceLeDiff, Nat.reduceMul, Int.reduceEq, Int.reduceLT, Int.reduceLE, Int.reduceAdd, Int.reduceSub, Int.reduceMul, Int.reduceNeg, Int.reduceToNat, Int.reduceNe, Int.reduceBEq, Int.reduceBNe, Nat.reduceLT, Nat.reduceSub, Nat.reduceDiv, Nat.reduceMod, Int.reduceTDiv, Int.reduceTMod, u1, u2, n1, n2, d1, d2, e1]
      rw [LC_loop]
      simp (config := {contextual := true, maxSteps := 10000000, implicitDefEqProofs := false}) only [x32_l0_run, go_sem, ↓reduceIte, reduceCtorEq, Nat.reduceEqDiff, Nat.reduceAdd, Nat.reduceLeDiff, Nat.reduceMul, Int.reduceEq, Int.reduceLT, Int.reduceLE, Int.reduceAdd, Int.reduceSub, Int.reduceMul, Int.reduceNeg, Int.reduceToNat, Int.reduceNe, Int.reduceBEq, Int.reduceBNe, Nat.reduceLT, Nat.reduceSub, Nat.reduceDiv, Nat.reduceMod, Int.reduceTDiv, Int.reduceTMod, u1, n1, d1, Int.lt_irrefl, eqVss]
      try simp [eqVss]
    · have hx' : x = .lst .none 10 es := hx.resolve_left (fun h => he h.2)
      have hy' : y = .lst .none 10 fs := hy.resolve_left (fun h => he (List.eq_nil_of_length_eq_zero (by rw [hl, h.2]; rfl)))
      simp (config := {contextual := true, maxSteps := 10000000, implicitDefEqProofs := false}) only [x32, go_sem, ↓reduceIte, reduceCtorEq, Nat.reduceEqDiff, Nat.reduceAdd, Nat.reduceLeDiff, Nat.reduceMul, Int.reduceEq, Int.reduceLT, Int.reduceLE, Int.reduceAdd, Int.reduceSub, Int.reduceMul, Int.reduceNeg, Int.reduceToNat, Int.reduceNe, Int.reduceBEq, Int.reduceBNe, Nat.reduceLT, Nat.reduceSub, Nat.reduceDiv, Nat.reduceMod, Int.reduceTDiv, Int.reduceTMod, u1, u2, n1, n2, d1, d2, e1]
      refine elimL (fun r => finK _ (seqK (blockK 0 r) _) = _) (l_rsa es fs hl hm x y hx' hy' ih hz hz2 ([] :: hp) es.length 0 (by omega) _ ?_ ?_ ?_) ?_
      all_goals try simp only [go_sem, ↓reduceIte, reduceCtorEq, Nat.reduceEqDiff, Nat.reduceAdd, Nat.reduceLeDiff, Nat.reduceMul, Int.reduceEq, Int.reduceLT, Int.reduceLE, Int.reduceAdd, Int.reduceSub, Int.reduceMul, Int.reduceNeg, Int.reduceToNat, Int.reduceNe, Int.reduceBEq, Int.reduceBNe, Nat.reduceLT, Nat.reduceSub, Nat.reduceDiv, Nat.reduceMod, Int.reduceTDiv, Int.reduceTMod]
      · rfl
      · rintro r (⟨hR, fr', rfl⟩ | ⟨hR, fr', rfl, g4⟩)
        · simp (config := {contextual := true, maxSteps := 10000000, implicitDefEqProofs := false}) only [go_sem, ↓reduceIte, reduceCtorEq, Nat.reduceEqDiff, Nat.reduceAdd, Nat.reduceLeDiff, Nat.reduceMul, Int.reduceEq, Int.reduceLT, Int.reduceLE, Int.reduceAdd, Int.reduceSub, Int.reduceMul, Int.reduceNeg, Int.reduceToNat, Int.reduceNe, Int.reduceBEq, Int.reduceBNe, Nat.reduceLT, Nat.reduceSub, Nat.reduceDiv, Nat.reduceMod, Int.reduceTDiv, Int.reduceTMod, hR]
        · simp (config := {contextual := true, maxSteps := 10000000, implicitDefEqProofs := false}) only [go_sem, ↓reduceIte, reduceCtorEq, Nat.reduceEqDiff, Nat.reduceAdd, Nat.reduceLeDiff, Nat.reduceMul, Int.reduceEq, Int.reduceLT, Int.reduceLE, Int.reduceAdd, Int.reduceSub, Int.reduceMul, Int.reduceNeg, Int.reduceToNat, Int.reduceNe, Int.reduceBEq, Int.reduceBNe, Nat.reduceLT, Nat.reduceSub, Nat.reduceDiv, Nat.reduceMod, Int.reduceTDiv, Int.reduceTMod, hR, g4]
  · have e1 : ((es.length : Int) = (fs.length : Int)) = False := by simp; omega
    have e2 := eqVss_len es fs hl
    simp (config := {contextual := true, maxSteps := 10000000, implicitDefEqProofs := false}) only [x32, go_sem, ↓reduceIte, reduceCtorEq, Nat.reduceEqDiff, Nat.reduceAdd, Nat.reduceLeDiff, Nat.reduceMul, Int.reduceEq, Int.reduceLT, Int.reduceLE, Int.reduceAdd, Int.reduceSub, Int.reduceMul, Int.reduceNeg, Int.reduceToNat, Int.reduceNe, Int.reduceBEq, Int.reduceBNe, Nat.reduceLT, Nat.reduceSub, Nat.reduceDiv, Nat.reduceMod, Int.reduceTDiv, Int.reduceTMod, u1, u2, n1, n2, d1, d2, e1, e2]
end Go.Proofs.Ytnmaahfipddkmaa.Sx.T
namespace Go.Proofs.Ytnmaahfipddkmaa.Sx.T
open Go Go.Proofs.Ytnmaahfipddkmaa.Sx
set_option maxRecDepth 100000
set_option maxHeartbeats 8000000
theorem l_rsn (ws us : List (List UInt8)) (hl : ws.length = us.length) (hm : ws.length ≤ 9223372036854775807) (x y : AV) (hx : x = .lst .none 1 (tx ws)) (hy : y = .lst .none 1 (tx us)) (hp : Heap) :
    ∀ (m i : Nat) (_ : i + m = ws.length) (fr : List AV), fget fr 0 = x → fget fr 1 = y → fget fr 5 = .int .i64 (i : Nat) →
    OEs (eqVss ((tx ws).drop i) ((tx us).drop i)) hp (LC X (fun _ => []) (.loop x29_l0) ⟨fr, hp⟩) := by
  subst hx hy
  have l1 : (tx ws).length = ws.length := by simp [tx]
  have l2 : (tx us).length = us.length := by simp [tx]
  intro m
  induction m with
  | zero =>
    intro i hi fr h0 h1 h5
    rw [LC_loop]
    have hc : ((i : Int) < (ws.length : Int)) = False := by simp; omega
    simp (config := {contextual := true, maxSteps := 10000000, implicitDefEqProofs := false}) only [x29_l0_run, go_sem, ↓reduceIte, reduceCtorEq, Nat.reduceEqDiff, Nat.reduceAdd, Nat.reduceLeDiff, Nat.reduceMul, Int.reduceEq, Int.reduceLT, Int.reduceLE, Int.reduceAdd, Int.reduceSub, Int.reduceMul, Int.reduceNeg, Int.reduceToNat, Int.reduceNe, Int.reduceBEq, Int.reduceBNe, Nat.reduceLT, Nat.reduceSub, Nat.reduceDiv, Nat.reduceMod, Int.reduceTDiv, Int.reduceTMod, h0, h5, l1, hc]
    refine .inl ⟨?_, _, rfl⟩
    rw [List.drop_of_length_le (by omega), List.drop_of_length_le (by omega)]
    simp [eqVss]
  | succ m ihm =>
    intro i hi fr h0 h1 h5
    rw [LC_loop]
    have hc : ((i : Int) < (ws.length : Int)) = True := by simp; omega
    have k1 : (i < (tx ws).length) = True := by simp; omega
    have kw : (i < ws.length) = True := by simp; omega
    have k2 : (i < (tx us).length) = True := by simp; omega
    have wi : wr .i64 ((i : Int) + 1) = ((i + 1 : Nat) : Int) := by rw [wr_i64 _ (by omega)]; omega
    have hd := eqVss_drop (tx ws) (tx us) i (by omega) (by omega)
    have g1 : (tx ws).getD i [] = [.str (ws.getD i [])] := by simp [tx, List.getD, show i < ws.length by omega]
    have g2 : (tx us).getD i [] = [.str (us.getD i [])] := by simp [tx, List.getD, show i < us.length by omega]
    obtain ⟨a, ha⟩ : ∃ a, ws.getD i [] = a := ⟨_, rfl⟩
    obtain ⟨b, hb⟩ : ∃ b, us.getD i [] = b := ⟨_, rfl⟩
    rw [ha] at g1
    rw [hb] at g2
    rw [hd, g1, g2]
    by_cases e : a = b
    · have e1 : (a = b) = True := by simp [e]
      have e2 : eqVs [.str a] [.str b] = true := by simp [eqVs, eqV, e]
      rw [e2, Bool.true_and]
      simp (config := {contextual := true, maxSteps := 10000000, implicitDefEqProofs := false}) only [x29_l0_run, go_sem, ↓reduceIte, reduceCtorEq, Nat.reduceEqDiff, Nat.reduceAdd, Nat.reduceLeDiff, Nat.reduceMul, Int.reduceEq, Int.reduceLT, Int.reduceLE, Int.reduceAdd, Int.reduceSub, Int.reduceMul, Int.reduceNeg, Int.reduceToNat, Int.reduceNe, Int.reduceBEq, Int.reduceBNe, Nat.reduceLT, Nat.reduceSub, Nat.reduceDiv, Nat.reduceMod, Int.reduceTDiv, Int.reduceTMod, h0, h1, h5, l1, hc, kw, k1, k2, g1, g2, wi, e1]
      refine ihm (i + 1) (by omega) _ ?_ ?_ ?_ <;> simp only [go_sem, ↓reduceIte, reduceCtorEq, Nat.reduceEqDiff, Nat.reduceAdd, Nat.reduceLeDiff, Nat.reduceMul, Int.reduceEq, Int.reduceLT, Int.reduceLE, Int.reduceAdd, Int.reduceSub, Int.reduceMul, Int.reduceNeg, Int.reduceToNat, Int.reduceNe, Int.reduceBEq, Int.reduceBNe, Nat.reduceLT, Nat.reduceSub, Nat.reduceDiv, Nat.reduceMod, Int.reduceTDiv, Int.reduceTMod, h0, h1, h5]
    · have e1 : (a = b) = False := by simp [e]
      have e2 : eqVs [.str a] [.str b] = false := by simp [eqVs, eqV, e]
      rw [e2, Bool.false_and]
      simp (config := {contextual := true, maxSteps := 10000000, implicitDefEqProofs := false}) only [x29_l0_run, go_sem, ↓reduceIte, reduceCtorEq, Nat.reduceEqDiff, Nat.reduceAdd, Nat.reduceLeDiff, Nat.reduceMul, Int.reduceEq, Int.reduceLT, Int.reduceLE, Int.reduceAdd, Int.reduceSub, Int.reduceMul, Int.reduceNeg, Int.reduceToNat, Int.reduceNe, Int.reduceBEq, Int.reduceBNe, Nat.reduceLT, Nat.reduceSub, Nat.reduceDiv, Nat.reduceMod, Int.reduceTDiv, Int.reduceTMod, h0, h1, h5, l1, hc, kw, k1, k2, g1, g2, wi, e1]
      exact .inr ⟨rfl, _, rfl, by simp only [go_sem, ↓reduceIte, reduceCtorEq, Nat.reduceEqDiff, Nat.reduceAdd, Nat.reduceLeDiff, Nat.reduceMul, Int.reduceEq, Int.reduceLT, Int.reduceLE, Int.reduceAdd, Int.reduceSub, Int.reduceMul, Int.reduceNeg, Int.reduceToNat, Int.reduceNe, Int.reduceBEq, Int.reduceBNe, Nat.reduceLT, Nat.reduceSub, Nat.reduceDiv, Nat.reduceMod, Int.reduceTDiv, Int.reduceTMod]⟩
theorem v_rsn (ws us : List (List UInt8)) (x y : AV) (hx : Sl 1 x (tx ws)) (hy : Sl 1 y (tx us)) (hm : ws.length ≤ 9223372036854775807) (hp : Heap) :
    CL X (fun _ => []) 29 [x, y] hp = some (.bool (eqVss (tx ws) (tx us)), hp) := by
  obtain ⟨_, u1, n1, d1, f1⟩ := hx.one
  obtain ⟨_, u2, n2, d2, f2⟩ := hy.one
  have l1 : (tx ws).length = ws.length := by simp [tx]
  have l2 : (tx us).length = us.length := by simp [tx]
  rw [l1] at n1
  rw [l2] at n2
  rw [CL_eq (fn := x29) rfl]
  by_cases hl : ws.length = us.length
  · have e1 : ((ws.length : Int) = (us.length : Int)) = True := by simp [hl]
    by_cases he : ws = []
    · subst he
      have hf : us = [] := List.eq_nil_of_length_eq_zero (by simpa using hl.symm)
      subst hf
      simp (config := {contextual := true, maxSteps := 10000000, implicitDefEqProofs := false}) only [x29, go_sem, ↓reduceIte, reduceCtorEq, Nat.reduceEqDiff, Nat.reduceAdd, Nat.reduceLeDiff, Nat.reduceMul, Int.reduceEq, Int.reduceLT, Int.reduceLE, Int.reduceAdd, Int.reduceSub, Int.reduceMul, Int.reduceNeg, Int.reduceToNat, Int.reduceNe, Int.reduceBEq, Int.reduceBNe, Nat.reduceLT, Nat.reduceSub, Nat.reduceDiv, Nat.reduceMod, Int.reduceTDiv, Int.reduceTMod, u1, u2, n1, n2, d1, d2, e1]
      rw [LC_loop]
      simp (config := {contextual := true, maxSteps := 10000000, implicitDefEqProofs := false}) only [x29_l0_run, go_sem, ↓reduceIte, reduceCtorEq, Nat.reduceEqDiff, Nat.reduceAdd, Nat.reduceLeDiff, Nat.reduceMul, Int.reduceEq, Int.reduceLT, Int.reduceLE, Int.reduceAdd, Int.reduceSub, Int.reduceMul, Int.reduceNeg, Int.reduceToNat, Int.reduceNe, Int.reduceBEq, Int.reduceBNe, Nat.reduceLT, Nat.reduceSub, Nat.reduceDiv, Nat.reduceMod, Int.reduceTDiv, Int.reduceTMod, u1, n1, d1, Int.lt_irrefl]
      try simp [tx, eqVss]
    · have hx' : x = .lst .none 1 (tx ws) := hx.resolve_left (fun h => he (by have := h.2; simpa [tx] using this))
      have hy' : y = .lst .none 1 (tx us) := hy.resolve_left (fun h => he (by have h3 : us = [] := by simpa [tx] using h.2
                                                                              rw [h3] at hl; exact List.eq_nil_of_length_eq_zero hl))
      simp (config := {contextual := true, maxSteps := 10000000, implicitDefEqProofs := false}) only [x29, go_sem, ↓reduceIte, reduceCtorEq, Nat.reduceEqDiff, Nat.reduceAdd, Nat.reduceLeDiff, Nat.reduceMul, Int.reduceEq, Int.reduceLT, Int.reduceLE, Int.reduceAdd, Int.reduceSub, Int.reduceMul, Int.reduceNeg, Int.reduceToNat, Int.reduceNe, Int.reduceBEq, Int.reduceBNe, Nat.reduceLT, Nat.reduceSub, Nat.reduceDiv, Nat.reduceMod, Int.reduceTDiv, Int.reduceTMod, u1, u2, n1, n2, d1, d2, e1]
      refine elimL (fun r => finK _ (seqK (blockK 0 r) _) = _) (l_rsn ws us hl hm x y hx' hy' ([] :: hp) ws.length 0 (by omega) _ ?_ ?_ ?_) ?_
      all_goals try simp only [go_sem, ↓reduceIte, reduceCtorEq, Nat.reduceEqDiff, Nat.reduceAdd, Nat.reduceLeDiff, Nat.reduceMul, Int.reduceEq, Int.reduceLT, Int.reduceLE, Int.reduceAdd, Int.reduceSub, Int.reduceMul, Int.reduceNeg, Int.reduceToNat, Int.reduceNe, Int.reduceBEq, Int.reduceBNe, Nat.reduceLT, Nat.reduceSub, Nat.reduceDiv, Nat.reduceMod, Int.reduceTDiv, Int.reduceTMod]
      · rfl
      · rintro r (⟨hR, fr', rfl⟩ | ⟨hR, fr', rfl, g4⟩)
        · simp (config := {contextual := true, maxSteps := 10000000, implicitDefEqProofs := false}) only [go_sem, ↓reduceIte, reduceCtorEq, Nat.reduceEqDiff, Nat.reduceAdd, Nat.reduceLeDiff, Nat.reduceMul, Int.reduceEq, Int.reduceLT, Int.reduceLE, Int.reduceAdd, Int.reduceSub, Int.reduceMul, Int.reduceNeg, Int.reduceToNat, Int.reduceNe, Int.reduceBEq, Int.reduceBNe, Nat.reduceLT, Nat.reduceSub, Nat.reduceDiv, Nat.reduceMod, Int.reduceTDiv, Int.reduceTMod, hR]
        · simp (config := {contextual := true, maxSteps := 10000000, implicitDefEqProofs := false}) only [go_sem, ↓reduceIte, reduceCtorEq, Nat.reduceEqDiff, Nat.reduceAdd, Nat.reduceLeDiff, Nat.reduceMul, Int.reduceEq, Int.reduceLT, Int.reduceLE, Int.reduceAdd, Int.reduceSub, Int.reduceMul, Int.reduceNeg, Int.reduceToNat, Int.reduceNe, Int.reduceBEq, Int.reduceBNe, Nat.reduceLT, Nat.reduceSub, Nat.reduceDiv, Nat.reduceMod, Int.reduceTDiv, Int.reduceTMod, hR, g4]
  · have e1 : ((ws.length : Int) = (us.length : Int)) = False := by simp; omega
    have e2 := eqVss_len (tx ws) (tx us) (by rw [l1, l2]; exact hl)
    simp (config := {contextual := true, maxSteps := 10000000, implicitDefEqProofs := false}) only [x29, go_sem, ↓reduceIte, reduceCtorEq, Nat.reduceEqDiff, Nat.reduceAdd, Nat.reduceLeDiff, Nat.reduceMul, Int.reduceEq, Int.reduceLT, Int.reduceLE, Int.reduceAdd, Int.reduceSub, Int.reduceMul, Int.reduceNeg, Int.reduceToNat, Int.reduceNe, Int.reduceBEq, Int.reduceBNe, Nat.reduceLT, Nat.reduceSub, Nat.reduceDiv, Nat.reduceMod, Int.reduceTDiv, Int.reduceTMod, u1, u2, n1, n2, d1, d2, e1, e2]
theorem TmP.free {e : List AV} (h : TmP e) : (e.length = 7 ∧ e.all plain1 = true ∧ e.map uf = e) ∧ refFreeL e = true := by
  refine ⟨h.flat, ?_⟩
  cases h with
  | mk k n vk vn vd vs s es hs h hl =>
    have r := hs.one.2.2.2.2
    simp only [refFreeL, r, Bool.and_true]
    rfl
theorem FxP.free {b : Bool} {e : List AV} (h : FxP b e) : (e.length = (if b then 10 else 3) ∧ e.all plain1 = true ∧ e.map uf = e) ∧ refFreeL e = true := by
  refine ⟨h.flat, ?_⟩
  cases h with
  | fm k n op vs ws ts tes lo hi o ss ses rs res hv ht hte hs hse hr hre =>
    have r1 := hv.one.2.2.2.2
    have r2 := ht.one.2.2.2.2
    have r3 := hs.one.2.2.2.2
    have r4 := hr.one.2.2.2.2
    simp only [refFreeL, r1, r2, r3, r4, Bool.and_true]
    rfl
  | rx k ts tes ss ses ht hte hs hse =>
    have r1 := ht.one.2.2.2.2
    have r2 := hs.one.2.2.2.2
    simp only [refFreeL, r1, r2, Bool.and_true]
    rfl
theorem w_rvsame (k n d : Int) (s : List UInt8) (k' n' d' : Int) (s' : List UInt8) (hp : Heap) : CL X (fun _ => []) 67 [.agg [.int .i64 k, .int .i64 n, .int .i64 d, .str s], .agg [.int .i64 k', .int .i64 n', .int .i64 d', .str s']] hp =
    some (.bool (k == k' && n == n' && d == d' && s == s'), hp) := by
  rw [CL_eq (fn := x67) rfl]
  simp (config := {contextual := true, maxSteps := 10000000, implicitDefEqProofs := false}) only [x67, go_sem, ↓reduceIte, reduceCtorEq, Nat.reduceEqDiff, Nat.reduceAdd, Nat.reduceLeDiff, Nat.reduceMul, Int.reduceEq, Int.reduceLT, Int.reduceLE, Int.reduceAdd, Int.reduceSub, Int.reduceMul, Int.reduceNeg, Int.reduceToNat, Int.reduceNe, Int.reduceBEq, Int.reduceBNe, Nat.reduceLT, Nat.reduceSub, Nat.reduceDiv, Nat.reduceMod, Int.reduceTDiv, Int.reduceTMod]
  congr 3
  rw [Bool.eq_iff_iff]
  simp [and_assoc]
theorem v_rSameTerm (a : List AV) (ha : TmP a) : ∀ (b : List AV), TmP b → ∀ hp, CL X (fun _ => []) 50 [.agg a, .agg b] hp = some (.bool (eqVs a b), hp) := by
  induction ha with
  | mk k n vk vn vd vs s es hs h hl ih =>
    intro b hb hp
    cases hb with
    | mk k' n' vk' vn' vd' vs' s' fs hs' h' hl' =>
      have he := fun hp => v_rst es fs s s' hs hs' hl (fun e he f hf hp => ih e he f (h' f hf) hp) (fun e he => (h e he).free) (fun e he => (h' e he).free) hp
      rw [← hs.eq hs'] at he
      have hv := fun hp => w_rvsame vk vn vd vs vk' vn' vd' vs' hp
      obtain ⟨p1, u1, n1, d1, f1⟩ := hs.one
      obtain ⟨p2, u2, n2, d2, f2⟩ := hs'.one
      obtain ⟨R, hR⟩ : ∃ R, eqV s s' = R := ⟨_, rfl⟩
      obtain ⟨V, hV⟩ : ∃ V, (vk == vk' && vn == vn' && vd == vd' && vs == vs') = V := ⟨_, rfl⟩
      simp only [hR] at he
      simp only [hV] at hv
      have hg : eqVs [.int .i64 k, .str n, .int .i64 vk, .int .i64 vn, .int .i64 vd, .str vs, s] [.int .i64 k', .str n', .int .i64 vk', .int .i64 vn', .int .i64 vd', .str vs', s'] = (k == k' && (n == n' && (V && R))) := by
        simp only [eqVs, eqV, hR, ← hV, Bool.and_true, Bool.and_assoc]
      rw [hg]
      clear hg
      rw [CL_eq (fn := x50) rfl]
      by_cases c1 : k = k'
      · subst c1
        by_cases c2 : n = n'
        · subst c2
          cases V <;> cases R
          all_goals simp (config := {contextual := true, maxSteps := 10000000, implicitDefEqProofs := false}) only [x50, go_sem, ↓reduceIte, reduceCtorEq, Nat.reduceEqDiff, Nat.reduceAdd, Nat.reduceLeDiff, Nat.reduceMul, Int.reduceEq, Int.reduceLT, Int.reduceLE, Int.reduceAdd, Int.reduceSub, Int.reduceMul, Int.reduceNeg, Int.reduceToNat, Int.reduceNe, Int.reduceBEq, Int.reduceBNe, Nat.reduceLT, Nat.reduceSub, Nat.reduceDiv, Nat.reduceMod, Int.reduceTDiv, Int.reduceTMod, hv, u1, u2, d1, d2, f1, f2, p1, p2, he, Bool.false_and, Bool.and_false, Bool.true_and]
        · have c2' : (n == n') = false := by simp [c2]
          cases V
          all_goals simp (config := {contextual := true, maxSteps := 10000000, implicitDefEqProofs := false}) only [x50, go_sem, ↓reduceIte, reduceCtorEq, Nat.reduceEqDiff, Nat.reduceAdd, Nat.reduceLeDiff, Nat.reduceMul, Int.reduceEq, Int.reduceLT, Int.reduceLE, Int.reduceAdd, Int.reduceSub, Int.reduceMul, Int.reduceNeg, Int.reduceToNat, Int.reduceNe, Int.reduceBEq, Int.reduceBNe, Nat.reduceLT, Nat.reduceSub, Nat.reduceDiv, Nat.reduceMod, Int.reduceTDiv, Int.reduceTMod, c2, c2', hv, u1, u2, d1, d2, f1, f2, p1, p2, he, Bool.false_and, Bool.and_false]
      · have c1' : (k == k') = false := by simp [c1]
        cases V
        all_goals simp (config := {contextual := true, maxSteps := 10000000, implicitDefEqProofs := false}) only [x50, go_sem, ↓reduceIte, reduceCtorEq, Nat.reduceEqDiff, Nat.reduceAdd, Nat.reduceLeDiff, Nat.reduceMul, Int.reduceEq, Int.reduceLT, Int.reduceLE, Int.reduceAdd, Int.reduceSub, Int.reduceMul, Int.reduceNeg, Int.reduceToNat, Int.reduceNe, Int.reduceBEq, Int.reduceBNe, Nat.reduceLT, Nat.reduceSub, Nat.reduceDiv, Nat.reduceMod, Int.reduceTDiv, Int.reduceTMod, c1, c1', hv, u1, u2, d1, d2, f1, f2, p1, p2, he, Bool.false_and]
end Go.Proofs.Ytnmaahfipddkmaa.Sx.T
namespace Go.Proofs.Ytnmaahfipddkmaa.Sx.T
open Go Go.Proofs.Ytnmaahfipddkmaa.Sx
set_option maxRecDepth 100000
set_option maxHeartbeats 8000000
/-- Two regexes whose parts are told apart. -/
def RxI (e f : List AV) : Prop := ∃ k ts ss k' ts' ss' tes tes' ses ses', e = [.int .i64 k, ts, ss] ∧ f = [.int .i64 k', ts', ss'] ∧ Sl 10 ts tes ∧ Sl 10 ts' tes' ∧ Sl 3 ss ses ∧ Sl 3 ss' ses' ∧
  (∀ hp, CL X (fun _ => []) 32 [ts, ts'] hp = some (.bool (eqV ts ts'), hp)) ∧ (∀ hp, CL X (fun _ => []) 31 [ss, ss'] hp = some (.bool (eqV ss ss'), hp))
theorem l_rsr (es fs : List (List AV)) (hl : es.length = fs.length) (hm : es.length ≤ 9223372036854775807) (x y : AV) (hx : x = .lst .none 3 es) (hy : y = .lst .none 3 fs) (ih : ∀ e ∈ es, ∀ f ∈ fs, RxI e f) (hp : Heap) :
    ∀ (m i : Nat) (_ : i + m = es.length) (fr : List AV), fget fr 0 = x → fget fr 1 = y → fget fr 5 = .int .i64 (i : Nat) →
    OEs (eqVss (es.drop i) (fs.drop i)) hp (LC X (fun _ => []) (.loop x31_l0) ⟨fr, hp⟩) := by
  subst hx hy
  intro m
  induction m with
  | zero =>
    intro i hi fr h0 h1 h5
    rw [LC_loop]
    have hc : ((i : Int) < (es.length : Int)) = False := by simp; omega
    simp (config := {contextual := true, maxSteps := 10000000, implicitDefEqProofs := false}) only [x31_l0_run, go_sem, ↓reduceIte, reduceCtorEq, Nat.reduceEqDiff, Nat.reduceAdd, Nat.reduceLeDiff, Nat.reduceMul, Int.reduceEq, Int.reduceLT, Int.reduceLE, Int.reduceAdd, Int.reduceSub, Int.reduceMul, Int.reduceNeg, Int.reduceToNat, Int.reduceNe, Int.reduceBEq, Int.reduceBNe, Nat.reduceLT, Nat.reduceSub, Nat.reduceDiv, Nat.reduceMod, Int.reduceTDiv, Int.reduceTMod, h0, h5, hc]
    refine .inl ⟨?_, _, rfl⟩
    rw [List.drop_of_length_le (by omega), List.drop_of_length_le (by omega)]
    simp [eqVss]
  | succ m ihm =>
    intro i hi fr h0 h1 h5
    rw [LC_loop]
    have hc : ((i : Int) < (es.length : Int)) = True := by simp; omega
    have k1 : (i < es.length) = True := by simp; omega
    have k2 : (i < fs.length) = True := by simp; omega
    have wi : wr .i64 ((i : Int) + 1) = ((i + 1 : Nat) : Int) := by rw [wr_i64 _ (by omega)]; omega
    have hd := eqVss_drop es fs i (by omega) (by omega)
    have m1 : es.getD i [] ∈ es := by simp [List.getD, show i < es.length by omega]
    have m2 : fs.getD i [] ∈ fs := by simp [List.getD, show i < fs.length by omega]
    obtain ⟨k, ts, ss, k', ts', ss', tes, tes', ses, ses', he, hf, s1, s2, s3, s4, q1, q2⟩ := ih _ m1 _ m2
    obtain ⟨p1, u1, _, d1, f1⟩ := s1.one
    obtain ⟨p2, u2, _, d2, f2⟩ := s2.one
    obtain ⟨p3, u3, _, d3, f3⟩ := s3.one
    obtain ⟨p4, u4, _, d4, f4⟩ := s4.one
    obtain ⟨A, hA⟩ : ∃ R, eqV ts ts' = R := ⟨_, rfl⟩
    obtain ⟨B, hB⟩ : ∃ R, eqV ss ss' = R := ⟨_, rfl⟩
    simp only [hA] at q1
    simp only [hB] at q2
    have hg : eqVs (es.getD i []) (fs.getD i []) = (k == k' && (A && B)) := by
      rw [he, hf]
      simp only [eqVs, eqV, hA, hB, Bool.and_true]
    rw [hd, hg]
    by_cases c : k = k'
    · subst c
      have kk : (k == k) = true := by simp
      rw [kk, Bool.true_and]
      cases A <;> cases B
      case true.true =>
        simp (config := {contextual := true, maxSteps := 10000000, implicitDefEqProofs := false}) only [x31_l0_run, go_sem, ↓reduceIte, reduceCtorEq, Nat.reduceEqDiff, Nat.reduceAdd, Nat.reduceLeDiff, Nat.reduceMul, Int.reduceEq, Int.reduceLT, Int.reduceLE, Int.reduceAdd, Int.reduceSub, Int.reduceMul, Int.reduceNeg, Int.reduceToNat, Int.reduceNe, Int.reduceBEq, Int.reduceBNe, Nat.reduceLT, Nat.reduceSub, Nat.reduceDiv, Nat.reduceMod, Int.reduceTDiv, Int.reduceTMod, h0, h1, h5, hc, k1, k2, he, hf, wi, u1, u2, u3, u4, d1, d2, d3, d4, f1, f2, f3, f4, q1, q2]
        refine ihm (i + 1) (by omega) _ ?_ ?_ ?_ <;> simp only [go_sem, ↓reduceIte, reduceCtorEq, Nat.reduceEqDiff, Nat.reduceAdd, Nat.reduceLeDiff, Nat.reduceMul, Int.reduceEq, Int.reduceLT, Int.reduceLE, Int.reduceAdd, Int.reduceSub, Int.reduceMul, Int.reduceNeg, Int.reduceToNat, Int.reduceNe, Int.reduceBEq, Int.reduceBNe, Nat.reduceLT, Nat.reduceSub, Nat.reduceDiv, Nat.reduceMod, Int.reduceTDiv, Int.reduceTMod, h0, h1, h5]
      all_goals
        simp (config := {contextual := true, maxSteps := 10000000, implicitDefEqProofs := false}) only [x31_l0_run, go_sem, ↓reduceIte, reduceCtorEq, Nat.reduceEqDiff, Nat.reduceAdd, Nat.reduceLeDiff, Nat.reduceMul, Int.reduceEq, Int.reduceLT, Int.reduceLE, Int.reduceAdd, Int.reduceSub, Int.reduceMul, Int.reduceNeg, Int.reduceToNat, Int.reduceNe, Int.reduceBEq, Int.reduceBNe, Nat.reduceLT, Nat.reduceSub, Nat.reduceDiv, Nat.reduceMod, Int.reduceTDiv, Int.reduceTMod, h0, h1, h5, hc, k1, k2, he, hf, wi, u1, u2, u3, u4, d1, d2, d3, d4, f1, f2, f3, f4, q1, q2]
        exact .inr ⟨rfl, _, rfl, by simp only [go_sem, ↓reduceIte, reduceCtorEq, Nat.reduceEqDiff, Nat.reduceAdd, Nat.reduceLeDiff, Nat.reduceMul, Int.reduceEq, Int.reduceLT, Int.reduceLE, Int.reduceAdd, Int.reduceSub, Int.reduceMul, Int.reduceNeg, Int.reduceToNat, Int.reduceNe, Int.reduceBEq, Int.reduceBNe, Nat.reduceLT, Nat.reduceSub, Nat.reduceDiv, Nat.reduceMod, Int.reduceTDiv, Int.reduceTMod]⟩
    · have c' : (k == k') = false := by simp [c]
      rw [c', Bool.false_and, Bool.false_and]
      cases A <;> cases B
      all_goals
        simp (config := {contextual := true, maxSteps := 10000000, implicitDefEqProofs := false}) only [x31_l0_run, go_sem, ↓reduceIte, reduceCtorEq, Nat.reduceEqDiff, Nat.reduceAdd, Nat.reduceLeDiff, Nat.reduceMul, Int.reduceEq, Int.reduceLT, Int.reduceLE, Int.reduceAdd, Int.reduceSub, Int.reduceMul, Int.reduceNeg, Int.reduceToNat, Int.reduceNe, Int.reduceBEq, Int.reduceBNe, Nat.reduceLT, Nat.reduceSub, Nat.reduceDiv, Nat.reduceMod, Int.reduceTDiv, Int.reduceTMod, h0, h1, h5, hc, k1, k2, he, hf, wi, c, u1, u2, u3, u4, d1, d2, d3, d4, f1, f2, f3, f4, q1, q2]
        exact .inr ⟨rfl, _, rfl, by simp only [go_sem, ↓reduceIte, reduceCtorEq, Nat.reduceEqDiff, Nat.reduceAdd, Nat.reduceLeDiff, Nat.reduceMul, Int.reduceEq, Int.reduceLT, Int.reduceLE, Int.reduceAdd, Int.reduceSub, Int.reduceMul, Int.reduceNeg, Int.reduceToNat, Int.reduceNe, Int.reduceBEq, Int.reduceBNe, Nat.reduceLT, Nat.reduceSub, Nat.reduceDiv, Nat.reduceMod, Int.reduceTDiv, Int.reduceTMod]⟩
theorem v_rsr (es fs : List (List AV)) (x y : AV) (hx : Sl 3 x es) (hy : Sl 3 y fs) (hm : es.length ≤ 9223372036854775807) (ih : ∀ e ∈ es, ∀ f ∈ fs, RxI e f) (hp : Heap) :
    CL X (fun _ => []) 31 [x, y] hp = some (.bool (eqVss es fs), hp) := by
  obtain ⟨_, u1, n1, d1, f1⟩ := hx.one
  obtain ⟨_, u2, n2, d2, f2⟩ := hy.one
  rw [CL_eq (fn := x31) rfl]
  by_cases hl : es.length = fs.length
  · have e1 : ((es.length : Int) = (fs.length : Int)) = True := by simp [hl]
    by_cases he : es = []
    · subst he
      have hf : fs = [] := List.eq_nil_of_length_eq_zero (by simpa using hl.symm)
      subst hf
      simp (config := {contextual := true, maxSteps := 10000000, implicitDefEqProofs := false}) only [x31, go_sem, ↓reduceIte, reduceCtorEq, Nat.reduceEqDiff, Nat.reduceAdd, Nat.reduceLeDiff, Nat.reduceMul, Int.reduceEq, Int.reduceLT, Int.reduceLE, Int.reduceAdd, Int.reduceSub, Int.reduceMul, Int.reduceNeg, Int.reduceToNat, Int.reduceNe, Int.reduceBEq, Int.reduceBNe, Nat.reduceLT, Nat.reduceSub, Nat.reduceDiv, Nat.reduceMod, Int.reduceTDiv, Int.reduceTMod, u1, u2, n1, n2, d1, d2, e1]
      rw [LC_loop]
      simp (config := {contextual := true, maxSteps := 10000000, implicitDefEqProofs := false}) only [x31_l0_run, go_sem, ↓reduceIte, reduceCtorEq, Nat.reduceEqDiff, Nat.reduceAdd, Nat.reduceLeDiff, Nat.reduceMul, Int.reduceEq, Int.reduceLT, Int.reduceLE, Int.reduceAdd, Int.reduceSub, Int.reduceMul, Int.reduceNeg, Int.reduceToNat, Int.reduceNe, Int.reduceBEq, Int.reduceBNe, Nat.reduceLT, Nat.reduceSub, Nat.reduceDiv, Nat.reduceMod, Int.reduceTDiv, Int.reduceTMod, u1, n1, d1, Int.lt_irrefl, eqVss]
      try simp [eqVss]
    · have hx' : x = .lst .none 3 es := hx.resolve_left (fun h => he h.2)
      have hy' : y = .lst .none 3 fs := hy.resolve_left (fun h => he (List.eq_nil_of_length_eq_zero (by rw [hl, h.2]; rfl)))
      simp (config := {contextual := true, maxSteps := 10000000, implicitDefEqProofs := false}) only [x31, go_sem, ↓reduceIte, reduceCtorEq, Nat.reduceEqDiff, Nat.reduceAdd, Nat.reduceLeDiff, Nat.reduceMul, Int.reduceEq, Int.reduceLT, Int.reduceLE, Int.reduceAdd, Int.reduceSub, Int.reduceMul, Int.reduceNeg, Int.reduceToNat, Int.reduceNe, Int.reduceBEq, Int.reduceBNe, Nat.reduceLT, Nat.reduceSub, Nat.reduceDiv, Nat.reduceMod, Int.reduceTDiv, Int.reduceTMod, u1, u2, n1, n2, d1, d2, e1]
      refine elimL (fun r => finK _ (seqK (blockK 0 r) _) = _) (l_rsr es fs hl hm x y hx' hy' ih ([] :: hp) es.length 0 (by omega) _ ?_ ?_ ?_) ?_
      all_goals try simp only [go_sem, ↓reduceIte, reduceCtorEq, Nat.reduceEqDiff, Nat.reduceAdd, Nat.reduceLeDiff, Nat.reduceMul, Int.reduceEq, Int.reduceLT, Int.reduceLE, Int.reduceAdd, Int.reduceSub, Int.reduceMul, Int.reduceNeg, Int.reduceToNat, Int.reduceNe, Int.reduceBEq, Int.reduceBNe, Nat.reduceLT, Nat.reduceSub, Nat.reduceDiv, Nat.reduceMod, Int.reduceTDiv, Int.reduceTMod]
      · rfl
      · rintro r (⟨hR, fr', rfl⟩ | ⟨hR, fr', rfl, g4⟩)
        · simp (config := {contextual := true, maxSteps := 10000000, implicitDefEqProofs := false}) only [go_sem, ↓reduceIte, reduceCtorEq, Nat.reduceEqDiff, Nat.reduceAdd, Nat.reduceLeDiff, Nat.reduceMul, Int.reduceEq, Int.reduceLT, Int.reduceLE, Int.reduceAdd, Int.reduceSub, Int.reduceMul, Int.reduceNeg, Int.reduceToNat, Int.reduceNe, Int.reduceBEq, Int.reduceBNe, Nat.reduceLT, Nat.reduceSub, Nat.reduceDiv, Nat.reduceMod, Int.reduceTDiv, Int.reduceTMod, hR]
        · simp (config := {contextual := true, maxSteps := 10000000, implicitDefEqProofs := false}) only [go_sem, ↓reduceIte, reduceCtorEq, Nat.reduceEqDiff, Nat.reduceAdd, Nat.reduceLeDiff, Nat.reduceMul, Int.reduceEq, Int.reduceLT, Int.reduceLE, Int.reduceAdd, Int.reduceSub, Int.reduceMul, Int.reduceNeg, Int.reduceToNat, Int.reduceNe, Int.reduceBEq, Int.reduceBNe, Nat.reduceLT, Nat.reduceSub, Nat.reduceDiv, Nat.reduceMod, Int.reduceTDiv, Int.reduceTMod, hR, g4]
  · have e1 : ((es.length : Int) = (fs.length : Int)) = False := by simp; omega
    have e2 := eqVss_len es fs hl
    simp (config := {contextual := true, maxSteps := 10000000, implicitDefEqProofs := false}) only [x31, go_sem, ↓reduceIte, reduceCtorEq, Nat.reduceEqDiff, Nat.reduceAdd, Nat.reduceLeDiff, Nat.reduceMul, Int.reduceEq, Int.reduceLT, Int.reduceLE, Int.reduceAdd, Int.reduceSub, Int.reduceMul, Int.reduceNeg, Int.reduceToNat, Int.reduceNe, Int.reduceBEq, Int.reduceBNe, Nat.reduceLT, Nat.reduceSub, Nat.reduceDiv, Nat.reduceMod, Int.reduceTDiv, Int.reduceTMod, u1, u2, n1, n2, d1, d2, e1, e2]
end Go.Proofs.Ytnmaahfipddkmaa.Sx.T
namespace Go.Proofs.Ytnmaahfipddkmaa.Sx.T
open Go Go.Proofs.Ytnmaahfipddkmaa.Sx
set_option maxRecDepth 100000
set_option maxHeartbeats 8000000
theorem v_rfx {b : Bool} {a : List AV} (ha : FxP b a) : (b = true → ∀ c, FxP true c → ∀ hp, CL X (fun _ => []) 12 [.agg a, .agg c] hp = some (.bool (eqVs a c), hp)) ∧
    (b = false → ∀ c, FxP false c → RxI a c) := by
  induction ha with
  | rx k ts tes ss ses ht hte hs hse l1 l2 ihte ihse =>
    refine ⟨fun h => (by cases h), fun _ c hc => ?_⟩
    cases hc with
    | rx k' ts' tes' ss' ses' ht' hte' hs' hse' l1' l2' =>
      refine ⟨k, ts, ss, k', ts', ss', tes, tes', ses, ses', rfl, rfl, ht, ht', hs, hs', fun hp => ?_, fun hp => ?_⟩
      · rw [ht.eq ht']
        exact v_rsa tes tes' ts ts' ht ht' l1 (fun e he f hf hp => (ihte e he).1 rfl f (hte' f hf) hp) (fun e he => (hte e he).free) (fun e he => (hte' e he).free) hp
      · rw [hs.eq hs']
        exact v_rsr ses ses' ss ss' hs hs' l2 (fun e he f hf => (ihse e he).2 rfl f (hse' f hf)) hp
  | fm k n op vs ws ts tes lo hi o ss ses rs res hv ht hte hs hse hr hre l1 l2 l3 l4 ihse ihre =>
    refine ⟨fun _ c hc hp => ?_, fun h => by cases h⟩
    cases hc with
    | fm k' n' op' vs' ws' ts' tes' lo' hi' o' ss' ses' rs' res' hv' ht' hte' hs' hse' hr' hre' l1' l2' l3' l4' =>
      have e1 := fun hp => v_rsn ws ws' vs vs' hv hv' l1 hp
      have e2 := fun hp => v_rst tes tes' ts ts' ht ht' l2 (fun e he f hf hp => v_rSameTerm e (hte e he) f (hte' f hf) hp) (fun e he => (hte e he).free) (fun e he => (hte' e he).free) hp
      have e3 := fun hp => v_rsa ses ses' ss ss' hs hs' l3 (fun e he f hf hp => (ihse e he).1 rfl f (hse' f hf) hp) (fun e he => (hse e he).free) (fun e he => (hse' e he).free) hp
      have e4 := fun hp => v_rsr res res' rs rs' hr hr' l4 (fun e he f hf => (ihre e he).2 rfl f (hre' f hf)) hp
      rw [← hv.eq hv'] at e1
      rw [← ht.eq ht'] at e2
      rw [← hs.eq hs'] at e3
      rw [← hr.eq hr'] at e4
      obtain ⟨p1, u1, _, d1, f1⟩ := hv.one
      obtain ⟨p2, u2, _, d2, f2⟩ := hv'.one
      obtain ⟨p3, u3, _, d3, f3⟩ := ht.one
      obtain ⟨p4, u4, _, d4, f4⟩ := ht'.one
      obtain ⟨p5, u5, _, d5, f5⟩ := hs.one
      obtain ⟨p6, u6, _, d6, f6⟩ := hs'.one
      obtain ⟨p7, u7, _, d7, f7⟩ := hr.one
      obtain ⟨p8, u8, _, d8, f8⟩ := hr'.one
      obtain ⟨A, hA⟩ : ∃ R, eqV vs vs' = R := ⟨_, rfl⟩
      obtain ⟨B, hB⟩ : ∃ R, eqV ts ts' = R := ⟨_, rfl⟩
      obtain ⟨D, hD⟩ : ∃ R, eqV ss ss' = R := ⟨_, rfl⟩
      obtain ⟨E, hE⟩ : ∃ R, eqV rs rs' = R := ⟨_, rfl⟩
      simp only [hA] at e1
      simp only [hB] at e2
      simp only [hD] at e3
      simp only [hE] at e4
      have hg : eqVs [.int .i64 k, .str n, .int .i64 op, vs, ts, .int .i64 lo, .int .i64 hi, .bool o, ss, rs] [.int .i64 k', .str n', .int .i64 op', vs', ts', .int .i64 lo', .int .i64 hi', .bool o', ss', rs'] =
          (k == k' && (n == n' && (op == op' && (A && (B && (lo == lo' && (hi == hi' && (o == o' && (D && E))))))))) := by
        simp only [eqVs, eqV, hA, hB, hD, hE, Bool.and_true]
      rw [hg]
      clear hg
      rw [CL_eq (fn := x12) rfl]
      by_cases c1 : k = k'
      · subst c1
        by_cases c2 : n = n'
        · subst c2
          by_cases c3 : op = op'
          · subst c3
            by_cases c4 : lo = lo'
            · subst c4
              by_cases c5 : hi = hi'
              · subst c5
                by_cases c6 : o = o'
                · subst c6
                  cases A <;> cases B <;> cases E <;> cases D
                  all_goals simp (config := {contextual := true, maxSteps := 10000000, implicitDefEqProofs := false}) only [x12, go_sem, ↓reduceIte, reduceCtorEq, Nat.reduceEqDiff, Nat.reduceAdd, Nat.reduceLeDiff, Nat.reduceMul, Int.reduceEq, Int.reduceLT, Int.reduceLE, Int.reduceAdd, Int.reduceSub, Int.reduceMul, Int.reduceNeg, Int.reduceToNat, Int.reduceNe, Int.reduceBEq, Int.reduceBNe, Nat.reduceLT, Nat.reduceSub, Nat.reduceDiv, Nat.reduceMod, Int.reduceTDiv, Int.reduceTMod, u1, u2, u3, u4, u5, u6, u7, u8, d1, d2, d3, d4, d5, d6, d7, d8, f1, f2, f3, f4, f5, f6, f7, f8, p1, p2, p3, p4, p5, p6, p7, p8, e1, e2, e3, e4, o_callw, cwK_same, Bool.false_and, Bool.and_false, Bool.true_and, Bool.and_true]
                · have c6' : (o == o') = false := by simp [c6]
                  simp (config := {contextual := true, maxSteps := 10000000, implicitDefEqProofs := false}) only [x12, go_sem, ↓reduceIte, reduceCtorEq, Nat.reduceEqDiff, Nat.reduceAdd, Nat.reduceLeDiff, Nat.reduceMul, Int.reduceEq, Int.reduceLT, Int.reduceLE, Int.reduceAdd, Int.reduceSub, Int.reduceMul, Int.reduceNeg, Int.reduceToNat, Int.reduceNe, Int.reduceBEq, Int.reduceBNe, Nat.reduceLT, Nat.reduceSub, Nat.reduceDiv, Nat.reduceMod, Int.reduceTDiv, Int.reduceTMod, u1, u2, u3, u4, u5, u6, u7, u8, d1, d2, d3, d4, d5, d6, d7, d8, f1, f2, f3, f4, f5, f6, f7, f8, p1, p2, p3, p4, p5, p6, p7, p8, e1, e2, e3, e4, o_callw, cwK_same, Bool.false_and, Bool.and_false, Bool.true_and, Bool.and_true, c6, c6']
              · have c5' : (hi == hi') = false := by simp [c5]
                simp (config := {contextual := true, maxSteps := 10000000, implicitDefEqProofs := false}) only [x12, go_sem, ↓reduceIte, reduceCtorEq, Nat.reduceEqDiff, Nat.reduceAdd, Nat.reduceLeDiff, Nat.reduceMul, Int.reduceEq, Int.reduceLT, Int.reduceLE, Int.reduceAdd, Int.reduceSub, Int.reduceMul, Int.reduceNeg, Int.reduceToNat, Int.reduceNe, Int.reduceBEq, Int.reduceBNe, Nat.reduceLT, Nat.reduceSub, Nat.reduceDiv, Nat.reduceMod, Int.reduceTDiv, Int.reduceTMod, u1, u2, u3, u4, u5, u6, u7, u8, d1, d2, d3, d4, d5, d6, d7, d8, f1, f2, f3, f4, f5, f6, f7, f8, p1, p2, p3, p4, p5, p6, p7, p8, e1, e2, e3, e4, o_callw, cwK_same, Bool.false_and, Bool.and_false, Bool.true_and, Bool.and_true, c5, c5']
            · have c4' : (lo == lo') = false := by simp [c4]
              simp (config := {contextual := true, maxSteps := 10000000, implicitDefEqProofs := false}) only [x12, go_sem, ↓reduceIte, reduceCtorEq, Nat.reduceEqDiff, Nat.reduceAdd, Nat.reduceLeDiff, Nat.reduceMul, Int.reduceEq, Int.reduceLT, Int.reduceLE, Int.reduceAdd, Int.reduceSub, Int.reduceMul, Int.reduceNeg, Int.reduceToNat, Int.reduceNe, Int.reduceBEq, Int.reduceBNe, Nat.reduceLT, Nat.reduceSub, Nat.reduceDiv, Nat.reduceMod, Int.reduceTDiv, Int.reduceTMod, u1, u2, u3, u4, u5, u6, u7, u8, d1, d2, d3, d4, d5, d6, d7, d8, f1, f2, f3, f4, f5, f6, f7, f8, p1, p2, p3, p4, p5, p6, p7, p8, e1, e2, e3, e4, o_callw, cwK_same, Bool.false_and, Bool.and_false, Bool.true_and, Bool.and_true, c4, c4']
          · have c3' : (op == op') = false := by simp [c3]
            simp (config := {contextual := true, maxSteps := 10000000, implicitDefEqProofs := false}) only [x12, go_sem, ↓reduceIte, reduceCtorEq, Nat.reduceEqDiff, Nat.reduceAdd, Nat.reduceLeDiff, Nat.reduceMul, Int.reduceEq, Int.reduceLT, Int.reduceLE, Int.reduceAdd, Int.reduceSub, Int.reduceMul, Int.reduceNeg, Int.reduceToNat, Int.reduceNe, Int.reduceBEq, Int.reduceBNe, Nat.reduceLT, Nat.reduceSub, Nat.reduceDiv, Nat.reduceMod, Int.reduceTDiv, Int.reduceTMod, u1, u2, u3, u4, u5, u6, u7, u8, d1, d2, d3, d4, d5, d6, d7, d8, f1, f2, f3, f4, f5, f6, f7, f8, p1, p2, p3, p4, p5, p6, p7, p8, e1, e2, e3, e4, o_callw, cwK_same, Bool.false_and, Bool.and_false, Bool.true_and, Bool.and_true, c3, c3']
        · have c2' : (n == n') = false := by simp [c2]
          simp (config := {contextual := true, maxSteps := 10000000, implicitDefEqProofs := false}) only [x12, go_sem, ↓reduceIte, reduceCtorEq, Nat.reduceEqDiff, Nat.reduceAdd, Nat.reduceLeDiff, Nat.reduceMul, Int.reduceEq, Int.reduceLT, Int.reduceLE, Int.reduceAdd, Int.reduceSub, Int.reduceMul, Int.reduceNeg, Int.reduceToNat, Int.reduceNe, Int.reduceBEq, Int.reduceBNe, Nat.reduceLT, Nat.reduceSub, Nat.reduceDiv, Nat.reduceMod, Int.reduceTDiv, Int.reduceTMod, u1, u2, u3, u4, u5, u6, u7, u8, d1, d2, d3, d4, d5, d6, d7, d8, f1, f2, f3, f4, f5, f6, f7, f8, p1, p2, p3, p4, p5, p6, p7, p8, e1, e2, e3, e4, o_callw, cwK_same, Bool.false_and, Bool.and_false, Bool.true_and, Bool.and_true, c2, c2']
      · have c1' : (k == k') = false := by simp [c1]
        simp (config := {contextual := true, maxSteps := 10000000, implicitDefEqProofs := false}) only [x12, go_sem, ↓reduceIte, reduceCtorEq, Nat.reduceEqDiff, Nat.reduceAdd, Nat.reduceLeDiff, Nat.reduceMul, Int.reduceEq, Int.reduceLT, Int.reduceLE, Int.reduceAdd, Int.reduceSub, Int.reduceMul, Int.reduceNeg, Int.reduceToNat, Int.reduceNe, Int.reduceBEq, Int.reduceBNe, Nat.reduceLT, Nat.reduceSub, Nat.reduceDiv, Nat.reduceMod, Int.reduceTDiv, Int.reduceTMod, u1, u2, u3, u4, u5, u6, u7, u8, d1, d2, d3, d4, d5, d6, d7, d8, f1, f2, f3, f4, f5, f6, f7, f8, p1, p2, p3, p4, p5, p6, p7, p8, e1, e2, e3, e4, o_callw, cwK_same, Bool.false_and, Bool.and_false, Bool.true_and, Bool.and_true, c1, c1']
end Go.Proofs.Ytnmaahfipddkmaa.Sx.T
namespace Go.Proofs.Ytnmaahfipddkmaa.Sx.T
open Go Go.Proofs.Ytnmaahfipddkmaa.Sx
set_option maxRecDepth 100000
set_option maxHeartbeats 8000000
theorem Sl.pl {z : Nat} {x : AV} {es : List (List AV)} (h : Sl z x es) (he : ∀ e ∈ es, Pl e) {l : List AV} (hl : Pl l) : Pl (x :: l) := by
  rcases h with ⟨rfl, _⟩ | rfl
  · exact .nilsl hl
  · exact .lst z es he hl
theorem TmP.pl {e : List AV} (h : TmP e) : Pl e := by
  induction h with
  | mk k n vk vn vd vs s es hs h hl ih => exact .int _ _ (.str _ (.int _ _ (.int _ _ (.int _ _ (.str _ (hs.pl ih .nil))))))
theorem tx_pl (ws : List (List UInt8)) : ∀ e ∈ tx ws, Pl e := by
  intro e he
  obtain ⟨w, _, rfl⟩ := List.mem_map.1 he
  exact .str _ .nil
theorem FxP.pl {b : Bool} {e : List AV} (h : FxP b e) : Pl e := by
  induction h with
  | fm k n op vs ws ts tes lo hi o ss ses rs res hv ht hte hs hse hr hre l1 l2 l3 l4 ihse ihre =>
    exact .int _ _ (.str _ (.int _ _ (hv.pl (tx_pl ws) (ht.pl (fun e he => (hte e he).pl) (.int _ _ (.int _ _ (.bool _ (hs.pl ihse (hr.pl ihre .nil)))))))))
  | rx k ts tes ss ses ht hte hs hse l1 l2 ihte ihse => exact .int _ _ (ht.pl ihte (hs.pl ihse .nil))
theorem v_AstSames (a b : List AV) (ha : FxP true a) (hb : FxP true b) (hp : Heap) : CL X (fun _ => []) 5 [.agg a, .agg b] hp = some (.bool true, hp) := by
  have h1 := (v_fx ha).1 rfl b hb
  have h2 := (v_fx hb).1 rfl a ha
  have h3 := (v_fx ha).1 rfl a ha
  have h4 := (v_rfx ha).1 rfl b hb
  rw [hb.pl.symm a] at h2
  rw [ha.pl.refl] at h3
  obtain ⟨⟨a1, a2, a3⟩, a4⟩ := ha.free
  obtain ⟨⟨b1, b2, b3⟩, b4⟩ := hb.free
  simp only [if_true] at a1 b1
  have t1 : a.take 10 = a := List.take_of_length_le (by omega)
  have t2 : b.take 10 = b := List.take_of_length_le (by omega)
  have a1' : (10 ≤ a.length) = True := by simp; omega
  have b1' : (10 ≤ b.length) = True := by simp; omega
  have hl : CL X (fun _ => []) 8 [] [] = some (.bool true, []) := tF20
  obtain ⟨R, hR⟩ : ∃ R, eqVs a b = R := ⟨_, rfl⟩
  simp only [hR] at h1 h2 h4
  rw [CL_eq (fn := x5) rfl]
  cases R
  all_goals simp (config := {contextual := true, maxSteps := 10000000, implicitDefEqProofs := false}) only [x5, go_sem, ↓reduceIte, reduceCtorEq, Nat.reduceEqDiff, Nat.reduceAdd, Nat.reduceLeDiff, Nat.reduceMul, Int.reduceEq, Int.reduceLT, Int.reduceLE, Int.reduceAdd, Int.reduceSub, Int.reduceMul, Int.reduceNeg, Int.reduceToNat, Int.reduceNe, Int.reduceBEq, Int.reduceBNe, Nat.reduceLT, Nat.reduceSub, Nat.reduceDiv, Nat.reduceMod, Int.reduceTDiv, Int.reduceTMod, h1, h2, h3, h4, hl, a1, a2, a3, a4, b1, b2, b3, b4, t1, t2, a1', b1', o_callw, cwK_same]
end Go.Proofs.Ytnmaahfipddkmaa.Sx.T
