/- Layer 6, part 17: how the program goes over terms. -/
import Derived.Test.YtnmaahfipddkmaaGreatWb
set_option linter.unusedVariables false
set_option linter.unusedSimpArgs false
namespace Go.Proofs.YtnmaahfipddkmaaGreat.Sx.T
open Go Go.Proofs.YtnmaahfipddkmaaGreat.Sx
set_option maxRecDepth 100000
set_option maxHeartbeats 8000000
theorem p_term_step (k : Int) (n : List UInt8) (vk vn vd : Int) (vs : List UInt8) (b : Bool) (ss : List Tm) (hfit : (Tm.mk k n vk vn vd vs b ss).fit) (r : Ref) (d : Int) (hd : 0 ≤ d ∧ d ≤ 25) (hp : Heap) (h : isWk (cellsAt hp r) = true)
    (ih : ∀ t ∈ ss, ∀ d, 0 ≤ d → d ≤ 25 → ∀ hp, isWk (cellsAt hp r) = true → CL X (fun _ => []) 80 [.ptr r 0, .agg t.cells, .int .i64 d] hp = some (.tup [], bput hp r (wkC (t.wk d (wkOf (cellsAt hp r)))))) :
    CL X (fun _ => []) 80 [.ptr r 0, .agg (Tm.mk k n vk vn vd vs b ss).cells, .int .i64 d] hp = some (.tup [], bput hp r (wkC ((Tm.mk k n vk vn vd vs b ss).wk d (wkOf (cellsAt hp r))))) := by
  have h0 := isWk_of h
  generalize wkOf (cellsAt hp r) = s at h0
  have hne := cellsAt_ne h0
  have hb := fun b => cellsAt_bput h0 b
  have hent := fun hp h => p_enter r d hp h
  have hmust := fun ok c hp h => p_must r ok c hp h
  simp only [Tm.fit] at hfit
  obtain ⟨i1, i2, hlen, hfl⟩ := hfit
  rw [Tm.cells]
  have hsl := slv_Sl b 7 (Tm.cellsL ss)
  generalize slv b 7 (Tm.cellsL ss) = v at hsl
  obtain ⟨p1, u1, n1, d1, f1⟩ := hsl.one
  rw [Tm.cellsL_len] at n1
  obtain ⟨s1, hs1⟩ : ∃ s1, enterW d s = s1 := ⟨_, rfl⟩
  have hrun : (Tm.mk k n vk vn vd vs b ss).wk d s = if s1.e ≠ 0 then s1 else if tErr k n vk vn vd vs ss.length ≠ 0 then { s1 with e := tErr k n vk vn vd vs ss.length } else Tm.wkL ss (d + 1) s1 := by
    rw [Tm.wk]; simp only [hs1]
  rw [CL_eq (fn := x80) rfl]
  by_cases he : s1.e = 0
  · have hd24 : d ≤ 24 := by
      rw [← hs1] at he
      unfold enterW at he
      by_cases h1 : s.e ≠ 0
      · rw [if_pos h1] at he; exact absurd he h1
      · rw [if_neg h1] at he
        by_cases h2 : 24 < d
        · rw [if_pos h2] at he; simp at he
        · omega
    have hw : wr .i64 (d + 1) = d + 1 := wr_i64 _ (by omega)
    have hall := fun hp h => p_allTm ss hfl (by omega) r (d + 1) v hsl hp h (fun t ht hp h => ih t ht (d + 1) (by omega) (by omega) hp h)
    by_cases hk : 1 ≤ k ∧ k ≤ 5
    · obtain ⟨k1, k2⟩ := hk
      have hname := p_name n
      have hchk := fun hp => v_check vk vn vd vs i1 i2 hp
      unfold vA at hchk
      have hcnt : ∀ hp, CL X (fun _ => []) 98 [.lst .tight 1 [[.int .i64 ss.length], [.int .i64 (if 3 ≤ k then 2 else 0)]]] hp = some (.bool (ss.length == (if 3 ≤ k then 2 else 0)), hp) := by
        intro hp
        have := p_count [(ss.length, if 3 ≤ k then 2 else 0)] (by simp) (by intro p hp; simp at hp; subst hp; right; right; simp only; split <;> omega) .tight (.inr rfl) hp
        simp only [prs, cntL, Bool.and_true] at this
        rw [this]
        congr 3
        by_cases h3 : 3 ≤ k
        · rw [if_pos h3, if_pos h3, Bool.eq_iff_iff]; simp [cnt]; omega
        · rw [if_neg h3, if_neg h3, Bool.eq_iff_iff]; simp [cnt]
      obtain ⟨c1, hc1⟩ : ∃ c, (ss.length == (if 3 ≤ k then 2 else 0)) = c := ⟨_, rfl⟩
      obtain ⟨z, hz⟩ : ∃ c, (vk == 0 && (vn == 0 && (vd == 0 && vs == []))) = c := ⟨_, rfl⟩
      obtain ⟨nb, hnb⟩ : ∃ c, nameB n = c := ⟨_, rfl⟩
      obtain ⟨ne, hn0⟩ : ∃ c, decide (n = []) = c := ⟨_, rfl⟩
      have hcnt2 := hcnt
      simp only [hc1] at hcnt2
      rw [hnb] at hname
      have hok : okTm k n vk vn vd vs ss.length = (c1 && ((k == 2) || z) && (if k = 1 then nb else ne)) := by
        unfold okTm
        rw [hc1, hnb, ← hz, ← hn0, Bool.and_assoc (vk == 0) _ _, Bool.and_assoc (vk == 0), Bool.and_assoc (vn == 0)]
        congr 2
        by_cases h : n = [] <;> simp [h]
      have hte : tErr k n vk vn vd vs ss.length = if okTm k n vk vn vd vs ss.length = false then 1 else if k = 2 then chk vk vn vd vs else 0 := by
        unfold tErr; rw [if_neg (by omega)]
      have hfin : ∀ s3 : Wk, s3 = { s1 with e := tErr k n vk vn vd vs ss.length } → (if s1.e ≠ 0 then s1 else if tErr k n vk vn vd vs ss.length ≠ 0 then { s1 with e := tErr k n vk vn vd vs ss.length } else Tm.wkL ss (d + 1) s1) = Tm.wkL ss (d + 1) s3 := by
        rintro s3 rfl
        rw [if_neg (by simp [he])]
        by_cases ht : tErr k n vk vn vd vs ss.length ≠ 0
        · rw [if_pos ht, Tm.wkL_err (by exact ht)]
        · rw [if_neg ht]
          have : tErr k n vk vn vd vs ss.length = 0 := by simpa using ht
          rw [this, ← he]
      have m0 : mustW true 20 s1 = s1 := by simp [mustW]
      have hk5 : k = 1 ∨ k = 2 ∨ k = 3 ∨ k = 4 ∨ k = 5 := by omega
      rw [hrun]
      have red3 : ∀ x : Int, (decide (3 ≤ x)) = decide (3 ≤ x) := fun _ => rfl
      rcases hk5 with rfl | rfl | rfl | rfl | rfl
      · simp only [show ¬ ((3 : Int) ≤ 1) by omega, if_false] at hcnt2
        rw [hfin (mustW (c1 && z && nb) 1 s1) (by rw [hte, hok]; obtain ⟨sn, sm, se⟩ := s1; simp only at he; subst he; cases c1 <;> cases z <;> cases nb <;> simp [mustW])]
        cases c1 <;> cases z <;> cases nb <;>
        simp +contextual -implicitDefEqProofs (maxSteps := 10000000) only [x80, go_sem, ↓reduceIte, reduceCtorEq, Nat.reduceEqDiff, Nat.reduceAdd, Nat.reduceLeDiff, Int.reduceLE, Int.reduceBEq, Nat.reduceLT, Nat.reduceDiv, u1, p1, n1, hne, hb, h0, hent, hmust, hs1, he, o_callw, cellsAt_cons, bput_cons, bput_bput, bput_len, isWk_C, wkOf_C, cwK_top, ldAt_topc, m0, hcnt2, hz, hname, hw, hall, Nat.reduceDiv]
      · simp only [show ¬ ((3 : Int) ≤ 2) by omega, if_false] at hcnt2
        have hn0' : decide (n = []) = ne := hn0
        rw [hfin (mustW (chk vk vn vd vs == 0) (chk vk vn vd vs) (mustW (c1 && ne) 1 s1)) (by rw [hte, hok]; obtain ⟨sn, sm, se⟩ := s1; simp only at he; subst he; cases c1 <;> cases ne <;> by_cases hc0 : chk vk vn vd vs = 0 <;> simp [mustW, hc0])]
        cases ne
        · have hn1 : (n = []) = False := by simpa using hn0
          cases c1 <;>
          simp +contextual -implicitDefEqProofs (maxSteps := 10000000) only [x80, go_sem, ↓reduceIte, reduceCtorEq, Nat.reduceEqDiff, Nat.reduceAdd, Nat.reduceLeDiff, Int.reduceLE, Int.reduceBEq, Nat.reduceLT, Nat.reduceDiv, u1, p1, n1, hne, hb, h0, hent, hmust, hs1, he, o_callw, cellsAt_cons, bput_cons, bput_bput, bput_len, isWk_C, wkOf_C, cwK_top, ldAt_topc, m0, hcnt2, hn1, hw, hall, Nat.reduceDiv, hchk]
        · have hn1 : n = [] := by simpa using hn0
          cases c1 <;>
          simp +contextual -implicitDefEqProofs (maxSteps := 10000000) only [x80, go_sem, ↓reduceIte, reduceCtorEq, Nat.reduceEqDiff, Nat.reduceAdd, Nat.reduceLeDiff, Int.reduceLE, Int.reduceBEq, Nat.reduceLT, Nat.reduceDiv, u1, p1, n1, hne, hb, h0, hent, hmust, hs1, he, o_callw, cellsAt_cons, bput_cons, bput_bput, bput_len, isWk_C, wkOf_C, cwK_top, ldAt_topc, m0, hcnt2, hn1, hw, hall, Nat.reduceDiv, hchk]
      all_goals
        simp only [Int.reduceLE, if_true] at hcnt2
        rw [hfin (mustW (c1 && z && ne) 1 s1) (by rw [hte, hok]; obtain ⟨sn, sm, se⟩ := s1; simp only at he; subst he; cases c1 <;> cases z <;> cases ne <;> simp [mustW])]
        cases ne
        · have hn1 : (n = []) = False := by simpa using hn0
          cases c1 <;> cases z <;>
          simp +contextual -implicitDefEqProofs (maxSteps := 10000000) only [x80, go_sem, ↓reduceIte, reduceCtorEq, Nat.reduceEqDiff, Nat.reduceAdd, Nat.reduceLeDiff, Int.reduceLE, Int.reduceBEq, Nat.reduceLT, Nat.reduceDiv, u1, p1, n1, hne, hb, h0, hent, hmust, hs1, he, o_callw, cellsAt_cons, bput_cons, bput_bput, bput_len, isWk_C, wkOf_C, cwK_top, ldAt_topc, m0, hcnt2, hz, hn1, hw, hall, Nat.reduceDiv]
        · have hn1 : n = [] := by simpa using hn0
          cases c1 <;> cases z <;>
          simp +contextual -implicitDefEqProofs (maxSteps := 10000000) only [x80, go_sem, ↓reduceIte, reduceCtorEq, Nat.reduceEqDiff, Nat.reduceAdd, Nat.reduceLeDiff, Int.reduceLE, Int.reduceBEq, Nat.reduceLT, Nat.reduceDiv, u1, p1, n1, hne, hb, h0, hent, hmust, hs1, he, o_callw, cellsAt_cons, bput_cons, bput_bput, bput_len, isWk_C, wkOf_C, cwK_top, ldAt_topc, m0, hcnt2, hz, hn1, hw, hall, Nat.reduceDiv]
    · have ht : tErr k n vk vn vd vs ss.length = 20 := by unfold tErr; rw [if_pos hk]
      have m0 : mustW false 20 s1 = { s1 with e := 20 } := by simp [mustW, he]
      rw [hrun, if_neg (by simp [he]), ht, if_pos (by decide)]
      by_cases k1 : 1 ≤ k
      · have k2 : (k ≤ 5) = False := by simp; omega
        simp +contextual -implicitDefEqProofs (maxSteps := 10000000) only [x80, go_sem, ↓reduceIte, reduceCtorEq, Nat.reduceEqDiff, Nat.reduceAdd, Int.reduceEq, u1, p1, hne, hb, h0, hent, hmust, hs1, he, o_callw, cellsAt_cons, bput_cons, bput_bput, bput_len, isWk_C, wkOf_C, cwK_top, ldAt_topc, m0, k1, k2]
      · simp +contextual -implicitDefEqProofs (maxSteps := 10000000) only [x80, go_sem, ↓reduceIte, reduceCtorEq, Nat.reduceEqDiff, Nat.reduceAdd, Int.reduceEq, u1, p1, hne, hb, h0, hent, hmust, hs1, he, o_callw, cellsAt_cons, bput_cons, bput_bput, bput_len, isWk_C, wkOf_C, cwK_top, ldAt_topc, m0, k1]
  · rw [hrun, if_pos (by exact he)]
    simp +contextual -implicitDefEqProofs (maxSteps := 10000000) only [x80, go_sem, ↓reduceIte, reduceCtorEq, Nat.reduceEqDiff, Nat.reduceAdd, u1, p1, hne, h0, hent, hs1, he, o_callw, cellsAt_cons, bput_cons, bput_len, isWk_C, wkOf_C, cwK_top]
mutual
theorem p_term : ∀ (t : Tm), t.fit → ∀ (r : Ref) (d : Int), 0 ≤ d → d ≤ 25 → ∀ (hp : Heap), isWk (cellsAt hp r) = true →
    CL X (fun _ => []) 80 [.ptr r 0, .agg t.cells, .int .i64 d] hp = some (.tup [], bput hp r (wkC (t.wk d (wkOf (cellsAt hp r)))))
  | .mk k n vk vn vd vs b ss, hf, r, d, h1, h2, hp, h => p_term_step k n vk vn vd vs b ss hf r d ⟨h1, h2⟩ hp h (fun t ht d h3 h4 hp h5 => p_termL ss (by simp only [Tm.fit] at hf; exact hf.2.2.2) t ht r d h3 h4 hp h5)
theorem p_termL : ∀ (l : List Tm), Tm.fitL l → ∀ t ∈ l, ∀ (r : Ref) (d : Int), 0 ≤ d → d ≤ 25 → ∀ (hp : Heap), isWk (cellsAt hp r) = true →
    CL X (fun _ => []) 80 [.ptr r 0, .agg t.cells, .int .i64 d] hp = some (.tup [], bput hp r (wkC (t.wk d (wkOf (cellsAt hp r)))))
  | [], _, t, ht, _, _, _, _, _, _ => by simp at ht
  | u :: l, hf, t, ht, r, d, h1, h2, hp, h => by
    rcases List.mem_cons.1 ht with e | ht
    · rw [e]; exact p_term u hf.1 r d h1 h2 hp h
    · exact p_termL l hf.2 t ht r d h1 h2 hp h
end
set_option maxHeartbeats 16000000
def FmI (r : Ref) (t : Fm) : Prop := ∀ d, 0 ≤ d → d ≤ 25 → ∀ hp, isWk (cellsAt hp r) = true → CL X (fun _ => []) 49 [.ptr r 0, .agg t.cells, .int .i64 d] hp = some (.tup [], bput hp r (wkC (t.wk d (wkOf (cellsAt hp r)))))
def RxI' (r : Ref) (t : Rx) : Prop := ∀ d, 0 ≤ d → d ≤ 25 → ∀ hp, isWk (cellsAt hp r) = true → CL X (fun _ => []) 82 [.ptr r 0, .agg t.cells, .int .i64 d] hp = some (.tup [], bput hp r (wkC (t.wk d (wkOf (cellsAt hp r)))))
theorem enter_le {d : Int} {s : Wk} (he : (enterW d s).e = 0) : d ≤ 24 := by
  unfold enterW at he
  by_cases h1 : s.e ≠ 0
  · rw [if_pos h1] at he; exact absurd he h1
  · rw [if_neg h1] at he
    by_cases h2 : 24 < d
    · rw [if_pos h2] at he; simp at he
    · omega
theorem p_regex_step (k : Int) (bt : Bool) (ts : List Fm) (bs : Bool) (ss : List Rx) (hfit : (Rx.mk k bt ts bs ss).fit) (r : Ref) (d : Int) (hd : 0 ≤ d ∧ d ≤ 25) (hp : Heap) (h : isWk (cellsAt hp r) = true)
    (ihf : ∀ t ∈ ts, FmI r t) (ihx : ∀ t ∈ ss, RxI' r t) :
    CL X (fun _ => []) 82 [.ptr r 0, .agg (Rx.mk k bt ts bs ss).cells, .int .i64 d] hp = some (.tup [], bput hp r (wkC ((Rx.mk k bt ts bs ss).wk d (wkOf (cellsAt hp r))))) := by
  have h0 := isWk_of h
  generalize wkOf (cellsAt hp r) = s at h0
  have hne := cellsAt_ne h0
  have hb := fun b => cellsAt_bput h0 b
  have hent := fun hp h => p_enter r d hp h
  have hmust := fun ok c hp h => p_must r ok c hp h
  simp only [Rx.fit] at hfit
  obtain ⟨i1, i2, hft, hfs⟩ := hfit
  rw [Rx.cells]
  have hsl := slv_Sl bt 10 (Fm.cellsL ts)
  generalize slv bt 10 (Fm.cellsL ts) = v at hsl
  obtain ⟨p1, u1, n1, d1, f1⟩ := hsl.one
  rw [Fm.cellsL_len] at n1
  have hsl2 := slv_Sl bs 3 (Rx.cellsL ss)
  generalize slv bs 3 (Rx.cellsL ss) = v2 at hsl2
  obtain ⟨p2, u2', n2, d2, f2⟩ := hsl2.one
  rw [Rx.cellsL_len] at n2
  obtain ⟨s1, hs1⟩ : ∃ s1, enterW d s = s1 := ⟨_, rfl⟩
  have hrun : (Rx.mk k bt ts bs ss).wk d s = if s1.e ≠ 0 then s1 else if rErr k ts.length ss.length ≠ 0 then { s1 with e := rErr k ts.length ss.length } else Rx.wkL ss (d + 1) (Fm.wkL ts (d + 1) s1) := by
    rw [Rx.wk]; simp only [hs1]
  rw [hrun]
  rw [CL_eq (fn := x82) rfl]
  by_cases he : s1.e = 0
  · have hd24 : d ≤ 24 := enter_le (by rw [hs1]; exact he)
    have hw : wr .i64 (d + 1) = d + 1 := wr_i64 _ (by omega)
    have hallF := fun hp h => p_allFm ts hft (by omega) r (d + 1) v hsl hp h (fun t ht hp h => ihf t ht (d + 1) (by omega) (by omega) hp h)
    have hallX := fun hp h => p_allRx ss hfs (by omega) r (d + 1) v2 hsl2 hp h (fun t ht hp h => ihx t ht (d + 1) (by omega) (by omega) hp h)
    rw [if_neg (by simp [he])]
    have mt : ∀ c, mustW true c s1 = s1 := fun c => by simp [mustW]
    have mf : ∀ c, mustW false c s1 = { s1 with e := c } := fun c => by simp [mustW, he]
    by_cases hk : 1 ≤ k ∧ k ≤ 5
    · obtain ⟨k1, k2⟩ := hk
      have hcnt : ∀ a b : Int, 0 ≤ a → 0 ≤ b → ∀ hp, CL X (fun _ => []) 98 [.lst .tight 1 [[.int .i64 ts.length], [.int .i64 a], [.int .i64 ss.length], [.int .i64 b]]] hp = some (.bool (((ts.length : Int) == a) && ((ss.length : Int) == b)), hp) := by
        intro a b ha hb hp
        have := p_count [(ts.length, a), (ss.length, b)] (by simp) (by intro p hp; simp at hp; rcases hp with rfl | rfl <;> simp only <;> omega) .tight (.inr rfl) hp
        simp only [prs, cntL, Bool.and_true] at this
        rw [this]
        have e1 : (a = -1) = False := by simp; omega
        have e2 : (a == -2) = false := by simp; omega
        have e3 : (b = -1) = False := by simp; omega
        have e4 : (b == -2) = false := by simp; omega
        simp only [cnt, e1, e2, e3, e4, if_false, Bool.false_or]
      have hk5 : k = 1 ∨ k = 2 ∨ k = 3 ∨ k = 4 ∨ k = 5 := by omega
      have hre : ∀ a b : Nat, a = (if k = 2 then 1 else 0) → b = (if k = 3 ∨ k = 4 then 2 else if k = 5 then 1 else 0) → ∀ c : Bool, (((ts.length : Int) == (a : Int)) && ((ss.length : Int) == (b : Int))) = c → rErr k ts.length ss.length = if c then 0 else 1 := by
        intro a b ha hb c hc
        unfold rErr
        rw [if_neg (by omega), ← hc, ← ha, ← hb]
        by_cases e1 : ts.length = a <;> by_cases e2 : ss.length = b <;> simp [e1, e2]
        all_goals omega
      rcases hk5 with rfl | rfl | rfl | rfl | rfl
      · obtain ⟨c, hc⟩ : ∃ c, (((ts.length : Int) == 0) && ((ss.length : Int) == 0)) = c := ⟨_, rfl⟩
        have hc1 := hcnt 0 0 (by decide) (by decide)
        simp only [hc] at hc1
        rw [hre 0 0 (by decide) (by decide) c hc]
        cases c
        · simp +contextual -implicitDefEqProofs (maxSteps := 10000000) only [x82, go_sem, ↓reduceIte, reduceCtorEq, Nat.reduceEqDiff, Nat.reduceAdd, Nat.reduceLeDiff, Int.reduceEq, Int.reduceLE, Int.reduceBEq, Nat.reduceLT, Nat.reduceDiv, u1, p1, n1, u2', p2, n2, hne, hb, h0, hent, hmust, hs1, he, o_callw, cellsAt_cons, bput_cons, bput_bput, bput_len, isWk_C, wkOf_C, cwK_top, ldAt_topc, mt, mf, hc1, hw, Nat.reduceDiv]
        · simp +contextual -implicitDefEqProofs (maxSteps := 10000000) only [x82, go_sem, ↓reduceIte, reduceCtorEq, Nat.reduceEqDiff, Nat.reduceAdd, Nat.reduceLeDiff, Int.reduceLE, Int.reduceBEq, Nat.reduceLT, Nat.reduceDiv, u1, p1, n1, u2', p2, n2, hne, hb, h0, hent, hmust, hs1, he, o_callw, cellsAt_cons, bput_cons, bput_bput, bput_len, isWk_C, wkOf_C, cwK_top, ldAt_topc, mt, hc1, hw, hallF, hallX, Nat.reduceDiv]
      · obtain ⟨c, hc⟩ : ∃ c, (((ts.length : Int) == 1) && ((ss.length : Int) == 0)) = c := ⟨_, rfl⟩
        have hc1 := hcnt 1 0 (by decide) (by decide)
        simp only [hc] at hc1
        rw [hre 1 0 (by decide) (by decide) c hc]
        cases c
        · simp +contextual -implicitDefEqProofs (maxSteps := 10000000) only [x82, go_sem, ↓reduceIte, reduceCtorEq, Nat.reduceEqDiff, Nat.reduceAdd, Nat.reduceLeDiff, Int.reduceEq, Int.reduceLE, Int.reduceBEq, Nat.reduceLT, Nat.reduceDiv, u1, p1, n1, u2', p2, n2, hne, hb, h0, hent, hmust, hs1, he, o_callw, cellsAt_cons, bput_cons, bput_bput, bput_len, isWk_C, wkOf_C, cwK_top, ldAt_topc, mt, mf, hc1, hw, Nat.reduceDiv]
        · simp +contextual -implicitDefEqProofs (maxSteps := 10000000) only [x82, go_sem, ↓reduceIte, reduceCtorEq, Nat.reduceEqDiff, Nat.reduceAdd, Nat.reduceLeDiff, Int.reduceLE, Int.reduceBEq, Nat.reduceLT, Nat.reduceDiv, u1, p1, n1, u2', p2, n2, hne, hb, h0, hent, hmust, hs1, he, o_callw, cellsAt_cons, bput_cons, bput_bput, bput_len, isWk_C, wkOf_C, cwK_top, ldAt_topc, mt, hc1, hw, hallF, hallX, Nat.reduceDiv]
      · obtain ⟨c, hc⟩ : ∃ c, (((ts.length : Int) == 0) && ((ss.length : Int) == 2)) = c := ⟨_, rfl⟩
        have hc1 := hcnt 0 2 (by decide) (by decide)
        simp only [hc] at hc1
        rw [hre 0 2 (by decide) (by decide) c hc]
        cases c
        · simp +contextual -implicitDefEqProofs (maxSteps := 10000000) only [x82, go_sem, ↓reduceIte, reduceCtorEq, Nat.reduceEqDiff, Nat.reduceAdd, Nat.reduceLeDiff, Int.reduceEq, Int.reduceLE, Int.reduceBEq, Nat.reduceLT, Nat.reduceDiv, u1, p1, n1, u2', p2, n2, hne, hb, h0, hent, hmust, hs1, he, o_callw, cellsAt_cons, bput_cons, bput_bput, bput_len, isWk_C, wkOf_C, cwK_top, ldAt_topc, mt, mf, hc1, hw, Nat.reduceDiv]
        · simp +contextual -implicitDefEqProofs (maxSteps := 10000000) only [x82, go_sem, ↓reduceIte, reduceCtorEq, Nat.reduceEqDiff, Nat.reduceAdd, Nat.reduceLeDiff, Int.reduceLE, Int.reduceBEq, Nat.reduceLT, Nat.reduceDiv, u1, p1, n1, u2', p2, n2, hne, hb, h0, hent, hmust, hs1, he, o_callw, cellsAt_cons, bput_cons, bput_bput, bput_len, isWk_C, wkOf_C, cwK_top, ldAt_topc, mt, hc1, hw, hallF, hallX, Nat.reduceDiv]
      · obtain ⟨c, hc⟩ : ∃ c, (((ts.length : Int) == 0) && ((ss.length : Int) == 2)) = c := ⟨_, rfl⟩
        have hc1 := hcnt 0 2 (by decide) (by decide)
        simp only [hc] at hc1
        rw [hre 0 2 (by decide) (by decide) c hc]
        cases c
        · simp +contextual -implicitDefEqProofs (maxSteps := 10000000) only [x82, go_sem, ↓reduceIte, reduceCtorEq, Nat.reduceEqDiff, Nat.reduceAdd, Nat.reduceLeDiff, Int.reduceEq, Int.reduceLE, Int.reduceBEq, Nat.reduceLT, Nat.reduceDiv, u1, p1, n1, u2', p2, n2, hne, hb, h0, hent, hmust, hs1, he, o_callw, cellsAt_cons, bput_cons, bput_bput, bput_len, isWk_C, wkOf_C, cwK_top, ldAt_topc, mt, mf, hc1, hw, Nat.reduceDiv]
        · simp +contextual -implicitDefEqProofs (maxSteps := 10000000) only [x82, go_sem, ↓reduceIte, reduceCtorEq, Nat.reduceEqDiff, Nat.reduceAdd, Nat.reduceLeDiff, Int.reduceLE, Int.reduceBEq, Nat.reduceLT, Nat.reduceDiv, u1, p1, n1, u2', p2, n2, hne, hb, h0, hent, hmust, hs1, he, o_callw, cellsAt_cons, bput_cons, bput_bput, bput_len, isWk_C, wkOf_C, cwK_top, ldAt_topc, mt, hc1, hw, hallF, hallX, Nat.reduceDiv]
      · obtain ⟨c, hc⟩ : ∃ c, (((ts.length : Int) == 0) && ((ss.length : Int) == 1)) = c := ⟨_, rfl⟩
        have hc1 := hcnt 0 1 (by decide) (by decide)
        simp only [hc] at hc1
        rw [hre 0 1 (by decide) (by decide) c hc]
        cases c
        · simp +contextual -implicitDefEqProofs (maxSteps := 10000000) only [x82, go_sem, ↓reduceIte, reduceCtorEq, Nat.reduceEqDiff, Nat.reduceAdd, Nat.reduceLeDiff, Int.reduceEq, Int.reduceLE, Int.reduceBEq, Nat.reduceLT, Nat.reduceDiv, u1, p1, n1, u2', p2, n2, hne, hb, h0, hent, hmust, hs1, he, o_callw, cellsAt_cons, bput_cons, bput_bput, bput_len, isWk_C, wkOf_C, cwK_top, ldAt_topc, mt, mf, hc1, hw, Nat.reduceDiv]
        · simp +contextual -implicitDefEqProofs (maxSteps := 10000000) only [x82, go_sem, ↓reduceIte, reduceCtorEq, Nat.reduceEqDiff, Nat.reduceAdd, Nat.reduceLeDiff, Int.reduceLE, Int.reduceBEq, Nat.reduceLT, Nat.reduceDiv, u1, p1, n1, u2', p2, n2, hne, hb, h0, hent, hmust, hs1, he, o_callw, cellsAt_cons, bput_cons, bput_bput, bput_len, isWk_C, wkOf_C, cwK_top, ldAt_topc, mt, hc1, hw, hallF, hallX, Nat.reduceDiv]
    · have ht : rErr k ts.length ss.length = 20 := by unfold rErr; rw [if_pos hk]
      rw [ht, if_pos (by decide)]
      by_cases k1 : 1 ≤ k
      · have k2 : (k ≤ 5) = False := by simp; omega
        simp +contextual -implicitDefEqProofs (maxSteps := 10000000) only [x82, go_sem, ↓reduceIte, reduceCtorEq, Nat.reduceEqDiff, Nat.reduceAdd, Int.reduceEq, u1, p1, u2', p2, hne, hb, h0, hent, hmust, hs1, he, o_callw, cellsAt_cons, bput_cons, bput_bput, bput_len, isWk_C, wkOf_C, cwK_top, ldAt_topc, mf, k1, k2]
      · simp +contextual -implicitDefEqProofs (maxSteps := 10000000) only [x82, go_sem, ↓reduceIte, reduceCtorEq, Nat.reduceEqDiff, Nat.reduceAdd, Int.reduceEq, u1, p1, u2', p2, hne, hb, h0, hent, hmust, hs1, he, o_callw, cellsAt_cons, bput_cons, bput_bput, bput_len, isWk_C, wkOf_C, cwK_top, ldAt_topc, mf, k1]
  · rw [if_pos (by exact he)]
    simp +contextual -implicitDefEqProofs (maxSteps := 10000000) only [x82, go_sem, ↓reduceIte, reduceCtorEq, Nat.reduceEqDiff, Nat.reduceAdd, u1, p1, u2', p2, hne, h0, hent, hs1, he, o_callw, cellsAt_cons, bput_cons, bput_len, isWk_C, wkOf_C, cwK_top]
theorem must5 (s1 : Wk) (he : s1.e = 0) (b1 b2 b3 b4 b5 : Bool) : mustW b5 30 (mustW b4 30 (mustW b3 1 (mustW b2 3 (mustW b1 3 s1)))) =
    ⟨s1.n, s1.m, if (b1 && b2) = false then 3 else if b3 = false then 1 else if (b4 && b5) = false then 30 else 0⟩ := by
  obtain ⟨n, m, e⟩ := s1
  simp only at he
  subst he
  cases b1 <;> cases b2 <;> cases b3 <;> cases b4 <;> cases b5 <;> simp [mustW]
theorem p_formula_step (k : Int) (n : List UInt8) (op : Int) (bv : Bool) (vs : List (List UInt8)) (bt : Bool) (ts : List Tm) (lo hi : Int) (o bs : Bool) (ss : List Fm) (br : Bool) (rs : List Rx) (hfit : (Fm.mk k n op bv vs bt ts lo hi o bs ss br rs).fit)
    (r : Ref) (d : Int) (hd : 0 ≤ d ∧ d ≤ 25) (hp : Heap) (h : isWk (cellsAt hp r) = true) (ihf : ∀ t ∈ ss, FmI r t) (ihx : ∀ t ∈ rs, RxI' r t) :
    CL X (fun _ => []) 49 [.ptr r 0, .agg (Fm.mk k n op bv vs bt ts lo hi o bs ss br rs).cells, .int .i64 d] hp = some (.tup [], bput hp r (wkC ((Fm.mk k n op bv vs bt ts lo hi o bs ss br rs).wk d (wkOf (cellsAt hp r))))) := by
  have h0 := isWk_of h
  generalize wkOf (cellsAt hp r) = s at h0
  have hne := cellsAt_ne h0
  have hb := fun b => cellsAt_bput h0 b
  have hent := fun hp h => p_enter r d hp h
  have hmust := fun ok c hp h => p_must r ok c hp h
  simp only [Fm.fit] at hfit
  obtain ⟨i1, i2, i3, i4, hft, hfs, hfr⟩ := hfit
  rw [Fm.cells]
  have hsl1 := slv_Sl bv 1 (tx vs)
  generalize slv bv 1 (tx vs) = v at hsl1
  obtain ⟨p1, u1', n1, d1, f1⟩ := hsl1.one
  rw [tx_len] at n1
  have hsl2 := slv_Sl bt 7 (Tm.cellsL ts)
  generalize slv bt 7 (Tm.cellsL ts) = t at hsl2
  obtain ⟨p2, u2', n2, d2, f2⟩ := hsl2.one
  rw [Tm.cellsL_len] at n2
  have hsl3 := slv_Sl bs 10 (Fm.cellsL ss)
  generalize slv bs 10 (Fm.cellsL ss) = sv at hsl3
  obtain ⟨p3, u3', n3, d3, f3⟩ := hsl3.one
  rw [Fm.cellsL_len] at n3
  have hsl4 := slv_Sl br 3 (Rx.cellsL rs)
  generalize slv br 3 (Rx.cellsL rs) = rv at hsl4
  obtain ⟨p4, u4', n4, d4, f4⟩ := hsl4.one
  rw [Rx.cellsL_len] at n4
  obtain ⟨s1, hs1⟩ : ∃ s1, enterW d s = s1 := ⟨_, rfl⟩
  have hrun : (Fm.mk k n op bv vs bt ts lo hi o bs ss br rs).wk d s = if s1.e ≠ 0 then s1 else if fErr k n op vs ts.length lo hi o ss.length rs.length ≠ 0 then { s1 with e := fErr k n op vs ts.length lo hi o ss.length rs.length } else Fm.wkL ss (d + 1) (Rx.wkL rs (d + 1) (Tm.wkL ts (d + 1) s1)) := by
    rw [Fm.wk]; simp only [hs1]
  rw [hrun]
  rw [CL_eq (fn := x49) rfl]
  by_cases he : s1.e = 0
  · have hd24 : d ≤ 24 := enter_le (by rw [hs1]; exact he)
    have hw : wr .i64 (d + 1) = d + 1 := wr_i64 _ (by omega)
    have hallT := fun hp h => p_allTm ts hft (by omega) r (d + 1) t hsl2 hp h (fun t ht hp h => p_termL ts hft t ht r (d + 1) (by omega) (by omega) hp h)
    have hallF := fun hp h => p_allFm ss hfs (by omega) r (d + 1) sv hsl3 hp h (fun t ht hp h => ihf t ht (d + 1) (by omega) (by omega) hp h)
    have hallX := fun hp h => p_allRx rs hfr (by omega) r (d + 1) rv hsl4 hp h (fun t ht hp h => ihx t ht (d + 1) (by omega) (by omega) hp h)
    rw [if_neg (by simp [he])]
    have mt : mustW true 20 s1 = s1 := by simp [mustW]
    have mf : mustW false 20 s1 = { s1 with e := 20 } := by simp [mustW, he]
    have hmost := fun hp => p_most k hp
    have hformed := fun hp => p_formed k n op v t lo hi o sv rv vs _ _ _ hsl1 hsl2 hsl3 hsl4 (by omega) hp
    rw [Tm.cellsL_len, Fm.cellsL_len, Rx.cellsL_len] at hformed
    unfold fA at hformed
    have htw := fun hp => p_twice vs v hsl1 (by omega) hp
    have hcon := fun hp => p_contains (vs.drop 1) n (.lst .none 1 (tx (vs.drop 1))) (.inr rfl) (by simp; omega) hp
    have htd : (tx vs).drop 1 = tx (vs.drop 1) := by simp [tx]
    obtain ⟨fb, hfb⟩ : ∃ c, (cntB k vs.length ts.length ss.length rs.length && vs.all nameB && fldB k n op lo hi o) = c := ⟨_, rfl⟩
    obtain ⟨tw, htwb⟩ : ∃ c, dup vs = c := ⟨_, rfl⟩
    obtain ⟨cn, hcn⟩ : ∃ c, (vs.drop 1).contains n = c := ⟨_, rfl⟩
    simp only [hfb] at hformed
    simp only [htwb] at htw
    simp only [hcn] at hcon
    by_cases hk : 1 ≤ k ∧ k ≤ 22
    · obtain ⟨k1, k2⟩ := hk
      obtain ⟨E, hE⟩ : ∃ E, fErr k n op vs ts.length lo hi o ss.length rs.length = E := ⟨_, rfl⟩
      have hEeq : E = if manyB k ts.length vs.length = true then 3 else if fb = false then 1 else if (tw || (k == 19 && cn)) = true then 30 else 0 := by
        rw [← hE]; unfold fErr; rw [if_neg (by omega), hfb, htwb, hcn]
      rw [hE]
      have fin : ∀ b1 b2 b5 : Bool, (⟨s1.n, s1.m, if (b1 && b2) = false then 3 else if fb = false then 1 else if ((!tw) && b5) = false then 30 else 0⟩ : Wk) = { s1 with e := E } → 
          mustW b5 30 (mustW (!tw) 30 (mustW fb 1 (mustW b2 3 (mustW b1 3 s1)))) = { s1 with e := E } := fun b1 b2 b5 h => (must5 s1 he b1 b2 fb (!tw) b5).trans h
      have e0 : E = 0 → ({ s1 with e := E } : Wk) = s1 := fun h => by rw [h, ← he]
      by_cases h3 : k = 3
      · subst h3
        have hs7 := fin (decide ((ts.length : Int) ≤ 6)) (true) (true) (by rw [hEeq]; by_cases hq : 6 < ts.length <;> cases fb <;> cases tw <;> simp [manyB, hq] <;> omega)
        have hm3 : ∀ hp, CL X (fun _ => []) 76 [.int .i64 3] hp = some (.tup [.int .i64 6, .int .i64 0], hp) := hmost
        by_cases hE0 : E = 0
        · have hs8 := hs7.trans (e0 hE0)
          rw [if_neg (by simp [hE0])]
          simp +contextual -implicitDefEqProofs (maxSteps := 10000000) only [x49, go_sem, ↓reduceIte, reduceCtorEq, Nat.reduceEqDiff, Nat.reduceAdd, Int.reduceBEq, Int.reduceBNe, u1', p1, f1, u2', p2, n2, f2, u3', p3, f3, u4', p4, f4, hne, hb, h0, hent, hmust, hs1, he, o_callw, cellsAt_cons, bput_cons, bput_bput, bput_len, isWk_C, wkOf_C, cwK_top, ldAt_topc, mt, hm3, hformed, htw, hw, hs8, hallT, hallF, hallX, k1, k2]
        · have hs8 : (({ s1 with e := E } : Wk).e = 0) = False := by simp [hE0]
          rw [if_pos hE0]
          simp +contextual -implicitDefEqProofs (maxSteps := 10000000) only [x49, go_sem, ↓reduceIte, reduceCtorEq, Nat.reduceEqDiff, Nat.reduceAdd, Int.reduceBEq, Int.reduceBNe, u1', p1, f1, u2', p2, n2, f2, u3', p3, f3, u4', p4, f4, hne, hb, h0, hent, hmust, hs1, he, o_callw, cellsAt_cons, bput_cons, bput_bput, bput_len, isWk_C, wkOf_C, cwK_top, ldAt_topc, mt, hm3, hformed, htw, hs7, hE0, k1, k2]
      by_cases h20 : k = 20
      · subst h20
        have hs7 := fin (true) (decide ((vs.length : Int) ≤ 6)) (true) (by rw [hEeq]; by_cases hq : 6 < vs.length <;> cases fb <;> cases tw <;> simp [manyB, hq] <;> omega)
        have hm3 : ∀ hp, CL X (fun _ => []) 76 [.int .i64 20] hp = some (.tup [.int .i64 0, .int .i64 6], hp) := hmost
        by_cases hE0 : E = 0
        · have hs8 := hs7.trans (e0 hE0)
          rw [if_neg (by simp [hE0])]
          simp +contextual -implicitDefEqProofs (maxSteps := 10000000) only [x49, go_sem, ↓reduceIte, reduceCtorEq, Nat.reduceEqDiff, Nat.reduceAdd, Int.reduceBEq, Int.reduceBNe, u1', p1, n1, f1, u2', p2, f2, u3', p3, f3, u4', p4, f4, hne, hb, h0, hent, hmust, hs1, he, o_callw, cellsAt_cons, bput_cons, bput_bput, bput_len, isWk_C, wkOf_C, cwK_top, ldAt_topc, mt, hm3, hformed, htw, hw, hs8, hallT, hallF, hallX, k1, k2]
        · have hs8 : (({ s1 with e := E } : Wk).e = 0) = False := by simp [hE0]
          rw [if_pos hE0]
          simp +contextual -implicitDefEqProofs (maxSteps := 10000000) only [x49, go_sem, ↓reduceIte, reduceCtorEq, Nat.reduceEqDiff, Nat.reduceAdd, Int.reduceBEq, Int.reduceBNe, u1', p1, n1, f1, u2', p2, f2, u3', p3, f3, u4', p4, f4, hne, hb, h0, hent, hmust, hs1, he, o_callw, cellsAt_cons, bput_cons, bput_bput, bput_len, isWk_C, wkOf_C, cwK_top, ldAt_topc, mt, hm3, hformed, htw, hs7, hE0, k1, k2]
      by_cases h21 : k = 21
      · subst h21
        have hs7 := fin (true) (decide ((vs.length : Int) ≤ 6)) (true) (by rw [hEeq]; by_cases hq : 6 < vs.length <;> cases fb <;> cases tw <;> simp [manyB, hq] <;> omega)
        have hm3 : ∀ hp, CL X (fun _ => []) 76 [.int .i64 21] hp = some (.tup [.int .i64 0, .int .i64 6], hp) := hmost
        by_cases hE0 : E = 0
        · have hs8 := hs7.trans (e0 hE0)
          rw [if_neg (by simp [hE0])]
          simp +contextual -implicitDefEqProofs (maxSteps := 10000000) only [x49, go_sem, ↓reduceIte, reduceCtorEq, Nat.reduceEqDiff, Nat.reduceAdd, Int.reduceBEq, Int.reduceBNe, u1', p1, n1, f1, u2', p2, f2, u3', p3, f3, u4', p4, f4, hne, hb, h0, hent, hmust, hs1, he, o_callw, cellsAt_cons, bput_cons, bput_bput, bput_len, isWk_C, wkOf_C, cwK_top, ldAt_topc, mt, hm3, hformed, htw, hw, hs8, hallT, hallF, hallX, k1, k2]
        · have hs8 : (({ s1 with e := E } : Wk).e = 0) = False := by simp [hE0]
          rw [if_pos hE0]
          simp +contextual -implicitDefEqProofs (maxSteps := 10000000) only [x49, go_sem, ↓reduceIte, reduceCtorEq, Nat.reduceEqDiff, Nat.reduceAdd, Int.reduceBEq, Int.reduceBNe, u1', p1, n1, f1, u2', p2, f2, u3', p3, f3, u4', p4, f4, hne, hb, h0, hent, hmust, hs1, he, o_callw, cellsAt_cons, bput_cons, bput_bput, bput_len, isWk_C, wkOf_C, cwK_top, ldAt_topc, mt, hm3, hformed, htw, hs7, hE0, k1, k2]
      by_cases h10 : k = 10
      · subst h10
        have hs7 := fin (true) (decide ((vs.length : Int) ≤ 8)) (true) (by rw [hEeq]; by_cases hq : 8 < vs.length <;> cases fb <;> cases tw <;> simp [manyB, hq] <;> omega)
        have hm3 : ∀ hp, CL X (fun _ => []) 76 [.int .i64 10] hp = some (.tup [.int .i64 0, .int .i64 8], hp) := hmost
        by_cases hE0 : E = 0
        · have hs8 := hs7.trans (e0 hE0)
          rw [if_neg (by simp [hE0])]
          simp +contextual -implicitDefEqProofs (maxSteps := 10000000) only [x49, go_sem, ↓reduceIte, reduceCtorEq, Nat.reduceEqDiff, Nat.reduceAdd, Int.reduceBEq, Int.reduceBNe, u1', p1, n1, f1, u2', p2, f2, u3', p3, f3, u4', p4, f4, hne, hb, h0, hent, hmust, hs1, he, o_callw, cellsAt_cons, bput_cons, bput_bput, bput_len, isWk_C, wkOf_C, cwK_top, ldAt_topc, mt, hm3, hformed, htw, hw, hs8, hallT, hallF, hallX, k1, k2]
        · have hs8 : (({ s1 with e := E } : Wk).e = 0) = False := by simp [hE0]
          rw [if_pos hE0]
          simp +contextual -implicitDefEqProofs (maxSteps := 10000000) only [x49, go_sem, ↓reduceIte, reduceCtorEq, Nat.reduceEqDiff, Nat.reduceAdd, Int.reduceBEq, Int.reduceBNe, u1', p1, n1, f1, u2', p2, f2, u3', p3, f3, u4', p4, f4, hne, hb, h0, hent, hmust, hs1, he, o_callw, cellsAt_cons, bput_cons, bput_bput, bput_len, isWk_C, wkOf_C, cwK_top, ldAt_topc, mt, hm3, hformed, htw, hs7, hE0, k1, k2]
      by_cases h19 : k = 19
      · subst h19
        by_cases hv0 : vs = []
        · have hv0' : ((0 : Int) < (vs.length : Int)) = False := by simp [hv0]
          have hfb0 : fb = false := by rw [← hfb, hv0]; rfl
          have hs7 := fin (true) (decide ((vs.length : Int) ≤ 8)) (false) (by rw [hEeq]; rw [hfb0]; by_cases hq : 8 < vs.length <;> cases tw <;> simp [manyB, hq] <;> omega)
          have hm3 : ∀ hp, CL X (fun _ => []) 76 [.int .i64 19] hp = some (.tup [.int .i64 0, .int .i64 8], hp) := hmost
          by_cases hE0 : E = 0
          · have hs8 := hs7.trans (e0 hE0)
            rw [if_neg (by simp [hE0])]
            simp +contextual -implicitDefEqProofs (maxSteps := 10000000) only [x49, go_sem, ↓reduceIte, reduceCtorEq, Nat.reduceEqDiff, Nat.reduceAdd, Int.reduceBEq, Int.reduceBNe, u1', p1, n1, f1, u2', p2, f2, u3', p3, f3, u4', p4, f4, hne, hb, h0, hent, hmust, hs1, he, o_callw, cellsAt_cons, bput_cons, bput_bput, bput_len, isWk_C, wkOf_C, cwK_top, ldAt_topc, mt, hm3, hformed, htw, hw, hs8, hallT, hallF, hallX, k1, k2, hv0']
          · have hs8 : (({ s1 with e := E } : Wk).e = 0) = False := by simp [hE0]
            rw [if_pos hE0]
            simp +contextual -implicitDefEqProofs (maxSteps := 10000000) only [x49, go_sem, ↓reduceIte, reduceCtorEq, Nat.reduceEqDiff, Nat.reduceAdd, Int.reduceBEq, Int.reduceBNe, u1', p1, n1, f1, u2', p2, f2, u3', p3, f3, u4', p4, f4, hne, hb, h0, hent, hmust, hs1, he, o_callw, cellsAt_cons, bput_cons, bput_bput, bput_len, isWk_C, wkOf_C, cwK_top, ldAt_topc, mt, hm3, hformed, htw, hs7, hE0, k1, k2, hv0']
        · have hv1 : 0 < vs.length := List.length_pos_iff.2 hv0
          have hv0' : ((0 : Int) < (vs.length : Int)) = True := by simp; omega
          have hv2 : (1 ≤ (tx vs).length) = True := by rw [tx_len]; simp; omega
          obtain rfl : v = .lst .none 1 (tx vs) := hsl1.cases1.resolve_left (fun e => hv0 e.2)
          have hs7 := fin (true) (decide ((vs.length : Int) ≤ 8)) (!cn) (by rw [hEeq]; by_cases hq : 8 < vs.length <;> cases fb <;> cases tw <;> cases cn <;> simp [manyB, hq] <;> omega)
          have hm3 : ∀ hp, CL X (fun _ => []) 76 [.int .i64 19] hp = some (.tup [.int .i64 0, .int .i64 8], hp) := hmost
          by_cases hE0 : E = 0
          · have hs8 := hs7.trans (e0 hE0)
            rw [if_neg (by simp [hE0])]
            simp +contextual -implicitDefEqProofs (maxSteps := 10000000) only [x49, go_sem, ↓reduceIte, reduceCtorEq, Nat.reduceEqDiff, Nat.reduceAdd, Int.reduceBEq, Int.reduceBNe, u1', p1, n1, f1, u2', p2, f2, u3', p3, f3, u4', p4, f4, hne, hb, h0, hent, hmust, hs1, he, o_callw, cellsAt_cons, bput_cons, bput_bput, bput_len, isWk_C, wkOf_C, cwK_top, ldAt_topc, mt, hm3, hformed, htw, hw, hs8, hallT, hallF, hallX, k1, k2, hv0', hv2, hcon, htd, o_ssl, sslK_lo1]
          · have hs8 : (({ s1 with e := E } : Wk).e = 0) = False := by simp [hE0]
            rw [if_pos hE0]
            simp +contextual -implicitDefEqProofs (maxSteps := 10000000) only [x49, go_sem, ↓reduceIte, reduceCtorEq, Nat.reduceEqDiff, Nat.reduceAdd, Int.reduceBEq, Int.reduceBNe, u1', p1, n1, f1, u2', p2, f2, u3', p3, f3, u4', p4, f4, hne, hb, h0, hent, hmust, hs1, he, o_callw, cellsAt_cons, bput_cons, bput_bput, bput_len, isWk_C, wkOf_C, cwK_top, ldAt_topc, mt, hm3, hformed, htw, hs7, hE0, k1, k2, hv0', hv2, hcon, htd, o_ssl, sslK_lo1]
      have hkf : manyB k ts.length vs.length = false := by simp [manyB, h3, h20, h21, h10, h19]
      have hs7 := fin (true) (true) (true) (by rw [hEeq]; rw [hkf]; cases fb <;> cases tw <;> simp [h19])
      have hm3 : ∀ hp, CL X (fun _ => []) 76 [.int .i64 k] hp = some (.tup [.int .i64 0, .int .i64 0], hp) := by
        intro hp
        have := hmost hp
        simpa [h3, h20, h21, h10, h19] using this
      by_cases hE0 : E = 0
      · have hs8 := hs7.trans (e0 hE0)
        rw [if_neg (by simp [hE0])]
        simp +contextual -implicitDefEqProofs (maxSteps := 10000000) only [x49, go_sem, ↓reduceIte, reduceCtorEq, Nat.reduceEqDiff, Nat.reduceAdd, u1', p1, f1, u2', p2, f2, u3', p3, f3, u4', p4, f4, hne, hb, h0, hent, hmust, hs1, he, o_callw, cellsAt_cons, bput_cons, bput_bput, bput_len, isWk_C, wkOf_C, cwK_top, ldAt_topc, mt, hm3, hformed, htw, hw, hs8, hallT, hallF, hallX, k1, k2, h19]
      · have hs8 : (({ s1 with e := E } : Wk).e = 0) = False := by simp [hE0]
        rw [if_pos hE0]
        simp +contextual -implicitDefEqProofs (maxSteps := 10000000) only [x49, go_sem, ↓reduceIte, reduceCtorEq, Nat.reduceEqDiff, Nat.reduceAdd, u1', p1, f1, u2', p2, f2, u3', p3, f3, u4', p4, f4, hne, hb, h0, hent, hmust, hs1, he, o_callw, cellsAt_cons, bput_cons, bput_bput, bput_len, isWk_C, wkOf_C, cwK_top, ldAt_topc, mt, hm3, hformed, htw, hs7, hE0, k1, k2, h19]
    · have ht : fErr k n op vs ts.length lo hi o ss.length rs.length = 20 := by unfold fErr; rw [if_pos hk]
      rw [ht, if_pos (by decide)]
      by_cases k1 : 1 ≤ k
      · have k2 : (k ≤ 22) = False := by simp; omega
        simp +contextual -implicitDefEqProofs (maxSteps := 10000000) only [x49, go_sem, ↓reduceIte, reduceCtorEq, Nat.reduceEqDiff, Nat.reduceAdd, Int.reduceEq, u1', p1, u2', p2, u3', p3, u4', p4, hne, hb, h0, hent, hmust, hs1, he, o_callw, cellsAt_cons, bput_cons, bput_bput, bput_len, isWk_C, wkOf_C, cwK_top, ldAt_topc, mf, k1, k2]
      · simp +contextual -implicitDefEqProofs (maxSteps := 10000000) only [x49, go_sem, ↓reduceIte, reduceCtorEq, Nat.reduceEqDiff, Nat.reduceAdd, Int.reduceEq, u1', p1, u2', p2, u3', p3, u4', p4, hne, hb, h0, hent, hmust, hs1, he, o_callw, cellsAt_cons, bput_cons, bput_bput, bput_len, isWk_C, wkOf_C, cwK_top, ldAt_topc, mf, k1]
  · rw [if_pos (by exact he)]
    simp +contextual -implicitDefEqProofs (maxSteps := 10000000) only [x49, go_sem, ↓reduceIte, reduceCtorEq, Nat.reduceEqDiff, Nat.reduceAdd, u1', p1, u2', p2, u3', p3, u4', p4, hne, h0, hent, hs1, he, o_callw, cellsAt_cons, bput_cons, bput_len, isWk_C, wkOf_C, cwK_top]
mutual
theorem p_formula : ∀ (t : Fm), t.fit → ∀ (r : Ref), FmI r t
  | .mk k n op bv vs bt ts lo hi o bs ss br rs, hf, r, d, h1, h2, hp, h => p_formula_step k n op bv vs bt ts lo hi o bs ss br rs hf r d ⟨h1, h2⟩ hp h
      (fun t ht => p_formulaL ss (by simp only [Fm.fit] at hf; exact hf.2.2.2.2.2.1) t ht r) (fun t ht => p_regexL rs (by simp only [Fm.fit] at hf; exact hf.2.2.2.2.2.2) t ht r)
theorem p_formulaL : ∀ (l : List Fm), Fm.fitL l → ∀ t ∈ l, ∀ (r : Ref), FmI r t
  | [], _, t, ht, _ => by simp at ht
  | u :: l, hf, t, ht, r => by
    rcases List.mem_cons.1 ht with e | ht
    · rw [e]; exact p_formula u hf.1 r
    · exact p_formulaL l hf.2 t ht r
theorem p_regex : ∀ (t : Rx), t.fit → ∀ (r : Ref), RxI' r t
  | .mk k bt ts bs ss, hf, r, d, h1, h2, hp, h => p_regex_step k bt ts bs ss hf r d ⟨h1, h2⟩ hp h
      (fun t ht => p_formulaL ts (by simp only [Rx.fit] at hf; exact hf.2.2.1) t ht r) (fun t ht => p_regexL ss (by simp only [Rx.fit] at hf; exact hf.2.2.2) t ht r)
theorem p_regexL : ∀ (l : List Rx), Rx.fitL l → ∀ t ∈ l, ∀ (r : Ref), RxI' r t
  | [], _, t, ht, _ => by simp at ht
  | u :: l, hf, t, ht, r => by
    rcases List.mem_cons.1 ht with e | ht
    · rw [e]; exact p_regex u hf.1 r
    · exact p_regexL l hf.2 t ht r
end
structure Wr where
  n : Int
  m : Int
  e : Int
def wrC (s : Wr) : List AV := [.int .i64 s.n, .int .i64 s.m, .int .i64 s.e]
def wrOf : Option (List AV) → Wr
  | some [.int _ n, .int _ m, .int _ e] => ⟨n, m, e⟩
  | _ => ⟨0, 0, 0⟩
def isWr : Option (List AV) → Bool
  | some [.int .i64 _, .int .i64 _, .int .i64 _] => true
  | _ => false
theorem wrOf_C (s : Wr) : wrOf (some (wrC s)) = s := rfl
theorem wrOf_some (n m e : Int) : wrOf (some [.int .i64 n, .int .i64 m, .int .i64 e]) = ⟨n, m, e⟩ := rfl
theorem isWr_some (n m e : Int) : isWr (some [.int .i64 n, .int .i64 m, .int .i64 e]) = true := rfl
theorem isWr_C (s : Wr) : isWr (some (wrC s)) = true := rfl
theorem isWr_of {o : Option (List AV)} (h : isWr o = true) : o = some (wrC (wrOf o)) := by
  unfold isWr at h
  split at h
  · rfl
  · cases h
theorem wrC_eq (s : Wr) : wrC s = [.int .i64 s.n, .int .i64 s.m, .int .i64 s.e] := rfl
def wrongW (b : Bool) (c : Int) (s : Wr) : Wr := if b = true ∧ s.e = 0 then { s with e := c } else s
def rnode (d : Int) (s : Wr) : Wr := if s.e ≠ 0 then s else ⟨wr .i64 (s.n + 1), if d > s.m then d else s.m, if 24 < d then 71 else if 256 ≤ s.n then 3 else 0⟩
mutual
noncomputable def Tm.rw : Tm → Int → Wr → Wr
  | .mk k n vk vn vd vs _ ss, d, s =>
    let s1 := rnode d s
    if s1.e ≠ 0 then s1 else if tErr k n vk vn vd vs ss.length ≠ 0 then { s1 with e := tErr k n vk vn vd vs ss.length } else Tm.rwL ss (d + 1) s1
noncomputable def Tm.rwL : List Tm → Int → Wr → Wr
  | [], _, s => s
  | t :: l, d, s => Tm.rwL l d (t.rw d s)
end
mutual
noncomputable def Fm.rw : Fm → Int → Wr → Wr
  | .mk k n op _ vs _ ts lo hi o _ ss _ rs, d, s =>
    let s1 := rnode d s
    if s1.e ≠ 0 then s1 else if fErr k n op vs ts.length lo hi o ss.length rs.length ≠ 0 then { s1 with e := fErr k n op vs ts.length lo hi o ss.length rs.length }
    else Fm.rwL ss (d + 1) (Rx.rwL rs (d + 1) (Tm.rwL ts (d + 1) s1))
noncomputable def Fm.rwL : List Fm → Int → Wr → Wr
  | [], _, s => s
  | t :: l, d, s => Fm.rwL l d (t.rw d s)
noncomputable def Rx.rw : Rx → Int → Wr → Wr
  | .mk k _ ts _ ss, d, s =>
    let s1 := rnode d s
    if s1.e ≠ 0 then s1 else if rErr k ts.length ss.length ≠ 0 then { s1 with e := rErr k ts.length ss.length } else Rx.rwL ss (d + 1) (Fm.rwL ts (d + 1) s1)
noncomputable def Rx.rwL : List Rx → Int → Wr → Wr
  | [], _, s => s
  | t :: l, d, s => Rx.rwL l d (t.rw d s)
end
theorem Tm.rwL_append : ∀ (a b : List Tm) (d : Int) (s : Wr), Tm.rwL (a ++ b) d s = Tm.rwL b d (Tm.rwL a d s)
  | [], _, _, _ => rfl
  | t :: a, b, d, s => by rw [List.cons_append, Tm.rwL, Tm.rwL, Tm.rwL_append a]
theorem Tm.rwL_take (l : List Tm) (i : Nat) (h : i < l.length) (d : Int) (s : Wr) : Tm.rwL (l.take (i + 1)) d s = (l[i]).rw d (Tm.rwL (l.take i) d s) := by
  rw [List.take_succ_eq_append_getElem h, Tm.rwL_append, Tm.rwL, Tm.rwL]
theorem Fm.rwL_append : ∀ (a b : List Fm) (d : Int) (s : Wr), Fm.rwL (a ++ b) d s = Fm.rwL b d (Fm.rwL a d s)
  | [], _, _, _ => rfl
  | t :: a, b, d, s => by rw [List.cons_append, Fm.rwL, Fm.rwL, Fm.rwL_append a]
theorem Fm.rwL_take (l : List Fm) (i : Nat) (h : i < l.length) (d : Int) (s : Wr) : Fm.rwL (l.take (i + 1)) d s = (l[i]).rw d (Fm.rwL (l.take i) d s) := by
  rw [List.take_succ_eq_append_getElem h, Fm.rwL_append, Fm.rwL, Fm.rwL]
theorem Rx.rwL_append : ∀ (a b : List Rx) (d : Int) (s : Wr), Rx.rwL (a ++ b) d s = Rx.rwL b d (Rx.rwL a d s)
  | [], _, _, _ => rfl
  | t :: a, b, d, s => by rw [List.cons_append, Rx.rwL, Rx.rwL, Rx.rwL_append a]
theorem Rx.rwL_take (l : List Rx) (i : Nat) (h : i < l.length) (d : Int) (s : Wr) : Rx.rwL (l.take (i + 1)) d s = (l[i]).rw d (Rx.rwL (l.take i) d s) := by
  rw [List.take_succ_eq_append_getElem h, Rx.rwL_append, Rx.rwL, Rx.rwL]
def RW (a : Wr) (b : Wk) : Prop := a.e = b.e ∧ (b.e = 0 → a.n = (b.n : Int) ∧ a.m = b.m)
theorem RW.node {a : Wr} {b : Wk} (h : RW a b) (d : Int) (hn : b.n ≤ 256) : RW (rnode d a) (enterW d b) ∧ (enterW d b).n ≤ 256 := by
  obtain ⟨an, am, ae⟩ := a
  obtain ⟨bn, bm, be⟩ := b
  obtain ⟨h1, h2⟩ := h
  simp only at h1 h2 hn
  subst h1
  unfold rnode enterW
  simp only
  by_cases h0 : ae = 0
  · obtain ⟨rfl, rfl⟩ := h2 h0
    subst h0
    by_cases hd : 24 < d
    · simp [hd, RW, hn]
    · by_cases hq : 256 ≤ bn
      · have hq' : (256 : Int) ≤ (bn : Int) := by omega
        simp [hd, RW, hn, hq, hq']
      · have hq' : ¬ (256 : Int) ≤ (bn : Int) := by omega
        have w1 : wr .i64 ((bn : Int) + 1) = (bn : Int) + 1 := by rw [wr_i64 _ (by omega)]
        simp [hd, RW, hq, hq', w1]
        omega
  · simp [h0, RW, hn]
mutual
theorem Tm.rw_rel : ∀ (t : Tm) (d : Int) (a : Wr) (b : Wk), RW a b → b.n ≤ 256 → RW (t.rw d a) (t.wk d b) ∧ (t.wk d b).n ≤ 256
  | .mk k n vk vn vd vs c ss, d, a, b, h, hn => by
    obtain ⟨h1, h2⟩ := h.node d hn
    rw [Tm.rw, Tm.wk]
    simp only [h1.1]
    by_cases he : (enterW d b).e ≠ 0
    · rw [if_pos he, if_pos he]; exact ⟨h1, h2⟩
    · rw [if_neg he, if_neg he]
      by_cases ht : tErr k n vk vn vd vs ss.length ≠ 0
      · rw [if_pos ht, if_pos ht]; exact ⟨⟨rfl, fun e => absurd e ht⟩, h2⟩
      · rw [if_neg ht, if_neg ht]; exact Tm.rw_relL ss (d + 1) _ _ h1 h2
theorem Tm.rw_relL : ∀ (l : List Tm) (d : Int) (a : Wr) (b : Wk), RW a b → b.n ≤ 256 → RW (Tm.rwL l d a) (Tm.wkL l d b) ∧ (Tm.wkL l d b).n ≤ 256
  | [], _, _, _, h, hn => ⟨h, hn⟩
  | t :: l, d, a, b, h, hn => by
    obtain ⟨h1, h2⟩ := Tm.rw_rel t d a b h hn
    rw [Tm.rwL, Tm.wkL]
    exact Tm.rw_relL l d _ _ h1 h2
end
mutual
theorem Fm.rw_rel : ∀ (t : Fm) (d : Int) (a : Wr) (b : Wk), RW a b → b.n ≤ 256 → RW (t.rw d a) (t.wk d b) ∧ (t.wk d b).n ≤ 256
  | .mk k n op bv vs bt ts lo hi o bs ss br rs, d, a, b, h, hn => by
    obtain ⟨h1, h2⟩ := h.node d hn
    rw [Fm.rw, Fm.wk]
    simp only [h1.1]
    by_cases he : (enterW d b).e ≠ 0
    · rw [if_pos he, if_pos he]; exact ⟨h1, h2⟩
    · rw [if_neg he, if_neg he]
      by_cases ht : fErr k n op vs ts.length lo hi o ss.length rs.length ≠ 0
      · rw [if_pos ht, if_pos ht]; exact ⟨⟨rfl, fun e => absurd e ht⟩, h2⟩
      · rw [if_neg ht, if_neg ht]
        obtain ⟨h3, h4⟩ := Tm.rw_relL ts (d + 1) _ _ h1 h2
        obtain ⟨h5, h6⟩ := Rx.rw_relL rs (d + 1) _ _ h3 h4
        exact Fm.rw_relL ss (d + 1) _ _ h5 h6
theorem Fm.rw_relL : ∀ (l : List Fm) (d : Int) (a : Wr) (b : Wk), RW a b → b.n ≤ 256 → RW (Fm.rwL l d a) (Fm.wkL l d b) ∧ (Fm.wkL l d b).n ≤ 256
  | [], _, _, _, h, hn => ⟨h, hn⟩
  | t :: l, d, a, b, h, hn => by
    obtain ⟨h1, h2⟩ := Fm.rw_rel t d a b h hn
    rw [Fm.rwL, Fm.wkL]
    exact Fm.rw_relL l d _ _ h1 h2
theorem Rx.rw_rel : ∀ (t : Rx) (d : Int) (a : Wr) (b : Wk), RW a b → b.n ≤ 256 → RW (t.rw d a) (t.wk d b) ∧ (t.wk d b).n ≤ 256
  | .mk k bt ts bs ss, d, a, b, h, hn => by
    obtain ⟨h1, h2⟩ := h.node d hn
    rw [Rx.rw, Rx.wk]
    simp only [h1.1]
    by_cases he : (enterW d b).e ≠ 0
    · rw [if_pos he, if_pos he]; exact ⟨h1, h2⟩
    · rw [if_neg he, if_neg he]
      by_cases ht : rErr k ts.length ss.length ≠ 0
      · rw [if_pos ht, if_pos ht]; exact ⟨⟨rfl, fun e => absurd e ht⟩, h2⟩
      · rw [if_neg ht, if_neg ht]
        obtain ⟨h3, h4⟩ := Fm.rw_relL ts (d + 1) _ _ h1 h2
        exact Rx.rw_relL ss (d + 1) _ _ h3 h4
theorem Rx.rw_relL : ∀ (l : List Rx) (d : Int) (a : Wr) (b : Wk), RW a b → b.n ≤ 256 → RW (Rx.rwL l d a) (Rx.wkL l d b) ∧ (Rx.wkL l d b).n ≤ 256
  | [], _, _, _, h, hn => ⟨h, hn⟩
  | t :: l, d, a, b, h, hn => by
    obtain ⟨h1, h2⟩ := Rx.rw_rel t d a b h hn
    rw [Rx.rwL, Rx.wkL]
    exact Rx.rw_relL l d _ _ h1 h2
end
theorem p_wrong (r : Ref) (b : Bool) (c : Int) (hp : Heap) (h : isWr (cellsAt hp r) = true) :
    CL X (fun _ => []) 52 [.ptr r 0, .bool b, .int .i64 c] hp = some (.tup [], bput hp r (wrC (wrongW b c (wrOf (cellsAt hp r))))) := by
  have h0 := isWr_of h
  generalize wrOf (cellsAt hp r) = s at h0
  have hne := cellsAt_ne h0
  have hb := fun b => cellsAt_bput h0 b
  have hs := bput_same h0
  obtain ⟨n, m, e⟩ := s
  simp only [wrC_eq] at h0 hs
  rw [CL_eq (fn := x52) rfl]
  cases b
  · simp +contextual -implicitDefEqProofs (maxSteps := 10000000) only [x52, go_sem, ↓reduceIte, reduceCtorEq, Nat.reduceEqDiff, Nat.reduceAdd, h0, hne, stAt_cons, stB_some, wrC_eq, wrongW]
    simp [hs]
  · by_cases he : e = 0
    · simp +contextual -implicitDefEqProofs (maxSteps := 10000000) only [x52, go_sem, ↓reduceIte, reduceCtorEq, Nat.reduceEqDiff, Nat.reduceAdd, h0, hne, ldAt_cons, stAt_cons, stB_some, bput_len, wrC_eq, wrongW, he]
    · simp +contextual -implicitDefEqProofs (maxSteps := 10000000) only [x52, go_sem, ↓reduceIte, reduceCtorEq, Nat.reduceEqDiff, h0, hne, ldAt_cons, wrC_eq, wrongW, he, hs]
      try simp [he, hs]
theorem p_node (r : Ref) (d : Int) (hp : Heap) (h : isWr (cellsAt hp r) = true) :
    CL X (fun _ => []) 51 [.ptr r 0, .int .i64 d] hp = some (.bool (decide ((rnode d (wrOf (cellsAt hp r))).e = 0)), bput hp r (wrC (rnode d (wrOf (cellsAt hp r))))) := by
  have hm := fun ok c hp h => p_wrong r ok c hp h
  have h0 := isWr_of h
  generalize wrOf (cellsAt hp r) = s at h0
  have hne := cellsAt_ne h0
  have hb := fun b => cellsAt_bput h0 b
  have hs := bput_same h0
  obtain ⟨n, m, e⟩ := s
  simp only [wrC_eq] at h0 hs
  rw [CL_eq (fn := x51) rfl]
  by_cases he : e = 0
  · subst he
    by_cases hd : 24 < d <;> by_cases hn : 256 ≤ n <;> by_cases hmx : m < d <;>
    simp +contextual -implicitDefEqProofs (maxSteps := 10000000) only [x51, go_sem, ↓reduceIte, reduceCtorEq, Nat.reduceEqDiff, Nat.reduceAdd, Nat.reduceLeDiff, Int.reduceEq, Int.reduceBEq, Int.reduceBNe, h0, hne, hb, ldAt_cons, stAt_cons, stB_some, bput_len, wrC_eq, wrongW, hd, hn, hmx, hm, isWr_some, wrOf_some, cellsAt_cons, bput_cons, bput_bput, o_callw, cwK_top, rnode]
  · simp +contextual -implicitDefEqProofs (maxSteps := 10000000) only [x51, go_sem, ↓reduceIte, reduceCtorEq, h0, hne, ldAt_cons, wrC_eq, he, rnode, hs]
    try simp [he, hs]
def OL (id : Nat) (hp : Heap) (p0 p2 p4 : AV) (r : Option (XExit × St)) : Prop := ∃ fr', r = some (.exit id, ⟨fr', hp⟩) ∧ fget fr' 0 = p0 ∧ fget fr' 2 = p2 ∧ fget fr' 4 = p4
def TrI (r : Ref) (t : Tm) : Prop := ∀ d, 0 ≤ d → d ≤ 25 → ∀ hp, isWr (cellsAt hp r) = true → CL X (fun _ => []) 58 [.ptr r 0, .agg t.cells, .int .i64 d] hp = some (.tup [], bput hp r (wrC (t.rw d (wrOf (cellsAt hp r)))))
def FrI (r : Ref) (t : Fm) : Prop := ∀ d, 0 ≤ d → d ≤ 25 → ∀ hp, isWr (cellsAt hp r) = true → CL X (fun _ => []) 31 [.ptr r 0, .agg t.cells, .int .i64 d] hp = some (.tup [], bput hp r (wrC (t.rw d (wrOf (cellsAt hp r)))))
def XrI (r : Ref) (t : Rx) : Prop := ∀ d, 0 ≤ d → d ≤ 25 → ∀ hp, isWr (cellsAt hp r) = true → CL X (fun _ => []) 59 [.ptr r 0, .agg t.cells, .int .i64 d] hp = some (.tup [], bput hp r (wrC (t.rw d (wrOf (cellsAt hp r)))))
theorem ldK_wr (s : Wr) : ldK 1 false 2 (some (wrC s)) = some (.int .i64 s.e) := rfl
theorem rnode_le {d : Int} {s : Wr} (he : (rnode d s).e = 0) : d ≤ 24 := by
  unfold rnode at he
  by_cases h1 : s.e ≠ 0
  · rw [if_pos h1] at he; exact absurd he h1
  · rw [if_neg h1] at he
    by_cases h2 : 24 < d
    · simp [h2] at he
    · omega
theorem l_rtt (l : List Tm) (hfit : Tm.fitL l) (hl : l.length * 8 ≤ 140737488351232) (r : Ref) (d : Int) (hd : 0 ≤ d ∧ d ≤ 24) (v : AV) (hv : Sl 7 v (Tm.cellsL l)) (hp : Heap) (s : Wr) (h0 : ∃ s0, cellsAt hp r = some (wrC s0)) (L : Level) (k : Int) (n : List UInt8) (vk vn vd : Int) (vs : List UInt8) (hL : lcells L 4 0 = some [.int .i64 k, .str n, .int .i64 vk, .int .i64 vn, .int .i64 vd, .str vs, v])
    (ih : ∀ t ∈ l, TrI r t) (fr : List AV) (e0 : fget fr 0 = .ptr r 0) (e2 : fget fr 2 = .int .i64 d) (e4 : fget fr 4 = .ptr ⟨hp.length, 4, 0⟩ 0) (ec : fget fr 11 = .int .i64 0) :
    OL 0 (L :: bput hp r (wrC (Tm.rwL l (d + 1) s))) (.ptr r 0) (.int .i64 d) (.ptr ⟨hp.length, 4, 0⟩ 0) (LC X (fun _ => []) (.loop x58_l0) ⟨fr, L :: bput hp r (wrC s)⟩) := by
  obtain ⟨s0, h0⟩ := h0
  have hne := cellsAt_ne h0
  have hb := fun b => cellsAt_bput h0 b
  have hw : wr .i64 (d + 1) = d + 1 := wr_i64 _ (by omega)
  obtain ⟨p1, u1, n1, d1, f1⟩ := hv.one
  have hlen := Tm.cellsL_len l
  rw [hlen] at n1
  obtain ⟨I, hI⟩ : ∃ I : Nat → List AV → Heap → Prop, ∀ i fr hp', I i fr hp' ↔ (hp' = L :: bput hp r (wrC (Tm.rwL (l.take i) (d + 1) s)) ∧ fget fr 0 = .ptr r 0 ∧ fget fr 2 = .int .i64 d ∧ fget fr 4 = .ptr ⟨hp.length, 4, 0⟩ 0 ∧ fget fr 11 = .int .i64 (i : Nat)) := ⟨_, fun _ _ _ => Iff.rfl⟩
  obtain ⟨Q, hQ⟩ : ∃ Q : XExit → List AV → Heap → Prop, ∀ e fr hp', Q e fr hp' ↔ (hp' = L :: bput hp r (wrC (Tm.rwL l (d + 1) s)) ∧ e = .exit 0 ∧ fget fr 0 = .ptr r 0 ∧ fget fr 2 = .int .i64 d ∧ fget fr 4 = .ptr ⟨hp.length, 4, 0⟩ 0) := ⟨_, fun _ _ _ => Iff.rfl⟩
  refine LC_upK l.length I Q (fun x => OL 0 _ _ _ _ x) ?_ ?_ ?_ ?_
  · rw [hI]
    exact ⟨by rw [List.take_zero, Tm.rwL], e0, e2, e4, ec⟩
  · intro i hi fr hp' h
    obtain ⟨rfl, e0, e2, e4, ec⟩ := (hI _ _ _).1 h
    have hv' : v = .lst .none 7 (Tm.cellsL l) := by
      rcases hv with ⟨_, e⟩ | e
      · rw [e] at hlen; simp at hlen; omega
      · exact e
    have k1 : ((i : Int) < ((Tm.cellsL l).length : Int)) = True := by rw [hlen]; simp; omega
    have k2 : (i < (Tm.cellsL l).length) = True := by rw [hlen]; simp; omega
    have w1 : wr .i64 ((i : Int) + 1) = ((i + 1 : Nat) : Int) := by rw [wr_i64 _ (by omega)]; omega
    have g1 : (Tm.cellsL l).getD i [] = (l[i]).cells := by simp [Tm.cellsL_eq, List.getD, hi]
    have hmem : l[i] ∈ l := List.getElem_mem hi
    obtain ⟨a1, a2, a3, a4, a5⟩ := flatTm (Tm.fitL_mem hfit _ hmem)
    have a1' : (7 ≤ (l[i]).cells.length) = True := by simp; omega
    have hih := ih _ hmem (d + 1) (by omega) (by omega)
    have htk := Tm.rwL_take l i hi (d + 1) s
    subst hv'
    simp +contextual -implicitDefEqProofs (maxSteps := 10000000) only [x58_l0_run, go_sem, ↓reduceIte, reduceCtorEq, Nat.reduceEqDiff, e0, e2, e4, ec, hL, k1, k2, w1, hw, g1, a1, a3, a4, o_callw, hih, cellsAt_cons, bput_cons, bput_bput, bput_len, hne, hb, isWr_C, wrOf_C, cwK_top, ldAt_topc]
    rw [hI]
    refine ⟨by rw [htk], ?_, ?_, ?_, ?_⟩ <;> simp only [go_sem, ↓reduceIte, reduceCtorEq, Nat.reduceEqDiff, e0, e2, e4]
  · intro fr hp' h
    obtain ⟨rfl, e0, e2, e4, ec⟩ := (hI _ _ _).1 h
    simp +contextual -implicitDefEqProofs (maxSteps := 10000000) only [x58_l0_run, go_sem, ↓reduceIte, Nat.reduceEqDiff, e4, ec, hL, u1, n1, ldAt_topc, bput_len, Int.lt_irrefl]
    rw [hQ]
    refine ⟨by rw [List.take_length], rfl, ?_, ?_, ?_⟩ <;> simp only [go_sem, ↓reduceIte, reduceCtorEq, Nat.reduceEqDiff, e0, e2, e4]
  · intro e fr hp' he h
    obtain ⟨rfl, rfl, g0, g2, g4⟩ := (hQ _ _ _).1 h
    exact ⟨_, rfl, g0, g2, g4⟩
theorem p_rterm_step (k : Int) (n : List UInt8) (vk vn vd : Int) (vs : List UInt8) (b : Bool) (ss : List Tm) (hfit : (Tm.mk k n vk vn vd vs b ss).fit) (r : Ref) (ih : ∀ t ∈ ss, TrI r t) : TrI r (Tm.mk k n vk vn vd vs b ss) := by
  intro d hd0 hd25 hp h
  have h0 := isWr_of h
  generalize wrOf (cellsAt hp r) = s at h0
  have hne := cellsAt_ne h0
  have hb := fun b => cellsAt_bput h0 b
  have hnode := fun hp h => p_node r d hp h
  have hwrong := fun ok c hp h => p_wrong r ok c hp h
  simp only [Tm.fit] at hfit
  obtain ⟨i1, i2, hlen, hfl⟩ := hfit
  rw [Tm.cells]
  have hsl := slv_Sl b 7 (Tm.cellsL ss)
  generalize slv b 7 (Tm.cellsL ss) = v at hsl
  obtain ⟨p1, u1, n1, d1, f1⟩ := hsl.one
  rw [Tm.cellsL_len] at n1
  obtain ⟨s1, hs1⟩ : ∃ s1, rnode d s = s1 := ⟨_, rfl⟩
  have hrun : (Tm.mk k n vk vn vd vs b ss).rw d s = if s1.e ≠ 0 then s1 else if tErr k n vk vn vd vs ss.length ≠ 0 then { s1 with e := tErr k n vk vn vd vs ss.length } else Tm.rwL ss (d + 1) s1 := by
    rw [Tm.rw]; simp only [hs1]
  rw [hrun]
  rw [CL_eq (fn := x58) rfl]
  by_cases he : s1.e = 0
  · have hd24 : d ≤ 24 := rnode_le (by rw [hs1]; exact he)
    rw [if_neg (by simp [he])]
    have hname := p_rname n
    have hsame := fun hp => w_rvsame vk vn vd vs 0 0 0 [] hp
    have hchk := fun hp => v_rcheck vk vn vd vs i1 i2 hp
    unfold vA at hchk
    obtain ⟨z, hz⟩ : ∃ c, (vk == 0 && vn == 0 && vd == 0 && vs == []) = c := ⟨_, rfl⟩
    simp only [hz] at hsame
    obtain ⟨nb, hnb⟩ : ∃ c, nameB n = c := ⟨_, rfl⟩
    rw [hnb] at hname
    obtain ⟨E, hE⟩ : ∃ E, tErr k n vk vn vd vs ss.length = E := ⟨_, rfl⟩
    rw [hE]
    have wf : ∀ c s, wrongW false c s = s := fun c s => by simp [wrongW]
    have we : ∀ b c (s : Wr), s.e ≠ 0 → wrongW b c s = s := fun b c s h => by simp [wrongW, h]
    have wt : ∀ c, wrongW true c s1 = { s1 with e := c } := fun c => by simp [wrongW, he]
    have hloop := fun fr e0 e2 e4 ec L hL => l_rtt ss hfl (by omega) r d ⟨hd0, hd24⟩ v hsl hp s1 ⟨s, h0⟩ L k n vk vn vd vs hL ih fr e0 e2 e4 ec
    by_cases hk : 1 ≤ k ∧ k ≤ 5
    · have hk5 : k = 1 ∨ k = 2 ∨ k = 3 ∨ k = 4 ∨ k = 5 := by omega
      have hsub : ∀ m : Nat, m = (if 3 ≤ k then 2 else 0) → E = (if ((ss.length == m) && ((k == 2) || z) && (if k = 1 then nb else n == [])) = false then 1 else if k = 2 then chk vk vn vd vs else 0) := by
        intro m hm
        rw [← hE]
        unfold tErr okTm
        rw [if_neg (by omega), ← hm, hz, hnb]
      have hfin : E ≠ 0 → (if E ≠ 0 then ({ s1 with e := E } : Wr) else Tm.rwL ss (d + 1) s1) = { s1 with e := E } := fun h => if_pos h
      have e01 : (s1.e = 0) = True := by simp [he]
      rcases hk5 with rfl | rfl | rfl | rfl | rfl
      · have hs := hsub 0 rfl
        by_cases hl0 : ss.length = 0
        · have hl0' : ((ss.length : Int) != 0) = false := by simp [hl0]
          cases z <;> cases nb <;> simp [hl0] at hs <;> subst hs
          all_goals
            simp +contextual -implicitDefEqProofs (maxSteps := 10000000) only [x58, go_sem, ↓reduceIte, reduceCtorEq, Nat.reduceEqDiff, Nat.reduceAdd, Nat.reduceLeDiff, Int.reduceEq, Int.reduceLT, Int.reduceBEq, Int.reduceBNe, u1, p1, n1, hne, hb, h0, hnode, hwrong, hs1, he, o_callw, cellsAt_cons, bput_cons, bput_bput, bput_len, isWr_C, wrOf_C, cwK_top, ldAt_topc, ldAt_cons, ldK_wr, wf, wt, hname, hsame, hl0']
          refine elimL (fun x => finK _ (blockK 0 x) = _) (hloop _ ?_ ?_ ?_ ?_ _ ?_) ?_
          all_goals try simp only [go_sem, ↓reduceIte, reduceCtorEq, Nat.reduceEqDiff]
          rintro x ⟨fr', rfl, g0, g2, g4⟩
          simp +contextual -implicitDefEqProofs (maxSteps := 10000000) only [go_sem, ↓reduceIte]
        · have hl0' : ((ss.length : Int) != 0) = true := by simp; exact fun e => hl0 (by simp [e])
          have hE1 : E = 1 := by rw [hs]; simp [hl0]
          subst hE1
          cases z <;> cases nb <;>
          simp +contextual -implicitDefEqProofs (maxSteps := 10000000) only [x58, go_sem, ↓reduceIte, reduceCtorEq, Nat.reduceEqDiff, Nat.reduceAdd, Nat.reduceLeDiff, Int.reduceEq, Int.reduceLT, Int.reduceBEq, Int.reduceBNe, u1, p1, n1, hne, hb, h0, hnode, hwrong, hs1, he, o_callw, cellsAt_cons, bput_cons, bput_bput, bput_len, isWr_C, wrOf_C, cwK_top, ldAt_topc, ldAt_cons, ldK_wr, wf, wt, hname, hsame, hl0']
      · have hs := hsub 0 rfl
        by_cases hl0 : ss.length = 0
        · have hl0' : ((ss.length : Int) != 0) = false := by simp [hl0]
          by_cases hn : n = []
          · have hnT : (n = []) = True := eq_true hn
            have hs' : E = chk vk vn vd vs := by rw [hs]; simp [hl0, hn]
            by_cases hc : chk vk vn vd vs = 0
            · rw [hs', hc]
              rw [hc] at hchk
              cases z <;> cases nb
              all_goals
                simp +contextual -implicitDefEqProofs (maxSteps := 10000000) only [x58, go_sem, ↓reduceIte, reduceCtorEq, Nat.reduceEqDiff, Nat.reduceAdd, Nat.reduceLeDiff, Int.reduceLT, Int.reduceBEq, Int.reduceBNe, u1, p1, n1, hne, hb, h0, hnode, hwrong, hs1, he, o_callw, cellsAt_cons, bput_cons, bput_bput, bput_len, isWr_C, wrOf_C, cwK_top, ldAt_topc, ldAt_cons, ldK_wr, wf, hname, hsame, hl0', hnT, hchk]
                refine elimL (fun x => finK _ (blockK 0 x) = _) (hloop _ ?_ ?_ ?_ ?_ _ ?_) ?_
                all_goals try simp only [go_sem, ↓reduceIte, reduceCtorEq, Nat.reduceEqDiff]
                rintro x ⟨fr', rfl, g0, g2, g4⟩
                simp +contextual -implicitDefEqProofs (maxSteps := 10000000) only [go_sem, ↓reduceIte]
            · have hcb : (chk vk vn vd vs != 0) = true := by simp [hc]
              rw [hs']
              cases z <;> cases nb <;>
              simp +contextual -implicitDefEqProofs (maxSteps := 10000000) only [x58, go_sem, ↓reduceIte, reduceCtorEq, Nat.reduceEqDiff, Nat.reduceAdd, Nat.reduceLeDiff, Int.reduceLT, Int.reduceBEq, Int.reduceBNe, u1, p1, n1, hne, hb, h0, hnode, hwrong, hs1, he, o_callw, cellsAt_cons, bput_cons, bput_bput, bput_len, isWr_C, wrOf_C, cwK_top, ldAt_topc, ldAt_cons, ldK_wr, wf, wt, hname, hsame, hl0', hnT, hchk, hc, hcb]
          · have hnT : (n = []) = False := eq_false hn
            have hE1 : E = 1 := by rw [hs]; simp [hl0, hn]
            subst hE1
            cases z <;> cases nb <;>
            simp +contextual -implicitDefEqProofs (maxSteps := 10000000) only [x58, go_sem, ↓reduceIte, reduceCtorEq, Nat.reduceEqDiff, Nat.reduceAdd, Nat.reduceLeDiff, Int.reduceEq, Int.reduceLT, Int.reduceBEq, Int.reduceBNe, u1, p1, hne, hb, h0, hnode, hwrong, hs1, he, o_callw, cellsAt_cons, bput_cons, bput_bput, bput_len, isWr_C, wrOf_C, cwK_top, ldAt_topc, ldAt_cons, ldK_wr, wf, wt, we, hname, hsame, hnT, hchk]
        · have hl0' : ((ss.length : Int) != 0) = true := by simp; exact fun e => hl0 (by simp [e])
          have hE1 : E = 1 := by rw [hs]; simp [hl0]
          subst hE1
          rcases Classical.propComplete (n = []) with hnT | hnT <;> cases z <;> cases nb <;>
          simp +contextual -implicitDefEqProofs (maxSteps := 10000000) only [x58, go_sem, ↓reduceIte, reduceCtorEq, Nat.reduceEqDiff, Nat.reduceAdd, Nat.reduceLeDiff, Int.reduceEq, Int.reduceLT, Int.reduceBEq, Int.reduceBNe, u1, p1, n1, hne, hb, h0, hnode, hwrong, hs1, he, o_callw, cellsAt_cons, bput_cons, bput_bput, bput_len, isWr_C, wrOf_C, cwK_top, ldAt_topc, ldAt_cons, ldK_wr, wf, wt, we, hname, hsame, hl0', hnT, hchk]
      all_goals
        have hs := hsub 2 rfl
        by_cases hl0 : ss.length = 2
        · have hl0' : ((ss.length : Int) != 2) = false := by simp [hl0]
          by_cases hn : n = []
          · have hnT : (n = []) = True := eq_true hn
            cases z
            · have hE1 : E = 1 := by rw [hs]; simp
              subst hE1
              cases nb <;>
              simp +contextual -implicitDefEqProofs (maxSteps := 10000000) only [x58, go_sem, ↓reduceIte, reduceCtorEq, Nat.reduceEqDiff, Nat.reduceAdd, Nat.reduceLeDiff, Int.reduceEq, Int.reduceLT, Int.reduceBEq, Int.reduceBNe, u1, p1, hne, hb, h0, hnode, hwrong, hs1, he, o_callw, cellsAt_cons, bput_cons, bput_bput, bput_len, isWr_C, wrOf_C, cwK_top, ldAt_topc, ldAt_cons, ldK_wr, wf, wt, hname, hsame, hnT]
            · have hE1 : E = 0 := by rw [hs]; simp [hl0, hn]
              subst hE1
              cases nb
              all_goals
                simp +contextual -implicitDefEqProofs (maxSteps := 10000000) only [x58, go_sem, ↓reduceIte, reduceCtorEq, Nat.reduceEqDiff, Nat.reduceAdd, Nat.reduceLeDiff, Int.reduceLT, Int.reduceBEq, Int.reduceBNe, u1, p1, n1, hne, hb, h0, hnode, hwrong, hs1, he, o_callw, cellsAt_cons, bput_cons, bput_bput, bput_len, isWr_C, wrOf_C, cwK_top, ldAt_topc, ldAt_cons, ldK_wr, wf, hname, hsame, hl0', hnT]
                refine elimL (fun x => finK _ (blockK 0 x) = _) (hloop _ ?_ ?_ ?_ ?_ _ ?_) ?_
                all_goals try simp only [go_sem, ↓reduceIte, reduceCtorEq, Nat.reduceEqDiff]
                rintro x ⟨fr', rfl, g0, g2, g4⟩
                simp +contextual -implicitDefEqProofs (maxSteps := 10000000) only [go_sem, ↓reduceIte]
          · have hnT : (n = []) = False := eq_false hn
            have hE1 : E = 1 := by rw [hs]; simp [hn]
            subst hE1
            cases z <;> cases nb <;>
            simp +contextual -implicitDefEqProofs (maxSteps := 10000000) only [x58, go_sem, ↓reduceIte, reduceCtorEq, Nat.reduceEqDiff, Nat.reduceAdd, Nat.reduceLeDiff, Int.reduceEq, Int.reduceLT, Int.reduceBEq, Int.reduceBNe, u1, p1, hne, hb, h0, hnode, hwrong, hs1, he, o_callw, cellsAt_cons, bput_cons, bput_bput, bput_len, isWr_C, wrOf_C, cwK_top, ldAt_topc, ldAt_cons, ldK_wr, wf, wt, hname, hsame, hnT]
        · have hl0' : ((ss.length : Int) != 2) = true := by simp; omega
          have hE1 : E = 1 := by rw [hs]; simp [hl0]
          subst hE1
          rcases Classical.propComplete (n = []) with hnT | hnT <;> cases z <;> cases nb <;>
          simp +contextual -implicitDefEqProofs (maxSteps := 10000000) only [x58, go_sem, ↓reduceIte, reduceCtorEq, Nat.reduceEqDiff, Nat.reduceAdd, Nat.reduceLeDiff, Int.reduceEq, Int.reduceLT, Int.reduceBEq, Int.reduceBNe, u1, p1, n1, hne, hb, h0, hnode, hwrong, hs1, he, o_callw, cellsAt_cons, bput_cons, bput_bput, bput_len, isWr_C, wrOf_C, cwK_top, ldAt_topc, ldAt_cons, ldK_wr, wf, wt, hname, hsame, hl0', hnT]
    · have hE20 : E = 20 := by rw [← hE]; unfold tErr; rw [if_pos hk]
      subst hE20
      have k1 : (k = 1) = False := by simp; omega
      have k2 : (k = 2) = False := by simp; omega
      have k3 : (k = 3) = False := by simp; omega
      have k4 : (k = 4) = False := by simp; omega
      have k5 : (k = 5) = False := by simp; omega
      by_cases hlt : k < 1
      · rcases Classical.propComplete (n = []) with hnT | hnT <;> cases z <;> cases nb <;>
        simp +contextual -implicitDefEqProofs (maxSteps := 10000000) only [x58, go_sem, ↓reduceIte, reduceCtorEq, Nat.reduceEqDiff, Nat.reduceAdd, Nat.reduceLeDiff, Int.reduceEq, Int.reduceBNe, u1, p1, n1, hne, hb, h0, hnode, hwrong, hs1, he, o_callw, cellsAt_cons, bput_cons, bput_bput, bput_len, isWr_C, wrOf_C, cwK_top, ldAt_topc, ldAt_cons, ldK_wr, wt, we, hname, hsame, hnT, k1, k2, k3, k4, k5, hlt]
      · have hgt : (5 < k) = True := by simp; omega
        rcases Classical.propComplete (n = []) with hnT | hnT <;> cases z <;> cases nb <;>
        simp +contextual -implicitDefEqProofs (maxSteps := 10000000) only [x58, go_sem, ↓reduceIte, reduceCtorEq, Nat.reduceEqDiff, Nat.reduceAdd, Nat.reduceLeDiff, Int.reduceEq, Int.reduceBNe, u1, p1, n1, hne, hb, h0, hnode, hwrong, hs1, he, o_callw, cellsAt_cons, bput_cons, bput_bput, bput_len, isWr_C, wrOf_C, cwK_top, ldAt_topc, ldAt_cons, ldK_wr, wt, we, hname, hsame, hnT, k1, k2, k3, k4, k5, hlt, hgt]
  · rw [if_pos (by exact he)]
    simp +contextual -implicitDefEqProofs (maxSteps := 10000000) only [x58, go_sem, ↓reduceIte, reduceCtorEq, Nat.reduceEqDiff, Nat.reduceAdd, u1, p1, hne, h0, hnode, hs1, he, o_callw, cellsAt_cons, bput_cons, bput_len, isWr_C, wrOf_C, cwK_top]
mutual
theorem p_rterm : ∀ (t : Tm), t.fit → ∀ (r : Ref), TrI r t
  | .mk k n vk vn vd vs b ss, hf, r => p_rterm_step k n vk vn vd vs b ss hf r (fun t ht => p_rtermL ss (by simp only [Tm.fit] at hf; exact hf.2.2.2) t ht r)
theorem p_rtermL : ∀ (l : List Tm), Tm.fitL l → ∀ t ∈ l, ∀ (r : Ref), TrI r t
  | [], _, t, ht, _ => by simp at ht
  | u :: l, hf, t, ht, r => by
    rcases List.mem_cons.1 ht with e | ht
    · rw [e]; exact p_rterm u hf.1 r
    · exact p_rtermL l hf.2 t ht r
end
theorem l_rxf (l : List Fm) (hfit : Fm.fitL l) (hl : l.length * 8 ≤ 140737488351232) (r : Ref) (d : Int) (hd : 0 ≤ d ∧ d ≤ 24) (v : AV) (hv : Sl 10 v (Fm.cellsL l)) (hp : Heap) (s : Wr) (h0 : ∃ s0, cellsAt hp r = some (wrC s0)) (L : Level) (k : Int) (v2 : AV) (hL : lcells L 4 0 = some [.int .i64 k, v, v2])
    (ih : ∀ t ∈ l, FrI r t) (fr : List AV) (e0 : fget fr 0 = .ptr r 0) (e2 : fget fr 2 = .int .i64 d) (e4 : fget fr 4 = .ptr ⟨hp.length, 4, 0⟩ 0) (ec : fget fr 9 = .int .i64 0) :
    OL 1 (L :: bput hp r (wrC (Fm.rwL l (d + 1) s))) (.ptr r 0) (.int .i64 d) (.ptr ⟨hp.length, 4, 0⟩ 0) (LC X (fun _ => []) (.loop x59_l0) ⟨fr, L :: bput hp r (wrC s)⟩) := by
  obtain ⟨s0, h0⟩ := h0
  have hne := cellsAt_ne h0
  have hb := fun b => cellsAt_bput h0 b
  have hw : wr .i64 (d + 1) = d + 1 := wr_i64 _ (by omega)
  obtain ⟨p1, u1, n1, d1, f1⟩ := hv.one
  have hlen := Fm.cellsL_len l
  rw [hlen] at n1
  obtain ⟨I, hI⟩ : ∃ I : Nat → List AV → Heap → Prop, ∀ i fr hp', I i fr hp' ↔ (hp' = L :: bput hp r (wrC (Fm.rwL (l.take i) (d + 1) s)) ∧ fget fr 0 = .ptr r 0 ∧ fget fr 2 = .int .i64 d ∧ fget fr 4 = .ptr ⟨hp.length, 4, 0⟩ 0 ∧ fget fr 9 = .int .i64 (i : Nat)) := ⟨_, fun _ _ _ => Iff.rfl⟩
  obtain ⟨Q, hQ⟩ : ∃ Q : XExit → List AV → Heap → Prop, ∀ e fr hp', Q e fr hp' ↔ (hp' = L :: bput hp r (wrC (Fm.rwL l (d + 1) s)) ∧ e = .exit 1 ∧ fget fr 0 = .ptr r 0 ∧ fget fr 2 = .int .i64 d ∧ fget fr 4 = .ptr ⟨hp.length, 4, 0⟩ 0) := ⟨_, fun _ _ _ => Iff.rfl⟩
  refine LC_upK l.length I Q (fun x => OL 1 _ _ _ _ x) ?_ ?_ ?_ ?_
  · rw [hI]
    exact ⟨by rw [List.take_zero, Fm.rwL], e0, e2, e4, ec⟩
  · intro i hi fr hp' h
    obtain ⟨rfl, e0, e2, e4, ec⟩ := (hI _ _ _).1 h
    have hv' : v = .lst .none 10 (Fm.cellsL l) := by
      rcases hv with ⟨_, e⟩ | e
      · rw [e] at hlen; simp at hlen; omega
      · exact e
    have k1 : ((i : Int) < ((Fm.cellsL l).length : Int)) = True := by rw [hlen]; simp; omega
    have k2 : (i < (Fm.cellsL l).length) = True := by rw [hlen]; simp; omega
    have w1 : wr .i64 ((i : Int) + 1) = ((i + 1 : Nat) : Int) := by rw [wr_i64 _ (by omega)]; omega
    have g1 : (Fm.cellsL l).getD i [] = (l[i]).cells := by simp [Fm.cellsL_eq, List.getD, hi]
    have hmem : l[i] ∈ l := List.getElem_mem hi
    obtain ⟨a1, a2, a3, a4, a5⟩ := flatFm (Fm.fitL_mem hfit _ hmem)
    have a1' : (10 ≤ (l[i]).cells.length) = True := by simp; omega
    have hih := ih _ hmem (d + 1) (by omega) (by omega)
    have htk := Fm.rwL_take l i hi (d + 1) s
    subst hv'
    simp +contextual -implicitDefEqProofs (maxSteps := 10000000) only [x59_l0_run, go_sem, ↓reduceIte, reduceCtorEq, Nat.reduceEqDiff, e0, e2, e4, ec, hL, k1, k2, w1, hw, g1, a1, a3, a4, o_callw, hih, cellsAt_cons, bput_cons, bput_bput, bput_len, hne, hb, isWr_C, wrOf_C, cwK_top, ldAt_topc]
    rw [hI]
    refine ⟨by rw [htk], ?_, ?_, ?_, ?_⟩ <;> simp only [go_sem, ↓reduceIte, reduceCtorEq, Nat.reduceEqDiff, e0, e2, e4]
  · intro fr hp' h
    obtain ⟨rfl, e0, e2, e4, ec⟩ := (hI _ _ _).1 h
    simp +contextual -implicitDefEqProofs (maxSteps := 10000000) only [x59_l0_run, go_sem, ↓reduceIte, Nat.reduceEqDiff, e4, ec, hL, u1, n1, ldAt_topc, bput_len, Int.lt_irrefl]
    rw [hQ]
    refine ⟨by rw [List.take_length], rfl, ?_, ?_, ?_⟩ <;> simp only [go_sem, ↓reduceIte, reduceCtorEq, Nat.reduceEqDiff, e0, e2, e4]
  · intro e fr hp' he h
    obtain ⟨rfl, rfl, g0, g2, g4⟩ := (hQ _ _ _).1 h
    exact ⟨_, rfl, g0, g2, g4⟩
theorem l_rxx (l : List Rx) (hfit : Rx.fitL l) (hl : l.length * 8 ≤ 140737488351232) (r : Ref) (d : Int) (hd : 0 ≤ d ∧ d ≤ 24) (v : AV) (hv : Sl 3 v (Rx.cellsL l)) (hp : Heap) (s : Wr) (h0 : ∃ s0, cellsAt hp r = some (wrC s0)) (L : Level) (k : Int) (v1 : AV) (hL : lcells L 4 0 = some [.int .i64 k, v1, v])
    (ih : ∀ t ∈ l, XrI r t) (fr : List AV) (e0 : fget fr 0 = .ptr r 0) (e2 : fget fr 2 = .int .i64 d) (e4 : fget fr 4 = .ptr ⟨hp.length, 4, 0⟩ 0) (ec : fget fr 10 = .int .i64 0) :
    OL 3 (L :: bput hp r (wrC (Rx.rwL l (d + 1) s))) (.ptr r 0) (.int .i64 d) (.ptr ⟨hp.length, 4, 0⟩ 0) (LC X (fun _ => []) (.loop x59_l1) ⟨fr, L :: bput hp r (wrC s)⟩) := by
  obtain ⟨s0, h0⟩ := h0
  have hne := cellsAt_ne h0
  have hb := fun b => cellsAt_bput h0 b
  have hw : wr .i64 (d + 1) = d + 1 := wr_i64 _ (by omega)
  obtain ⟨p1, u1, n1, d1, f1⟩ := hv.one
  have hlen := Rx.cellsL_len l
  rw [hlen] at n1
  obtain ⟨I, hI⟩ : ∃ I : Nat → List AV → Heap → Prop, ∀ i fr hp', I i fr hp' ↔ (hp' = L :: bput hp r (wrC (Rx.rwL (l.take i) (d + 1) s)) ∧ fget fr 0 = .ptr r 0 ∧ fget fr 2 = .int .i64 d ∧ fget fr 4 = .ptr ⟨hp.length, 4, 0⟩ 0 ∧ fget fr 10 = .int .i64 (i : Nat)) := ⟨_, fun _ _ _ => Iff.rfl⟩
  obtain ⟨Q, hQ⟩ : ∃ Q : XExit → List AV → Heap → Prop, ∀ e fr hp', Q e fr hp' ↔ (hp' = L :: bput hp r (wrC (Rx.rwL l (d + 1) s)) ∧ e = .exit 3 ∧ fget fr 0 = .ptr r 0 ∧ fget fr 2 = .int .i64 d ∧ fget fr 4 = .ptr ⟨hp.length, 4, 0⟩ 0) := ⟨_, fun _ _ _ => Iff.rfl⟩
  refine LC_upK l.length I Q (fun x => OL 3 _ _ _ _ x) ?_ ?_ ?_ ?_
  · rw [hI]
    exact ⟨by rw [List.take_zero, Rx.rwL], e0, e2, e4, ec⟩
  · intro i hi fr hp' h
    obtain ⟨rfl, e0, e2, e4, ec⟩ := (hI _ _ _).1 h
    have hv' : v = .lst .none 3 (Rx.cellsL l) := by
      rcases hv with ⟨_, e⟩ | e
      · rw [e] at hlen; simp at hlen; omega
      · exact e
    have k1 : ((i : Int) < ((Rx.cellsL l).length : Int)) = True := by rw [hlen]; simp; omega
    have k2 : (i < (Rx.cellsL l).length) = True := by rw [hlen]; simp; omega
    have w1 : wr .i64 ((i : Int) + 1) = ((i + 1 : Nat) : Int) := by rw [wr_i64 _ (by omega)]; omega
    have g1 : (Rx.cellsL l).getD i [] = (l[i]).cells := by simp [Rx.cellsL_eq, List.getD, hi]
    have hmem : l[i] ∈ l := List.getElem_mem hi
    obtain ⟨a1, a2, a3, a4, a5⟩ := flatRx (Rx.fitL_mem hfit _ hmem)
    have a1' : (3 ≤ (l[i]).cells.length) = True := by simp; omega
    have hih := ih _ hmem (d + 1) (by omega) (by omega)
    have htk := Rx.rwL_take l i hi (d + 1) s
    subst hv'
    simp +contextual -implicitDefEqProofs (maxSteps := 10000000) only [x59_l1_run, go_sem, ↓reduceIte, reduceCtorEq, Nat.reduceEqDiff, e0, e2, e4, ec, hL, k1, k2, w1, hw, g1, a1, a3, a4, o_callw, hih, cellsAt_cons, bput_cons, bput_bput, bput_len, hne, hb, isWr_C, wrOf_C, cwK_top, ldAt_topc]
    rw [hI]
    refine ⟨by rw [htk], ?_, ?_, ?_, ?_⟩ <;> simp only [go_sem, ↓reduceIte, reduceCtorEq, Nat.reduceEqDiff, e0, e2, e4]
  · intro fr hp' h
    obtain ⟨rfl, e0, e2, e4, ec⟩ := (hI _ _ _).1 h
    simp +contextual -implicitDefEqProofs (maxSteps := 10000000) only [x59_l1_run, go_sem, ↓reduceIte, Nat.reduceEqDiff, e4, ec, hL, u1, n1, ldAt_topc, bput_len, Int.lt_irrefl]
    rw [hQ]
    refine ⟨by rw [List.take_length], rfl, ?_, ?_, ?_⟩ <;> simp only [go_sem, ↓reduceIte, reduceCtorEq, Nat.reduceEqDiff, e0, e2, e4]
  · intro e fr hp' he h
    obtain ⟨rfl, rfl, g0, g2, g4⟩ := (hQ _ _ _).1 h
    exact ⟨_, rfl, g0, g2, g4⟩
theorem l_rft (l : List Tm) (hfit : Tm.fitL l) (hl : l.length * 8 ≤ 140737488351232) (r : Ref) (d : Int) (hd : 0 ≤ d ∧ d ≤ 24) (v : AV) (hv : Sl 7 v (Tm.cellsL l)) (hp : Heap) (s : Wr) (h0 : ∃ s0, cellsAt hp r = some (wrC s0)) (L : Level) (k : Int) (n : List UInt8) (op : Int) (v1 v3 v4 : AV) (lo hi : Int) (o : Bool) (hL : lcells L 4 0 = some [.int .i64 k, .str n, .int .i64 op, v1, v, .int .i64 lo, .int .i64 hi, .bool o, v3, v4])
    (ih : ∀ t ∈ l, TrI r t) (fr : List AV) (e0 : fget fr 0 = .ptr r 0) (e2 : fget fr 2 = .int .i64 d) (e4 : fget fr 4 = .ptr ⟨hp.length, 4, 0⟩ 0) (ec : fget fr 12 = .int .i64 0) :
    OL 0 (L :: bput hp r (wrC (Tm.rwL l (d + 1) s))) (.ptr r 0) (.int .i64 d) (.ptr ⟨hp.length, 4, 0⟩ 0) (LC X (fun _ => []) (.loop x31_l0) ⟨fr, L :: bput hp r (wrC s)⟩) := by
  obtain ⟨s0, h0⟩ := h0
  have hne := cellsAt_ne h0
  have hb := fun b => cellsAt_bput h0 b
  have hw : wr .i64 (d + 1) = d + 1 := wr_i64 _ (by omega)
  obtain ⟨p1, u1, n1, d1, f1⟩ := hv.one
  have hlen := Tm.cellsL_len l
  rw [hlen] at n1
  obtain ⟨I, hI⟩ : ∃ I : Nat → List AV → Heap → Prop, ∀ i fr hp', I i fr hp' ↔ (hp' = L :: bput hp r (wrC (Tm.rwL (l.take i) (d + 1) s)) ∧ fget fr 0 = .ptr r 0 ∧ fget fr 2 = .int .i64 d ∧ fget fr 4 = .ptr ⟨hp.length, 4, 0⟩ 0 ∧ fget fr 12 = .int .i64 (i : Nat)) := ⟨_, fun _ _ _ => Iff.rfl⟩
  obtain ⟨Q, hQ⟩ : ∃ Q : XExit → List AV → Heap → Prop, ∀ e fr hp', Q e fr hp' ↔ (hp' = L :: bput hp r (wrC (Tm.rwL l (d + 1) s)) ∧ e = .exit 0 ∧ fget fr 0 = .ptr r 0 ∧ fget fr 2 = .int .i64 d ∧ fget fr 4 = .ptr ⟨hp.length, 4, 0⟩ 0) := ⟨_, fun _ _ _ => Iff.rfl⟩
  refine LC_upK l.length I Q (fun x => OL 0 _ _ _ _ x) ?_ ?_ ?_ ?_
  · rw [hI]
    exact ⟨by rw [List.take_zero, Tm.rwL], e0, e2, e4, ec⟩
  · intro i hi fr hp' h
    obtain ⟨rfl, e0, e2, e4, ec⟩ := (hI _ _ _).1 h
    have hv' : v = .lst .none 7 (Tm.cellsL l) := by
      rcases hv with ⟨_, e⟩ | e
      · rw [e] at hlen; simp at hlen; omega
      · exact e
    have k1 : ((i : Int) < ((Tm.cellsL l).length : Int)) = True := by rw [hlen]; simp; omega
    have k2 : (i < (Tm.cellsL l).length) = True := by rw [hlen]; simp; omega
    have w1 : wr .i64 ((i : Int) + 1) = ((i + 1 : Nat) : Int) := by rw [wr_i64 _ (by omega)]; omega
    have g1 : (Tm.cellsL l).getD i [] = (l[i]).cells := by simp [Tm.cellsL_eq, List.getD, hi]
    have hmem : l[i] ∈ l := List.getElem_mem hi
    obtain ⟨a1, a2, a3, a4, a5⟩ := flatTm (Tm.fitL_mem hfit _ hmem)
    have a1' : (7 ≤ (l[i]).cells.length) = True := by simp; omega
    have hih := ih _ hmem (d + 1) (by omega) (by omega)
    have htk := Tm.rwL_take l i hi (d + 1) s
    subst hv'
    simp +contextual -implicitDefEqProofs (maxSteps := 10000000) only [x31_l0_run, go_sem, ↓reduceIte, reduceCtorEq, Nat.reduceEqDiff, e0, e2, e4, ec, hL, k1, k2, w1, hw, g1, a1, a3, a4, o_callw, hih, cellsAt_cons, bput_cons, bput_bput, bput_len, hne, hb, isWr_C, wrOf_C, cwK_top, ldAt_topc]
    rw [hI]
    refine ⟨by rw [htk], ?_, ?_, ?_, ?_⟩ <;> simp only [go_sem, ↓reduceIte, reduceCtorEq, Nat.reduceEqDiff, e0, e2, e4]
  · intro fr hp' h
    obtain ⟨rfl, e0, e2, e4, ec⟩ := (hI _ _ _).1 h
    simp +contextual -implicitDefEqProofs (maxSteps := 10000000) only [x31_l0_run, go_sem, ↓reduceIte, Nat.reduceEqDiff, e4, ec, hL, u1, n1, ldAt_topc, bput_len, Int.lt_irrefl]
    rw [hQ]
    refine ⟨by rw [List.take_length], rfl, ?_, ?_, ?_⟩ <;> simp only [go_sem, ↓reduceIte, reduceCtorEq, Nat.reduceEqDiff, e0, e2, e4]
  · intro e fr hp' he h
    obtain ⟨rfl, rfl, g0, g2, g4⟩ := (hQ _ _ _).1 h
    exact ⟨_, rfl, g0, g2, g4⟩
theorem l_rfx (l : List Rx) (hfit : Rx.fitL l) (hl : l.length * 8 ≤ 140737488351232) (r : Ref) (d : Int) (hd : 0 ≤ d ∧ d ≤ 24) (v : AV) (hv : Sl 3 v (Rx.cellsL l)) (hp : Heap) (s : Wr) (h0 : ∃ s0, cellsAt hp r = some (wrC s0)) (L : Level) (k : Int) (n : List UInt8) (op : Int) (v1 v2 v3 : AV) (lo hi : Int) (o : Bool) (hL : lcells L 4 0 = some [.int .i64 k, .str n, .int .i64 op, v1, v2, .int .i64 lo, .int .i64 hi, .bool o, v3, v])
    (ih : ∀ t ∈ l, XrI r t) (fr : List AV) (e0 : fget fr 0 = .ptr r 0) (e2 : fget fr 2 = .int .i64 d) (e4 : fget fr 4 = .ptr ⟨hp.length, 4, 0⟩ 0) (ec : fget fr 13 = .int .i64 0) :
    OL 2 (L :: bput hp r (wrC (Rx.rwL l (d + 1) s))) (.ptr r 0) (.int .i64 d) (.ptr ⟨hp.length, 4, 0⟩ 0) (LC X (fun _ => []) (.loop x31_l1) ⟨fr, L :: bput hp r (wrC s)⟩) := by
  obtain ⟨s0, h0⟩ := h0
  have hne := cellsAt_ne h0
  have hb := fun b => cellsAt_bput h0 b
  have hw : wr .i64 (d + 1) = d + 1 := wr_i64 _ (by omega)
  obtain ⟨p1, u1, n1, d1, f1⟩ := hv.one
  have hlen := Rx.cellsL_len l
  rw [hlen] at n1
  obtain ⟨I, hI⟩ : ∃ I : Nat → List AV → Heap → Prop, ∀ i fr hp', I i fr hp' ↔ (hp' = L :: bput hp r (wrC (Rx.rwL (l.take i) (d + 1) s)) ∧ fget fr 0 = .ptr r 0 ∧ fget fr 2 = .int .i64 d ∧ fget fr 4 = .ptr ⟨hp.length, 4, 0⟩ 0 ∧ fget fr 13 = .int .i64 (i : Nat)) := ⟨_, fun _ _ _ => Iff.rfl⟩
  obtain ⟨Q, hQ⟩ : ∃ Q : XExit → List AV → Heap → Prop, ∀ e fr hp', Q e fr hp' ↔ (hp' = L :: bput hp r (wrC (Rx.rwL l (d + 1) s)) ∧ e = .exit 2 ∧ fget fr 0 = .ptr r 0 ∧ fget fr 2 = .int .i64 d ∧ fget fr 4 = .ptr ⟨hp.length, 4, 0⟩ 0) := ⟨_, fun _ _ _ => Iff.rfl⟩
  refine LC_upK l.length I Q (fun x => OL 2 _ _ _ _ x) ?_ ?_ ?_ ?_
  · rw [hI]
    exact ⟨by rw [List.take_zero, Rx.rwL], e0, e2, e4, ec⟩
  · intro i hi fr hp' h
    obtain ⟨rfl, e0, e2, e4, ec⟩ := (hI _ _ _).1 h
    have hv' : v = .lst .none 3 (Rx.cellsL l) := by
      rcases hv with ⟨_, e⟩ | e
      · rw [e] at hlen; simp at hlen; omega
      · exact e
    have k1 : ((i : Int) < ((Rx.cellsL l).length : Int)) = True := by rw [hlen]; simp; omega
    have k2 : (i < (Rx.cellsL l).length) = True := by rw [hlen]; simp; omega
    have w1 : wr .i64 ((i : Int) + 1) = ((i + 1 : Nat) : Int) := by rw [wr_i64 _ (by omega)]; omega
    have g1 : (Rx.cellsL l).getD i [] = (l[i]).cells := by simp [Rx.cellsL_eq, List.getD, hi]
    have hmem : l[i] ∈ l := List.getElem_mem hi
    obtain ⟨a1, a2, a3, a4, a5⟩ := flatRx (Rx.fitL_mem hfit _ hmem)
    have a1' : (3 ≤ (l[i]).cells.length) = True := by simp; omega
    have hih := ih _ hmem (d + 1) (by omega) (by omega)
    have htk := Rx.rwL_take l i hi (d + 1) s
    subst hv'
    simp +contextual -implicitDefEqProofs (maxSteps := 10000000) only [x31_l1_run, go_sem, ↓reduceIte, reduceCtorEq, Nat.reduceEqDiff, e0, e2, e4, ec, hL, k1, k2, w1, hw, g1, a1, a3, a4, o_callw, hih, cellsAt_cons, bput_cons, bput_bput, bput_len, hne, hb, isWr_C, wrOf_C, cwK_top, ldAt_topc]
    rw [hI]
    refine ⟨by rw [htk], ?_, ?_, ?_, ?_⟩ <;> simp only [go_sem, ↓reduceIte, reduceCtorEq, Nat.reduceEqDiff, e0, e2, e4]
  · intro fr hp' h
    obtain ⟨rfl, e0, e2, e4, ec⟩ := (hI _ _ _).1 h
    simp +contextual -implicitDefEqProofs (maxSteps := 10000000) only [x31_l1_run, go_sem, ↓reduceIte, Nat.reduceEqDiff, e4, ec, hL, u1, n1, ldAt_topc, bput_len, Int.lt_irrefl]
    rw [hQ]
    refine ⟨by rw [List.take_length], rfl, ?_, ?_, ?_⟩ <;> simp only [go_sem, ↓reduceIte, reduceCtorEq, Nat.reduceEqDiff, e0, e2, e4]
  · intro e fr hp' he h
    obtain ⟨rfl, rfl, g0, g2, g4⟩ := (hQ _ _ _).1 h
    exact ⟨_, rfl, g0, g2, g4⟩
theorem l_rff (l : List Fm) (hfit : Fm.fitL l) (hl : l.length * 8 ≤ 140737488351232) (r : Ref) (d : Int) (hd : 0 ≤ d ∧ d ≤ 24) (v : AV) (hv : Sl 10 v (Fm.cellsL l)) (hp : Heap) (s : Wr) (h0 : ∃ s0, cellsAt hp r = some (wrC s0)) (L : Level) (k : Int) (n : List UInt8) (op : Int) (v1 v2 v4 : AV) (lo hi : Int) (o : Bool) (hL : lcells L 4 0 = some [.int .i64 k, .str n, .int .i64 op, v1, v2, .int .i64 lo, .int .i64 hi, .bool o, v, v4])
    (ih : ∀ t ∈ l, FrI r t) (fr : List AV) (e0 : fget fr 0 = .ptr r 0) (e2 : fget fr 2 = .int .i64 d) (e4 : fget fr 4 = .ptr ⟨hp.length, 4, 0⟩ 0) (ec : fget fr 14 = .int .i64 0) :
    OL 4 (L :: bput hp r (wrC (Fm.rwL l (d + 1) s))) (.ptr r 0) (.int .i64 d) (.ptr ⟨hp.length, 4, 0⟩ 0) (LC X (fun _ => []) (.loop x31_l2) ⟨fr, L :: bput hp r (wrC s)⟩) := by
  obtain ⟨s0, h0⟩ := h0
  have hne := cellsAt_ne h0
  have hb := fun b => cellsAt_bput h0 b
  have hw : wr .i64 (d + 1) = d + 1 := wr_i64 _ (by omega)
  obtain ⟨p1, u1, n1, d1, f1⟩ := hv.one
  have hlen := Fm.cellsL_len l
  rw [hlen] at n1
  obtain ⟨I, hI⟩ : ∃ I : Nat → List AV → Heap → Prop, ∀ i fr hp', I i fr hp' ↔ (hp' = L :: bput hp r (wrC (Fm.rwL (l.take i) (d + 1) s)) ∧ fget fr 0 = .ptr r 0 ∧ fget fr 2 = .int .i64 d ∧ fget fr 4 = .ptr ⟨hp.length, 4, 0⟩ 0 ∧ fget fr 14 = .int .i64 (i : Nat)) := ⟨_, fun _ _ _ => Iff.rfl⟩
  obtain ⟨Q, hQ⟩ : ∃ Q : XExit → List AV → Heap → Prop, ∀ e fr hp', Q e fr hp' ↔ (hp' = L :: bput hp r (wrC (Fm.rwL l (d + 1) s)) ∧ e = .exit 4 ∧ fget fr 0 = .ptr r 0 ∧ fget fr 2 = .int .i64 d ∧ fget fr 4 = .ptr ⟨hp.length, 4, 0⟩ 0) := ⟨_, fun _ _ _ => Iff.rfl⟩
  refine LC_upK l.length I Q (fun x => OL 4 _ _ _ _ x) ?_ ?_ ?_ ?_
  · rw [hI]
    exact ⟨by rw [List.take_zero, Fm.rwL], e0, e2, e4, ec⟩
  · intro i hi fr hp' h
    obtain ⟨rfl, e0, e2, e4, ec⟩ := (hI _ _ _).1 h
    have hv' : v = .lst .none 10 (Fm.cellsL l) := by
      rcases hv with ⟨_, e⟩ | e
      · rw [e] at hlen; simp at hlen; omega
      · exact e
    have k1 : ((i : Int) < ((Fm.cellsL l).length : Int)) = True := by rw [hlen]; simp; omega
    have k2 : (i < (Fm.cellsL l).length) = True := by rw [hlen]; simp; omega
    have w1 : wr .i64 ((i : Int) + 1) = ((i + 1 : Nat) : Int) := by rw [wr_i64 _ (by omega)]; omega
    have g1 : (Fm.cellsL l).getD i [] = (l[i]).cells := by simp [Fm.cellsL_eq, List.getD, hi]
    have hmem : l[i] ∈ l := List.getElem_mem hi
    obtain ⟨a1, a2, a3, a4, a5⟩ := flatFm (Fm.fitL_mem hfit _ hmem)
    have a1' : (10 ≤ (l[i]).cells.length) = True := by simp; omega
    have hih := ih _ hmem (d + 1) (by omega) (by omega)
    have htk := Fm.rwL_take l i hi (d + 1) s
    subst hv'
    simp +contextual -implicitDefEqProofs (maxSteps := 10000000) only [x31_l2_run, go_sem, ↓reduceIte, reduceCtorEq, Nat.reduceEqDiff, e0, e2, e4, ec, hL, k1, k2, w1, hw, g1, a1, a3, a4, o_callw, hih, cellsAt_cons, bput_cons, bput_bput, bput_len, hne, hb, isWr_C, wrOf_C, cwK_top, ldAt_topc]
    rw [hI]
    refine ⟨by rw [htk], ?_, ?_, ?_, ?_⟩ <;> simp only [go_sem, ↓reduceIte, reduceCtorEq, Nat.reduceEqDiff, e0, e2, e4]
  · intro fr hp' h
    obtain ⟨rfl, e0, e2, e4, ec⟩ := (hI _ _ _).1 h
    simp +contextual -implicitDefEqProofs (maxSteps := 10000000) only [x31_l2_run, go_sem, ↓reduceIte, Nat.reduceEqDiff, e4, ec, hL, u1, n1, ldAt_topc, bput_len, Int.lt_irrefl]
    rw [hQ]
    refine ⟨by rw [List.take_length], rfl, ?_, ?_, ?_⟩ <;> simp only [go_sem, ↓reduceIte, reduceCtorEq, Nat.reduceEqDiff, e0, e2, e4]
  · intro e fr hp' he h
    obtain ⟨rfl, rfl, g0, g2, g4⟩ := (hQ _ _ _).1 h
    exact ⟨_, rfl, g0, g2, g4⟩
theorem p_rregex_step (k : Int) (bt : Bool) (ts : List Fm) (bs : Bool) (ss : List Rx) (hfit : (Rx.mk k bt ts bs ss).fit) (r : Ref) (ihf : ∀ t ∈ ts, FrI r t) (ihx : ∀ t ∈ ss, XrI r t) : XrI r (Rx.mk k bt ts bs ss) := by
  intro d hd0 hd25 hp h
  have h0 := isWr_of h
  generalize wrOf (cellsAt hp r) = s at h0
  have hne := cellsAt_ne h0
  have hb := fun b => cellsAt_bput h0 b
  have hnode := fun hp h => p_node r d hp h
  have hwrong := fun ok c hp h => p_wrong r ok c hp h
  simp only [Rx.fit] at hfit
  obtain ⟨i1, i2, hft, hfs⟩ := hfit
  rw [Rx.cells]
  have hsl := slv_Sl bt 10 (Fm.cellsL ts)
  generalize slv bt 10 (Fm.cellsL ts) = v at hsl
  obtain ⟨p1, u1', n1, d1, f1⟩ := hsl.one
  rw [Fm.cellsL_len] at n1
  have hsl2 := slv_Sl bs 3 (Rx.cellsL ss)
  generalize slv bs 3 (Rx.cellsL ss) = v2 at hsl2
  obtain ⟨p2, u2', n2, d2, f2⟩ := hsl2.one
  rw [Rx.cellsL_len] at n2
  obtain ⟨s1, hs1⟩ : ∃ s1, rnode d s = s1 := ⟨_, rfl⟩
  have hrun : (Rx.mk k bt ts bs ss).rw d s = if s1.e ≠ 0 then s1 else if rErr k ts.length ss.length ≠ 0 then { s1 with e := rErr k ts.length ss.length } else Rx.rwL ss (d + 1) (Fm.rwL ts (d + 1) s1) := by
    rw [Rx.rw]; simp only [hs1]
  rw [hrun]
  rw [CL_eq (fn := x59) rfl]
  by_cases he : s1.e = 0
  · have hd24 : d ≤ 24 := rnode_le (by rw [hs1]; exact he)
    rw [if_neg (by simp [he])]
    obtain ⟨E, hE⟩ : ∃ E, rErr k ts.length ss.length = E := ⟨_, rfl⟩
    rw [hE]
    have wf : ∀ c s, wrongW false c s = s := fun c s => by simp [wrongW]
    have we : ∀ b c (s : Wr), s.e ≠ 0 → wrongW b c s = s := fun b c s h => by simp [wrongW, h]
    have wt : ∀ c, wrongW true c s1 = { s1 with e := c } := fun c => by simp [wrongW, he]
    have hloop1 := fun fr e0 e2 e4 ec L hL => l_rxf ts hft (by omega) r d ⟨hd0, hd24⟩ v hsl hp s1 ⟨s, h0⟩ L k v2 hL ihf fr e0 e2 e4 ec
    have hloop2 := fun s2 fr e0 e2 e4 ec L hL => l_rxx ss hfs (by omega) r d ⟨hd0, hd24⟩ v2 hsl2 hp s2 ⟨s, h0⟩ L k v hL ihx fr e0 e2 e4 ec
    by_cases hk : 1 ≤ k ∧ k ≤ 5
    · have hk5 : k = 1 ∨ k = 2 ∨ k = 3 ∨ k = 4 ∨ k = 5 := by omega
      have hsub : ∀ a b : Nat, a = (if k = 2 then 1 else 0) → b = (if k = 3 ∨ k = 4 then 2 else if k = 5 then 1 else 0) → ∀ x y : Bool, ((ts.length : Int) != (a : Int)) = x → ((ss.length : Int) != (b : Int)) = y → E = if (x || y) = true then 1 else 0 := by
        intro a b ha hb x y hx hy
        rw [← hE]
        unfold rErr
        rw [if_neg (by omega), ← hx, ← hy, ← ha, ← hb]
        by_cases e1 : ts.length = a <;> by_cases e2 : ss.length = b <;> simp [e1, e2]
        all_goals omega
      rcases hk5 with rfl | rfl | rfl | rfl | rfl
      · obtain ⟨x, hx⟩ : ∃ x, ((ts.length : Int) != 0) = x := ⟨_, rfl⟩
        obtain ⟨y, hy⟩ : ∃ y, ((ss.length : Int) != 0) = y := ⟨_, rfl⟩
        have hs := hsub 0 0 rfl rfl x y hx hy
        cases x
        · cases y
          · simp at hs
            subst hs
            simp +contextual -implicitDefEqProofs (maxSteps := 10000000) only [x59, go_sem, ↓reduceIte, reduceCtorEq, Nat.reduceEqDiff, Nat.reduceAdd, Int.reduceLT, Int.reduceBEq, Int.reduceBNe, u1', p1, n1, u2', p2, n2, hne, hb, h0, hnode, hwrong, hs1, he, o_callw, cellsAt_cons, bput_cons, bput_bput, bput_len, isWr_C, wrOf_C, cwK_top, ldAt_topc, ldAt_cons, ldK_wr, wf, hx, hy]
            refine elimL (fun x => finK _ (seqK (blockK 1 x) _) = _) (hloop1 _ ?_ ?_ ?_ ?_ _ ?_) ?_
            all_goals try simp only [go_sem, ↓reduceIte, reduceCtorEq, Nat.reduceEqDiff]
            rintro x ⟨fr', rfl, g0, g2, g4⟩
            simp +contextual -implicitDefEqProofs (maxSteps := 10000000) only [go_sem, ↓reduceIte]
            refine elimL (fun x => finK _ (blockK 3 x) = _) (hloop2 _ _ ?_ ?_ ?_ ?_ _ ?_) ?_
            all_goals try simp only [go_sem, ↓reduceIte, reduceCtorEq, Nat.reduceEqDiff, g0, g2, g4]
            rintro x ⟨fr', rfl, g0, g2, g4⟩
            simp +contextual -implicitDefEqProofs (maxSteps := 10000000) only [go_sem, ↓reduceIte]
          · simp at hs
            subst hs
            simp +contextual -implicitDefEqProofs (maxSteps := 10000000) only [x59, go_sem, ↓reduceIte, reduceCtorEq, Nat.reduceEqDiff, Nat.reduceAdd, Int.reduceEq, Int.reduceLT, Int.reduceBEq, Int.reduceBNe, u1', p1, n1, u2', p2, n2, hne, hb, h0, hnode, hwrong, hs1, he, o_callw, cellsAt_cons, bput_cons, bput_bput, bput_len, isWr_C, wrOf_C, cwK_top, ldAt_topc, ldAt_cons, ldK_wr, wf, wt, hx, hy]
        · simp at hs
          subst hs
          simp +contextual -implicitDefEqProofs (maxSteps := 10000000) only [x59, go_sem, ↓reduceIte, reduceCtorEq, Nat.reduceEqDiff, Nat.reduceAdd, Int.reduceEq, Int.reduceLT, Int.reduceBEq, Int.reduceBNe, u1', p1, n1, u2', p2, hne, hb, h0, hnode, hwrong, hs1, he, o_callw, cellsAt_cons, bput_cons, bput_bput, bput_len, isWr_C, wrOf_C, cwK_top, ldAt_topc, ldAt_cons, ldK_wr, wf, wt, hx]
      · obtain ⟨x, hx⟩ : ∃ x, ((ts.length : Int) != 1) = x := ⟨_, rfl⟩
        obtain ⟨y, hy⟩ : ∃ y, ((ss.length : Int) != 0) = y := ⟨_, rfl⟩
        have hs := hsub 1 0 rfl rfl x y hx hy
        cases x
        · cases y
          · simp at hs
            subst hs
            simp +contextual -implicitDefEqProofs (maxSteps := 10000000) only [x59, go_sem, ↓reduceIte, reduceCtorEq, Nat.reduceEqDiff, Nat.reduceAdd, Int.reduceLT, Int.reduceBEq, Int.reduceBNe, u1', p1, n1, u2', p2, n2, hne, hb, h0, hnode, hwrong, hs1, he, o_callw, cellsAt_cons, bput_cons, bput_bput, bput_len, isWr_C, wrOf_C, cwK_top, ldAt_topc, ldAt_cons, ldK_wr, wf, hx, hy]
            refine elimL (fun x => finK _ (seqK (blockK 1 x) _) = _) (hloop1 _ ?_ ?_ ?_ ?_ _ ?_) ?_
            all_goals try simp only [go_sem, ↓reduceIte, reduceCtorEq, Nat.reduceEqDiff]
            rintro x ⟨fr', rfl, g0, g2, g4⟩
            simp +contextual -implicitDefEqProofs (maxSteps := 10000000) only [go_sem, ↓reduceIte]
            refine elimL (fun x => finK _ (blockK 3 x) = _) (hloop2 _ _ ?_ ?_ ?_ ?_ _ ?_) ?_
            all_goals try simp only [go_sem, ↓reduceIte, reduceCtorEq, Nat.reduceEqDiff, g0, g2, g4]
            rintro x ⟨fr', rfl, g0, g2, g4⟩
            simp +contextual -implicitDefEqProofs (maxSteps := 10000000) only [go_sem, ↓reduceIte]
          · simp at hs
            subst hs
            simp +contextual -implicitDefEqProofs (maxSteps := 10000000) only [x59, go_sem, ↓reduceIte, reduceCtorEq, Nat.reduceEqDiff, Nat.reduceAdd, Int.reduceEq, Int.reduceLT, Int.reduceBEq, Int.reduceBNe, u1', p1, n1, u2', p2, n2, hne, hb, h0, hnode, hwrong, hs1, he, o_callw, cellsAt_cons, bput_cons, bput_bput, bput_len, isWr_C, wrOf_C, cwK_top, ldAt_topc, ldAt_cons, ldK_wr, wf, wt, hx, hy]
        · simp at hs
          subst hs
          simp +contextual -implicitDefEqProofs (maxSteps := 10000000) only [x59, go_sem, ↓reduceIte, reduceCtorEq, Nat.reduceEqDiff, Nat.reduceAdd, Int.reduceEq, Int.reduceLT, Int.reduceBEq, Int.reduceBNe, u1', p1, n1, u2', p2, hne, hb, h0, hnode, hwrong, hs1, he, o_callw, cellsAt_cons, bput_cons, bput_bput, bput_len, isWr_C, wrOf_C, cwK_top, ldAt_topc, ldAt_cons, ldK_wr, wf, wt, hx]
      · obtain ⟨x, hx⟩ : ∃ x, ((ts.length : Int) != 0) = x := ⟨_, rfl⟩
        obtain ⟨y, hy⟩ : ∃ y, ((ss.length : Int) != 2) = y := ⟨_, rfl⟩
        have hs := hsub 0 2 rfl rfl x y hx hy
        cases x
        · cases y
          · simp at hs
            subst hs
            simp +contextual -implicitDefEqProofs (maxSteps := 10000000) only [x59, go_sem, ↓reduceIte, reduceCtorEq, Nat.reduceEqDiff, Nat.reduceAdd, Int.reduceLT, Int.reduceBEq, Int.reduceBNe, u1', p1, n1, u2', p2, n2, hne, hb, h0, hnode, hwrong, hs1, he, o_callw, cellsAt_cons, bput_cons, bput_bput, bput_len, isWr_C, wrOf_C, cwK_top, ldAt_topc, ldAt_cons, ldK_wr, wf, hx, hy]
            refine elimL (fun x => finK _ (seqK (blockK 1 x) _) = _) (hloop1 _ ?_ ?_ ?_ ?_ _ ?_) ?_
            all_goals try simp only [go_sem, ↓reduceIte, reduceCtorEq, Nat.reduceEqDiff]
            rintro x ⟨fr', rfl, g0, g2, g4⟩
            simp +contextual -implicitDefEqProofs (maxSteps := 10000000) only [go_sem, ↓reduceIte]
            refine elimL (fun x => finK _ (blockK 3 x) = _) (hloop2 _ _ ?_ ?_ ?_ ?_ _ ?_) ?_
            all_goals try simp only [go_sem, ↓reduceIte, reduceCtorEq, Nat.reduceEqDiff, g0, g2, g4]
            rintro x ⟨fr', rfl, g0, g2, g4⟩
            simp +contextual -implicitDefEqProofs (maxSteps := 10000000) only [go_sem, ↓reduceIte]
          · simp at hs
            subst hs
            simp +contextual -implicitDefEqProofs (maxSteps := 10000000) only [x59, go_sem, ↓reduceIte, reduceCtorEq, Nat.reduceEqDiff, Nat.reduceAdd, Int.reduceEq, Int.reduceLT, Int.reduceBEq, Int.reduceBNe, u1', p1, n1, u2', p2, n2, hne, hb, h0, hnode, hwrong, hs1, he, o_callw, cellsAt_cons, bput_cons, bput_bput, bput_len, isWr_C, wrOf_C, cwK_top, ldAt_topc, ldAt_cons, ldK_wr, wf, wt, hx, hy]
        · simp at hs
          subst hs
          simp +contextual -implicitDefEqProofs (maxSteps := 10000000) only [x59, go_sem, ↓reduceIte, reduceCtorEq, Nat.reduceEqDiff, Nat.reduceAdd, Int.reduceEq, Int.reduceLT, Int.reduceBEq, Int.reduceBNe, u1', p1, n1, u2', p2, hne, hb, h0, hnode, hwrong, hs1, he, o_callw, cellsAt_cons, bput_cons, bput_bput, bput_len, isWr_C, wrOf_C, cwK_top, ldAt_topc, ldAt_cons, ldK_wr, wf, wt, hx]
      · obtain ⟨x, hx⟩ : ∃ x, ((ts.length : Int) != 0) = x := ⟨_, rfl⟩
        obtain ⟨y, hy⟩ : ∃ y, ((ss.length : Int) != 2) = y := ⟨_, rfl⟩
        have hs := hsub 0 2 rfl rfl x y hx hy
        cases x
        · cases y
          · simp at hs
            subst hs
            simp +contextual -implicitDefEqProofs (maxSteps := 10000000) only [x59, go_sem, ↓reduceIte, reduceCtorEq, Nat.reduceEqDiff, Nat.reduceAdd, Int.reduceLT, Int.reduceBEq, Int.reduceBNe, u1', p1, n1, u2', p2, n2, hne, hb, h0, hnode, hwrong, hs1, he, o_callw, cellsAt_cons, bput_cons, bput_bput, bput_len, isWr_C, wrOf_C, cwK_top, ldAt_topc, ldAt_cons, ldK_wr, wf, hx, hy]
            refine elimL (fun x => finK _ (seqK (blockK 1 x) _) = _) (hloop1 _ ?_ ?_ ?_ ?_ _ ?_) ?_
            all_goals try simp only [go_sem, ↓reduceIte, reduceCtorEq, Nat.reduceEqDiff]
            rintro x ⟨fr', rfl, g0, g2, g4⟩
            simp +contextual -implicitDefEqProofs (maxSteps := 10000000) only [go_sem, ↓reduceIte]
            refine elimL (fun x => finK _ (blockK 3 x) = _) (hloop2 _ _ ?_ ?_ ?_ ?_ _ ?_) ?_
            all_goals try simp only [go_sem, ↓reduceIte, reduceCtorEq, Nat.reduceEqDiff, g0, g2, g4]
            rintro x ⟨fr', rfl, g0, g2, g4⟩
            simp +contextual -implicitDefEqProofs (maxSteps := 10000000) only [go_sem, ↓reduceIte]
          · simp at hs
            subst hs
            simp +contextual -implicitDefEqProofs (maxSteps := 10000000) only [x59, go_sem, ↓reduceIte, reduceCtorEq, Nat.reduceEqDiff, Nat.reduceAdd, Int.reduceEq, Int.reduceLT, Int.reduceBEq, Int.reduceBNe, u1', p1, n1, u2', p2, n2, hne, hb, h0, hnode, hwrong, hs1, he, o_callw, cellsAt_cons, bput_cons, bput_bput, bput_len, isWr_C, wrOf_C, cwK_top, ldAt_topc, ldAt_cons, ldK_wr, wf, wt, hx, hy]
        · simp at hs
          subst hs
          simp +contextual -implicitDefEqProofs (maxSteps := 10000000) only [x59, go_sem, ↓reduceIte, reduceCtorEq, Nat.reduceEqDiff, Nat.reduceAdd, Int.reduceEq, Int.reduceLT, Int.reduceBEq, Int.reduceBNe, u1', p1, n1, u2', p2, hne, hb, h0, hnode, hwrong, hs1, he, o_callw, cellsAt_cons, bput_cons, bput_bput, bput_len, isWr_C, wrOf_C, cwK_top, ldAt_topc, ldAt_cons, ldK_wr, wf, wt, hx]
      · obtain ⟨x, hx⟩ : ∃ x, ((ts.length : Int) != 0) = x := ⟨_, rfl⟩
        obtain ⟨y, hy⟩ : ∃ y, ((ss.length : Int) != 1) = y := ⟨_, rfl⟩
        have hs := hsub 0 1 rfl rfl x y hx hy
        cases x
        · cases y
          · simp at hs
            subst hs
            simp +contextual -implicitDefEqProofs (maxSteps := 10000000) only [x59, go_sem, ↓reduceIte, reduceCtorEq, Nat.reduceEqDiff, Nat.reduceAdd, Int.reduceLT, Int.reduceBEq, Int.reduceBNe, u1', p1, n1, u2', p2, n2, hne, hb, h0, hnode, hwrong, hs1, he, o_callw, cellsAt_cons, bput_cons, bput_bput, bput_len, isWr_C, wrOf_C, cwK_top, ldAt_topc, ldAt_cons, ldK_wr, wf, hx, hy]
            refine elimL (fun x => finK _ (seqK (blockK 1 x) _) = _) (hloop1 _ ?_ ?_ ?_ ?_ _ ?_) ?_
            all_goals try simp only [go_sem, ↓reduceIte, reduceCtorEq, Nat.reduceEqDiff]
            rintro x ⟨fr', rfl, g0, g2, g4⟩
            simp +contextual -implicitDefEqProofs (maxSteps := 10000000) only [go_sem, ↓reduceIte]
            refine elimL (fun x => finK _ (blockK 3 x) = _) (hloop2 _ _ ?_ ?_ ?_ ?_ _ ?_) ?_
            all_goals try simp only [go_sem, ↓reduceIte, reduceCtorEq, Nat.reduceEqDiff, g0, g2, g4]
            rintro x ⟨fr', rfl, g0, g2, g4⟩
            simp +contextual -implicitDefEqProofs (maxSteps := 10000000) only [go_sem, ↓reduceIte]
          · simp at hs
            subst hs
            simp +contextual -implicitDefEqProofs (maxSteps := 10000000) only [x59, go_sem, ↓reduceIte, reduceCtorEq, Nat.reduceEqDiff, Nat.reduceAdd, Int.reduceEq, Int.reduceLT, Int.reduceBEq, Int.reduceBNe, u1', p1, n1, u2', p2, n2, hne, hb, h0, hnode, hwrong, hs1, he, o_callw, cellsAt_cons, bput_cons, bput_bput, bput_len, isWr_C, wrOf_C, cwK_top, ldAt_topc, ldAt_cons, ldK_wr, wf, wt, hx, hy]
        · simp at hs
          subst hs
          simp +contextual -implicitDefEqProofs (maxSteps := 10000000) only [x59, go_sem, ↓reduceIte, reduceCtorEq, Nat.reduceEqDiff, Nat.reduceAdd, Int.reduceEq, Int.reduceLT, Int.reduceBEq, Int.reduceBNe, u1', p1, n1, u2', p2, hne, hb, h0, hnode, hwrong, hs1, he, o_callw, cellsAt_cons, bput_cons, bput_bput, bput_len, isWr_C, wrOf_C, cwK_top, ldAt_topc, ldAt_cons, ldK_wr, wf, wt, hx]
    · have hE20 : E = 20 := by rw [← hE]; unfold rErr; rw [if_pos hk]
      subst hE20
      have k2 : (k = 2) = False := by simp; omega
      have k3 : (k = 3) = False := by simp; omega
      have k4 : (k = 4) = False := by simp; omega
      have k5 : (k = 5) = False := by simp; omega
      obtain ⟨x, hx⟩ : ∃ x, ((ts.length : Int) != 0) = x := ⟨_, rfl⟩
      by_cases hlt : k < 1
      · cases x <;>
        simp +contextual -implicitDefEqProofs (maxSteps := 10000000) only [x59, go_sem, ↓reduceIte, reduceCtorEq, Nat.reduceEqDiff, Nat.reduceAdd, Int.reduceEq, Int.reduceBNe, u1', p1, n1, u2', p2, n2, hne, hb, h0, hnode, hwrong, hs1, he, o_callw, cellsAt_cons, bput_cons, bput_bput, bput_len, isWr_C, wrOf_C, cwK_top, ldAt_topc, ldAt_cons, ldK_wr, wt, we, hx, k2, k3, k4, k5, hlt]
      · have hgt : (5 < k) = True := by simp; omega
        cases x <;>
        simp +contextual -implicitDefEqProofs (maxSteps := 10000000) only [x59, go_sem, ↓reduceIte, reduceCtorEq, Nat.reduceEqDiff, Nat.reduceAdd, Int.reduceEq, Int.reduceBNe, u1', p1, n1, u2', p2, n2, hne, hb, h0, hnode, hwrong, hs1, he, o_callw, cellsAt_cons, bput_cons, bput_bput, bput_len, isWr_C, wrOf_C, cwK_top, ldAt_topc, ldAt_cons, ldK_wr, wt, we, hx, k2, k3, k4, k5, hlt, hgt]
  · rw [if_pos (by exact he)]
    simp +contextual -implicitDefEqProofs (maxSteps := 10000000) only [x59, go_sem, ↓reduceIte, reduceCtorEq, Nat.reduceEqDiff, Nat.reduceAdd, u1', p1, u2', p2, hne, h0, hnode, hs1, he, o_callw, cellsAt_cons, bput_cons, bput_len, isWr_C, wrOf_C, cwK_top]
theorem wrong3 (s1 : Wr) (he : s1.e = 0) (b1 b2 b3 : Bool) : wrongW b3 30 (wrongW b2 1 (wrongW b1 3 s1)) = ⟨s1.n, s1.m, if b1 = true then 3 else if b2 = true then 1 else if b3 = true then 30 else 0⟩ := by
  obtain ⟨n, m, e⟩ := s1
  simp only at he
  subst he
  cases b1 <;> cases b2 <;> cases b3 <;> simp [wrongW]
theorem p_rformula_step (k : Int) (n : List UInt8) (op : Int) (bv : Bool) (vs : List (List UInt8)) (bt : Bool) (ts : List Tm) (lo hi : Int) (o bs : Bool) (ss : List Fm) (br : Bool) (rs : List Rx) (hfit : (Fm.mk k n op bv vs bt ts lo hi o bs ss br rs).fit)
    (r : Ref) (ihf : ∀ t ∈ ss, FrI r t) (ihx : ∀ t ∈ rs, XrI r t) : FrI r (Fm.mk k n op bv vs bt ts lo hi o bs ss br rs) := by
  intro d hd0 hd25 hp h
  have h0 := isWr_of h
  generalize wrOf (cellsAt hp r) = s at h0
  have hne := cellsAt_ne h0
  have hb := fun b => cellsAt_bput h0 b
  have hnode := fun hp h => p_node r d hp h
  have hwrong := fun ok c hp h => p_wrong r ok c hp h
  simp only [Fm.fit] at hfit
  obtain ⟨i1, i2, i3, i4, hft, hfs, hfr⟩ := hfit
  rw [Fm.cells]
  have hsl1 := slv_Sl bv 1 (tx vs)
  generalize slv bv 1 (tx vs) = v at hsl1
  obtain ⟨p1, u1', n1, d1, f1⟩ := hsl1.one
  rw [tx_len] at n1
  have hsl2 := slv_Sl bt 7 (Tm.cellsL ts)
  generalize slv bt 7 (Tm.cellsL ts) = t at hsl2
  obtain ⟨p2, u2', n2, d2, f2⟩ := hsl2.one
  rw [Tm.cellsL_len] at n2
  have hsl3 := slv_Sl bs 10 (Fm.cellsL ss)
  generalize slv bs 10 (Fm.cellsL ss) = sv at hsl3
  obtain ⟨p3, u3', n3, d3, f3⟩ := hsl3.one
  rw [Fm.cellsL_len] at n3
  have hsl4 := slv_Sl br 3 (Rx.cellsL rs)
  generalize slv br 3 (Rx.cellsL rs) = rv at hsl4
  obtain ⟨p4, u4', n4, d4, f4⟩ := hsl4.one
  rw [Rx.cellsL_len] at n4
  obtain ⟨s1, hs1⟩ : ∃ s1, rnode d s = s1 := ⟨_, rfl⟩
  have hrun : (Fm.mk k n op bv vs bt ts lo hi o bs ss br rs).rw d s = if s1.e ≠ 0 then s1 else if fErr k n op vs ts.length lo hi o ss.length rs.length ≠ 0 then { s1 with e := fErr k n op vs ts.length lo hi o ss.length rs.length } else Fm.rwL ss (d + 1) (Rx.rwL rs (d + 1) (Tm.rwL ts (d + 1) s1)) := by
    rw [Fm.rw]; simp only [hs1]
  rw [hrun]
  rw [CL_eq (fn := x31) rfl]
  by_cases he : s1.e = 0
  · have hd24 : d ≤ 24 := rnode_le (by rw [hs1]; exact he)
    rw [if_neg (by simp [he])]
    obtain ⟨E, hE⟩ : ∃ E, fErr k n op vs ts.length lo hi o ss.length rs.length = E := ⟨_, rfl⟩
    rw [hE]
    have wf : ∀ s, wrongW false 20 s = s := fun s => by simp [wrongW]
    have we : ∀ b c (s : Wr), s.e ≠ 0 → wrongW b c s = s := fun b c s h => by simp [wrongW, h]
    have hmany := fun hp => p_many k n op v t lo hi o sv rv _ _ _ _ hsl1 hsl2 hsl3 hsl4 hp
    have hform := fun hp => p_rform k n op v t lo hi o sv rv _ _ _ _ hsl1 hsl2 hsl3 hsl4 hp
    have hnamed := fun hp => p_named k n op v t lo hi o sv rv vs _ _ _ hsl1 hsl2 hsl3 hsl4 (by omega) hp
    rw [tx_len, Tm.cellsL_len] at hmany
    rw [tx_len, Tm.cellsL_len, Fm.cellsL_len, Rx.cellsL_len] at hform
    unfold fA at hmany hform hnamed
    have htw := fun hp => p_rtwice vs v hsl1 (by omega) hp
    have hcon := fun hp => p_has (vs.drop 1) n (.lst .none 1 (tx (vs.drop 1))) (.inr rfl) (by simp; omega) hp
    have htd : (tx vs).drop 1 = tx (vs.drop 1) := by simp [tx]
    obtain ⟨mn, hmn⟩ : ∃ c, manyB k ts.length vs.length = c := ⟨_, rfl⟩
    obtain ⟨A, hA⟩ : ∃ c, (cntB k vs.length ts.length ss.length rs.length && formB k n op lo hi o) = c := ⟨_, rfl⟩
    obtain ⟨B, hB⟩ : ∃ c, ((!hasN k || nameB n) && vs.all nameB && (!hasI k || ivl lo hi o)) = c := ⟨_, rfl⟩
    obtain ⟨tw, htwb⟩ : ∃ c, dup vs = c := ⟨_, rfl⟩
    obtain ⟨cn, hcn⟩ : ∃ c, (vs.drop 1).contains n = c := ⟨_, rfl⟩
    have hfb : (cntB k vs.length ts.length ss.length rs.length && vs.all nameB && fldB k n op lo hi o) = (A && B) := by
      have hq := form_named k n op lo hi o (vs.all nameB)
      rw [← hA, ← hB]
      generalize cntB k vs.length ts.length ss.length rs.length = c
      cases c
      · rfl
      · simp only [Bool.true_and]
        exact hq.symm
    simp only [hmn] at hmany
    simp only [hA] at hform
    simp only [hB] at hnamed
    simp only [htwb] at htw
    simp only [hcn] at hcon
    have hloop1 := fun fr e0 e2 e4 ec L hL => l_rft ts hft (by omega) r d ⟨hd0, hd24⟩ t hsl2 hp s1 ⟨s, h0⟩ L k n op v sv rv lo hi o hL (fun u hu => p_rtermL ts hft u hu r) fr e0 e2 e4 ec
    have hloop2 := fun s2 fr e0 e2 e4 ec L hL => l_rfx rs hfr (by omega) r d ⟨hd0, hd24⟩ rv hsl4 hp s2 ⟨s, h0⟩ L k n op v t sv lo hi o hL ihx fr e0 e2 e4 ec
    have hloop3 := fun s2 fr e0 e2 e4 ec L hL => l_rff ss hfs (by omega) r d ⟨hd0, hd24⟩ sv hsl3 hp s2 ⟨s, h0⟩ L k n op v t rv lo hi o hL ihf fr e0 e2 e4 ec
    by_cases hk : 1 ≤ k ∧ k ≤ 22
    · have kl : (k < 1) = False := by simp; omega
      have kg : (22 < k) = False := by simp; omega
      have hEeq : E = if mn = true then 3 else if (A && B) = false then 1 else if (tw || (k == 19 && cn)) = true then 30 else 0 := by
        rw [← hE]; unfold fErr; rw [if_neg (by omega), hmn, hfb, htwb, hcn]
      have fin : ∀ b2 b3 : Bool, (if mn = true then 3 else if b2 = true then 1 else if b3 = true then 30 else 0) = E → wrongW b3 30 (wrongW b2 1 (wrongW mn 3 s1)) = { s1 with e := E } := fun b2 b3 h => (wrong3 s1 he mn b2 b3).trans (by rw [h])
      have e0 : E = 0 → ({ s1 with e := E } : Wr) = s1 := fun h => by rw [h, ← he]
      by_cases h19 : k = 19
      · subst h19
        by_cases hv0 : vs = []
        · have hv0' : ((0 : Int) < (vs.length : Int)) = False := by simp [hv0]
          have hA0 : A = false := by rw [← hA, hv0]; rfl
          subst hA0
          have hE0 : E ≠ 0 := by rw [hEeq]; cases mn <;> simp
          have hs7 : ∀ b3, wrongW b3 30 (wrongW true 1 (wrongW mn 3 s1)) = { s1 with e := E } := fun b3 => fin true b3 (by rw [hEeq]; cases mn <;> simp)
          rw [if_pos hE0]
          cases tw <;>
          simp +contextual -implicitDefEqProofs (maxSteps := 10000000) only [x31, go_sem, ↓reduceIte, reduceCtorEq, Nat.reduceEqDiff, Nat.reduceAdd, u1', p1, n1, f1, u2', p2, f2, u3', p3, f3, u4', p4, f4, hne, hb, h0, hnode, hwrong, hs1, he, o_callw, cellsAt_cons, bput_cons, bput_bput, bput_len, isWr_C, wrOf_C, cwK_top, ldAt_topc, ldAt_cons, ldK_wr, wf, hmany, hform, hnamed, htw, kl, kg, hv0', hs7, hE0]
        · have hv1 : 0 < vs.length := List.length_pos_iff.2 hv0
          have hv0' : ((0 : Int) < (vs.length : Int)) = True := by simp; omega
          have hv2 : (1 ≤ (tx vs).length) = True := by rw [tx_len]; simp; omega
          obtain rfl : v = .lst .none 1 (tx vs) := hsl1.cases1.resolve_left (fun e => hv0 e.2)
          cases A
          · have hE0 : E ≠ 0 := by rw [hEeq]; cases mn <;> simp
            have hs7 : ∀ b3, wrongW b3 30 (wrongW true 1 (wrongW mn 3 s1)) = { s1 with e := E } := fun b3 => fin true b3 (by rw [hEeq]; cases mn <;> simp)
            rw [if_pos hE0]
            cases tw <;>
            simp +contextual -implicitDefEqProofs (maxSteps := 10000000) only [x31, go_sem, ↓reduceIte, reduceCtorEq, Nat.reduceEqDiff, Nat.reduceAdd, u1', p1, n1, f1, u2', p2, f2, u3', p3, f3, u4', p4, f4, hne, hb, h0, hnode, hwrong, hs1, he, o_callw, cellsAt_cons, bput_cons, bput_bput, bput_len, isWr_C, wrOf_C, cwK_top, ldAt_topc, ldAt_cons, ldK_wr, wf, hmany, hform, hnamed, htw, kl, kg, hv0', hv2, hcon, htd, o_ssl, sslK_lo1, hs7, hE0]
          · cases tw
            · have hs7 : wrongW (cn) 30 (wrongW (!B) 1 (wrongW mn 3 s1)) = { s1 with e := E } := fin (!B) (cn) (by rw [hEeq]; cases mn <;> cases B <;> simp)
              by_cases hE0 : E = 0
              · have hs8 := hs7.trans (e0 hE0)
                rw [if_neg (by simp [hE0])]
                simp +contextual -implicitDefEqProofs (maxSteps := 10000000) only [x31, go_sem, ↓reduceIte, reduceCtorEq, Nat.reduceEqDiff, Nat.reduceAdd, Int.reduceBNe, u1', p1, n1, f1, u2', p2, f2, u3', p3, f3, u4', p4, f4, hne, hb, h0, hnode, hwrong, hs1, he, o_callw, cellsAt_cons, bput_cons, bput_bput, bput_len, isWr_C, wrOf_C, cwK_top, ldAt_topc, ldAt_cons, ldK_wr, wf, hmany, hform, hnamed, htw, kl, kg, hv0', hv2, hcon, htd, o_ssl, sslK_lo1, hs8]
                refine elimL (fun x => finK _ (seqK (blockK 0 x) _) = _) (hloop1 _ ?_ ?_ ?_ ?_ _ ?_) ?_
                all_goals try simp only [go_sem, ↓reduceIte, reduceCtorEq, Nat.reduceEqDiff]
                rintro x ⟨fr', rfl, g0, g2, g4⟩
                simp +contextual -implicitDefEqProofs (maxSteps := 10000000) only [go_sem, ↓reduceIte]
                refine elimL (fun x => finK _ (seqK (blockK 2 x) _) = _) (hloop2 _ _ ?_ ?_ ?_ ?_ _ ?_) ?_
                all_goals try simp only [go_sem, ↓reduceIte, reduceCtorEq, Nat.reduceEqDiff, g0, g2, g4]
                rintro x ⟨fr', rfl, g0, g2, g4⟩
                simp +contextual -implicitDefEqProofs (maxSteps := 10000000) only [go_sem, ↓reduceIte]
                refine elimL (fun x => finK _ (blockK 4 x) = _) (hloop3 _ _ ?_ ?_ ?_ ?_ _ ?_) ?_
                all_goals try simp only [go_sem, ↓reduceIte, reduceCtorEq, Nat.reduceEqDiff, g0, g2, g4]
                rintro x ⟨fr', rfl, g0, g2, g4⟩
                simp +contextual -implicitDefEqProofs (maxSteps := 10000000) only [go_sem, ↓reduceIte]
              · rw [if_pos hE0]
                simp +contextual -implicitDefEqProofs (maxSteps := 10000000) only [x31, go_sem, ↓reduceIte, reduceCtorEq, Nat.reduceEqDiff, Nat.reduceAdd, u1', p1, n1, f1, u2', p2, f2, u3', p3, f3, u4', p4, f4, hne, hb, h0, hnode, hwrong, hs1, he, o_callw, cellsAt_cons, bput_cons, bput_bput, bput_len, isWr_C, wrOf_C, cwK_top, ldAt_topc, ldAt_cons, ldK_wr, wf, hmany, hform, hnamed, htw, kl, kg, hv0', hv2, hcon, htd, o_ssl, sslK_lo1, hs7, hE0]
            · have hE0 : E ≠ 0 := by rw [hEeq]; cases mn <;> cases B <;> simp
              have hs7 : wrongW true 30 (wrongW (!B) 1 (wrongW mn 3 s1)) = { s1 with e := E } := fin (!B) true (by rw [hEeq]; cases mn <;> cases B <;> simp)
              rw [if_pos hE0]
              simp +contextual -implicitDefEqProofs (maxSteps := 10000000) only [x31, go_sem, ↓reduceIte, reduceCtorEq, Nat.reduceEqDiff, Nat.reduceAdd, u1', p1, n1, f1, u2', p2, f2, u3', p3, f3, u4', p4, f4, hne, hb, h0, hnode, hwrong, hs1, he, o_callw, cellsAt_cons, bput_cons, bput_bput, bput_len, isWr_C, wrOf_C, cwK_top, ldAt_topc, ldAt_cons, ldK_wr, wf, hmany, hform, hnamed, htw, kl, kg, hv0', hv2, hcon, htd, o_ssl, sslK_lo1, hs7, hE0]
      · have h19' : (k = 19) = False := by simp [h19]
        have h19b : (k == 19) = false := by simp [h19]
        rw [h19b] at hEeq
        cases A
        · have hE0 : E ≠ 0 := by rw [hEeq]; cases mn <;> simp
          have hs7 : ∀ b3, wrongW b3 30 (wrongW true 1 (wrongW mn 3 s1)) = { s1 with e := E } := fun b3 => fin true b3 (by rw [hEeq]; cases mn <;> simp)
          rw [if_pos hE0]
          cases tw <;>
          simp +contextual -implicitDefEqProofs (maxSteps := 10000000) only [x31, go_sem, ↓reduceIte, reduceCtorEq, Nat.reduceEqDiff, Nat.reduceAdd, u1', p1, f1, u2', p2, f2, u3', p3, f3, u4', p4, f4, hne, hb, h0, hnode, hwrong, hs1, he, o_callw, cellsAt_cons, bput_cons, bput_bput, bput_len, isWr_C, wrOf_C, cwK_top, ldAt_topc, ldAt_cons, ldK_wr, wf, hmany, hform, hnamed, htw, kl, kg, h19', hs7, hE0]
        · cases tw
          · have hs7 : wrongW (false) 30 (wrongW (!B) 1 (wrongW mn 3 s1)) = { s1 with e := E } := fin (!B) (false) (by rw [hEeq]; cases mn <;> cases B <;> simp)
            by_cases hE0 : E = 0
            · have hs8 := hs7.trans (e0 hE0)
              rw [if_neg (by simp [hE0])]
              simp +contextual -implicitDefEqProofs (maxSteps := 10000000) only [x31, go_sem, ↓reduceIte, reduceCtorEq, Nat.reduceEqDiff, Nat.reduceAdd, Int.reduceBNe, u1', p1, f1, u2', p2, f2, u3', p3, f3, u4', p4, f4, hne, hb, h0, hnode, hwrong, hs1, he, o_callw, cellsAt_cons, bput_cons, bput_bput, bput_len, isWr_C, wrOf_C, cwK_top, ldAt_topc, ldAt_cons, ldK_wr, wf, hmany, hform, hnamed, htw, kl, kg, h19', hs8]
              refine elimL (fun x => finK _ (seqK (blockK 0 x) _) = _) (hloop1 _ ?_ ?_ ?_ ?_ _ ?_) ?_
              all_goals try simp only [go_sem, ↓reduceIte, reduceCtorEq, Nat.reduceEqDiff]
              rintro x ⟨fr', rfl, g0, g2, g4⟩
              simp +contextual -implicitDefEqProofs (maxSteps := 10000000) only [go_sem, ↓reduceIte]
              refine elimL (fun x => finK _ (seqK (blockK 2 x) _) = _) (hloop2 _ _ ?_ ?_ ?_ ?_ _ ?_) ?_
              all_goals try simp only [go_sem, ↓reduceIte, reduceCtorEq, Nat.reduceEqDiff, g0, g2, g4]
              rintro x ⟨fr', rfl, g0, g2, g4⟩
              simp +contextual -implicitDefEqProofs (maxSteps := 10000000) only [go_sem, ↓reduceIte]
              refine elimL (fun x => finK _ (blockK 4 x) = _) (hloop3 _ _ ?_ ?_ ?_ ?_ _ ?_) ?_
              all_goals try simp only [go_sem, ↓reduceIte, reduceCtorEq, Nat.reduceEqDiff, g0, g2, g4]
              rintro x ⟨fr', rfl, g0, g2, g4⟩
              simp +contextual -implicitDefEqProofs (maxSteps := 10000000) only [go_sem, ↓reduceIte]
            · rw [if_pos hE0]
              simp +contextual -implicitDefEqProofs (maxSteps := 10000000) only [x31, go_sem, ↓reduceIte, reduceCtorEq, Nat.reduceEqDiff, Nat.reduceAdd, u1', p1, f1, u2', p2, f2, u3', p3, f3, u4', p4, f4, hne, hb, h0, hnode, hwrong, hs1, he, o_callw, cellsAt_cons, bput_cons, bput_bput, bput_len, isWr_C, wrOf_C, cwK_top, ldAt_topc, ldAt_cons, ldK_wr, wf, hmany, hform, hnamed, htw, kl, kg, h19', hs7, hE0]
          · have hE0 : E ≠ 0 := by rw [hEeq]; cases mn <;> cases B <;> simp
            have hs7 : wrongW true 30 (wrongW (!B) 1 (wrongW mn 3 s1)) = { s1 with e := E } := fin (!B) true (by rw [hEeq]; cases mn <;> cases B <;> simp)
            rw [if_pos hE0]
            simp +contextual -implicitDefEqProofs (maxSteps := 10000000) only [x31, go_sem, ↓reduceIte, reduceCtorEq, Nat.reduceEqDiff, Nat.reduceAdd, u1', p1, f1, u2', p2, f2, u3', p3, f3, u4', p4, f4, hne, hb, h0, hnode, hwrong, hs1, he, o_callw, cellsAt_cons, bput_cons, bput_bput, bput_len, isWr_C, wrOf_C, cwK_top, ldAt_topc, ldAt_cons, ldK_wr, wf, hmany, hform, hnamed, htw, kl, kg, h19', hs7, hE0]
    · have hE20 : E = 20 := by rw [← hE]; unfold fErr; rw [if_pos hk]
      subst hE20
      have wt : ∀ c, wrongW true c s1 = { s1 with e := c } := fun c => by simp [wrongW, he]
      have h19 : (k = 19) = False := by simp; omega
      by_cases hlt : k < 1
      · cases A <;> cases tw <;>
        simp +contextual -implicitDefEqProofs (maxSteps := 10000000) only [x31, go_sem, ↓reduceIte, reduceCtorEq, Nat.reduceEqDiff, Nat.reduceAdd, Int.reduceEq, Int.reduceBNe, u1', p1, f1, u2', p2, f2, u3', p3, f3, u4', p4, f4, hne, hb, h0, hnode, hwrong, hs1, he, o_callw, cellsAt_cons, bput_cons, bput_bput, bput_len, isWr_C, wrOf_C, cwK_top, ldAt_topc, ldAt_cons, ldK_wr, wt, we, hmany, hform, hnamed, htw, h19, hlt]
      · have hgt : (22 < k) = True := by simp; omega
        cases A <;> cases tw <;>
        simp +contextual -implicitDefEqProofs (maxSteps := 10000000) only [x31, go_sem, ↓reduceIte, reduceCtorEq, Nat.reduceEqDiff, Nat.reduceAdd, Int.reduceEq, Int.reduceBNe, u1', p1, f1, u2', p2, f2, u3', p3, f3, u4', p4, f4, hne, hb, h0, hnode, hwrong, hs1, he, o_callw, cellsAt_cons, bput_cons, bput_bput, bput_len, isWr_C, wrOf_C, cwK_top, ldAt_topc, ldAt_cons, ldK_wr, wt, we, hmany, hform, hnamed, htw, h19, hlt, hgt]
  · rw [if_pos (by exact he)]
    simp +contextual -implicitDefEqProofs (maxSteps := 10000000) only [x31, go_sem, ↓reduceIte, reduceCtorEq, Nat.reduceEqDiff, Nat.reduceAdd, u1', p1, u2', p2, u3', p3, u4', p4, hne, h0, hnode, hs1, he, o_callw, cellsAt_cons, bput_cons, bput_len, isWr_C, wrOf_C, cwK_top]
mutual
theorem p_rformula : ∀ (t : Fm), t.fit → ∀ (r : Ref), FrI r t
  | .mk k n op bv vs bt ts lo hi o bs ss br rs, hf, r => p_rformula_step k n op bv vs bt ts lo hi o bs ss br rs hf r
      (fun t ht => p_rformulaL ss (by simp only [Fm.fit] at hf; exact hf.2.2.2.2.2.1) t ht r) (fun t ht => p_rregexL rs (by simp only [Fm.fit] at hf; exact hf.2.2.2.2.2.2) t ht r)
theorem p_rformulaL : ∀ (l : List Fm), Fm.fitL l → ∀ t ∈ l, ∀ (r : Ref), FrI r t
  | [], _, t, ht, _ => by simp at ht
  | u :: l, hf, t, ht, r => by
    rcases List.mem_cons.1 ht with e | ht
    · rw [e]; exact p_rformula u hf.1 r
    · exact p_rformulaL l hf.2 t ht r
theorem p_rregex : ∀ (t : Rx), t.fit → ∀ (r : Ref), XrI r t
  | .mk k bt ts bs ss, hf, r => p_rregex_step k bt ts bs ss hf r
      (fun t ht => p_rformulaL ts (by simp only [Rx.fit] at hf; exact hf.2.2.1) t ht r) (fun t ht => p_rregexL ss (by simp only [Rx.fit] at hf; exact hf.2.2.2) t ht r)
theorem p_rregexL : ∀ (l : List Rx), Rx.fitL l → ∀ t ∈ l, ∀ (r : Ref), XrI r t
  | [], _, t, ht, _ => by simp at ht
  | u :: l, hf, t, ht, r => by
    rcases List.mem_cons.1 ht with e | ht
    · rw [e]; exact p_rregex u hf.1 r
    · exact p_rregexL l hf.2 t ht r
end
end Go.Proofs.YtnmaahfipddkmaaGreat.Sx.T
