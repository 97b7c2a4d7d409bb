/- Layer 6, part 17: how the program goes over terms. -/
import Derived.Test.YtnmaahfipddkmaaWb
set_option linter.unusedVariables false
set_option linter.unusedSimpArgs false
namespace Go.Proofs.Ytnmaahfipddkmaa.Sx.T
open Go Go.Proofs.Ytnmaahfipddkmaa.Sx
set_option maxRecDepth 100000
set_option maxHeartbeats 8000000
theorem p_term_step (k : Int) (n : List UInt8) (vk vn vd : Int) (vs : List UInt8) (b : Bool) (ss : List Tm) (hfit : (Tm.mk k n vk vn vd vs b ss).fit) (r : Ref) (d : Int) (hd : 0 ≤ d ∧ d ≤ 25) (hp : Heap) (h : isWk (cellsAt hp r) = true)
    (ih : ∀ t ∈ ss, ∀ d, 0 ≤ d → d ≤ 25 → ∀ hp, isWk (cellsAt hp r) = true → CL X (fun _ => []) 63 [.ptr r 0, .agg t.cells, .int .i64 d] hp = some (.tup [], bput hp r (wkC (t.wk d (wkOf (cellsAt hp r)))))) :
    CL X (fun _ => []) 63 [.ptr r 0, .agg (Tm.mk k n vk vn vd vs b ss).cells, .int .i64 d] hp = some (.tup [], bput hp r (wkC ((Tm.mk k n vk vn vd vs b ss).wk d (wkOf (cellsAt hp r))))) := by
  have h0 := isWk_of h
  generalize wkOf (cellsAt hp r) = s at h0
  have hne := cellsAt_ne h0
  have hb := fun b => cellsAt_bput h0 b
  have hent := fun hp h => p_enter r d hp h
  have hmust := fun ok c hp h => p_must r ok c hp h
  simp only [Tm.fit] at hfit
  obtain ⟨i1, i2, hlen, hfl⟩ := hfit
  rw [Tm.cells]
  have hsl := slv_Sl b 7 (Tm.cellsL ss)
  generalize slv b 7 (Tm.cellsL ss) = v at hsl
  obtain ⟨p1, u1, n1, d1, f1⟩ := hsl.one
  rw [Tm.cellsL_len] at n1
  obtain ⟨s1, hs1⟩ : ∃ s1, enterW d s = s1 := ⟨_, rfl⟩
  have hrun : (Tm.mk k n vk vn vd vs b ss).wk d s = if s1.e ≠ 0 then s1 else if tErr k n vk vn vd vs ss.length ≠ 0 then { s1 with e := tErr k n vk vn vd vs ss.length } else Tm.wkL ss (d + 1) s1 := by
    rw [Tm.wk]; simp only [hs1]
  rw [CL_eq (fn := x63) rfl]
  by_cases he : s1.e = 0
  · have hd24 : d ≤ 24 := by
      rw [← hs1] at he
      unfold enterW at he
      by_cases h1 : s.e ≠ 0
      · rw [if_pos h1] at he; exact absurd he h1
      · rw [if_neg h1] at he
        by_cases h2 : 24 < d
        · rw [if_pos h2] at he; simp at he
        · omega
    have hw : wr .i64 (d + 1) = d + 1 := wr_i64 _ (by omega)
    have hall := fun hp h => p_allTm ss hfl (by omega) r (d + 1) v hsl hp h (fun t ht hp h => ih t ht (d + 1) (by omega) (by omega) hp h)
    by_cases hk : 1 ≤ k ∧ k ≤ 5
    · obtain ⟨k1, k2⟩ := hk
      have hname := p_name n
      have hchk := fun hp => v_check vk vn vd vs i1 i2 hp
      unfold vA at hchk
      have hcnt : ∀ hp, CL X (fun _ => []) 74 [.lst .tight 1 [[.int .i64 ss.length], [.int .i64 (if 3 ≤ k then 2 else 0)]]] hp = some (.bool (ss.length == (if 3 ≤ k then 2 else 0)), hp) := by
        intro hp
        have := p_count [(ss.length, if 3 ≤ k then 2 else 0)] (by simp) (by intro p hp; simp at hp; subst hp; right; right; simp only; split <;> omega) .tight (.inr rfl) hp
        simp only [prs, cntL, Bool.and_true] at this
        rw [this]
        congr 3
        by_cases h3 : 3 ≤ k
        · rw [if_pos h3, if_pos h3, Bool.eq_iff_iff]; simp [cnt]; omega
        · rw [if_neg h3, if_neg h3, Bool.eq_iff_iff]; simp [cnt]
      obtain ⟨c1, hc1⟩ : ∃ c, (ss.length == (if 3 ≤ k then 2 else 0)) = c := ⟨_, rfl⟩
      obtain ⟨z, hz⟩ : ∃ c, (vk == 0 && (vn == 0 && (vd == 0 && vs == []))) = c := ⟨_, rfl⟩
      obtain ⟨nb, hnb⟩ : ∃ c, nameB n = c := ⟨_, rfl⟩
      obtain ⟨ne, hn0⟩ : ∃ c, decide (n = []) = c := ⟨_, rfl⟩
      have hcnt2 := hcnt
      simp only [hc1] at hcnt2
      rw [hnb] at hname
      have hok : okTm k n vk vn vd vs ss.length = (c1 && ((k == 2) || z) && (if k = 1 then nb else ne)) := by
        unfold okTm
        rw [hc1, hnb, ← hz, ← hn0, Bool.and_assoc (vk == 0) _ _, Bool.and_assoc (vk == 0), Bool.and_assoc (vn == 0)]
        congr 2
        by_cases h : n = [] <;> simp [h]
      have hte : tErr k n vk vn vd vs ss.length = if okTm k n vk vn vd vs ss.length = false then 1 else if k = 2 then chk vk vn vd vs else 0 := by
        unfold tErr; rw [if_neg (by omega)]
      have hfin : ∀ s3 : Wk, s3 = { s1 with e := tErr k n vk vn vd vs ss.length } → (if s1.e ≠ 0 then s1 else if tErr k n vk vn vd vs ss.length ≠ 0 then { s1 with e := tErr k n vk vn vd vs ss.length } else Tm.wkL ss (d + 1) s1) = Tm.wkL ss (d + 1) s3 := by
        rintro s3 rfl
        rw [if_neg (by simp [he])]
        by_cases ht : tErr k n vk vn vd vs ss.length ≠ 0
        · rw [if_pos ht, Tm.wkL_err (by exact ht)]
        · rw [if_neg ht]
          have : tErr k n vk vn vd vs ss.length = 0 := by simpa using ht
          rw [this, ← he]
      have m0 : mustW true 20 s1 = s1 := by simp [mustW]
      have hk5 : k = 1 ∨ k = 2 ∨ k = 3 ∨ k = 4 ∨ k = 5 := by omega
      rw [hrun]
      have red3 : ∀ x : Int, (decide (3 ≤ x)) = decide (3 ≤ x) := fun _ => rfl
      rcases hk5 with rfl | rfl | rfl | rfl | rfl
      · simp only [show ¬ ((3 : Int) ≤ 1) by omega, if_false] at hcnt2
        rw [hfin (mustW (c1 && z && nb) 1 s1) (by rw [hte, hok]; obtain ⟨sn, sm, se⟩ := s1; simp only at he; subst he; cases c1 <;> cases z <;> cases nb <;> simp [mustW])]
        cases c1 <;> cases z <;> cases nb <;>
        simp +contextual -implicitDefEqProofs (maxSteps := 10000000) only [x63, go_sem, ↓reduceIte, reduceCtorEq, Nat.reduceEqDiff, Nat.reduceAdd, Nat.reduceLeDiff, Int.reduceLE, Int.reduceBEq, Nat.reduceLT, Nat.reduceDiv, u1, p1, n1, hne, hb, h0, hent, hmust, hs1, he, o_callw, cellsAt_cons, bput_cons, bput_bput, bput_len, isWk_C, wkOf_C, cwK_top, ldAt_topc, m0, hcnt2, hz, hname, hw, hall, Nat.reduceDiv]
      · simp only [show ¬ ((3 : Int) ≤ 2) by omega, if_false] at hcnt2
        have hn0' : decide (n = []) = ne := hn0
        rw [hfin (mustW (chk vk vn vd vs == 0) (chk vk vn vd vs) (mustW (c1 && ne) 1 s1)) (by rw [hte, hok]; obtain ⟨sn, sm, se⟩ := s1; simp only at he; subst he; cases c1 <;> cases ne <;> by_cases hc0 : chk vk vn vd vs = 0 <;> simp [mustW, hc0])]
        cases ne
        · have hn1 : (n = []) = False := by simpa using hn0
          cases c1 <;>
          simp +contextual -implicitDefEqProofs (maxSteps := 10000000) only [x63, go_sem, ↓reduceIte, reduceCtorEq, Nat.reduceEqDiff, Nat.reduceAdd, Nat.reduceLeDiff, Int.reduceLE, Int.reduceBEq, Nat.reduceLT, Nat.reduceDiv, u1, p1, n1, hne, hb, h0, hent, hmust, hs1, he, o_callw, cellsAt_cons, bput_cons, bput_bput, bput_len, isWk_C, wkOf_C, cwK_top, ldAt_topc, m0, hcnt2, hn1, hw, hall, Nat.reduceDiv, hchk]
        · have hn1 : n = [] := by simpa using hn0
          cases c1 <;>
          simp +contextual -implicitDefEqProofs (maxSteps := 10000000) only [x63, go_sem, ↓reduceIte, reduceCtorEq, Nat.reduceEqDiff, Nat.reduceAdd, Nat.reduceLeDiff, Int.reduceLE, Int.reduceBEq, Nat.reduceLT, Nat.reduceDiv, u1, p1, n1, hne, hb, h0, hent, hmust, hs1, he, o_callw, cellsAt_cons, bput_cons, bput_bput, bput_len, isWk_C, wkOf_C, cwK_top, ldAt_topc, m0, hcnt2, hn1, hw, hall, Nat.reduceDiv, hchk]
      all_goals
        simp only [Int.reduceLE, if_true] at hcnt2
        rw [hfin (mustW (c1 && z && ne) 1 s1) (by rw [hte, hok]; obtain ⟨sn, sm, se⟩ := s1; simp only at he; subst he; cases c1 <;> cases z <;> cases ne <;> simp [mustW])]
        cases ne
        · have hn1 : (n = []) = False := by simpa using hn0
          cases c1 <;> cases z <;>
          simp +contextual -implicitDefEqProofs (maxSteps := 10000000) only [x63, go_sem, ↓reduceIte, reduceCtorEq, Nat.reduceEqDiff, Nat.reduceAdd, Nat.reduceLeDiff, Int.reduceLE, Int.reduceBEq, Nat.reduceLT, Nat.reduceDiv, u1, p1, n1, hne, hb, h0, hent, hmust, hs1, he, o_callw, cellsAt_cons, bput_cons, bput_bput, bput_len, isWk_C, wkOf_C, cwK_top, ldAt_topc, m0, hcnt2, hz, hn1, hw, hall, Nat.reduceDiv]
        · have hn1 : n = [] := by simpa using hn0
          cases c1 <;> cases z <;>
          simp +contextual -implicitDefEqProofs (maxSteps := 10000000) only [x63, go_sem, ↓reduceIte, reduceCtorEq, Nat.reduceEqDiff, Nat.reduceAdd, Nat.reduceLeDiff, Int.reduceLE, Int.reduceBEq, Nat.reduceLT, Nat.reduceDiv, u1, p1, n1, hne, hb, h0, hent, hmust, hs1, he, o_callw, cellsAt_cons, bput_cons, bput_bput, bput_len, isWk_C, wkOf_C, cwK_top, ldAt_topc, m0, hcnt2, hz, hn1, hw, hall, Nat.reduceDiv]
    · have ht : tErr k n vk vn vd vs ss.length = 20 := by unfold tErr; rw [if_pos hk]
      have m0 : mustW false 20 s1 = { s1 with e := 20 } := by simp [mustW, he]
      rw [hrun, if_neg (by simp [he]), ht, if_pos (by decide)]
      by_cases k1 : 1 ≤ k
      · have k2 : (k ≤ 5) = False := by simp; omega
        simp +contextual -implicitDefEqProofs (maxSteps := 10000000) only [x63, go_sem, ↓reduceIte, reduceCtorEq, Nat.reduceEqDiff, Nat.reduceAdd, Int.reduceEq, u1, p1, hne, hb, h0, hent, hmust, hs1, he, o_callw, cellsAt_cons, bput_cons, bput_bput, bput_len, isWk_C, wkOf_C, cwK_top, ldAt_topc, m0, k1, k2]
      · simp +contextual -implicitDefEqProofs (maxSteps := 10000000) only [x63, go_sem, ↓reduceIte, reduceCtorEq, Nat.reduceEqDiff, Nat.reduceAdd, Int.reduceEq, u1, p1, hne, hb, h0, hent, hmust, hs1, he, o_callw, cellsAt_cons, bput_cons, bput_bput, bput_len, isWk_C, wkOf_C, cwK_top, ldAt_topc, m0, k1]
  · rw [hrun, if_pos (by exact he)]
    simp +contextual -implicitDefEqProofs (maxSteps := 10000000) only [x63, go_sem, ↓reduceIte, reduceCtorEq, Nat.reduceEqDiff, Nat.reduceAdd, u1, p1, hne, h0, hent, hs1, he, o_callw, cellsAt_cons, bput_cons, bput_len, isWk_C, wkOf_C, cwK_top]
mutual
theorem p_term : ∀ (t : Tm), t.fit → ∀ (r : Ref) (d : Int), 0 ≤ d → d ≤ 25 → ∀ (hp : Heap), isWk (cellsAt hp r) = true →
    CL X (fun _ => []) 63 [.ptr r 0, .agg t.cells, .int .i64 d] hp = some (.tup [], bput hp r (wkC (t.wk d (wkOf (cellsAt hp r)))))
  | .mk k n vk vn vd vs b ss, hf, r, d, h1, h2, hp, h => p_term_step k n vk vn vd vs b ss hf r d ⟨h1, h2⟩ hp h (fun t ht d h3 h4 hp h5 => p_termL ss (by simp only [Tm.fit] at hf; exact hf.2.2.2) t ht r d h3 h4 hp h5)
theorem p_termL : ∀ (l : List Tm), Tm.fitL l → ∀ t ∈ l, ∀ (r : Ref) (d : Int), 0 ≤ d → d ≤ 25 → ∀ (hp : Heap), isWk (cellsAt hp r) = true →
    CL X (fun _ => []) 63 [.ptr r 0, .agg t.cells, .int .i64 d] hp = some (.tup [], bput hp r (wkC (t.wk d (wkOf (cellsAt hp r)))))
  | [], _, t, ht, _, _, _, _, _, _ => by simp at ht
  | u :: l, hf, t, ht, r, d, h1, h2, hp, h => by
    rcases List.mem_cons.1 ht with e | ht
    · rw [e]; exact p_term u hf.1 r d h1 h2 hp h
    · exact p_termL l hf.2 t ht r d h1 h2 hp h
end
set_option maxHeartbeats 16000000
def FmI (r : Ref) (t : Fm) : Prop := ∀ d, 0 ≤ d → d ≤ 25 → ∀ hp, isWk (cellsAt hp r) = true → CL X (fun _ => []) 48 [.ptr r 0, .agg t.cells, .int .i64 d] hp = some (.tup [], bput hp r (wkC (t.wk d (wkOf (cellsAt hp r)))))
def RxI' (r : Ref) (t : Rx) : Prop := ∀ d, 0 ≤ d → d ≤ 25 → ∀ hp, isWk (cellsAt hp r) = true → CL X (fun _ => []) 65 [.ptr r 0, .agg t.cells, .int .i64 d] hp = some (.tup [], bput hp r (wkC (t.wk d (wkOf (cellsAt hp r)))))
theorem enter_le {d : Int} {s : Wk} (he : (enterW d s).e = 0) : d ≤ 24 := by
  unfold enterW at he
  by_cases h1 : s.e ≠ 0
  · rw [if_pos h1] at he; exact absurd he h1
  · rw [if_neg h1] at he
    by_cases h2 : 24 < d
    · rw [if_pos h2] at he; simp at he
    · omega
theorem p_regex_step (k : Int) (bt : Bool) (ts : List Fm) (bs : Bool) (ss : List Rx) (hfit : (Rx.mk k bt ts bs ss).fit) (r : Ref) (d : Int) (hd : 0 ≤ d ∧ d ≤ 25) (hp : Heap) (h : isWk (cellsAt hp r) = true)
    (ihf : ∀ t ∈ ts, FmI r t) (ihx : ∀ t ∈ ss, RxI' r t) :
    CL X (fun _ => []) 65 [.ptr r 0, .agg (Rx.mk k bt ts bs ss).cells, .int .i64 d] hp = some (.tup [], bput hp r (wkC ((Rx.mk k bt ts bs ss).wk d (wkOf (cellsAt hp r))))) := by
  have h0 := isWk_of h
  generalize wkOf (cellsAt hp r) = s at h0
  have hne := cellsAt_ne h0
  have hb := fun b => cellsAt_bput h0 b
  have hent := fun hp h => p_enter r d hp h
  have hmust := fun ok c hp h => p_must r ok c hp h
  simp only [Rx.fit] at hfit
  obtain ⟨i1, i2, hft, hfs⟩ := hfit
  rw [Rx.cells]
  have hsl := slv_Sl bt 10 (Fm.cellsL ts)
  generalize slv bt 10 (Fm.cellsL ts) = v at hsl
  obtain ⟨p1, u1, n1, d1, f1⟩ := hsl.one
  rw [Fm.cellsL_len] at n1
  have hsl2 := slv_Sl bs 3 (Rx.cellsL ss)
  generalize slv bs 3 (Rx.cellsL ss) = v2 at hsl2
  obtain ⟨p2, u2', n2, d2, f2⟩ := hsl2.one
  rw [Rx.cellsL_len] at n2
  obtain ⟨s1, hs1⟩ : ∃ s1, enterW d s = s1 := ⟨_, rfl⟩
  have hrun : (Rx.mk k bt ts bs ss).wk d s = if s1.e ≠ 0 then s1 else if rErr k ts.length ss.length ≠ 0 then { s1 with e := rErr k ts.length ss.length } else Rx.wkL ss (d + 1) (Fm.wkL ts (d + 1) s1) := by
    rw [Rx.wk]; simp only [hs1]
  rw [hrun]
  rw [CL_eq (fn := x65) rfl]
  by_cases he : s1.e = 0
  · have hd24 : d ≤ 24 := enter_le (by rw [hs1]; exact he)
    have hw : wr .i64 (d + 1) = d + 1 := wr_i64 _ (by omega)
    have hallF := fun hp h => p_allFm ts hft (by omega) r (d + 1) v hsl hp h (fun t ht hp h => ihf t ht (d + 1) (by omega) (by omega) hp h)
    have hallX := fun hp h => p_allRx ss hfs (by omega) r (d + 1) v2 hsl2 hp h (fun t ht hp h => ihx t ht (d + 1) (by omega) (by omega) hp h)
    rw [if_neg (by simp [he])]
    have mt : ∀ c, mustW true c s1 = s1 := fun c => by simp [mustW]
    have mf : ∀ c, mustW false c s1 = { s1 with e := c } := fun c => by simp [mustW, he]
    by_cases hk : 1 ≤ k ∧ k ≤ 5
    · obtain ⟨k1, k2⟩ := hk
      have hcnt : ∀ a b : Int, 0 ≤ a → 0 ≤ b → ∀ hp, CL X (fun _ => []) 74 [.lst .tight 1 [[.int .i64 ts.length], [.int .i64 a], [.int .i64 ss.length], [.int .i64 b]]] hp = some (.bool (((ts.length : Int) == a) && ((ss.length : Int) == b)), hp) := by
        intro a b ha hb hp
        have := p_count [(ts.length, a), (ss.length, b)] (by simp) (by intro p hp; simp at hp; rcases hp with rfl | rfl <;> simp only <;> omega) .tight (.inr rfl) hp
        simp only [prs, cntL, Bool.and_true] at this
        rw [this]
        have e1 : (a = -1) = False := by simp; omega
        have e2 : (a == -2) = false := by simp; omega
        have e3 : (b = -1) = False := by simp; omega
        have e4 : (b == -2) = false := by simp; omega
        simp only [cnt, e1, e2, e3, e4, if_false, Bool.false_or]
      have hk5 : k = 1 ∨ k = 2 ∨ k = 3 ∨ k = 4 ∨ k = 5 := by omega
      have hre : ∀ a b : Nat, a = (if k = 2 then 1 else 0) → b = (if k = 3 ∨ k = 4 then 2 else if k = 5 then 1 else 0) → ∀ c : Bool, (((ts.length : Int) == (a : Int)) && ((ss.length : Int) == (b : Int))) = c → rErr k ts.length ss.length = if c then 0 else 1 := by
        intro a b ha hb c hc
        unfold rErr
        rw [if_neg (by omega), ← hc, ← ha, ← hb]
        by_cases e1 : ts.length = a <;> by_cases e2 : ss.length = b <;> simp [e1, e2]
        all_goals omega
      rcases hk5 with rfl | rfl | rfl | rfl | rfl
      · obtain ⟨c, hc⟩ : ∃ c, (((ts.length : Int) == 0) && ((ss.length : Int) == 0)) = c := ⟨_, rfl⟩
        have hc1 := hcnt 0 0 (by decide) (by decide)
        simp only [hc] at hc1
        rw [hre 0 0 (by decide) (by decide) c hc]
        cases c
        · simp +contextual -implicitDefEqProofs (maxSteps := 10000000) only [x65, go_sem, ↓reduceIte, reduceCtorEq, Nat.reduceEqDiff, Nat.reduceAdd, Nat.reduceLeDiff, Int.reduceEq, Int.reduceLE, Int.reduceBEq, Nat.reduceLT, Nat.reduceDiv, u1, p1, n1, u2', p2, n2, hne, hb, h0, hent, hmust, hs1, he, o_callw, cellsAt_cons, bput_cons, bput_bput, bput_len, isWk_C, wkOf_C, cwK_top, ldAt_topc, mt, mf, hc1, hw, Nat.reduceDiv]
        · simp +contextual -implicitDefEqProofs (maxSteps := 10000000) only [x65, go_sem, ↓reduceIte, reduceCtorEq, Nat.reduceEqDiff, Nat.reduceAdd, Nat.reduceLeDiff, Int.reduceLE, Int.reduceBEq, Nat.reduceLT, Nat.reduceDiv, u1, p1, n1, u2', p2, n2, hne, hb, h0, hent, hmust, hs1, he, o_callw, cellsAt_cons, bput_cons, bput_bput, bput_len, isWk_C, wkOf_C, cwK_top, ldAt_topc, mt, hc1, hw, hallF, hallX, Nat.reduceDiv]
      · obtain ⟨c, hc⟩ : ∃ c, (((ts.length : Int) == 1) && ((ss.length : Int) == 0)) = c := ⟨_, rfl⟩
        have hc1 := hcnt 1 0 (by decide) (by decide)
        simp only [hc] at hc1
        rw [hre 1 0 (by decide) (by decide) c hc]
        cases c
        · simp +contextual -implicitDefEqProofs (maxSteps := 10000000) only [x65, go_sem, ↓reduceIte, reduceCtorEq, Nat.reduceEqDiff, Nat.reduceAdd, Nat.reduceLeDiff, Int.reduceEq, Int.reduceLE, Int.reduceBEq, Nat.reduceLT, Nat.reduceDiv, u1, p1, n1, u2', p2, n2, hne, hb, h0, hent, hmust, hs1, he, o_callw, cellsAt_cons, bput_cons, bput_bput, bput_len, isWk_C, wkOf_C, cwK_top, ldAt_topc, mt, mf, hc1, hw, Nat.reduceDiv]
        · simp +contextual -implicitDefEqProofs (maxSteps := 10000000) only [x65, go_sem, ↓reduceIte, reduceCtorEq, Nat.reduceEqDiff, Nat.reduceAdd, Nat.reduceLeDiff, Int.reduceLE, Int.reduceBEq, Nat.reduceLT, Nat.reduceDiv, u1, p1, n1, u2', p2, n2, hne, hb, h0, hent, hmust, hs1, he, o_callw, cellsAt_cons, bput_cons, bput_bput, bput_len, isWk_C, wkOf_C, cwK_top, ldAt_topc, mt, hc1, hw, hallF, hallX, Nat.reduceDiv]
      · obtain ⟨c, hc⟩ : ∃ c, (((ts.length : Int) == 0) && ((ss.length : Int) == 2)) = c := ⟨_, rfl⟩
        have hc1 := hcnt 0 2 (by decide) (by decide)
        simp only [hc] at hc1
        rw [hre 0 2 (by decide) (by decide) c hc]
        cases c
        · simp +contextual -implicitDefEqProofs (maxSteps := 10000000) only [x65, go_sem, ↓reduceIte, reduceCtorEq, Nat.reduceEqDiff, Nat.reduceAdd, Nat.reduceLeDiff, Int.reduceEq, Int.reduceLE, Int.reduceBEq, Nat.reduceLT, Nat.reduceDiv, u1, p1, n1, u2', p2, n2, hne, hb, h0, hent, hmust, hs1, he, o_callw, cellsAt_cons, bput_cons, bput_bput, bput_len, isWk_C, wkOf_C, cwK_top, ldAt_topc, mt, mf, hc1, hw, Nat.reduceDiv]
        · simp +contextual -implicitDefEqProofs (maxSteps := 10000000) only [x65, go_sem, ↓reduceIte, reduceCtorEq, Nat.reduceEqDiff, Nat.reduceAdd, Nat.reduceLeDiff, Int.reduceLE, Int.reduceBEq, Nat.reduceLT, Nat.reduceDiv, u1, p1, n1, u2', p2, n2, hne, hb, h0, hent, hmust, hs1, he, o_callw, cellsAt_cons, bput_cons, bput_bput, bput_len, isWk_C, wkOf_C, cwK_top, ldAt_topc, mt, hc1, hw, hallF, hallX, Nat.reduceDiv]
      · obtain ⟨c, hc⟩ : ∃ c, (((ts.length : Int) == 0) && ((ss.length : Int) == 2)) = c := ⟨_, rfl⟩
        have hc1 := hcnt 0 2 (by decide) (by decide)
        simp only [hc] at hc1
        rw [hre 0 2 (by decide) (by decide) c hc]
        cases c
        · simp +contextual -implicitDefEqProofs (maxSteps := 10000000) only [x65, go_sem, ↓reduceIte, reduceCtorEq, Nat.reduceEqDiff, Nat.reduceAdd, Nat.reduceLeDiff, Int.reduceEq, Int.reduceLE, Int.reduceBEq, Nat.reduceLT, Nat.reduceDiv, u1, p1, n1, u2', p2, n2, hne, hb, h0, hent, hmust, hs1, he, o_callw, cellsAt_cons, bput_cons, bput_bput, bput_len, isWk_C, wkOf_C, cwK_top, ldAt_topc, mt, mf, hc1, hw, Nat.reduceDiv]
        · simp +contextual -implicitDefEqProofs (maxSteps := 10000000) only [x65, go_sem, ↓reduceIte, reduceCtorEq, Nat.reduceEqDiff, Nat.reduceAdd, Nat.reduceLeDiff, Int.reduceLE, Int.reduceBEq, Nat.reduceLT, Nat.reduceDiv, u1, p1, n1, u2', p2, n2, hne, hb, h0, hent, hmust, hs1, he, o_callw, cellsAt_cons, bput_cons, bput_bput, bput_len, isWk_C, wkOf_C, cwK_top, ldAt_topc, mt, hc1, hw, hallF, hallX, Nat.reduceDiv]
      · obtain ⟨c, hc⟩ : ∃ c, (((ts.length : Int) == 0) && ((ss.length : Int) == 1)) = c := ⟨_, rfl⟩
        have hc1 := hcnt 0 1 (by decide) (by decide)
        simp only [hc] at hc1
        rw [hre 0 1 (by decide) (by decide) c hc]
        cases c
        · simp +contextual -implicitDefEqProofs (maxSteps := 10000000) only [x65, go_sem, ↓reduceIte, reduceCtorEq, Nat.reduceEqDiff, Nat.reduceAdd, Nat.reduceLeDiff, Int.reduceEq, Int.reduceLE, Int.reduceBEq, Nat.reduceLT, Nat.reduceDiv, u1, p1, n1, u2', p2, n2, hne, hb, h0, hent, hmust, hs1, he, o_callw, cellsAt_cons, bput_cons, bput_bput, bput_len, isWk_C, wkOf_C, cwK_top, ldAt_topc, mt, mf, hc1, hw, Nat.reduceDiv]
        · simp +contextual -implicitDefEqProofs (maxSteps := 10000000) only [x65, go_sem, ↓reduceIte, reduceCtorEq, Nat.reduceEqDiff, Nat.reduceAdd, Nat.reduceLeDiff, Int.reduceLE, Int.reduceBEq, Nat.reduceLT, Nat.reduceDiv, u1, p1, n1, u2', p2, n2, hne, hb, h0, hent, hmust, hs1, he, o_callw, cellsAt_cons, bput_cons, bput_bput, bput_len, isWk_C, wkOf_C, cwK_top, ldAt_topc, mt, hc1, hw, hallF, hallX, Nat.reduceDiv]
    · have ht : rErr k ts.length ss.length = 20 := by unfold rErr; rw [if_pos hk]
      rw [ht, if_pos (by decide)]
      by_cases k1 : 1 ≤ k
      · have k2 : (k ≤ 5) = False := by simp; omega
        simp +contextual -implicitDefEqProofs (maxSteps := 10000000) only [x65, go_sem, ↓reduceIte, reduceCtorEq, Nat.reduceEqDiff, Nat.reduceAdd, Int.reduceEq, u1, p1, u2', p2, hne, hb, h0, hent, hmust, hs1, he, o_callw, cellsAt_cons, bput_cons, bput_bput, bput_len, isWk_C, wkOf_C, cwK_top, ldAt_topc, mf, k1, k2]
      · simp +contextual -implicitDefEqProofs (maxSteps := 10000000) only [x65, go_sem, ↓reduceIte, reduceCtorEq, Nat.reduceEqDiff, Nat.reduceAdd, Int.reduceEq, u1, p1, u2', p2, hne, hb, h0, hent, hmust, hs1, he, o_callw, cellsAt_cons, bput_cons, bput_bput, bput_len, isWk_C, wkOf_C, cwK_top, ldAt_topc, mf, k1]
  · rw [if_pos (by exact he)]
    simp +contextual -implicitDefEqProofs (maxSteps := 10000000) only [x65, go_sem, ↓reduceIte, reduceCtorEq, Nat.reduceEqDiff, Nat.reduceAdd, u1, p1, u2', p2, hne, h0, hent, hs1, he, o_callw, cellsAt_cons, bput_cons, bput_len, isWk_C, wkOf_C, cwK_top]
theorem must5 (s1 : Wk) (he : s1.e = 0) (b1 b2 b3 b4 b5 : Bool) : mustW b5 30 (mustW b4 30 (mustW b3 1 (mustW b2 3 (mustW b1 3 s1)))) =
    ⟨s1.n, s1.m, if (b1 && b2) = false then 3 else if b3 = false then 1 else if (b4 && b5) = false then 30 else 0⟩ := by
  obtain ⟨n, m, e⟩ := s1
  simp only at he
  subst he
  cases b1 <;> cases b2 <;> cases b3 <;> cases b4 <;> cases b5 <;> simp [mustW]
theorem p_formula_step (k : Int) (n : List UInt8) (op : Int) (bv : Bool) (vs : List (List UInt8)) (bt : Bool) (ts : List Tm) (lo hi : Int) (o bs : Bool) (ss : List Fm) (br : Bool) (rs : List Rx) (hfit : (Fm.mk k n op bv vs bt ts lo hi o bs ss br rs).fit)
    (r : Ref) (d : Int) (hd : 0 ≤ d ∧ d ≤ 25) (hp : Heap) (h : isWk (cellsAt hp r) = true) (ihf : ∀ t ∈ ss, FmI r t) (ihx : ∀ t ∈ rs, RxI' r t) :
    CL X (fun _ => []) 48 [.ptr r 0, .agg (Fm.mk k n op bv vs bt ts lo hi o bs ss br rs).cells, .int .i64 d] hp = some (.tup [], bput hp r (wkC ((Fm.mk k n op bv vs bt ts lo hi o bs ss br rs).wk d (wkOf (cellsAt hp r))))) := by
  have h0 := isWk_of h
  generalize wkOf (cellsAt hp r) = s at h0
  have hne := cellsAt_ne h0
  have hb := fun b => cellsAt_bput h0 b
  have hent := fun hp h => p_enter r d hp h
  have hmust := fun ok c hp h => p_must r ok c hp h
  simp only [Fm.fit] at hfit
  obtain ⟨i1, i2, i3, i4, hft, hfs, hfr⟩ := hfit
  rw [Fm.cells]
  have hsl1 := slv_Sl bv 1 (tx vs)
  generalize slv bv 1 (tx vs) = v at hsl1
  obtain ⟨p1, u1', n1, d1, f1⟩ := hsl1.one
  rw [tx_len] at n1
  have hsl2 := slv_Sl bt 7 (Tm.cellsL ts)
  generalize slv bt 7 (Tm.cellsL ts) = t at hsl2
  obtain ⟨p2, u2', n2, d2, f2⟩ := hsl2.one
  rw [Tm.cellsL_len] at n2
  have hsl3 := slv_Sl bs 10 (Fm.cellsL ss)
  generalize slv bs 10 (Fm.cellsL ss) = sv at hsl3
  obtain ⟨p3, u3', n3, d3, f3⟩ := hsl3.one
  rw [Fm.cellsL_len] at n3
  have hsl4 := slv_Sl br 3 (Rx.cellsL rs)
  generalize slv br 3 (Rx.cellsL rs) = rv at hsl4
  obtain ⟨p4, u4', n4, d4, f4⟩ := hsl4.one
  rw [Rx.cellsL_len] at n4
  obtain ⟨s1, hs1⟩ : ∃ s1, enterW d s = s1 := ⟨_, rfl⟩
  have hrun : (Fm.mk k n op bv vs bt ts lo hi o bs ss br rs).wk d s = if s1.e ≠ 0 then s1 else if fErr k n op vs ts.length lo hi o ss.length rs.length ≠ 0 then { s1 with e := fErr k n op vs ts.length lo hi o ss.length rs.length } else Fm.wkL ss (d + 1) (Rx.wkL rs (d + 1) (Tm.wkL ts (d + 1) s1)) := by
    rw [Fm.wk]; simp only [hs1]
  rw [hrun]
  rw [CL_eq (fn := x48) rfl]
  by_cases he : s1.e = 0
  · have hd24 : d ≤ 24 := enter_le (by rw [hs1]; exact he)
    have hw : wr .i64 (d + 1) = d + 1 := wr_i64 _ (by omega)
    have hallT := fun hp h => p_allTm ts hft (by omega) r (d + 1) t hsl2 hp h (fun t ht hp h => p_termL ts hft t ht r (d + 1) (by omega) (by omega) hp h)
    have hallF := fun hp h => p_allFm ss hfs (by omega) r (d + 1) sv hsl3 hp h (fun t ht hp h => ihf t ht (d + 1) (by omega) (by omega) hp h)
    have hallX := fun hp h => p_allRx rs hfr (by omega) r (d + 1) rv hsl4 hp h (fun t ht hp h => ihx t ht (d + 1) (by omega) (by omega) hp h)
    rw [if_neg (by simp [he])]
    have mt : mustW true 20 s1 = s1 := by simp [mustW]
    have mf : mustW false 20 s1 = { s1 with e := 20 } := by simp [mustW, he]
    have hmost := fun hp => p_most k hp
    have hformed := fun hp => p_formed k n op v t lo hi o sv rv vs _ _ _ hsl1 hsl2 hsl3 hsl4 (by omega) hp
    rw [Tm.cellsL_len, Fm.cellsL_len, Rx.cellsL_len] at hformed
    unfold fA at hformed
    have htw := fun hp => p_twice vs v hsl1 (by omega) hp
    have hcon := fun hp => p_contains (vs.drop 1) n (.lst .none 1 (tx (vs.drop 1))) (.inr rfl) (by simp; omega) hp
    have htd : (tx vs).drop 1 = tx (vs.drop 1) := by simp [tx]
    obtain ⟨fb, hfb⟩ : ∃ c, (cntB k vs.length ts.length ss.length rs.length && vs.all nameB && fldB k n op lo hi o) = c := ⟨_, rfl⟩
    obtain ⟨tw, htwb⟩ : ∃ c, dup vs = c := ⟨_, rfl⟩
    obtain ⟨cn, hcn⟩ : ∃ c, (vs.drop 1).contains n = c := ⟨_, rfl⟩
    simp only [hfb] at hformed
    simp only [htwb] at htw
    simp only [hcn] at hcon
    by_cases hk : 1 ≤ k ∧ k ≤ 22
    · obtain ⟨k1, k2⟩ := hk
      obtain ⟨E, hE⟩ : ∃ E, fErr k n op vs ts.length lo hi o ss.length rs.length = E := ⟨_, rfl⟩
      have hEeq : E = if manyB k ts.length vs.length = true then 3 else if fb = false then 1 else if (tw || (k == 19 && cn)) = true then 30 else 0 := by
        rw [← hE]; unfold fErr; rw [if_neg (by omega), hfb, htwb, hcn]
      rw [hE]
      have fin : ∀ b1 b2 b5 : Bool, (⟨s1.n, s1.m, if (b1 && b2) = false then 3 else if fb = false then 1 else if ((!tw) && b5) = false then 30 else 0⟩ : Wk) = { s1 with e := E } → 
          mustW b5 30 (mustW (!tw) 30 (mustW fb 1 (mustW b2 3 (mustW b1 3 s1)))) = { s1 with e := E } := fun b1 b2 b5 h => (must5 s1 he b1 b2 fb (!tw) b5).trans h
      have e0 : E = 0 → ({ s1 with e := E } : Wk) = s1 := fun h => by rw [h, ← he]
      by_cases h3 : k = 3
      · subst h3
        have hs7 := fin (decide ((ts.length : Int) ≤ 6)) (true) (true) (by rw [hEeq]; by_cases hq : 6 < ts.length <;> cases fb <;> cases tw <;> simp [manyB, hq] <;> omega)
        have hm3 : ∀ hp, CL X (fun _ => []) 59 [.int .i64 3] hp = some (.tup [.int .i64 6, .int .i64 0], hp) := hmost
        by_cases hE0 : E = 0
        · have hs8 := hs7.trans (e0 hE0)
          rw [if_neg (by simp [hE0])]
          simp +contextual -implicitDefEqProofs (maxSteps := 10000000) only [x48, go_sem, ↓reduceIte, reduceCtorEq, Nat.reduceEqDiff, Nat.reduceAdd, Int.reduceBEq, Int.reduceBNe, u1', p1, f1, u2', p2, n2, f2, u3', p3, f3, u4', p4, f4, hne, hb, h0, hent, hmust, hs1, he, o_callw, cellsAt_cons, bput_cons, bput_bput, bput_len, isWk_C, wkOf_C, cwK_top, ldAt_topc, mt, hm3, hformed, htw, hw, hs8, hallT, hallF, hallX, k1, k2]
        · have hs8 : (({ s1 with e := E } : Wk).e = 0) = False := by simp [hE0]
          rw [if_pos hE0]
          simp +contextual -implicitDefEqProofs (maxSteps := 10000000) only [x48, go_sem, ↓reduceIte, reduceCtorEq, Nat.reduceEqDiff, Nat.reduceAdd, Int.reduceBEq, Int.reduceBNe, u1', p1, f1, u2', p2, n2, f2, u3', p3, f3, u4', p4, f4, hne, hb, h0, hent, hmust, hs1, he, o_callw, cellsAt_cons, bput_cons, bput_bput, bput_len, isWk_C, wkOf_C, cwK_top, ldAt_topc, mt, hm3, hformed, htw, hs7, hE0, k1, k2]
      by_cases h20 : k = 20
      · subst h20
        have hs7 := fin (true) (decide ((vs.length : Int) ≤ 6)) (true) (by rw [hEeq]; by_cases hq : 6 < vs.length <;> cases fb <;> cases tw <;> simp [manyB, hq] <;> omega)
        have hm3 : ∀ hp, CL X (fun _ => []) 59 [.int .i64 20] hp = some (.tup [.int .i64 0, .int .i64 6], hp) := hmost
        by_cases hE0 : E = 0
        · have hs8 := hs7.trans (e0 hE0)
          rw [if_neg (by simp [hE0])]
          simp +contextual -implicitDefEqProofs (maxSteps := 10000000) only [x48, go_sem, ↓reduceIte, reduceCtorEq, Nat.reduceEqDiff, Nat.reduceAdd, Int.reduceBEq, Int.reduceBNe, u1', p1, n1, f1, u2', p2, f2, u3', p3, f3, u4', p4, f4, hne, hb, h0, hent, hmust, hs1, he, o_callw, cellsAt_cons, bput_cons, bput_bput, bput_len, isWk_C, wkOf_C, cwK_top, ldAt_topc, mt, hm3, hformed, htw, hw, hs8, hallT, hallF, hallX, k1, k2]
        · have hs8 : (({ s1 with e := E } : Wk).e = 0) = False := by simp [hE0]
          rw [if_pos hE0]
          simp +contextual -implicitDefEqProofs (maxSteps := 10000000) only [x48, go_sem, ↓reduceIte, reduceCtorEq, Nat.reduceEqDiff, Nat.reduceAdd, Int.reduceBEq, Int.reduceBNe, u1', p1, n1, f1, u2', p2, f2, u3', p3, f3, u4', p4, f4, hne, hb, h0, hent, hmust, hs1, he, o_callw, cellsAt_cons, bput_cons, bput_bput, bput_len, isWk_C, wkOf_C, cwK_top, ldAt_topc, mt, hm3, hformed, htw, hs7, hE0, k1, k2]
      by_cases h21 : k = 21
      · subst h21
        have hs7 := fin (true) (decide ((vs.length : Int) ≤ 6)) (true) (by rw [hEeq]; by_cases hq : 6 < vs.length <;> cases fb <;> cases tw <;> simp [manyB, hq] <;> omega)
        have hm3 : ∀ hp, CL X (fun _ => []) 59 [.int .i64 21] hp = some (.tup [.int .i64 0, .int .i64 6], hp) := hmost
        by_cases hE0 : E = 0
        · have hs8 := hs7.trans (e0 hE0)
          rw [if_neg (by simp [hE0])]
          simp +contextual -implicitDefEqProofs (maxSteps := 10000000) only [x48, go_sem, ↓reduceIte, reduceCtorEq, Nat.reduceEqDiff, Nat.reduceAdd, Int.reduceBEq, Int.reduceBNe, u1', p1, n1, f1, u2', p2, f2, u3', p3, f3, u4', p4, f4, hne, hb, h0, hent, hmust, hs1, he, o_callw, cellsAt_cons, bput_cons, bput_bput, bput_len, isWk_C, wkOf_C, cwK_top, ldAt_topc, mt, hm3, hformed, htw, hw, hs8, hallT, hallF, hallX, k1, k2]
        · have hs8 : (({ s1 with e := E } : Wk).e = 0) = False := by simp [hE0]
          rw [if_pos hE0]
          simp +contextual -implicitDefEqProofs (maxSteps := 10000000) only [x48, go_sem, ↓reduceIte, reduceCtorEq, Nat.reduceEqDiff, Nat.reduceAdd, Int.reduceBEq, Int.reduceBNe, u1', p1, n1, f1, u2', p2, f2, u3', p3, f3, u4', p4, f4, hne, hb, h0, hent, hmust, hs1, he, o_callw, cellsAt_cons, bput_cons, bput_bput, bput_len, isWk_C, wkOf_C, cwK_top, ldAt_topc, mt, hm3, hformed, htw, hs7, hE0, k1, k2]
      by_cases h10 : k = 10
      · subst h10
        have hs7 := fin (true) (decide ((vs.length : Int) ≤ 8)) (true) (by rw [hEeq]; by_cases hq : 8 < vs.length <;> cases fb <;> cases tw <;> simp [manyB, hq] <;> omega)
        have hm3 : ∀ hp, CL X (fun _ => []) 59 [.int .i64 10] hp = some (.tup [.int .i64 0, .int .i64 8], hp) := hmost
        by_cases hE0 : E = 0
        · have hs8 := hs7.trans (e0 hE0)
          rw [if_neg (by simp [hE0])]
          simp +contextual -implicitDefEqProofs (maxSteps := 10000000) only [x48, go_sem, ↓reduceIte, reduceCtorEq, Nat.reduceEqDiff, Nat.reduceAdd, Int.reduceBEq, Int.reduceBNe, u1', p1, n1, f1, u2', p2, f2, u3', p3, f3, u4', p4, f4, hne, hb, h0, hent, hmust, hs1, he, o_callw, cellsAt_cons, bput_cons, bput_bput, bput_len, isWk_C, wkOf_C, cwK_top, ldAt_topc, mt, hm3, hformed, htw, hw, hs8, hallT, hallF, hallX, k1, k2]
        · have hs8 : (({ s1 with e := E } : Wk).e = 0) = False := by simp [hE0]
          rw [if_pos hE0]
          simp +contextual -implicitDefEqProofs (maxSteps := 10000000) only [x48, go_sem, ↓reduceIte, reduceCtorEq, Nat.reduceEqDiff, Nat.reduceAdd, Int.reduceBEq, Int.reduceBNe, u1', p1, n1, f1, u2', p2, f2, u3', p3, f3, u4', p4, f4, hne, hb, h0, hent, hmust, hs1, he, o_callw, cellsAt_cons, bput_cons, bput_bput, bput_len, isWk_C, wkOf_C, cwK_top, ldAt_topc, mt, hm3, hformed, htw, hs7, hE0, k1, k2]
      by_cases h19 : k = 19
      · subst h19
        by_cases hv0 : vs = []
        · have hv0' : ((0 : Int) < (vs.length : Int)) = False := by simp [hv0]
          have hfb0 : fb = false := by rw [← hfb, hv0]; rfl
          have hs7 := fin (true) (decide ((vs.length : Int) ≤ 8)) (false) (by rw [hEeq]; rw [hfb0]; by_cases hq : 8 < vs.length <;> cases tw <;> simp [manyB, hq] <;> omega)
          have hm3 : ∀ hp, CL X (fun _ => []) 59 [.int .i64 19] hp = some (.tup [.int .i64 0, .int .i64 8], hp) := hmost
          by_cases hE0 : E = 0
          · have hs8 := hs7.trans (e0 hE0)
            rw [if_neg (by simp [hE0])]
            simp +contextual -implicitDefEqProofs (maxSteps := 10000000) only [x48, go_sem, ↓reduceIte, reduceCtorEq, Nat.reduceEqDiff, Nat.reduceAdd, Int.reduceBEq, Int.reduceBNe, u1', p1, n1, f1, u2', p2, f2, u3', p3, f3, u4', p4, f4, hne, hb, h0, hent, hmust, hs1, he, o_callw, cellsAt_cons, bput_cons, bput_bput, bput_len, isWk_C, wkOf_C, cwK_top, ldAt_topc, mt, hm3, hformed, htw, hw, hs8, hallT, hallF, hallX, k1, k2, hv0']
          · have hs8 : (({ s1 with e := E } : Wk).e = 0) = False := by simp [hE0]
            rw [if_pos hE0]
            simp +contextual -implicitDefEqProofs (maxSteps := 10000000) only [x48, go_sem, ↓reduceIte, reduceCtorEq, Nat.reduceEqDiff, Nat.reduceAdd, Int.reduceBEq, Int.reduceBNe, u1', p1, n1, f1, u2', p2, f2, u3', p3, f3, u4', p4, f4, hne, hb, h0, hent, hmust, hs1, he, o_callw, cellsAt_cons, bput_cons, bput_bput, bput_len, isWk_C, wkOf_C, cwK_top, ldAt_topc, mt, hm3, hformed, htw, hs7, hE0, k1, k2, hv0']
        · have hv1 : 0 < vs.length := List.length_pos_iff.2 hv0
          have hv0' : ((0 : Int) < (vs.length : Int)) = True := by simp; omega
          have hv2 : (1 ≤ (tx vs).length) = True := by rw [tx_len]; simp; omega
          obtain rfl : v = .lst .none 1 (tx vs) := hsl1.cases1.resolve_left (fun e => hv0 e.2)
          have hs7 := fin (true) (decide ((vs.length : Int) ≤ 8)) (!cn) (by rw [hEeq]; by_cases hq : 8 < vs.length <;> cases fb <;> cases tw <;> cases cn <;> simp [manyB, hq] <;> omega)
          have hm3 : ∀ hp, CL X (fun _ => []) 59 [.int .i64 19] hp = some (.tup [.int .i64 0, .int .i64 8], hp) := hmost
          by_cases hE0 : E = 0
          · have hs8 := hs7.trans (e0 hE0)
            rw [if_neg (by simp [hE0])]
            simp +contextual -implicitDefEqProofs (maxSteps := 10000000) only [x48, go_sem, ↓reduceIte, reduceCtorEq, Nat.reduceEqDiff, Nat.reduceAdd, Int.reduceBEq, Int.reduceBNe, u1', p1, n1, f1, u2', p2, f2, u3', p3, f3, u4', p4, f4, hne, hb, h0, hent, hmust, hs1, he, o_callw, cellsAt_cons, bput_cons, bput_bput, bput_len, isWk_C, wkOf_C, cwK_top, ldAt_topc, mt, hm3, hformed, htw, hw, hs8, hallT, hallF, hallX, k1, k2, hv0', hv2, hcon, htd, o_ssl, sslK_lo1]
          · have hs8 : (({ s1 with e := E } : Wk).e = 0) = False := by simp [hE0]
            rw [if_pos hE0]
            simp +contextual -implicitDefEqProofs (maxSteps := 10000000) only [x48, go_sem, ↓reduceIte, reduceCtorEq, Nat.reduceEqDiff, Nat.reduceAdd, Int.reduceBEq, Int.reduceBNe, u1', p1, n1, f1, u2', p2, f2, u3', p3, f3, u4', p4, f4, hne, hb, h0, hent, hmust, hs1, he, o_callw, cellsAt_cons, bput_cons, bput_bput, bput_len, isWk_C, wkOf_C, cwK_top, ldAt_topc, mt, hm3, hformed, htw, hs7, hE0, k1, k2, hv0', hv2, hcon, htd, o_ssl, sslK_lo1]
      have hkf : manyB k ts.length vs.length = false := by simp [manyB, h3, h20, h21, h10, h19]
      have hs7 := fin (true) (true) (true) (by rw [hEeq]; rw [hkf]; cases fb <;> cases tw <;> simp [h19])
      have hm3 : ∀ hp, CL X (fun _ => []) 59 [.int .i64 k] hp = some (.tup [.int .i64 0, .int .i64 0], hp) := by
        intro hp
        have := hmost hp
        simpa [h3, h20, h21, h10, h19] using this
      by_cases hE0 : E = 0
      · have hs8 := hs7.trans (e0 hE0)
        rw [if_neg (by simp [hE0])]
        simp +contextual -implicitDefEqProofs (maxSteps := 10000000) only [x48, go_sem, ↓reduceIte, reduceCtorEq, Nat.reduceEqDiff, Nat.reduceAdd, u1', p1, f1, u2', p2, f2, u3', p3, f3, u4', p4, f4, hne, hb, h0, hent, hmust, hs1, he, o_callw, cellsAt_cons, bput_cons, bput_bput, bput_len, isWk_C, wkOf_C, cwK_top, ldAt_topc, mt, hm3, hformed, htw, hw, hs8, hallT, hallF, hallX, k1, k2, h19]
      · have hs8 : (({ s1 with e := E } : Wk).e = 0) = False := by simp [hE0]
        rw [if_pos hE0]
        simp +contextual -implicitDefEqProofs (maxSteps := 10000000) only [x48, go_sem, ↓reduceIte, reduceCtorEq, Nat.reduceEqDiff, Nat.reduceAdd, u1', p1, f1, u2', p2, f2, u3', p3, f3, u4', p4, f4, hne, hb, h0, hent, hmust, hs1, he, o_callw, cellsAt_cons, bput_cons, bput_bput, bput_len, isWk_C, wkOf_C, cwK_top, ldAt_topc, mt, hm3, hformed, htw, hs7, hE0, k1, k2, h19]
    · have ht : fErr k n op vs ts.length lo hi o ss.length rs.length = 20 := by unfold fErr; rw [if_pos hk]
      rw [ht, if_pos (by decide)]
      by_cases k1 : 1 ≤ k
      · have k2 : (k ≤ 22) = False := by simp; omega
        simp +contextual -implicitDefEqProofs (maxSteps := 10000000) only [x48, go_sem, ↓reduceIte, reduceCtorEq, Nat.reduceEqDiff, Nat.reduceAdd, Int.reduceEq, u1', p1, u2', p2, u3', p3, u4', p4, hne, hb, h0, hent, hmust, hs1, he, o_callw, cellsAt_cons, bput_cons, bput_bput, bput_len, isWk_C, wkOf_C, cwK_top, ldAt_topc, mf, k1, k2]
      · simp +contextual -implicitDefEqProofs (maxSteps := 10000000) only [x48, go_sem, ↓reduceIte, reduceCtorEq, Nat.reduceEqDiff, Nat.reduceAdd, Int.reduceEq, u1', p1, u2', p2, u3', p3, u4', p4, hne, hb, h0, hent, hmust, hs1, he, o_callw, cellsAt_cons, bput_cons, bput_bput, bput_len, isWk_C, wkOf_C, cwK_top, ldAt_topc, mf, k1]
  · rw [if_pos (by exact he)]
    simp +contextual -implicitDefEqProofs (maxSteps := 10000000) only [x48, go_sem, ↓reduceIte, reduceCtorEq, Nat.reduceEqDiff, Nat.reduceAdd, u1', p1, u2', p2, u3', p3, u4', p4, hne, h0, hent, hs1, he, o_callw, cellsAt_cons, bput_cons, bput_len, isWk_C, wkOf_C, cwK_top]
mutual
theorem p_formula : ∀ (t : Fm), t.fit → ∀ (r : Ref), FmI r t
  | .mk k n op bv vs bt ts lo hi o bs ss br rs, hf, r, d, h1, h2, hp, h => p_formula_step k n op bv vs bt ts lo hi o bs ss br rs hf r d ⟨h1, h2⟩ hp h
      (fun t ht => p_formulaL ss (by simp only [Fm.fit] at hf; exact hf.2.2.2.2.2.1) t ht r) (fun t ht => p_regexL rs (by simp only [Fm.fit] at hf; exact hf.2.2.2.2.2.2) t ht r)
theorem p_formulaL : ∀ (l : List Fm), Fm.fitL l → ∀ t ∈ l, ∀ (r : Ref), FmI r t
  | [], _, t, ht, _ => by simp at ht
  | u :: l, hf, t, ht, r => by
    rcases List.mem_cons.1 ht with e | ht
    · rw [e]; exact p_formula u hf.1 r
    · exact p_formulaL l hf.2 t ht r
theorem p_regex : ∀ (t : Rx), t.fit → ∀ (r : Ref), RxI' r t
  | .mk k bt ts bs ss, hf, r, d, h1, h2, hp, h => p_regex_step k bt ts bs ss hf r d ⟨h1, h2⟩ hp h
      (fun t ht => p_formulaL ts (by simp only [Rx.fit] at hf; exact hf.2.2.1) t ht r) (fun t ht => p_regexL ss (by simp only [Rx.fit] at hf; exact hf.2.2.2) t ht r)
theorem p_regexL : ∀ (l : List Rx), Rx.fitL l → ∀ t ∈ l, ∀ (r : Ref), RxI' r t
  | [], _, t, ht, _ => by simp at ht
  | u :: l, hf, t, ht, r => by
    rcases List.mem_cons.1 ht with e | ht
    · rw [e]; exact p_regex u hf.1 r
    · exact p_regexL l hf.2 t ht r
end
structure Wr where
  n : Int
  m : Int
  e : Int
def rnode (d : Int) (s : Wr) : Wr := if s.e ≠ 0 then s else ⟨wr .i64 (s.n + 1), if d > s.m then d else s.m, if 24 < d then 71 else if 256 ≤ s.n then 3 else 0⟩
mutual
noncomputable def Tm.rw : Tm → Int → Wr → Wr
  | .mk k n vk vn vd vs _ ss, d, s =>
    let s1 := rnode d s
    if s1.e ≠ 0 then s1 else if tErr k n vk vn vd vs ss.length ≠ 0 then { s1 with e := tErr k n vk vn vd vs ss.length } else Tm.rwL ss (d + 1) s1
noncomputable def Tm.rwL : List Tm → Int → Wr → Wr
  | [], _, s => s
  | t :: l, d, s => Tm.rwL l d (t.rw d s)
end
mutual
noncomputable def Fm.rw : Fm → Int → Wr → Wr
  | .mk k n op _ vs _ ts lo hi o _ ss _ rs, d, s =>
    let s1 := rnode d s
    if s1.e ≠ 0 then s1 else if fErr k n op vs ts.length lo hi o ss.length rs.length ≠ 0 then { s1 with e := fErr k n op vs ts.length lo hi o ss.length rs.length }
    else Fm.rwL ss (d + 1) (Rx.rwL rs (d + 1) (Tm.rwL ts (d + 1) s1))
noncomputable def Fm.rwL : List Fm → Int → Wr → Wr
  | [], _, s => s
  | t :: l, d, s => Fm.rwL l d (t.rw d s)
noncomputable def Rx.rw : Rx → Int → Wr → Wr
  | .mk k _ ts _ ss, d, s =>
    let s1 := rnode d s
    if s1.e ≠ 0 then s1 else if rErr k ts.length ss.length ≠ 0 then { s1 with e := rErr k ts.length ss.length } else Rx.rwL ss (d + 1) (Fm.rwL ts (d + 1) s1)
noncomputable def Rx.rwL : List Rx → Int → Wr → Wr
  | [], _, s => s
  | t :: l, d, s => Rx.rwL l d (t.rw d s)
end
def RW (a : Wr) (b : Wk) : Prop := a.e = b.e ∧ (b.e = 0 → a.n = (b.n : Int) ∧ a.m = b.m)
theorem RW.node {a : Wr} {b : Wk} (h : RW a b) (d : Int) (hn : b.n ≤ 256) : RW (rnode d a) (enterW d b) ∧ (enterW d b).n ≤ 256 := by
  obtain ⟨an, am, ae⟩ := a
  obtain ⟨bn, bm, be⟩ := b
  obtain ⟨h1, h2⟩ := h
  simp only at h1 h2 hn
  subst h1
  unfold rnode enterW
  simp only
  by_cases h0 : ae = 0
  · obtain ⟨rfl, rfl⟩ := h2 h0
    subst h0
    by_cases hd : 24 < d
    · simp [hd, RW, hn]
    · by_cases hq : 256 ≤ bn
      · have hq' : (256 : Int) ≤ (bn : Int) := by omega
        simp [hd, RW, hn, hq, hq']
      · have hq' : ¬ (256 : Int) ≤ (bn : Int) := by omega
        have w1 : wr .i64 ((bn : Int) + 1) = (bn : Int) + 1 := by rw [wr_i64 _ (by omega)]
        simp [hd, RW, hq, hq', w1]
        omega
  · simp [h0, RW, hn]
end Go.Proofs.Ytnmaahfipddkmaa.Sx.T
