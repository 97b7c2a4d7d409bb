/- Layer 5, part 20: numbers by definition. -/
import Derived.Test.YtgfeladjpjipeaaDoorU
import Derived.Test.YtgfeladjpjipeaaDoorV
import Derived.Test.YtgfeladjpjipeaaDoorTold
set_option linter.unusedVariables false
set_option linter.unusedSimpArgs false
namespace Go.Proofs.YtgfeladjpjipeaaDoor.Sx.T
open Go Go.Proofs.YtgfeladjpjipeaaDoor.Sx
set_option maxRecDepth 100000
set_option maxHeartbeats 1000000
def refN (s : List UInt8) : Int × Bool :=
  if s = [] ∨ 18 < s.length ∨ (1 < s.length ∧ s.getD 0 0 = 48) then (0, false)
  else if s.all dgB = true then (((valD 0 s : Nat) : Int), decide (valD 0 s ≤ 1099511627776)) else (0, false)
theorem valD_app (acc : Nat) (l : List UInt8) (c : UInt8) : valD acc (l ++ [c]) = valD acc l * 10 + (c.toNat - 48) := by
  simp only [valD, List.foldl_append, List.foldl_cons, List.foldl_nil]
theorem valD_pos (c : UInt8) (l : List UInt8) (hc : 48 < c.toNat) : 0 < valD 0 (c :: l) := by
  have := valD_ge l (0 * 10 + (c.toNat - 48))
  rw [valD_cons]
  omega
theorem getD_left (l r : List UInt8) (h : 0 < l.length) : (l ++ r).getD 0 0 = l.getD 0 0 := by
  cases l with
  | nil => simp at h
  | cons c l => rfl
theorem decF_of : ∀ (k : Nat) (l : List UInt8) , l ≠ [] → l.length ≤ k → (∀ c ∈ l, isDig c) → (l.length = 1 ∨ l.getD 0 0 ≠ 48) → decF k (valD 0 l) = l := by
  intro k
  induction k with
  | zero => intro l hn hk; exact absurd (List.eq_nil_of_length_eq_zero (by omega)) hn
  | succ k ih =>
    intro l hn hk hd hz
    obtain ⟨m, c, rfl⟩ : ∃ m c, l = m ++ [c] := ⟨l.dropLast, l.getLast hn, (List.dropLast_concat_getLast hn).symm⟩
    have hc := hd c (by simp)
    unfold isDig at hc
    rw [valD_app]
    have hcc : UInt8.ofNat (48 + (c.toNat - 48)) = c := by
      rw [show 48 + (c.toNat - 48) = c.toNat by omega]
      simp
    by_cases hm : m = []
    · subst hm
      rw [valD_nil, decF, if_pos (by omega)]
      rw [show 0 * 10 + (c.toNat - 48) = c.toNat - 48 by omega, hcc]
      rfl
    · have hml : 0 < m.length := List.length_pos_iff.2 hm
      have hz2 : m.getD 0 0 ≠ 48 := by
        rcases hz with hz | hz
        · simp only [List.length_append, List.length_cons, List.length_nil] at hz; omega
        · intro h
          apply hz
          rw [← h, getD_left _ _ hml]
      have hpos : 0 < valD 0 m := by
        cases m with
        | nil => exact absurd rfl hm
        | cons d m =>
          have hd0 := hd d (by simp)
          unfold isDig at hd0
          refine valD_pos d m ?_
          have h3 : d ≠ 48 := by simpa using hz2
          have h4 : d.toNat ≠ 48 := fun h => h3 (UInt8.toNat_inj.1 (by rw [h]; rfl))
          omega
      rw [decF, if_neg (by omega)]
      rw [show (valD 0 m * 10 + (c.toNat - 48)) / 10 = valD 0 m by omega, show (valD 0 m * 10 + (c.toNat - 48)) % 10 = c.toNat - 48 by omega, hcc]
      rw [ih m hm (by simp at hk; omega) (fun x hx => hd x (by simp [hx])) (.inr hz2)]
theorem decF_head : ∀ (k u : Nat), u < 10 ^ k → k ≠ 0 → 0 < u → (decF k u).getD 0 0 ≠ 48
  | 0, _, _, h, _ => absurd rfl h
  | k + 1, u, hu, _, h0 => by
    rw [decF]
    split
    · rename_i h
      intro h48
      have : (UInt8.ofNat (48 + u)).toNat = 48 + u := digC u h
      simp only [List.getD_cons_zero] at h48
      rw [h48] at this
      have e : ((48 : UInt8).toNat) = 48 := rfl
      omega
    · rename_i h
      have hp : (10 : Nat) ^ (k + 1) = 10 ^ k * 10 := Nat.pow_succ _ _
      have hk : k ≠ 0 := by rintro rfl; simp at hu; omega
      have ih := decF_head k (u / 10) (by omega) hk (by omega)
      have hl : 0 < (decF k (u / 10)).length := List.length_pos_iff.2 (decF_ne k _ hk)
      rw [getD_left _ _ hl]
      exact ih
theorem decF_lenJ : ∀ (k j u : Nat), j ≠ 0 → u < 10 ^ j → (decF k u).length ≤ j
  | 0, j, u, _, _ => by simp [decF]
  | k + 1, j, u, hj, hu => by
    rw [decF]
    split
    · simp; omega
    · rename_i h
      obtain ⟨i, rfl⟩ : ∃ i, j = i + 1 := ⟨j - 1, by omega⟩
      have hp : (10 : Nat) ^ (i + 1) = 10 ^ i * 10 := Nat.pow_succ _ _
      have hi : i ≠ 0 := by rintro rfl; simp at hu; omega
      have := decF_lenJ k i (u / 10) hi (by omega)
      simp
      omega
theorem all_dg (s : List UInt8) : s.all dgB = true ↔ ∀ c ∈ s, isDig c := by
  rw [List.all_eq_true]
  constructor
  · intro h c hc
    exact (dgB_iff c).1 (h c hc)
  · intro h c hc
    exact (dgB_iff c).2 (h c hc)
theorem parse_digs (l : List UInt8) (hn : l ≠ []) (hd : ∀ c ∈ l, isDig c) (hv : valD 0 l ≤ 1099511627776) : Go.Lib.parseIntB 64 l = .ok ((valD 0 l : Nat) : Int) := by
  have hU : Go.Lib.parseUintB 64 l = .ok (valD 0 l) := by
    unfold Go.Lib.parseUintB
    rw [if_neg hn, parse_dig _ (by decide) l 0 hd (by omega)]
  cases l with
  | nil => exact absurd rfl hn
  | cons c r =>
    have hc := hd c (by simp)
    unfold isDig at hc
    unfold Go.Lib.parseIntB
    simp only
    rw [if_neg (by omega), hU]
    simp only
    rw [if_neg (by omega), if_neg (by omega), if_neg (by omega)]
theorem refN_ok (s : List UInt8) : (refN s).2 = okN s ∧ (okN s = true → (refN s).1 = parI s) := by
  by_cases h : s = [] ∨ 18 < s.length ∨ (1 < s.length ∧ s.getD 0 0 = 48)
  · have e : refN s = (0, false) := by unfold refN; rw [if_pos h]
    have hno : okN s = false := by
      rw [← Bool.not_eq_true]
      intro hok
      unfold okN at hok
      simp only [Bool.and_eq_true, decide_eq_true_eq] at hok
      obtain ⟨⟨⟨h1, h2⟩, h3⟩, h4⟩ := hok
      unfold decI at h3
      rw [if_neg (by omega)] at h3
      obtain ⟨n, hn⟩ : ∃ n, (parI s).toNat = n := ⟨_, rfl⟩
      rw [hn] at h3
      have hnl : n ≤ 1099511627776 := by omega
      rcases h with h | h | ⟨h, h0⟩
      · exact decF_ne 20 n (by omega) (h3.trans h)
      · have := decF_lenJ 20 18 n (by omega) (by omega)
        rw [h3] at this
        omega
      · rw [← h3] at h h0
        rcases Nat.eq_zero_or_pos n with rfl | hp
        · simp [decF] at h
        · exact decF_head 20 n (by omega) (by omega) hp h0
    rw [e, hno]
    exact ⟨rfl, fun h => by cases h⟩
  · have hl : s ≠ [] := fun h' => h (.inl h')
    have hl18 : s.length ≤ 18 := by
      rcases Nat.lt_or_ge 18 s.length with c | c
      · exact absurd (.inr (.inl c)) h
      · exact c
    have hz : s.length = 1 ∨ s.getD 0 0 ≠ 48 := by
      have := List.length_pos_iff.2 hl
      by_cases c : s.getD 0 0 = 48
      · left
        rcases Nat.lt_or_ge 1 s.length with d | d
        · exact absurd (.inr (.inr ⟨d, c⟩)) h
        · omega
      · exact .inr c
    by_cases hd : s.all dgB = true
    · have e : refN s = (((valD 0 s : Nat) : Int), decide (valD 0 s ≤ 1099511627776)) := by unfold refN; rw [if_neg h, if_pos hd]
      rw [e]
      simp only
      rw [all_dg] at hd
      by_cases hv : valD 0 s ≤ 1099511627776
      · have hp := parse_digs s hl hd hv
        have hI : parI s = ((valD 0 s : Nat) : Int) := by unfold parI; rw [hp]
        have hok : okN s = true := by
          unfold okN
          rw [hI]
          have h1 : okPar s = true := by unfold okPar; rw [hp]
          have h2 : decI ((valD 0 s : Nat) : Int) = s := by
            unfold decI
            rw [if_neg (by omega), Int.toNat_natCast]
            exact decF_of 20 s hl (by omega) hd hz
          rw [h1, h2]
          simp
          omega
        rw [hok, hI]
        simp [hv]
      · have hno : okN s = false := by
          rw [← Bool.not_eq_true]
          intro hok
          unfold okN at hok
          simp only [Bool.and_eq_true, decide_eq_true_eq] at hok
          obtain ⟨⟨⟨h1, h2⟩, h3⟩, h4⟩ := hok
          unfold decI at h3
          rw [if_neg (by omega)] at h3
          have h5 := decF_val 20 (parI s).toNat (by omega) (by omega)
          rw [h3] at h5
          omega
        rw [hno]
        simp [hv]
    · have e : refN s = (0, false) := by unfold refN; rw [if_neg h, if_neg hd]
      have hno : okN s = false := by
        rw [← Bool.not_eq_true]
        intro hok
        unfold okN at hok
        simp only [Bool.and_eq_true, decide_eq_true_eq] at hok
        obtain ⟨⟨⟨h1, h2⟩, h3⟩, h4⟩ := hok
        unfold decI at h3
        rw [if_neg (by omega)] at h3
        apply hd
        rw [all_dg, ← h3]
        exact decF_dig 20 _
      rw [e, hno]
      exact ⟨rfl, fun h => by cases h⟩
end Go.Proofs.YtgfeladjpjipeaaDoor.Sx.T
namespace Go.Proofs.YtgfeladjpjipeaaDoor.Sx.T
open Go Go.Proofs.YtgfeladjpjipeaaDoor.Sx
set_option maxRecDepth 100000
set_option maxHeartbeats 8000000
theorem p_rdigit (c : UInt8) (hp : Heap) : CL X GV 22 [.int .u8 (c.toNat : Nat)] hp = some (.bool (dgB c), hp) := by
  have hc := c.toNat_lt
  unfold dgB
  generalize c.toNat = n at *
  rw [CL_eq (fn := x22) rfl]
  by_cases h1 : 48 ≤ n
  · have e1 : ((48 : Int) ≤ (n : Int)) = True := by simp; omega
    by_cases h2 : n ≤ 57
    · have e2 : ((n : Int) ≤ 57) = True := by simp; omega
      rw [decide_eq_true h1, decide_eq_true h2]
      simp +contextual -implicitDefEqProofs (maxSteps := 10000000) only [x22, go_sem, ↓reduceIte, reduceCtorEq, Nat.reduceEqDiff, e1, e2, Bool.and_self]
    · have e2 : ((n : Int) ≤ 57) = False := by simp; omega
      rw [decide_eq_true h1, decide_eq_false h2]
      simp +contextual -implicitDefEqProofs (maxSteps := 10000000) only [x22, go_sem, ↓reduceIte, reduceCtorEq, Nat.reduceEqDiff, e1, e2, Bool.and_false]
  · have e1 : ((48 : Int) ≤ (n : Int)) = False := by simp; omega
    rw [decide_eq_false h1]
    simp +contextual -implicitDefEqProofs (maxSteps := 10000000) only [x22, go_sem, ↓reduceIte, reduceCtorEq, Nat.reduceEqDiff, e1, Bool.false_and]
theorem p_rsmall (c : UInt8) (hp : Heap) : CL X GV 20 [.int .u8 (c.toNat : Nat)] hp = some (.bool (smB c), hp) := by
  have hc := c.toNat_lt
  unfold smB
  generalize c.toNat = n at *
  rw [CL_eq (fn := x20) rfl]
  by_cases h1 : 97 ≤ n
  · have e1 : ((97 : Int) ≤ (n : Int)) = True := by simp; omega
    by_cases h2 : n ≤ 122
    · have e2 : ((n : Int) ≤ 122) = True := by simp; omega
      rw [decide_eq_true ⟨h1, h2⟩]
      simp +contextual -implicitDefEqProofs (maxSteps := 10000000) only [x20, go_sem, ↓reduceIte, reduceCtorEq, Nat.reduceEqDiff, e1, e2]
    · have e2 : ((n : Int) ≤ 122) = False := by simp; omega
      rw [decide_eq_false (fun h => h2 h.2)]
      simp +contextual -implicitDefEqProofs (maxSteps := 10000000) only [x20, go_sem, ↓reduceIte, reduceCtorEq, Nat.reduceEqDiff, e1, e2]
  · have e1 : ((97 : Int) ≤ (n : Int)) = False := by simp; omega
    rw [decide_eq_false (fun h => h1 h.1)]
    simp +contextual -implicitDefEqProofs (maxSteps := 10000000) only [x20, go_sem, ↓reduceIte, reduceCtorEq, Nat.reduceEqDiff, e1]
def ODg (hp : Heap) (e : Nat) (r : Option (XExit × St)) : Prop := ∃ fr', r = some (.exit 0, ⟨fr', hp⟩) ∧ fget fr' 1 = .int .i64 (e : Nat)
theorem l_rdigits (s : List UInt8) (hl : s.length ≤ 4611686018427387904) (hp : Heap) : ∀ (n e : Nat) (_ : e + n = s.length) (fr : List AV), fget fr 0 = .str s → fget fr 1 = .int .i64 (e : Nat) →
    ODg hp (e + runL dgB (s.drop e)) (LC X GV (.loop x28_l0) ⟨fr, hp⟩) := by
  intro n
  induction n with
  | zero =>
    intro e he fr h0 h1
    have k1 : ((e : Int) < (s.length : Int)) = False := by simp; omega
    rw [runL_no _ _ _ (by omega), LC_loop]
    simp +contextual -implicitDefEqProofs (maxSteps := 10000000) only [x28_l0_run, go_sem, ↓reduceIte, reduceCtorEq, Nat.reduceEqDiff, h0, h1, k1]
    exact ⟨_, rfl, by simp only [go_sem, ↓reduceIte, Nat.reduceEqDiff, h1]⟩
  | succ n ih =>
    intro e he fr h0 h1
    have k1 : ((e : Int) < (s.length : Int)) = True := by simp; omega
    have k2 : (e < s.length) = True := by simp; omega
    have w1 : wr .i64 ((e : Int) + 1) = ((e + 1 : Nat) : Int) := by rw [wr_i64 _ (by omega)]; omega
    obtain ⟨c, hc⟩ : ∃ c, s.getD e 0 = c := ⟨_, rfl⟩
    have hd := p_rdigit c
    have hsm := p_rsmall c
    have hy := runL_yes dgB s e (by omega)
    have hn := runL_no dgB s e
    rw [hc] at hy hn
    have go : dgB c = true → ∀ fr', fget fr' 0 = .str s → fget fr' 1 = .int .i64 ((e + 1 : Nat) : Int) → ODg hp (e + runL dgB (s.drop e)) (LC X GV (.loop x28_l0) ⟨fr', hp⟩) := by
      intro hw fr' g0 g1
      rw [hy hw, show e + (runL dgB (s.drop (e + 1)) + 1) = e + 1 + runL dgB (s.drop (e + 1)) by omega]
      exact ih (e + 1) (by omega) fr' g0 g1
    have stop : dgB c = false → ∀ fr', fget fr' 1 = .int .i64 (e : Nat) → ODg hp (e + runL dgB (s.drop e)) (some (.exit 0, ⟨fr', hp⟩)) := by
      intro hw fr' g1
      rw [hn (fun _ => hw)]
      exact ⟨_, rfl, g1⟩
    rw [LC_loop]
    cases hb : dgB c with
    | true =>
      rw [hb] at hd
      simp +contextual -implicitDefEqProofs (maxSteps := 10000000) only [x28_l0_run, go_sem, ↓reduceIte, reduceCtorEq, Nat.reduceEqDiff, h0, h1, k1, k2, w1, hc, hd]
      refine go hb _ ?_ ?_ <;> simp only [go_sem, ↓reduceIte, reduceCtorEq, h0]
    | false =>
      rw [hb] at hd
      simp +contextual -implicitDefEqProofs (maxSteps := 10000000) only [x28_l0_run, go_sem, ↓reduceIte, reduceCtorEq, Nat.reduceEqDiff, h0, h1, k1, k2, hc, hd]
      refine stop hb _ ?_ <;> simp only [go_sem, ↓reduceIte, Nat.reduceEqDiff, h1]
theorem p_rdigits (s : List UInt8) (hl : s.length ≤ 4611686018427387904) (a : Nat) (ha : a ≤ s.length) (hp : Heap) : CL X GV 28 [.str s, .int .i64 (a : Nat)] hp = some (.int .i64 ((a + runL dgB (s.drop a) : Nat) : Int), hp) := by
  have key := fun fr h0 h1 => l_rdigits s hl ([] :: hp) (s.length - a) a (by omega) fr h0 h1
  rw [CL_eq (fn := x28) rfl]
  simp +contextual -implicitDefEqProofs (maxSteps := 10000000) only [x28, go_sem, ↓reduceIte]
  refine elimL (fun r => finK _ (seqK (blockK 0 r) _) = _) (key _ ?_ ?_) ?_
  all_goals try simp only [go_sem, ↓reduceIte, reduceCtorEq, Nat.reduceEqDiff]
  rintro r ⟨fr', rfl, h1⟩
  simp +contextual -implicitDefEqProofs (maxSteps := 10000000) only [go_sem, ↓reduceIte, h1]
theorem l_rword (s : List UInt8) (hl : s.length ≤ 4611686018427387904) (hp : Heap) : ∀ (n e : Nat) (_ : e + n = s.length) (fr : List AV), fget fr 0 = .str s → fget fr 1 = .int .i64 (e : Nat) →
    ODg hp (e + runL wcB (s.drop e)) (LC X GV (.loop x21_l0) ⟨fr, hp⟩) := by
  intro n
  induction n with
  | zero =>
    intro e he fr h0 h1
    have k1 : ((e : Int) < (s.length : Int)) = False := by simp; omega
    rw [runL_no _ _ _ (by omega), LC_loop]
    simp +contextual -implicitDefEqProofs (maxSteps := 10000000) only [x21_l0_run, go_sem, ↓reduceIte, reduceCtorEq, Nat.reduceEqDiff, h0, h1, k1]
    exact ⟨_, rfl, by simp only [go_sem, ↓reduceIte, Nat.reduceEqDiff, h1]⟩
  | succ n ih =>
    intro e he fr h0 h1
    have k1 : ((e : Int) < (s.length : Int)) = True := by simp; omega
    have k2 : (e < s.length) = True := by simp; omega
    have w1 : wr .i64 ((e : Int) + 1) = ((e + 1 : Nat) : Int) := by rw [wr_i64 _ (by omega)]; omega
    obtain ⟨c, hc⟩ : ∃ c, s.getD e 0 = c := ⟨_, rfl⟩
    have hd := p_rdigit c
    have hsm := p_rsmall c
    have hy := runL_yes wcB s e (by omega)
    have hn := runL_no wcB s e
    rw [hc] at hy hn
    have go : wcB c = true → ∀ fr', fget fr' 0 = .str s → fget fr' 1 = .int .i64 ((e + 1 : Nat) : Int) → ODg hp (e + runL wcB (s.drop e)) (LC X GV (.loop x21_l0) ⟨fr', hp⟩) := by
      intro hw fr' g0 g1
      rw [hy hw, show e + (runL wcB (s.drop (e + 1)) + 1) = e + 1 + runL wcB (s.drop (e + 1)) by omega]
      exact ih (e + 1) (by omega) fr' g0 g1
    have stop : wcB c = false → ∀ fr', fget fr' 1 = .int .i64 (e : Nat) → ODg hp (e + runL wcB (s.drop e)) (some (.exit 0, ⟨fr', hp⟩)) := by
      intro hw fr' g1
      rw [hn (fun _ => hw)]
      exact ⟨_, rfl, g1⟩
    rw [LC_loop]
    have hw : wcB c = (smB c || dgB c || decide (c.toNat = 95)) := by
      rw [Bool.eq_iff_iff]
      simp only [wcB, smB, dgB, Bool.or_eq_true, Bool.and_eq_true, decide_eq_true_eq]
      omega
    cases hb : smB c with
    | true =>
      rw [hb] at hsm
      simp +contextual -implicitDefEqProofs (maxSteps := 10000000) only [x21_l0_run, go_sem, ↓reduceIte, reduceCtorEq, Nat.reduceEqDiff, h0, h1, k1, k2, w1, hc, hsm]
      refine go (by rw [hw, hb]; rfl) _ ?_ ?_ <;> simp only [go_sem, ↓reduceIte, reduceCtorEq, h0]
    | false =>
      rw [hb] at hsm
      cases hb2 : dgB c with
      | true =>
        rw [hb2] at hd
        simp +contextual -implicitDefEqProofs (maxSteps := 10000000) only [x21_l0_run, go_sem, ↓reduceIte, reduceCtorEq, Nat.reduceEqDiff, h0, h1, k1, k2, w1, hc, hsm, hd]
        refine go (by rw [hw, hb, hb2]; rfl) _ ?_ ?_ <;> simp only [go_sem, ↓reduceIte, reduceCtorEq, h0]
      | false =>
        rw [hb2] at hd
        by_cases a4 : c.toNat = 95
        · have e3 : ((c.toNat : Int) = 95) = True := by simp; omega
          simp +contextual -implicitDefEqProofs (maxSteps := 10000000) only [x21_l0_run, go_sem, ↓reduceIte, reduceCtorEq, Nat.reduceEqDiff, h0, h1, k1, k2, w1, hc, hsm, hd, e3]
          refine go (by rw [hw, hb, hb2, decide_eq_true a4]; rfl) _ ?_ ?_ <;> simp only [go_sem, ↓reduceIte, reduceCtorEq, h0]
        · have e3 : ((c.toNat : Int) = 95) = False := by simp; omega
          simp +contextual -implicitDefEqProofs (maxSteps := 10000000) only [x21_l0_run, go_sem, ↓reduceIte, reduceCtorEq, Nat.reduceEqDiff, h0, h1, k1, k2, hc, hsm, hd, e3]
          refine stop (by rw [hw, hb, hb2, decide_eq_false a4]; rfl) _ ?_ <;> simp only [go_sem, ↓reduceIte, Nat.reduceEqDiff, h1]
theorem p_rword (s : List UInt8) (hl : s.length ≤ 4611686018427387904) (a : Nat) (ha : a ≤ s.length) (hp : Heap) : CL X GV 21 [.str s, .int .i64 (a : Nat)] hp = some (.int .i64 ((a + runL wcB (s.drop a) : Nat) : Int), hp) := by
  have key := fun fr h0 h1 => l_rword s hl ([] :: hp) (s.length - a) a (by omega) fr h0 h1
  rw [CL_eq (fn := x21) rfl]
  simp +contextual -implicitDefEqProofs (maxSteps := 10000000) only [x21, go_sem, ↓reduceIte]
  refine elimL (fun r => finK _ (seqK (blockK 0 r) _) = _) (key _ ?_ ?_) ?_
  all_goals try simp only [go_sem, ↓reduceIte, reduceCtorEq, Nat.reduceEqDiff]
  rintro r ⟨fr', rfl, h1⟩
  simp +contextual -implicitDefEqProofs (maxSteps := 10000000) only [go_sem, ↓reduceIte, h1]
def OPl (hp : Heap) (e : Nat) (o : Option Nat) (r : Option (XExit × St)) : Prop := match o with
  | some n => ∃ fr', r = some (.ret, ⟨fr', hp⟩) ∧ fget fr' 4 = .int .i64 ((e + n : Nat) : Int)
  | none => ∃ fr', r = some (.exit 0, ⟨fr', hp⟩)
theorem OPl_up {hp : Heap} {e m : Nat} {o : Option Nat} {r : Option (XExit × St)} (h : OPl hp (e + m) o r) : OPl hp e (o.map (· + m)) r := by
  unfold OPl at h ⊢
  cases o with
  | none => exact h
  | some n =>
    simp only [Option.map_some] at h ⊢
    rw [show e + (n + m) = e + m + n by omega]
    exact h
theorem l_rquote (s : List UInt8) (hl : s.length ≤ 4611686018427387904) (hp : Heap) : ∀ (n e : Nat) (_ : s.length ≤ e + n) (_ : e ≤ s.length + 1) (fr : List AV), fget fr 0 = .str s → fget fr 5 = .int .i64 (e : Nat) →
    OPl hp e (quoL (s.drop e)) (LC X GV (.loop x26_l0) ⟨fr, hp⟩) := by
  have none0 : ∀ e, s.length ≤ e → ∀ fr, fget fr 0 = .str s → fget fr 5 = .int .i64 (e : Nat) → OPl hp e (quoL (s.drop e)) (LC X GV (.loop x26_l0) ⟨fr, hp⟩) := by
    intro e he fr h0 h5
    have k1 : ((e : Int) < (s.length : Int)) = False := by simp; omega
    rw [List.drop_of_length_le he, LC_loop]
    simp +contextual -implicitDefEqProofs (maxSteps := 10000000) only [x26_l0_run, go_sem, ↓reduceIte, reduceCtorEq, Nat.reduceEqDiff, h0, h5, k1]
    exact ⟨_, rfl⟩
  intro n
  induction n using Nat.strongRecOn with
  | ind n ih =>
    intro e he he2 fr h0 h5
    by_cases a1 : e < s.length
    · have k1 : ((e : Int) < (s.length : Int)) = True := by simp; omega
      have k2 : (e < s.length) = True := by simp; omega
      have w1 : wr .i64 ((e : Int) + 1) = ((e + 1 : Nat) : Int) := by rw [wr_i64 _ (by omega)]; omega
      have w2 : wr .i64 (((e + 1 : Nat) : Int) + 1) = ((e + 2 : Nat) : Int) := by rw [wr_i64 _ (by omega)]; omega
      obtain ⟨c, hc⟩ : ∃ c, s.getD e 0 = c := ⟨_, rfl⟩
      have hdr : s.drop e = c :: s.drop (e + 1) := by
        rw [List.drop_eq_getElem_cons a1]
        simp [List.getD, a1] at hc
        rw [hc]
      have h34 : c = 34 ↔ c.toNat = 34 := u8n c 34 (by decide)
      have h92 : c = 92 ↔ c.toNat = 92 := u8n c 92 (by decide)
      rw [hdr, quoL_cons]
      by_cases b1 : c.toNat = 34
      · have e1 : ((c.toNat : Int) = 34) = True := by simp; omega
        rw [if_pos (h34.2 b1), LC_loop]
        simp +contextual -implicitDefEqProofs (maxSteps := 10000000) only [x26_l0_run, go_sem, ↓reduceIte, reduceCtorEq, Nat.reduceEqDiff, h0, h5, k1, k2, w1, hc, e1]
        exact ⟨_, rfl, by simp only [go_sem, ↓reduceIte]⟩
      · have e1 : ((c.toNat : Int) = 34) = False := by simp; omega
        rw [if_neg (fun h => b1 (h34.1 h))]
        by_cases b2 : c.toNat = 92
        · have e2 : ((c.toNat : Int) = 92) = True := by simp; omega
          rw [if_pos (h92.2 b2), List.drop_drop, show e + 1 + 1 = e + 2 by omega]
          refine OPl_up ?_
          rw [LC_loop]
          simp +contextual -implicitDefEqProofs (maxSteps := 10000000) only [x26_l0_run, go_sem, ↓reduceIte, reduceCtorEq, Nat.reduceEqDiff, h0, h5, k1, k2, w1, w2, hc, e1, e2]
          by_cases b3 : s.length ≤ e + 2
          · refine none0 (e + 2) b3 _ ?_ ?_ <;> simp only [go_sem, ↓reduceIte, reduceCtorEq, h0]
          · refine ih (n - 2) (by omega) (e + 2) (by omega) (by omega) _ ?_ ?_ <;> simp only [go_sem, ↓reduceIte, reduceCtorEq, h0]
        · have e2 : ((c.toNat : Int) = 92) = False := by simp; omega
          rw [if_neg (fun h => b2 (h92.1 h))]
          refine OPl_up ?_
          rw [LC_loop]
          simp +contextual -implicitDefEqProofs (maxSteps := 10000000) only [x26_l0_run, go_sem, ↓reduceIte, reduceCtorEq, Nat.reduceEqDiff, h0, h5, k1, k2, w1, hc, e1, e2]
          refine ih (n - 1) (by omega) (e + 1) (by omega) (by omega) _ ?_ ?_ <;> simp only [go_sem, ↓reduceIte, reduceCtorEq, h0]
    · exact none0 e (by omega) fr h0 h5
theorem p_rquote (s : List UInt8) (hl : s.length ≤ 4611686018427387904) (a : Nat) (ha : a < s.length) (hp : Heap) : CL X GV 26 [.str s, .int .i64 (a : Nat)] hp = some (.int .i64 ((match quoL (s.drop (a + 1)) with | some n => a + 1 + n | none => 0 : Nat) : Int), hp) := by
  have key := fun fr h0 h5 => l_rquote s hl ([] :: hp) (s.length - (a + 1)) (a + 1) (by omega) (by omega) fr h0 h5
  have w1 : wr .i64 ((a : Int) + 1) = ((a + 1 : Nat) : Int) := by rw [wr_i64 _ (by omega)]; omega
  rw [CL_eq (fn := x26) rfl]
  simp +contextual -implicitDefEqProofs (maxSteps := 10000000) only [x26, go_sem, ↓reduceIte, Nat.reduceEqDiff, w1]
  refine elimL (fun r => finK _ (seqK (blockK 0 r) _) = _) (key _ ?_ ?_) ?_
  all_goals try simp only [go_sem, ↓reduceIte, reduceCtorEq]
  intro r hr
  unfold OPl at hr
  cases hq : quoL (s.drop (a + 1)) with
  | none =>
    rw [hq] at hr
    obtain ⟨fr', rfl⟩ := hr
    simp +contextual -implicitDefEqProofs (maxSteps := 10000000) only [go_sem, ↓reduceIte]
    rfl
  | some n =>
    rw [hq] at hr
    obtain ⟨fr', rfl, h4⟩ := hr
    simp +contextual -implicitDefEqProofs (maxSteps := 10000000) only [go_sem, h4]
theorem l_rbracket (s : List UInt8) (hl : s.length ≤ 4611686018427387904) (hp : Heap) : ∀ (n e : Nat) (_ : e + n = s.length) (fr : List AV), fget fr 0 = .str s → fget fr 5 = .int .i64 (e : Nat) →
    OPl hp e (braL (s.drop e)) (LC X GV (.loop x24_l0) ⟨fr, hp⟩) := by
  intro n
  induction n with
  | zero =>
    intro e he fr h0 h5
    have k1 : ((e : Int) < (s.length : Int)) = False := by simp; omega
    rw [List.drop_of_length_le (by omega), LC_loop]
    simp +contextual -implicitDefEqProofs (maxSteps := 10000000) only [x24_l0_run, go_sem, ↓reduceIte, reduceCtorEq, Nat.reduceEqDiff, h0, h5, k1]
    exact ⟨_, rfl⟩
  | succ n ih =>
    intro e he fr h0 h5
    have a1 : e < s.length := by omega
    have k1 : ((e : Int) < (s.length : Int)) = True := by simp; omega
    have k2 : (e < s.length) = True := by simp; omega
    have w1 : wr .i64 ((e : Int) + 1) = ((e + 1 : Nat) : Int) := by rw [wr_i64 _ (by omega)]; omega
    obtain ⟨c, hc⟩ : ∃ c, s.getD e 0 = c := ⟨_, rfl⟩
    have hdr : s.drop e = c :: s.drop (e + 1) := by
      rw [List.drop_eq_getElem_cons a1]
      simp [List.getD, a1] at hc
      rw [hc]
    have h93 : c = 93 ↔ c.toNat = 93 := u8n c 93 (by decide)
    rw [hdr, braL]
    by_cases b1 : c.toNat = 93
    · have e1 : ((c.toNat : Int) = 93) = True := by simp; omega
      rw [if_pos (h93.2 b1), LC_loop]
      simp +contextual -implicitDefEqProofs (maxSteps := 10000000) only [x24_l0_run, go_sem, ↓reduceIte, reduceCtorEq, Nat.reduceEqDiff, h0, h5, k1, k2, w1, hc, e1]
      exact ⟨_, rfl, by simp only [go_sem, ↓reduceIte]⟩
    · have e1 : ((c.toNat : Int) = 93) = False := by simp; omega
      rw [if_neg (fun h => b1 (h93.1 h))]
      refine OPl_up ?_
      rw [LC_loop]
      simp +contextual -implicitDefEqProofs (maxSteps := 10000000) only [x24_l0_run, go_sem, ↓reduceIte, reduceCtorEq, Nat.reduceEqDiff, h0, h5, k1, k2, w1, hc, e1]
      refine ih (e + 1) (by omega) _ ?_ ?_ <;> simp only [go_sem, ↓reduceIte, reduceCtorEq, h0]
theorem p_rbracket (s : List UInt8) (hl : s.length ≤ 4611686018427387904) (a : Nat) (ha : a < s.length) (h91 : s.getD a 0 = 91) (hp : Heap) : CL X GV 24 [.str s, .int .i64 (a : Nat)] hp = some (.int .i64 ((match braL (s.drop (a + 1)) with | some n => a + 1 + n | none => 0 : Nat) : Int), hp) := by
  have hdr : s.drop a = 91 :: s.drop (a + 1) := by
    rw [List.drop_eq_getElem_cons ha]
    simp [List.getD, ha] at h91
    rw [h91]
  have key := fun fr h0 h5 => l_rbracket s hl ([] :: hp) (s.length - a) a (by omega) fr h0 h5
  rw [hdr, braL, if_neg (by decide)] at key
  rw [CL_eq (fn := x24) rfl]
  simp +contextual -implicitDefEqProofs (maxSteps := 10000000) only [x24, go_sem, ↓reduceIte, Nat.reduceEqDiff]
  refine elimL (fun r => finK _ (seqK (blockK 0 r) _) = _) (key _ ?_ ?_) ?_
  all_goals try simp only [go_sem, ↓reduceIte, reduceCtorEq]
  intro r hr
  unfold OPl at hr
  cases hq : braL (s.drop (a + 1)) with
  | none =>
    rw [hq] at hr
    obtain ⟨fr', rfl⟩ := hr
    simp +contextual -implicitDefEqProofs (maxSteps := 10000000) only [go_sem, ↓reduceIte]
    rfl
  | some n =>
    rw [hq] at hr
    simp only [Option.map_some] at hr
    obtain ⟨fr', rfl, h4⟩ := hr
    rw [show a + (n + 1) = a + 1 + n by omega] at h4
    simp +contextual -implicitDefEqProofs (maxSteps := 10000000) only [go_sem, h4]
end Go.Proofs.YtgfeladjpjipeaaDoor.Sx.T
namespace Go.Proofs.YtgfeladjpjipeaaDoor.Sx.T
open Go Go.Proofs.YtgfeladjpjipeaaDoor.Sx
set_option maxRecDepth 100000
set_option maxHeartbeats 8000000
def ONb (hp : Heap) (s : List UInt8) (acc i : Nat) (r : Option (XExit × St)) : Prop :=
  ((s.drop i).all dgB = true ∧ ∃ fr', r = some (.exit 0, ⟨fr', hp⟩) ∧ fget fr' 1 = .int .i64 1099511627776 ∧ fget fr' 6 = .int .i64 ((valD acc (s.drop i) : Nat) : Int)) ∨
  ((s.drop i).all dgB = false ∧ ∃ fr', r = some (.ret, ⟨fr', hp⟩) ∧ fget fr' 4 = .int .i64 0 ∧ fget fr' 5 = .bool false)
theorem l_rnum (s : List UInt8) (hl : s.length ≤ 18) (hp : Heap) : ∀ (n i acc : Nat) (_ : i + n = s.length) (_ : acc < 10 ^ i) (fr : List AV), fget fr 0 = .str s → fget fr 1 = .int .i64 1099511627776 → fget fr 6 = .int .i64 (acc : Nat) → fget fr 7 = .int .i64 (i : Nat) →
    ONb hp s acc i (LC X GV (.loop x29_l0) ⟨fr, hp⟩) := by
  intro n
  induction n with
  | zero =>
    intro i acc hi ha fr h0 h1 h6 h7
    have k1 : ((i : Int) < (s.length : Int)) = False := by simp; omega
    have fin : ∀ fr', fget fr' 1 = .int .i64 1099511627776 → fget fr' 6 = .int .i64 (acc : Nat) → ONb hp s acc i (some (.exit 0, ⟨fr', hp⟩)) := by
      intro fr' g1 g6
      unfold ONb
      rw [List.drop_of_length_le (by omega)]
      exact .inl ⟨rfl, fr', rfl, g1, by rw [valD_nil]; exact g6⟩
    rw [LC_loop]
    simp +contextual -implicitDefEqProofs (maxSteps := 10000000) only [x29_l0_run, go_sem, ↓reduceIte, reduceCtorEq, Nat.reduceEqDiff, h0, h7, k1]
    refine fin _ ?_ ?_ <;> simp only [go_sem, ↓reduceIte, Nat.reduceEqDiff, h1, h6]
  | succ n ih =>
    intro i acc hi ha fr h0 h1 h6 h7
    have hlt : i < s.length := by omega
    have k1 : ((i : Int) < (s.length : Int)) = True := by simp; omega
    have k2 : (i < s.length) = True := by simp; omega
    have w1 : wr .i64 ((i : Int) + 1) = ((i + 1 : Nat) : Int) := by rw [wr_i64 _ (by omega)]; omega
    obtain ⟨c, hc⟩ : ∃ c, s.getD i 0 = c := ⟨_, rfl⟩
    have hdr : s.drop i = c :: s.drop (i + 1) := by
      rw [List.drop_eq_getElem_cons hlt]
      simp [List.getD, hlt] at hc
      rw [hc]
    have hd := p_rdigit c
    have hall : (s.drop i).all dgB = (dgB c && (s.drop (i + 1)).all dgB) := by rw [hdr, List.all_cons]
    have hval : valD acc (s.drop i) = valD (acc * 10 + (c.toNat - 48)) (s.drop (i + 1)) := by rw [hdr, valD_cons]
    rw [LC_loop]
    cases hb : dgB c with
    | false =>
      rw [hb] at hd
      simp +contextual -implicitDefEqProofs (maxSteps := 10000000) only [x29_l0_run, go_sem, ↓reduceIte, reduceCtorEq, Nat.reduceEqDiff, h0, h7, k1, k2, hc, hd]
      exact .inr ⟨by rw [hall, hb]; rfl, _, rfl, by simp only [go_sem, ↓reduceIte, Nat.reduceEqDiff], by simp only [go_sem, ↓reduceIte]⟩
    | true =>
      have hcd := (dgB_iff c).1 hb
      rw [hb] at hd
      have hp18 : 10 ^ (i + 1) ≤ 10 ^ 18 := Nat.pow_le_pow_right (by omega) (by omega)
      have hp1 : (10 : Nat) ^ (i + 1) = 10 ^ i * 10 := Nat.pow_succ _ _
      have hacc : acc * 10 + (c.toNat - 48) < 10 ^ (i + 1) := by omega
      have hb18 : (10 : Nat) ^ 18 = 1000000000000000000 := by decide
      have w2 : wr .i64 ((acc : Int) * 10) = ((acc * 10 : Nat) : Int) := by rw [wr_i64 _ (by omega)]; omega
      have w3 : wr .u8 ((c.toNat : Int) - 48) = ((c.toNat - 48 : Nat) : Int) := by simp only [wr]; omega
      obtain ⟨d, hdd⟩ : ∃ d, c.toNat - 48 = d := ⟨_, rfl⟩
      rw [hdd] at w3 hacc
      have w4 : wr .i64 ((d : Nat) : Int) = ((d : Nat) : Int) := wr_i64 _ (by omega)
      have w5 : wr .i64 (((acc * 10 : Nat) : Int) + ((d : Nat) : Int)) = ((acc * 10 + d : Nat) : Int) := by rw [wr_i64 _ (by omega)]; omega
      have go : ∀ fr', fget fr' 0 = .str s → fget fr' 1 = .int .i64 1099511627776 → fget fr' 6 = .int .i64 ((acc * 10 + d : Nat) : Int) → fget fr' 7 = .int .i64 ((i + 1 : Nat) : Int) → ONb hp s acc i (LC X GV (.loop x29_l0) ⟨fr', hp⟩) := by
        intro fr' g0 g1 g6 g7
        have := ih (i + 1) (acc * 10 + d) (by omega) hacc fr' g0 g1 g6 g7
        unfold ONb at this ⊢
        rw [hall, hb, hval, hdd, Bool.true_and]
        exact this
      simp +contextual -implicitDefEqProofs (maxSteps := 10000000) only [x29_l0_run, go_sem, ↓reduceIte, reduceCtorEq, Nat.reduceEqDiff, h0, h6, h7, k1, k2, hc, hd, w1, w2, w3, w4, w5]
      refine go _ ?_ ?_ ?_ ?_ <;> simp only [go_sem, ↓reduceIte, reduceCtorEq, Nat.reduceEqDiff, h0, h1]
theorem p_rNumber (s : List UInt8) (hl : s.length ≤ 1099511627776) (hp : Heap) : CL X GV 29 [.str s, .int .i64 1099511627776] hp = some (.tup [.int .i64 (refN s).1, .bool (refN s).2], hp) := by
  obtain ⟨c0, hc0⟩ : ∃ c0, s.getD 0 0 = c0 := ⟨_, rfl⟩
  have h48 : c0 = 48 ↔ c0.toNat = 48 := u8n _ 48 (by decide)
  rw [CL_eq (fn := x29) rfl]
  by_cases h0 : s = []
  · have e : refN s = (0, false) := by unfold refN; rw [if_pos (.inl h0)]
    have k0 : ((s.length : Int) = 0) = True := by rw [h0]; simp
    rw [e]
    simp +contextual -implicitDefEqProofs (maxSteps := 10000000) only [x29, go_sem, ↓reduceIte, reduceCtorEq, Nat.reduceEqDiff, Nat.reduceAdd, Int.reduceLE, Int.reduceToNat, k0]
  have hpos := List.length_pos_iff.2 h0
  have k0 : ((s.length : Int) = 0) = False := by simp; omega
  by_cases h18 : 18 < s.length
  · have e : refN s = (0, false) := by unfold refN; rw [if_pos (.inr (.inl h18))]
    have k1 : ((18 : Int) < (s.length : Int)) = True := by simp; omega
    rw [e]
    simp +contextual -implicitDefEqProofs (maxSteps := 10000000) only [x29, go_sem, ↓reduceIte, reduceCtorEq, Nat.reduceEqDiff, Nat.reduceAdd, Int.reduceLE, Int.reduceToNat, k0, k1]
  have k1 : ((18 : Int) < (s.length : Int)) = False := by simp; omega
  have k4 : (0 < s.length) = True := by simp; omega
  have key := fun fr g0 g1 g6 g7 => l_rnum s (by omega) ([] :: hp) s.length 0 0 (by omega) (by simp) fr g0 g1 g6 g7
  have hd0 : s.drop 0 = s := rfl
  have fin : ∀ r, ¬ (s = [] ∨ 18 < s.length ∨ (1 < s.length ∧ s.getD 0 0 = 48)) → ONb ([] :: hp) s 0 0 r → finK [.tmp 4, .tmp 5] (seqK (blockK 0 r) (LC X GV (.seq (.region false [⟨some 45, .mov (.tmp 6), none⟩, ⟨some 46, .mov (.tmp 6), none⟩, ⟨some 47, .mov (.tmp 1), none⟩, ⟨some 48, .bin .leq (.tmp 46) (.tmp 47), none⟩, ⟨some 4, .own 45, none⟩, ⟨some 5, .own 48, none⟩] []) .ret))) = some (.tup [.int .i64 (refN s).1, .bool (refN s).2], hp) := by
    intro r hno hr
    unfold ONb at hr
    rw [hd0] at hr
    rcases hr with ⟨h1, fr', rfl, g1, g6⟩ | ⟨h1, fr', rfl, g4, g5⟩
    · have e : refN s = (((valD 0 s : Nat) : Int), decide (valD 0 s ≤ 1099511627776)) := by unfold refN; rw [if_neg hno, if_pos h1]
      rw [e]
      by_cases hv : valD 0 s ≤ 1099511627776
      · have e1 : (((valD 0 s : Nat) : Int) ≤ 1099511627776) = True := by simp; omega
        simp +contextual -implicitDefEqProofs (maxSteps := 10000000) only [go_sem, ↓reduceIte, Nat.reduceEqDiff, Nat.reduceAdd, g1, g6, e1, hv]
      · have e1 : (((valD 0 s : Nat) : Int) ≤ 1099511627776) = False := by simp; omega
        simp +contextual -implicitDefEqProofs (maxSteps := 10000000) only [go_sem, ↓reduceIte, Nat.reduceEqDiff, Nat.reduceAdd, g1, g6, e1, hv]
    · have e : refN s = (0, false) := by unfold refN; rw [if_neg hno, if_neg (by rw [h1]; decide)]
      rw [e]
      simp +contextual -implicitDefEqProofs (maxSteps := 10000000) only [go_sem, ↓reduceIte, Nat.reduceAdd, g4, g5]
  by_cases h1 : 1 < s.length
  · have k2 : ((1 : Int) < (s.length : Int)) = True := by simp; omega
    by_cases hz : c0.toNat = 48
    · have e : refN s = (0, false) := by unfold refN; rw [if_pos (.inr (.inr ⟨h1, hc0.trans (h48.2 hz)⟩))]
      have k3 : ((c0.toNat : Int) = 48) = True := by simp; omega
      rw [e]
      simp +contextual -implicitDefEqProofs (maxSteps := 10000000) only [x29, go_sem, ↓reduceIte, reduceCtorEq, Nat.reduceEqDiff, Nat.reduceAdd, Int.reduceLE, Int.reduceToNat, k0, k1, k2, k3, k4, hc0]
    · have k3 : ((c0.toNat : Int) = 48) = False := by simp; omega
      have fin := fun r => fin r (by rintro (h | h | h); exact h0 h; exact h18 h; exact hz (h48.1 (hc0.symm.trans h.2)))
      simp +contextual -implicitDefEqProofs (maxSteps := 10000000) only [x29, go_sem, ↓reduceIte, reduceCtorEq, Nat.reduceEqDiff, Int.reduceLE, Int.reduceToNat, k0, k1, k2, k3, k4, hc0]
      refine fin _ (key _ ?_ ?_ ?_ ?_)
      all_goals simp only [go_sem, ↓reduceIte, reduceCtorEq, Nat.reduceEqDiff, Int.natCast_zero]
  · have k2 : ((1 : Int) < (s.length : Int)) = False := by simp; omega
    have fin := fun r => fin r (by rintro (h | h | h); exact h0 h; exact h18 h; exact h1 h.1)
    simp +contextual -implicitDefEqProofs (maxSteps := 10000000) only [x29, go_sem, ↓reduceIte, reduceCtorEq, Nat.reduceEqDiff, Int.reduceLE, Int.reduceToNat, k0, k1, k2]
    refine fin _ (key _ ?_ ?_ ?_ ?_)
    all_goals simp only [go_sem, ↓reduceIte, reduceCtorEq, Nat.reduceEqDiff, Int.natCast_zero]
def nc (c : UInt8) : Bool := decide (c ≠ 44)
def OCm (hp : Heap) (s : List UInt8) (e : Nat) (r : Option (XExit × St)) : Prop := ∃ fr', r = some (.exit 0, ⟨fr', hp⟩) ∧ fget fr' 0 = .str s ∧ fget fr' 2 = .ptr ⟨hp.length - 1, 2, 0⟩ 0 ∧ fget fr' 4 = .int .i64 (e : Nat)
theorem l_comma (s : List UInt8) (hl : s.length ≤ 4611686018427387904) (hp : Heap) : ∀ (n e : Nat) (_ : e + n = s.length) (fr : List AV), fget fr 0 = .str s → fget fr 2 = .ptr ⟨hp.length - 1, 2, 0⟩ 0 → fget fr 4 = .int .i64 (e : Nat) →
    OCm hp s (e + runL nc (s.drop e)) (LC X GV (.loop x25_l0) ⟨fr, hp⟩) := by
  intro n
  induction n with
  | zero =>
    intro e he fr h0 h2 h4
    have k1 : ((e : Int) < (s.length : Int)) = False := by simp; omega
    rw [runL_no _ _ _ (by omega), LC_loop]
    simp +contextual -implicitDefEqProofs (maxSteps := 10000000) only [x25_l0_run, go_sem, ↓reduceIte, reduceCtorEq, Nat.reduceEqDiff, h0, h4, k1]
    exact ⟨_, rfl, by simp only [go_sem, ↓reduceIte, reduceCtorEq, h0], by simp only [go_sem, ↓reduceIte, Nat.reduceEqDiff, h2], by simp only [go_sem, ↓reduceIte, Nat.reduceEqDiff, h4]⟩
  | succ n ih =>
    intro e he fr h0 h2 h4
    have k1 : ((e : Int) < (s.length : Int)) = True := by simp; omega
    have k2 : (e < s.length) = True := by simp; omega
    have w1 : wr .i64 ((e : Int) + 1) = ((e + 1 : Nat) : Int) := by rw [wr_i64 _ (by omega)]; omega
    obtain ⟨c, hc⟩ : ∃ c, s.getD e 0 = c := ⟨_, rfl⟩
    have h44 : c = 44 ↔ c.toNat = 44 := u8n c 44 (by decide)
    have hy := runL_yes nc s e (by omega)
    have hn := runL_no nc s e
    rw [hc] at hy hn
    rw [LC_loop]
    by_cases b1 : c.toNat = 44
    · have e1 : ((c.toNat : Int) != 44) = false := by simp; omega
      have hw : nc c = false := by unfold nc; rw [decide_eq_false_iff_not]; exact fun h => h (h44.2 b1)
      simp +contextual -implicitDefEqProofs (maxSteps := 10000000) only [x25_l0_run, go_sem, ↓reduceIte, reduceCtorEq, Nat.reduceEqDiff, h0, h4, k1, k2, hc, e1]
      rw [hn (fun _ => hw)]
      exact ⟨_, rfl, by simp only [go_sem, ↓reduceIte, reduceCtorEq, h0], by simp only [go_sem, ↓reduceIte, Nat.reduceEqDiff, h2], by simp only [go_sem, ↓reduceIte, Nat.reduceEqDiff, h4, Nat.add_zero]⟩
    · have e1 : ((c.toNat : Int) != 44) = true := by simp; omega
      have hw : nc c = true := by unfold nc; rw [decide_eq_true_eq]; exact fun h => b1 (h44.1 h)
      simp +contextual -implicitDefEqProofs (maxSteps := 10000000) only [x25_l0_run, go_sem, ↓reduceIte, reduceCtorEq, Nat.reduceEqDiff, h0, h4, k1, k2, w1, hc, e1]
      rw [hy hw, show e + (runL nc (s.drop (e + 1)) + 1) = e + 1 + runL nc (s.drop (e + 1)) by omega]
      refine ih (e + 1) (by omega) _ ?_ ?_ ?_ <;> simp only [go_sem, ↓reduceIte, reduceCtorEq, Nat.reduceEqDiff, h0, h2]
theorem posG_run : ∀ (u : List UInt8), posG 44 u = if runL nc u < u.length then some (runL nc u) else none
  | [] => by simp [posG, runL]
  | c :: r => by
    have ih := posG_run r
    unfold posG at ih ⊢
    rw [List.findIdx?_cons, ih, runL]
    by_cases h : c = 44
    · subst h
      simp [nc]
    · have h1 : (c == 44) = false := by simpa using h
      have h2 : nc c = true := by simp [nc, h]
      rw [h1, if_pos h2]
      simp only [List.length_cons, Nat.add_lt_add_iff_right]
      by_cases h3 : runL nc r < r.length
      · simp [h3]
      · simp [h3]
theorem okN_nil : okN [] = false := by
  rw [← Bool.not_eq_true]
  intro hok
  unfold okN at hok
  simp only [Bool.and_eq_true, decide_eq_true_eq] at hok
  obtain ⟨⟨⟨h1, h2⟩, h3⟩, h4⟩ := hok
  unfold decI at h3
  rw [if_neg (by omega)] at h3
  exact decF_ne 20 _ (by omega) h3
theorem trimG_brk (u : List UInt8) : trimG 93 (u ++ [93]) = u := by
  unfold trimG
  rw [if_pos (by simp), List.dropLast_concat]
theorem p_rEnds (u : List UInt8) (hl : u.length ≤ 1099511627000) : ∃ (L H : Int) (O : Bool), ∀ hp, CL X GV 25 [.str (91 :: (u ++ [93]))] hp = some (.tup [.agg [.int .i64 L, .int .i64 H, .bool O], .bool (endsP (91 :: (u ++ [93])))], hp) := by
  have hlc : ∀ C, lcells (lputc [] 2 0 C) 2 0 = some C := fun C => by rw [lcells_put]; simp
  have hput : ∀ C D, lputc (lputc [] 2 0 C) 2 0 D = lputc [] 2 0 D := fun C D => by unfold lputc; rw [lput_lput]
  obtain ⟨s, hs⟩ : ∃ s : List UInt8, 91 :: (u ++ [93]) = s := ⟨_, rfl⟩
  have hsl : s.length = u.length + 2 := by rw [← hs]; simp
  have hep : endsP s = ((cutG 44 u).2.2 && okN (cutG 44 u).1 && (decide ((cutG 44 u).2.1 = [42]) || (okN (cutG 44 u).2.1 && decide (parI (cutG 44 u).1 ≤ parI (cutG 44 u).2.1)))) := by
    rw [← hs]
    unfold endsP
    rw [List.drop_succ_cons, List.drop_zero, trimG_brk]
  have hpg := posG_run u
  have hrun : runL nc s = 1 + (if runL nc u < u.length then runL nc u else u.length + 1) := by
    have h93 : runL nc [93] = 1 := by decide
    have happ : ∀ l : List UInt8, runL nc (l ++ [93]) = if runL nc l < l.length then runL nc l else l.length + 1 := by
      intro l
      induction l with
      | nil => simp [runL, h93]
      | cons c r ih =>
        rw [List.cons_append, runL, runL, ih]
        by_cases hcc : nc c = true
        · simp only [hcc, if_true, List.length_cons]
          by_cases h3 : runL nc r < r.length
          · rw [if_pos h3, if_pos (by omega)]
          · rw [if_neg h3, if_neg (by omega)]
        · simp only [hcc, Bool.false_eq_true, if_false, List.length_cons]
          rw [if_pos (by omega)]
    rw [← hs, runL, if_pos (by decide), happ u]
    omega
  rw [hs]
  have key := fun (hp : Heap) fr h0 h2 h4 => l_comma s (by omega) (lputc [] 2 0 [.int .i64 0, .int .i64 0, .bool false] :: hp) s.length 0 (by omega) fr h0 h2 h4
  rw [List.drop_zero, Nat.zero_add] at key
  have g0 : s.getD 0 0 = 91 := by rw [← hs]; rfl
  have gl : s.getD (u.length + 1) 0 = 93 := by
    rw [← hs]
    simp [List.getD]
  have u91 : ((91 : UInt8).toNat : Int) = 91 := rfl
  have u93 : ((93 : UInt8).toNat : Int) = 93 := rfl
  have b91 : ((91 : Int) != 91) = false := rfl
  have b93 : ((93 : Int) != 93) = false := rfl
  have k4 : (0 < s.length) = True := by simp; omega
  have k5 : (u.length + 1 < s.length) = True := by simp; omega
  have w1 : wr .i64 ((s.length : Int) - 1) = ((u.length + 1 : Nat) : Int) := by rw [wr_i64 _ (by omega)]; omega
  have w3 : wr .i64 ((s.length : Int) - 3) = (s.length : Int) - 3 := wr_i64 _ (by omega)
  by_cases hcm : runL nc u < u.length
  · rw [if_pos hcm] at hpg hrun
    obtain ⟨i, hi⟩ : ∃ i, runL nc u = i := ⟨_, rfl⟩
    rw [hi] at hpg hrun hcm
    have hcut : cutG 44 u = (u.take i, u.drop (i + 1), true) := by unfold cutG; rw [hpg]
    rw [hcut] at hep
    simp only [Bool.true_and] at hep
    rw [hrun] at key
    obtain ⟨a, ha⟩ : ∃ a, u.take i = a := ⟨_, rfl⟩
    obtain ⟨b, hb⟩ : ∃ b, u.drop (i + 1) = b := ⟨_, rfl⟩
    have hal : a.length = i := by rw [← ha, List.length_take]; omega
    have hbl : b.length = u.length - (i + 1) := by rw [← hb, List.length_drop]
    rw [ha, hb] at hep
    have ra := refN_ok a
    have rb := refN_ok b
    have na := p_rNumber a (by omega)
    have nb := p_rNumber b (by omega)
    by_cases hbad : s.length < 5 ∨ s.length < i + 4
    · have hno : endsP s = false := by
        rw [hep]
        rcases hbad with h | h
        · rcases Nat.eq_zero_or_pos i with h0 | h0
          · have : a = [] := List.eq_nil_of_length_eq_zero (by omega)
            rw [this, okN_nil]; rfl
          · have : b = [] := List.eq_nil_of_length_eq_zero (by omega)
            rw [this, okN_nil]; simp
        · have : b = [] := List.eq_nil_of_length_eq_zero (by omega)
          rw [this, okN_nil]; simp
      rw [hno]
      refine ⟨0, 0, false, ?_⟩
      intro hp
      have key := key hp
      rw [CL_eq (fn := x25) rfl]
      simp +contextual -implicitDefEqProofs (maxSteps := 10000000) only [x25, go_sem, ↓reduceIte]
      refine elimL (fun r => finK _ (seqK (blockK 0 r) _) = _) (key _ ?_ ?_ ?_) ?_
      all_goals try simp only [go_sem, ↓reduceIte, reduceCtorEq, Nat.reduceEqDiff, Int.natCast_zero, Nat.add_sub_cancel]
      rintro r ⟨fr', rfl, h0, h2, h4⟩
      simp only [List.length_cons, Nat.add_sub_cancel] at h2
      by_cases h5 : s.length < 5
      · have e5 : ((s.length : Int) < 5) = True := by simp; omega
        simp +contextual -implicitDefEqProofs (maxSteps := 10000000) only [go_sem, ↓reduceIte, reduceCtorEq, Nat.reduceEqDiff, Nat.reduceAdd, Int.reduceLE, Int.reduceToNat, h0, h2, h4, e5, stAt_topc, hlc, hput]
      · have e5 : ((s.length : Int) < 5) = False := by simp; omega
        have e6 : ((s.length : Int) - 3 < ((1 + i : Nat) : Int)) = True := by simp; omega
        simp +contextual -implicitDefEqProofs (maxSteps := 10000000) only [go_sem, ↓reduceIte, reduceCtorEq, Nat.reduceEqDiff, Nat.reduceAdd, Int.reduceLE, Int.reduceToNat, h0, h2, h4, e5, w3, e6, stAt_topc, hlc, hput]
    · have e5 : ((s.length : Int) < 5) = False := by simp; omega
      have e6 : ((s.length : Int) - 3 < ((1 + i : Nat) : Int)) = False := by simp; omega
      have w5 : wr .i64 (((1 + i : Nat) : Int) + 1) = ((i + 2 : Nat) : Int) := by rw [wr_i64 _ (by omega)]; omega
      have s1 : sstrK (.str s) (some (.int .i64 1)) (some (.int .i64 ((1 + i : Nat) : Int))) = some (.str a) := by
        have := sstrK_two s .i64 .i64 1 (1 + i)
        rw [if_pos ⟨by omega, by omega⟩] at this
        rw [← ha]
        refine Eq.trans this ?_
        rw [← hs, Nat.add_comm 1 i, List.take_succ_cons, List.drop_succ_cons, List.drop_zero, List.take_append_of_le_length (by omega)]
      have s2 : sstrK (.str s) (some (.int .i64 ((i + 2 : Nat) : Int))) (some (.int .i64 ((u.length + 1 : Nat) : Int))) = some (.str b) := by
        rw [sstrK_two, if_pos ⟨by omega, by omega⟩, ← hb, ← hs, List.take_succ_cons, List.drop_succ_cons, List.take_left]
      cases hka : okN a with
      | false =>
        rw [hka, Bool.false_and] at hep
        rw [ra.1, hka] at na
        rw [hep]
        refine ⟨0, 0, false, ?_⟩
        intro hp
        have key := key hp
        rw [CL_eq (fn := x25) rfl]
        simp +contextual -implicitDefEqProofs (maxSteps := 10000000) only [x25, go_sem, ↓reduceIte]
        refine elimL (fun r => finK _ (seqK (blockK 0 r) _) = _) (key _ ?_ ?_ ?_) ?_
        all_goals try simp only [go_sem, ↓reduceIte, reduceCtorEq, Nat.reduceEqDiff, Int.natCast_zero, Nat.add_sub_cancel]
        rintro r ⟨fr', rfl, h0, h2, h4⟩
        simp only [List.length_cons, Nat.add_sub_cancel] at h2
        simp +contextual -implicitDefEqProofs (maxSteps := 10000000) only [go_sem, ↓reduceIte, reduceCtorEq, Nat.reduceEqDiff, Nat.reduceAdd, Int.reduceLE, Int.reduceToNat, h0, h2, h4, e5, w1, w3, e6, g0, gl, u91, u93, b91, b93, k4, k5, s1, na, stAt_topc, hlc, hput]
      | true =>
        rw [hka, Bool.true_and] at hep
        rw [ra.1, hka, ra.2 hka] at na
        generalize parI a = x at *
        by_cases hst : b = [42]
        · subst hst
          have hep : endsP s = true := by rw [hep]; simp
          rw [hep]
          refine ⟨x, 0, true, ?_⟩
          intro hp
          have key := key hp
          rw [CL_eq (fn := x25) rfl]
          simp +contextual -implicitDefEqProofs (maxSteps := 10000000) only [x25, go_sem, ↓reduceIte]
          refine elimL (fun r => finK _ (seqK (blockK 0 r) _) = _) (key _ ?_ ?_ ?_) ?_
          all_goals try simp only [go_sem, ↓reduceIte, reduceCtorEq, Nat.reduceEqDiff, Int.natCast_zero, Nat.add_sub_cancel]
          rintro r ⟨fr', rfl, h0, h2, h4⟩
          simp only [List.length_cons, Nat.add_sub_cancel] at h2
          simp +contextual -implicitDefEqProofs (maxSteps := 10000000) only [go_sem, ↓reduceIte, reduceCtorEq, Nat.reduceEqDiff, Nat.reduceAdd, Nat.reduceLeDiff, Int.reduceLE, Int.reduceToNat, h0, h2, h4, e5, w1, w3, w5, e6, g0, gl, u91, u93, b91, b93, k4, k5, s1, s2, na, stAt_topc, hlc, hput]
        · rw [decide_eq_false hst, Bool.false_or] at hep
          cases hkb : okN b with
          | false =>
            rw [hkb, Bool.false_and] at hep
            rw [rb.1, hkb] at nb
            rw [hep]
            refine ⟨0, 0, false, ?_⟩
            intro hp
            have key := key hp
            rw [CL_eq (fn := x25) rfl]
            simp +contextual -implicitDefEqProofs (maxSteps := 10000000) only [x25, go_sem, ↓reduceIte]
            refine elimL (fun r => finK _ (seqK (blockK 0 r) _) = _) (key _ ?_ ?_ ?_) ?_
            all_goals try simp only [go_sem, ↓reduceIte, reduceCtorEq, Nat.reduceEqDiff, Int.natCast_zero, Nat.add_sub_cancel]
            rintro r ⟨fr', rfl, h0, h2, h4⟩
            simp only [List.length_cons, Nat.add_sub_cancel] at h2
            simp +contextual -implicitDefEqProofs (maxSteps := 10000000) only [go_sem, ↓reduceIte, reduceCtorEq, Nat.reduceEqDiff, Nat.reduceAdd, Nat.reduceLeDiff, Int.reduceLE, Int.reduceToNat, h0, h2, h4, e5, w1, w3, w5, e6, g0, gl, u91, u93, b91, b93, k4, k5, s1, s2, na, nb, hst, stAt_topc, hlc, hput]
          | true =>
            rw [hkb, Bool.true_and] at hep
            rw [rb.1, hkb, rb.2 hkb] at nb
            generalize parI b = y at *
            by_cases hxy : x ≤ y
            · have e7 : (y < x) = False := by simp; omega
              rw [decide_eq_true hxy] at hep
              rw [hep]
              refine ⟨x, y, false, ?_⟩
              intro hp
              have key := key hp
              rw [CL_eq (fn := x25) rfl]
              simp +contextual -implicitDefEqProofs (maxSteps := 10000000) only [x25, go_sem, ↓reduceIte]
              refine elimL (fun r => finK _ (seqK (blockK 0 r) _) = _) (key _ ?_ ?_ ?_) ?_
              all_goals try simp only [go_sem, ↓reduceIte, reduceCtorEq, Nat.reduceEqDiff, Int.natCast_zero, Nat.add_sub_cancel]
              rintro r ⟨fr', rfl, h0, h2, h4⟩
              simp only [List.length_cons, Nat.add_sub_cancel] at h2
              simp +contextual -implicitDefEqProofs (maxSteps := 10000000) only [go_sem, ↓reduceIte, reduceCtorEq, Nat.reduceEqDiff, Nat.reduceAdd, Nat.reduceLeDiff, Int.reduceLE, Int.reduceToNat, h0, h2, h4, e5, w1, w3, w5, e6, g0, gl, u91, u93, b91, b93, k4, k5, s1, s2, na, nb, hst, e7, stAt_topc, hlc, hput]
            · have e7 : (y < x) = True := by simp; omega
              rw [decide_eq_false hxy] at hep
              rw [hep]
              refine ⟨0, 0, false, ?_⟩
              intro hp
              have key := key hp
              rw [CL_eq (fn := x25) rfl]
              simp +contextual -implicitDefEqProofs (maxSteps := 10000000) only [x25, go_sem, ↓reduceIte]
              refine elimL (fun r => finK _ (seqK (blockK 0 r) _) = _) (key _ ?_ ?_ ?_) ?_
              all_goals try simp only [go_sem, ↓reduceIte, reduceCtorEq, Nat.reduceEqDiff, Int.natCast_zero, Nat.add_sub_cancel]
              rintro r ⟨fr', rfl, h0, h2, h4⟩
              simp only [List.length_cons, Nat.add_sub_cancel] at h2
              simp +contextual -implicitDefEqProofs (maxSteps := 10000000) only [go_sem, ↓reduceIte, reduceCtorEq, Nat.reduceEqDiff, Nat.reduceAdd, Nat.reduceLeDiff, Int.reduceLE, Int.reduceToNat, h0, h2, h4, e5, w1, w3, w5, e6, g0, gl, u91, u93, b91, b93, k4, k5, s1, s2, na, nb, hst, e7, stAt_topc, hlc, hput]
  · rw [if_neg hcm] at hpg hrun
    have hcut : cutG 44 u = (u, [], false) := by unfold cutG; rw [hpg]
    rw [hcut] at hep
    simp only [Bool.false_and] at hep
    rw [hrun] at key
    rw [hep]
    refine ⟨0, 0, false, ?_⟩
    intro hp
    have key := key hp
    rw [CL_eq (fn := x25) rfl]
    simp +contextual -implicitDefEqProofs (maxSteps := 10000000) only [x25, go_sem, ↓reduceIte]
    refine elimL (fun r => finK _ (seqK (blockK 0 r) _) = _) (key _ ?_ ?_ ?_) ?_
    all_goals try simp only [go_sem, ↓reduceIte, reduceCtorEq, Nat.reduceEqDiff, Int.natCast_zero, Nat.add_sub_cancel]
    rintro r ⟨fr', rfl, h0, h2, h4⟩
    simp only [List.length_cons, Nat.add_sub_cancel] at h2
    by_cases h5 : s.length < 5
    · have e5 : ((s.length : Int) < 5) = True := by simp; omega
      simp +contextual -implicitDefEqProofs (maxSteps := 10000000) only [go_sem, ↓reduceIte, reduceCtorEq, Nat.reduceEqDiff, Nat.reduceAdd, Int.reduceLE, Int.reduceToNat, h0, h2, h4, e5, stAt_topc, hlc, hput]
    · have e5 : ((s.length : Int) < 5) = False := by simp; omega
      have e6 : ((s.length : Int) - 3 < ((1 + (u.length + 1) : Nat) : Int)) = True := by simp; omega
      simp +contextual -implicitDefEqProofs (maxSteps := 10000000) only [go_sem, ↓reduceIte, reduceCtorEq, Nat.reduceEqDiff, Nat.reduceAdd, Int.reduceLE, Int.reduceToNat, h0, h2, h4, e5, w3, e6, stAt_topc, hlc, hput]
end Go.Proofs.YtgfeladjpjipeaaDoor.Sx.T
namespace Go.Proofs.YtgfeladjpjipeaaDoor.Sx.T
open Go Go.Proofs.YtgfeladjpjipeaaDoor.Sx
set_option maxRecDepth 100000
set_option maxHeartbeats 8000000
theorem getD_geX (t : List UInt8) (i : Nat) (h : t.length ≤ i) : t.getD i 0 = 0 := by simp [List.getD, h]
theorem p_rvalued (t : List UInt8) (hl : t.length ≤ 1099511627776) (a : Nat) (hp : Heap) : CL X GV 27 [.str t, .int .i64 (a : Nat)] hp = some (.tup [.agg (Tk.cells ⟨6, a, t, (parP t).1⟩), .bool (decide ((parP t).2 = 0))], hp) := by
  have hpa := fun hp => v_rparse t (by omega) hp
  rw [← par_eq] at hpa
  obtain ⟨⟨⟨vk, vn, vd, vs⟩, e⟩, hpp⟩ : ∃ q, parP t = q := ⟨_, rfl⟩
  rw [hpp] at hpa ⊢
  simp only [Val.av, vA] at hpa
  simp only [Tk.cells]
  have n6 : ((6 : Nat) : Int) = 6 := rfl
  rw [CL_eq (fn := x27) rfl]
  by_cases e0 : e = 0
  · subst e0
    simp +contextual -implicitDefEqProofs (maxSteps := 10000000) only [x27, go_sem, ↓reduceIte, reduceCtorEq, Nat.reduceEqDiff, Nat.reduceAdd, Nat.reduceLeDiff, hpa, n6, decide_true]
  · have e1 : (e == 0) = false := by simpa using e0
    simp +contextual -implicitDefEqProofs (maxSteps := 10000000) only [x27, go_sem, ↓reduceIte, reduceCtorEq, Nat.reduceEqDiff, Nat.reduceAdd, Nat.reduceLeDiff, hpa, n6, e0, e1, decide_false]
theorem p_rnumber (s : List UInt8) (hl : s.length ≤ 1099511627776) (a : Nat) (ha : a < s.length) (hp : Heap) : CL X GV 23 [.str s, .int .i64 (a : Nat)] hp =
    some (.tup [.agg (Tk.cells ⟨6, a, (s.drop a).take (numL (s.drop a)), (parP ((s.drop a).take (numL (s.drop a)))).1⟩), .bool (decide ((parP ((s.drop a).take (numL (s.drop a)))).2 = 0))], hp) := by
  have hd1 := p_rdigits s (by omega) (a + 1) (by omega)
  have w1 : wr .i64 ((a : Int) + 1) = ((a + 1 : Nat) : Int) := by rw [wr_i64 _ (by omega)]; omega
  have hdr : (s.drop a).drop 1 = s.drop (a + 1) := by rw [List.drop_drop]
  have hle := runL_le dgB (s.drop (a + 1))
  rw [List.length_drop] at hle
  obtain ⟨m, hm⟩ : ∃ m, runL dgB (s.drop (a + 1)) = m := ⟨_, rfl⟩
  rw [hm] at hd1 hle
  obtain ⟨e, he⟩ : ∃ e, a + 1 + m = e := ⟨_, rfl⟩
  rw [he] at hd1
  have hfr : fracL (s.drop a) (1 + m) = ((s.getD e 0 == 47) && dgB (s.getD (e + 1) 0)) := by
    unfold fracL
    rw [getD_drop, getD_drop, show a + (1 + m) = e by omega, show a + (1 + m + 1) = e + 1 by omega]
  have hnum : numL (s.drop a) = if fracL (s.drop a) (1 + m) = true then 1 + m + 1 + runL dgB (s.drop (e + 1)) else 1 + m := by
    unfold numL
    rw [hdr, hm, List.drop_drop, show a + (1 + m + 1) = e + 1 by omega]
  have w2 : wr .i64 ((e : Int) + 1) = ((e + 1 : Nat) : Int) := by rw [wr_i64 _ (by omega)]; omega
  obtain ⟨c, hc⟩ : ∃ c, s.getD e 0 = c := ⟨_, rfl⟩
  obtain ⟨d, hd⟩ : ∃ d, s.getD (e + 1) 0 = d := ⟨_, rfl⟩
  rw [hc, hd] at hfr
  have pd := p_rdigit d
  have ss : ∀ k, a + k ≤ s.length → sstrK (.str s) (some (.int .i64 (a : Nat))) (some (.int .i64 ((a + k : Nat) : Int))) = some (.str ((s.drop a).take k)) := by
    intro k hk
    rw [sstrK_two, if_pos ⟨by omega, hk⟩, List.drop_take, Nat.add_sub_cancel_left]
  have hva := fun t ht => p_rvalued t ht a
  have h47 : c = 47 ↔ c.toNat = 47 := u8n c 47 (by decide)
  obtain ⟨n, hn⟩ : ∃ n, numL (s.drop a) = n := ⟨_, rfl⟩
  rw [hn] at hnum ⊢
  obtain ⟨t, ht⟩ : ∃ t, (s.drop a).take n = t := ⟨_, rfl⟩
  have htl : t.length ≤ 1099511627776 := by rw [← ht, List.length_take, List.length_drop]; omega
  have hva := hva t htl
  rw [ht]
  simp only [Tk.cells] at hva ⊢
  obtain ⟨⟨⟨vk, vn, vd, vs⟩, er⟩, hpp⟩ : ∃ q, parP t = q := ⟨_, rfl⟩
  rw [hpp] at hva ⊢
  simp only at hva ⊢
  obtain ⟨B, hB⟩ : ∃ B, decide (er = 0) = B := ⟨_, rfl⟩
  rw [hB] at hva ⊢
  have n6 : ((6 : Nat) : Int) = 6 := rfl
  rw [n6] at hva ⊢
  rw [CL_eq (fn := x23) rfl]
  have stop : fracL (s.drop a) (1 + m) = false → sstrK (.str s) (some (.int .i64 (a : Nat))) (some (.int .i64 ((e : Nat) : Int))) = some (.str t) := by
    intro hf
    rw [if_neg (by rw [hf]; decide)] at hnum
    have := ss (1 + m) (by omega)
    rw [← hnum, ht, hnum, show a + (1 + m) = e by omega] at this
    exact this
  by_cases a1 : e + 1 < s.length
  · have k3 : (((e + 1 : Nat) : Int) < (s.length : Int)) = True := by simp; omega
    have k2 : (e < s.length) = True := by simp; omega
    have k4 : (e + 1 < s.length) = True := by simp; omega
    by_cases b1 : c.toNat = 47
    · have e1 : ((c.toNat : Int) = 47) = True := by simp; omega
      cases hdd : dgB d with
      | true =>
        rw [hdd] at pd hfr
        rw [h47.2 b1] at hfr
        have hf : fracL (s.drop a) (1 + m) = true := hfr
        rw [if_pos hf] at hnum
        have hd2 := p_rdigits s (by omega) (e + 1) (by omega)
        have hle2 := runL_le dgB (s.drop (e + 1))
        rw [List.length_drop] at hle2
        have hs2 := ss n (by omega)
        rw [ht] at hs2
        rw [show e + 1 + runL dgB (s.drop (e + 1)) = a + n by omega] at hd2
        simp +contextual -implicitDefEqProofs (maxSteps := 10000000) only [x23, go_sem, ↓reduceIte, reduceCtorEq, Nat.reduceEqDiff, Nat.reduceAdd, hd1, hd2, w1, w2, k2, k3, k4, hc, hd, e1, pd, hs2, hva]
      | false =>
        rw [hdd] at pd hfr
        have hs2 := stop (by rw [hfr, Bool.and_false])
        simp +contextual -implicitDefEqProofs (maxSteps := 10000000) only [x23, go_sem, ↓reduceIte, reduceCtorEq, Nat.reduceEqDiff, Nat.reduceAdd, hd1, w1, w2, k2, k3, k4, hc, hd, e1, pd, hs2, hva]
    · have e1 : ((c.toNat : Int) = 47) = False := by simp; omega
      have hs2 := stop (by
        rw [hfr, show (c == 47) = false by rw [beq_eq_false_iff_ne]; exact fun h => b1 (h47.1 h)]
        rfl)
      simp +contextual -implicitDefEqProofs (maxSteps := 10000000) only [x23, go_sem, ↓reduceIte, reduceCtorEq, Nat.reduceEqDiff, Nat.reduceAdd, hd1, w1, w2, k2, k3, hc, e1, hs2, hva]
  · have k3 : (((e + 1 : Nat) : Int) < (s.length : Int)) = False := by simp; omega
    have hs2 := stop (by
      rw [hfr, ← hd, getD_geX s (e + 1) (by omega), dgB0, Bool.and_false])
    simp +contextual -implicitDefEqProofs (maxSteps := 10000000) only [x23, go_sem, ↓reduceIte, reduceCtorEq, Nat.reduceEqDiff, Nat.reduceAdd, hd1, w1, w2, k3, hs2, hva]
theorem braL_end : ∀ (r : List UInt8) (n : Nat), braL r = some n → ∃ u, r.take n = u ++ [93]
  | [], n, h => by simp [braL] at h
  | c :: r, n, h => by
    rw [braL] at h
    by_cases hc : c = 93
    · rw [if_pos hc] at h
      cases h
      exact ⟨[], by rw [hc]; rfl⟩
    · rw [if_neg hc] at h
      cases hb : braL r with
      | none => rw [hb] at h; cases h
      | some m =>
        obtain ⟨u, hu⟩ := braL_end r m hb
        have h2 : m + 1 = n := by rw [hb] at h; simpa using h
        exact ⟨c :: u, by rw [← h2, List.take_succ_cons, hu]; rfl⟩
theorem p_rone (s : List UInt8) (hl : s.length ≤ 1099511620000) (a : Nat) (ha : a < s.length) : ∃ T : Tk, (∀ hp, CL X GV 15 [.str s, .int .i64 (a : Nat)] hp = some (.tup [.agg T.cells, .bool (okOf (s.drop a))], hp)) ∧ (okOf (s.drop a) = true → T = tkOf a (s.drop a)) := by
  have k2 : (a < s.length) = True := by simp; omega
  have w1 : wr .i64 ((a : Int) + 1) = ((a + 1 : Nat) : Int) := by rw [wr_i64 _ (by omega)]; omega
  obtain ⟨c, hc⟩ : ∃ c, s.getD a 0 = c := ⟨_, rfl⟩
  obtain ⟨d, hd⟩ : ∃ d, s.getD (a + 1) 0 = d := ⟨_, rfl⟩
  have hdr : s.drop a = c :: s.drop (a + 1) := by
    rw [List.drop_eq_getElem_cons ha]
    simp [List.getD, ha] at hc
    rw [hc]
  have hr0 : (s.drop (a + 1)).getD 0 0 = d := by rw [getD_drop, ← hd, Nat.add_zero]
  have hwo := p_rword s (by omega) a (by omega)
  have hnu := p_rnumber s (by omega) a ha
  have hqu := p_rquote s (by omega) a ha
  have hbr := p_rbracket s (by omega) a ha
  have hdi := p_rdigits s (by omega) (a + 1) (by omega)
  obtain ⟨sd, hsd⟩ : ∃ sd, s.drop (a + 1) = sd := ⟨_, rfl⟩
  have hsdl : sd.length + (a + 1) = s.length := by rw [← hsd, List.length_drop]; omega
  rw [hdr] at hwo hnu ⊢
  rw [hsd] at hr0 hwo hnu hqu hbr hdi ⊢
  rw [hc] at hbr
  rw [hsd] at hdr
  have pc := p_rdigit c
  have pd := p_rdigit d
  have ps := p_rsmall c
  have ss : ∀ k, k ≤ sd.length + 1 → sstrK (.str s) (some (.int .i64 (a : Nat))) (some (.int .i64 ((a + k : Nat) : Int))) = some (.str ((c :: sd).take k)) := by
    intro k hk
    rw [sstrK_two, if_pos ⟨by omega, by omega⟩, List.drop_take, Nat.add_sub_cancel_left, hdr]
  have h40 : c = 40 ↔ c.toNat = 40 := u8n c 40 (by decide)
  have h41 : c = 41 ↔ c.toNat = 41 := u8n c 41 (by decide)
  have h45 : c = 45 ↔ c.toNat = 45 := u8n c 45 (by decide)
  have h60 : c = 60 ↔ c.toNat = 60 := u8n c 60 (by decide)
  have h91 : c = 91 ↔ c.toNat = 91 := u8n c 91 (by decide)
  have h34 : c = 34 ↔ c.toNat = 34 := u8n c 34 (by decide)
  have h64 : c = 64 ↔ c.toNat = 64 := u8n c 64 (by decide)
  have h61 : c = 61 ↔ c.toNat = 61 := u8n c 61 (by decide)
  have h43 : c = 43 ↔ c.toNat = 43 := u8n c 43 (by decide)
  have h42 : c = 42 ↔ c.toNat = 42 := u8n c 42 (by decide)
  have hd61 : d = 61 ↔ d.toNat = 61 := u8n d 61 (by decide)
  have n0 : ((0 : Nat) : Int) = 0 := rfl
  have n1 : ((1 : Nat) : Int) = 1 := rfl
  have n2 : ((2 : Nat) : Int) = 2 := rfl
  have n3 : ((3 : Nat) : Int) = 3 := rfl
  have n4 : ((4 : Nat) : Int) = 4 := rfl
  have n5 : ((5 : Nat) : Int) = 5 := rfl
  have n6 : ((6 : Nat) : Int) = 6 := rfl
  have n7 : ((7 : Nat) : Int) = 7 := rfl
  have hkl : kl (c :: sd) = if c = 40 then (1, 1) else if c = 41 then (2, 1) else if smB c = true then (3, 1 + runL wcB sd)
    else if dgB c = true ∨ (c = 45 ∧ dgB d = true) then (6, numL (c :: sd))
    else if c = 60 ∧ d = 61 then (4, 2) else if sgn c = true then (4, 1)
    else if c = 91 then (match braL sd with | some n => (5, n + 1) | none => (0, 0))
    else if c = 34 then (match quoL sd with | some n => (6, n + 1) | none => (0, 0))
    else if c = 64 then (7, 1 + runL dgB sd) else (0, 0) := by rw [kl, hr0]; rfl
  have mk : ∀ (k n : Nat) (B : Bool) (v : Val), kl (c :: sd) = (k, n) → valOf k ((c :: sd).take n) = (v, B) → okOf (c :: sd) = B ∧ tkOf a (c :: sd) = ⟨k, a, (c :: sd).take n, v⟩ := by
    intro k n B v h1 h2
    unfold okOf tkOf
    rw [h1]
    simp only
    rw [h2]
    exact ⟨rfl, rfl⟩
  by_cases c40 : c.toNat = 40
  · have e40 : ((c.toNat : Int) = 40) = True := by simp; omega
    rw [if_pos (h40.2 c40)] at hkl
    obtain ⟨m1, m2⟩ := mk _ _ true zV hkl (by simp [valOf])
    refine ⟨tkOf a (c :: sd), ?_, fun _ => rfl⟩
    intro hp
    rw [CL_eq (fn := x15) rfl]
    rw [m1, m2, h40.2 c40]
    rw [h40.2 c40] at hc
    simp only [Tk.cells, List.take_succ_cons, List.take_zero, zV]
    have u40 : ((40 : UInt8).toNat : Int) = 40 := rfl
    simp +contextual -implicitDefEqProofs (maxSteps := 10000000) only [x15, go_sem, ↓reduceIte, reduceCtorEq, Nat.reduceEqDiff, Nat.reduceAdd, Nat.reduceLeDiff, Int.reduceBEq, k2, hc, u40, n1]
  have e40 : ((c.toNat : Int) = 40) = False := by simp; omega
  rw [if_neg (fun h => c40 (h40.1 h))] at hkl
  by_cases c41 : c.toNat = 41
  · have e41 : ((c.toNat : Int) = 41) = True := by simp; omega
    rw [if_pos (h41.2 c41)] at hkl
    obtain ⟨m1, m2⟩ := mk _ _ true zV hkl (by simp [valOf])
    refine ⟨tkOf a (c :: sd), ?_, fun _ => rfl⟩
    intro hp
    rw [CL_eq (fn := x15) rfl]
    rw [m1, m2, h41.2 c41]
    rw [h41.2 c41] at hc
    simp only [Tk.cells, List.take_succ_cons, List.take_zero, zV]
    have u41 : ((41 : UInt8).toNat : Int) = 41 := rfl
    simp +contextual -implicitDefEqProofs (maxSteps := 10000000) only [x15, go_sem, ↓reduceIte, reduceCtorEq, Nat.reduceEqDiff, Nat.reduceAdd, Nat.reduceLeDiff, Int.reduceBEq, k2, hc, u41, n2]
  have e41 : ((c.toNat : Int) = 41) = False := by simp; omega
  rw [if_neg (fun h => c41 (h41.1 h))] at hkl
  by_cases csm : smB c = true
  · rw [if_pos csm] at hkl
    rw [csm] at ps
    have hwc : wcB c = true := by simp only [smB, wcB, decide_eq_true_eq] at csm ⊢; omega
    rw [runL, if_pos hwc, show a + (runL wcB sd + 1) = a + (1 + runL wcB sd) by omega] at hwo
    have hle := runL_le wcB sd
    obtain ⟨n, hn⟩ : ∃ n, 1 + runL wcB sd = n := ⟨_, rfl⟩
    rw [hn] at hwo hkl
    have hs2 := ss n (by omega)
    have htl : ((c :: sd).take n).length = n := by rw [List.length_take, List.length_cons]; omega
    have w5 : wr .i64 (((a + n : Nat) : Int) - (a : Int)) = ((n : Nat) : Int) := by rw [wr_i64 _ (by omega)]; omega
    obtain ⟨m1, m2⟩ := mk _ _ (decide (((c :: sd).take n).length ≤ 16)) zV hkl (by simp [valOf])
    refine ⟨tkOf a (c :: sd), ?_, fun _ => rfl⟩
    intro hp
    rw [CL_eq (fn := x15) rfl]
    rw [m1, m2, htl]
    simp only [Tk.cells, zV]
    obtain ⟨t, ht⟩ : ∃ t, (c :: sd).take n = t := ⟨_, rfl⟩
    rw [ht] at hs2 ⊢
    by_cases hn16 : n ≤ 16
    · have e16 : ((n : Int) ≤ 16) = True := by simp; omega
      simp +contextual -implicitDefEqProofs (maxSteps := 10000000) only [x15, go_sem, ↓reduceIte, reduceCtorEq, Nat.reduceEqDiff, Nat.reduceAdd, Nat.reduceLeDiff, Int.reduceBEq, k2, w1, hc, hd, e40, e41, ps, hwo, hs2, w5, e16, n3, hn16, decide_true]
    · have e16 : ((n : Int) ≤ 16) = False := by simp; omega
      simp +contextual -implicitDefEqProofs (maxSteps := 10000000) only [x15, go_sem, ↓reduceIte, reduceCtorEq, Nat.reduceEqDiff, Nat.reduceAdd, Nat.reduceLeDiff, Int.reduceBEq, k2, w1, hc, hd, e40, e41, ps, hwo, hs2, w5, e16, n3, hn16, decide_false]
  rw [if_neg csm] at hkl
  rw [Bool.not_eq_true] at csm
  rw [csm] at ps
  by_cases c60 : c.toNat = 60
  · have e60 : ((c.toNat : Int) = 60) = True := by simp; omega
    have e45 : ((c.toNat : Int) = 45) = False := by simp; omega
    have dz : dgB c = false := by rw [← Bool.not_eq_true, dgB_iff]; omega
    rw [dz] at pc
    rw [if_neg (by rw [dz, h45]; simp; omega)] at hkl
    have e61 : ((c.toNat : Int) = 61) = False := by simp; omega
    have e43 : ((c.toNat : Int) = 43) = False := by simp; omega
    have e42 : ((c.toNat : Int) = 42) = False := by simp; omega
    by_cases cd : d.toNat = 61
    · have ha1 : a + 1 < s.length := getD_lt s _ (fun h0 => by rw [hd] at h0; rw [h0] at cd; exact absurd cd (by decide))
      have k3 : (((a + 1 : Nat) : Int) < (s.length : Int)) = True := by simp; omega
      have k4 : (a + 1 < s.length) = True := by simp; omega
      have f61 : ((d.toNat : Int) = 61) = True := by simp; omega
      rw [if_pos ⟨h60.2 c60, hd61.2 cd⟩] at hkl
      obtain ⟨m1, m2⟩ := mk _ _ true zV hkl (by simp [valOf])
      have ht2 : (c :: sd).take 2 = [60, 61] := by
        cases sd with
        | nil => simp at hsdl; omega
        | cons x y => simp only [List.getD_cons_zero] at hr0; rw [hr0, h60.2 c60, hd61.2 cd]; rfl
      refine ⟨tkOf a (c :: sd), ?_, fun _ => rfl⟩
      intro hp
      rw [CL_eq (fn := x15) rfl]
      rw [m1, m2, ht2]
      simp only [Tk.cells, zV]
      simp +contextual -implicitDefEqProofs (maxSteps := 10000000) only [x15, go_sem, ↓reduceIte, reduceCtorEq, Nat.reduceEqDiff, Nat.reduceAdd, Nat.reduceLeDiff, Int.reduceBEq, k2, w1, hc, hd, e40, e41, ps, pc, e60, k3, k4, f61, n4]
    · have f61 : ((d.toNat : Int) = 61) = False := by simp; omega
      rw [if_neg (by rw [hd61]; exact fun h => cd h.2), if_pos (by rw [h60.2 c60]; decide)] at hkl
      obtain ⟨m1, m2⟩ := mk _ _ true zV hkl (by simp [valOf])
      have hs2 := ss 1 (by omega)
      refine ⟨tkOf a (c :: sd), ?_, fun _ => rfl⟩
      intro hp
      rw [CL_eq (fn := x15) rfl]
      rw [m1, m2]
      simp only [Tk.cells, zV]
      obtain ⟨t, ht⟩ : ∃ t, (c :: sd).take 1 = t := ⟨_, rfl⟩
      rw [ht] at hs2 ⊢
      by_cases ha1 : a + 1 < s.length
      · have k3 : (((a + 1 : Nat) : Int) < (s.length : Int)) = True := by simp; omega
        have k4 : (a + 1 < s.length) = True := by simp; omega
        simp +contextual -implicitDefEqProofs (maxSteps := 10000000) only [x15, go_sem, ↓reduceIte, reduceCtorEq, Nat.reduceEqDiff, Nat.reduceAdd, Nat.reduceLeDiff, Int.reduceBEq, k2, w1, hc, hd, e40, e41, ps, pc, e45, e60, e61, e43, e42, k3, k4, f61, hs2, n4]
      · have k3 : (((a + 1 : Nat) : Int) < (s.length : Int)) = False := by simp; omega
        simp +contextual -implicitDefEqProofs (maxSteps := 10000000) only [x15, go_sem, ↓reduceIte, reduceCtorEq, Nat.reduceEqDiff, Nat.reduceAdd, Nat.reduceLeDiff, Int.reduceBEq, k2, w1, hc, e40, e41, ps, pc, e45, e60, e61, e43, e42, k3, hs2, n4]
  have e60 : ((c.toNat : Int) = 60) = False := by simp; omega
  by_cases cdg : dgB c = true
  · rw [if_pos (.inl cdg)] at hkl
    rw [cdg] at pc
    have hle := (numL_le c sd).2
    simp only [List.length_cons] at hle
    obtain ⟨n, hn⟩ : ∃ n, numL (c :: sd) = n := ⟨_, rfl⟩
    rw [hn] at hnu hkl
    obtain ⟨m1, m2⟩ := mk _ _ (decide ((parP ((c :: sd).take n)).2 = 0)) (parP ((c :: sd).take n)).1 hkl (by simp [valOf])
    refine ⟨tkOf a (c :: sd), ?_, fun _ => rfl⟩
    intro hp
    rw [CL_eq (fn := x15) rfl]
    rw [m1, m2]
    obtain ⟨t, ht⟩ : ∃ t, (c :: sd).take n = t := ⟨_, rfl⟩
    rw [ht] at hnu ⊢
    obtain ⟨⟨⟨vk, vn, vd, vs⟩, er⟩, hpp⟩ : ∃ q, parP t = q := ⟨_, rfl⟩
    rw [hpp] at hnu ⊢
    simp only [Tk.cells] at hnu ⊢
    obtain ⟨B, hB⟩ : ∃ B, decide (er = 0) = B := ⟨_, rfl⟩
    rw [hB] at hnu ⊢
    simp +contextual -implicitDefEqProofs (maxSteps := 10000000) only [x15, go_sem, ↓reduceIte, reduceCtorEq, Nat.reduceEqDiff, Nat.reduceAdd, Nat.reduceLeDiff, Int.reduceBEq, k2, w1, hc, e40, e41, ps, e60, pc, hnu, n6]
  rw [Bool.not_eq_true] at cdg
  rw [cdg] at pc
  by_cases c45 : c.toNat = 45
  · have e45 : ((c.toNat : Int) = 45) = True := by simp; omega
    have e61 : ((c.toNat : Int) = 61) = False := by simp; omega
    have e43 : ((c.toNat : Int) = 43) = False := by simp; omega
    have e42 : ((c.toNat : Int) = 42) = False := by simp; omega
    by_cases cd : dgB d = true
    · have ha1 : a + 1 < s.length := getD_lt s _ (fun h0 => by rw [hd] at h0; rw [h0] at cd; exact absurd cd (by decide))
      have k3 : (((a + 1 : Nat) : Int) < (s.length : Int)) = True := by simp; omega
      have k4 : (a + 1 < s.length) = True := by simp; omega
      rw [if_pos (.inr ⟨h45.2 c45, cd⟩)] at hkl
      rw [cd] at pd
      have hle := (numL_le c sd).2
      simp only [List.length_cons] at hle
      obtain ⟨n, hn⟩ : ∃ n, numL (c :: sd) = n := ⟨_, rfl⟩
      rw [hn] at hnu hkl
      obtain ⟨m1, m2⟩ := mk _ _ (decide ((parP ((c :: sd).take n)).2 = 0)) (parP ((c :: sd).take n)).1 hkl (by simp [valOf])
      refine ⟨tkOf a (c :: sd), ?_, fun _ => rfl⟩
      intro hp
      rw [CL_eq (fn := x15) rfl]
      rw [m1, m2]
      obtain ⟨t, ht⟩ : ∃ t, (c :: sd).take n = t := ⟨_, rfl⟩
      rw [ht] at hnu ⊢
      obtain ⟨⟨⟨vk, vn, vd, vs⟩, er⟩, hpp⟩ : ∃ q, parP t = q := ⟨_, rfl⟩
      rw [hpp] at hnu ⊢
      simp only [Tk.cells] at hnu ⊢
      obtain ⟨B, hB⟩ : ∃ B, decide (er = 0) = B := ⟨_, rfl⟩
      rw [hB] at hnu ⊢
      simp +contextual -implicitDefEqProofs (maxSteps := 10000000) only [x15, go_sem, ↓reduceIte, reduceCtorEq, Nat.reduceEqDiff, Nat.reduceAdd, Nat.reduceLeDiff, Int.reduceBEq, k2, w1, hc, hd, e40, e41, ps, e60, pc, e45, k3, k4, pd, hnu, n6]
    · rw [Bool.not_eq_true] at cd
      rw [cd] at pd
      rw [if_neg (by rw [cdg, cd]; simp), if_neg (by rw [h60]; omega), if_pos (by rw [h45.2 c45]; decide)] at hkl
      obtain ⟨m1, m2⟩ := mk _ _ true zV hkl (by simp [valOf])
      have hs2 := ss 1 (by omega)
      refine ⟨tkOf a (c :: sd), ?_, fun _ => rfl⟩
      intro hp
      rw [CL_eq (fn := x15) rfl]
      rw [m1, m2]
      simp only [Tk.cells, zV]
      obtain ⟨t, ht⟩ : ∃ t, (c :: sd).take 1 = t := ⟨_, rfl⟩
      rw [ht] at hs2 ⊢
      by_cases ha1 : a + 1 < s.length
      · have k3 : (((a + 1 : Nat) : Int) < (s.length : Int)) = True := by simp; omega
        have k4 : (a + 1 < s.length) = True := by simp; omega
        simp +contextual -implicitDefEqProofs (maxSteps := 10000000) only [x15, go_sem, ↓reduceIte, reduceCtorEq, Nat.reduceEqDiff, Nat.reduceAdd, Nat.reduceLeDiff, Int.reduceBEq, k2, w1, hc, hd, e40, e41, ps, e60, pc, e45, e61, e43, e42, k3, k4, pd, hs2, n4]
      · have k3 : (((a + 1 : Nat) : Int) < (s.length : Int)) = False := by simp; omega
        simp +contextual -implicitDefEqProofs (maxSteps := 10000000) only [x15, go_sem, ↓reduceIte, reduceCtorEq, Nat.reduceEqDiff, Nat.reduceAdd, Nat.reduceLeDiff, Int.reduceBEq, k2, w1, hc, e40, e41, ps, e60, pc, e45, e61, e43, e42, k3, hs2, n4]
  have e45 : ((c.toNat : Int) = 45) = False := by simp; omega
  rw [if_neg (by rw [cdg, h45]; simp; omega), if_neg (by rw [h60]; exact fun h => c60 h.1)] at hkl
  have hsg : sgn c = true ↔ c.toNat = 61 ∨ c.toNat = 43 ∨ c.toNat = 42 := by
    simp only [sgn, Bool.or_eq_true, beq_iff_eq, h61, h43, h42, h60, h45]
    omega
  by_cases sz : sgn c = true
  · rw [if_pos sz] at hkl
    obtain ⟨m1, m2⟩ := mk _ _ true zV hkl (by simp [valOf])
    have hs2 := ss 1 (by omega)
    refine ⟨tkOf a (c :: sd), ?_, fun _ => rfl⟩
    intro hp
    rw [CL_eq (fn := x15) rfl]
    rw [m1, m2]
    simp only [Tk.cells, zV]
    obtain ⟨t, ht⟩ : ∃ t, (c :: sd).take 1 = t := ⟨_, rfl⟩
    rw [ht] at hs2 ⊢
    by_cases c61 : c.toNat = 61
    · have e61 : ((c.toNat : Int) = 61) = True := by simp; omega
      simp +contextual -implicitDefEqProofs (maxSteps := 10000000) only [x15, go_sem, ↓reduceIte, reduceCtorEq, Nat.reduceEqDiff, Nat.reduceAdd, Nat.reduceLeDiff, Int.reduceBEq, k2, w1, hc, e40, e41, ps, e60, pc, e45, e61, hs2, n4]
    have e61 : ((c.toNat : Int) = 61) = False := by simp; omega
    by_cases c43 : c.toNat = 43
    · have e43 : ((c.toNat : Int) = 43) = True := by simp; omega
      simp +contextual -implicitDefEqProofs (maxSteps := 10000000) only [x15, go_sem, ↓reduceIte, reduceCtorEq, Nat.reduceEqDiff, Nat.reduceAdd, Nat.reduceLeDiff, Int.reduceBEq, k2, w1, hc, e40, e41, ps, e60, pc, e45, e61, e43, hs2, n4]
    have e43 : ((c.toNat : Int) = 43) = False := by simp; omega
    have c42 : c.toNat = 42 := by have := hsg.1 sz; omega
    have e42 : ((c.toNat : Int) = 42) = True := by simp; omega
    simp +contextual -implicitDefEqProofs (maxSteps := 10000000) only [x15, go_sem, ↓reduceIte, reduceCtorEq, Nat.reduceEqDiff, Nat.reduceAdd, Nat.reduceLeDiff, Int.reduceBEq, k2, w1, hc, e40, e41, ps, e60, pc, e45, e61, e43, e42, hs2, n4]
  rw [if_neg sz] at hkl
  rw [hsg] at sz
  have e61 : ((c.toNat : Int) = 61) = False := by simp; omega
  have e43 : ((c.toNat : Int) = 43) = False := by simp; omega
  have e42 : ((c.toNat : Int) = 42) = False := by simp; omega
  by_cases c91 : c.toNat = 91
  · have e91 : ((c.toNat : Int) = 91) = True := by simp; omega
    rw [if_pos (h91.2 c91)] at hkl
    have hbr := hbr (h91.2 c91)
    cases hq : braL sd with
    | none =>
      rw [hq] at hkl hbr
      simp only [Int.natCast_zero] at hbr
      obtain ⟨m1, m2⟩ := mk _ _ false zV hkl (by simp [valOf])
      refine ⟨⟨0, 0, [], zV⟩, ?_, fun h => by rw [m1] at h; cases h⟩
      intro hp
      rw [CL_eq (fn := x15) rfl]
      rw [m1]
      simp only [Tk.cells, zV]
      simp +contextual -implicitDefEqProofs (maxSteps := 10000000) only [x15, go_sem, ↓reduceIte, reduceCtorEq, Nat.reduceEqDiff, Nat.reduceAdd, Nat.reduceLeDiff, Int.reduceBEq, k2, w1, hc, e40, e41, ps, e60, pc, e45, e61, e43, e42, e91, hbr, n0]
    | some n =>
      rw [hq] at hkl hbr
      simp only at hbr
      have hle := (braL_le _ _ hq).2
      obtain ⟨u, hu⟩ := braL_end _ _ hq
      have ht : (c :: sd).take (n + 1) = 91 :: (u ++ [93]) := by rw [List.take_succ_cons, hu, h91.2 c91]
      have hul : u.length + 1 = n := by
        have := congrArg List.length hu
        simp only [List.length_take, List.length_append, List.length_cons, List.length_nil] at this
        omega
      have hs2 := ss (n + 1) (by omega)
      rw [show a + (n + 1) = a + 1 + n by omega, ht] at hs2
      obtain ⟨m1, m2⟩ := mk _ _ (endsP (91 :: (u ++ [93]))) zV hkl (by rw [ht]; simp [valOf])
      rw [ht] at m2
      have hens := p_rEnds u (by omega)
      obtain ⟨LI, HI, OI, hen⟩ : ∃ (L H : Int) (O : Bool), ∀ hp, CL X GV 25 [.str (91 :: (u ++ [93]))] hp = some (.tup [.agg [.int .i64 L, .int .i64 H, .bool O], .bool (endsP (91 :: (u ++ [93])))], hp) := hens
      have knz : (((a + 1 + n : Nat) : Int) = 0) = False := by simp; omega
      refine ⟨tkOf a (c :: sd), ?_, fun _ => rfl⟩
      intro hp
      rw [CL_eq (fn := x15) rfl]
      rw [m1, m2]
      simp only [Tk.cells, zV]
      generalize 91 :: (u ++ [93]) = t at *
      simp +contextual -implicitDefEqProofs (maxSteps := 10000000) only [x15, go_sem, ↓reduceIte, reduceCtorEq, Nat.reduceEqDiff, Nat.reduceAdd, Nat.reduceLeDiff, Int.reduceBEq, k2, w1, hc, e40, e41, ps, e60, pc, e45, e61, e43, e42, e91, hbr, knz, hs2, hen, n5]
  have e91 : ((c.toNat : Int) = 91) = False := by simp; omega
  rw [if_neg (fun h => c91 (h91.1 h))] at hkl
  by_cases c34 : c.toNat = 34
  · have e34 : ((c.toNat : Int) = 34) = True := by simp; omega
    rw [if_pos (h34.2 c34)] at hkl
    cases hq : quoL sd with
    | none =>
      rw [hq] at hkl hqu
      simp only [Int.natCast_zero] at hqu
      obtain ⟨m1, m2⟩ := mk _ _ false zV hkl (by simp [valOf])
      refine ⟨⟨0, 0, [], zV⟩, ?_, fun h => by rw [m1] at h; cases h⟩
      intro hp
      rw [CL_eq (fn := x15) rfl]
      rw [m1]
      simp only [Tk.cells, zV]
      simp +contextual -implicitDefEqProofs (maxSteps := 10000000) only [x15, go_sem, ↓reduceIte, reduceCtorEq, Nat.reduceEqDiff, Nat.reduceAdd, Nat.reduceLeDiff, Int.reduceBEq, k2, w1, hc, e40, e41, ps, e60, pc, e45, e61, e43, e42, e91, e34, hqu, n0]
    | some n =>
      rw [hq] at hkl hqu
      simp only at hqu
      have hle := (quoL_le _ _ _ (Nat.le_refl _) hq).2
      have hs2 := ss (n + 1) (by omega)
      rw [show a + (n + 1) = a + 1 + n by omega] at hs2
      obtain ⟨m1, m2⟩ := mk _ _ (decide ((parP ((c :: sd).take (n + 1))).2 = 0)) (parP ((c :: sd).take (n + 1))).1 hkl (by simp [valOf])
      have htl : ((c :: sd).take (n + 1)).length ≤ 1099511627776 := by rw [List.length_take, List.length_cons]; omega
      have hva := p_rvalued ((c :: sd).take (n + 1)) htl a
      have knz : (((a + 1 + n : Nat) : Int) = 0) = False := by simp; omega
      refine ⟨tkOf a (c :: sd), ?_, fun _ => rfl⟩
      intro hp
      rw [CL_eq (fn := x15) rfl]
      rw [m1, m2]
      obtain ⟨t, ht⟩ : ∃ t, (c :: sd).take (n + 1) = t := ⟨_, rfl⟩
      rw [ht] at hs2 hva ⊢
      obtain ⟨⟨⟨vk, vn, vd, vs⟩, er⟩, hpp⟩ : ∃ q, parP t = q := ⟨_, rfl⟩
      rw [hpp] at hva ⊢
      simp only [Tk.cells] at hva ⊢
      obtain ⟨B, hB⟩ : ∃ B, decide (er = 0) = B := ⟨_, rfl⟩
      rw [hB] at hva ⊢
      simp +contextual -implicitDefEqProofs (maxSteps := 10000000) only [x15, go_sem, ↓reduceIte, reduceCtorEq, Nat.reduceEqDiff, Nat.reduceAdd, Nat.reduceLeDiff, Int.reduceBEq, k2, w1, hc, e40, e41, ps, e60, pc, e45, e61, e43, e42, e91, e34, hqu, knz, hs2, hva, n6]
  have e34 : ((c.toNat : Int) = 34) = False := by simp; omega
  rw [if_neg (fun h => c34 (h34.1 h))] at hkl
  by_cases c64 : c.toNat = 64
  · have e64 : ((c.toNat : Int) = 64) = True := by simp; omega
    rw [if_pos (h64.2 c64)] at hkl
    have hle := runL_le dgB sd
    obtain ⟨n, hn⟩ : ∃ n, runL dgB sd = n := ⟨_, rfl⟩
    rw [hn] at hkl hdi hle
    have hs2 := ss (1 + n) (by omega)
    rw [show a + (1 + n) = a + 1 + n by omega] at hs2
    have hs3 : sstrK (.str s) (some (.int .i64 ((a + 1 : Nat) : Int))) (some (.int .i64 ((a + 1 + n : Nat) : Int))) = some (.str (sd.take n)) := by
      rw [sstrK_two, if_pos ⟨by omega, by omega⟩, List.drop_take, Nat.add_sub_cancel_left, hsd]
    have ht1 : ((c :: sd).take (1 + n)).drop 1 = sd.take n := by rw [Nat.add_comm 1 n, List.take_succ_cons]; rfl
    have hN := p_rNumber (sd.take n) (by rw [List.length_take]; omega)
    have hrf := refN_ok (sd.take n)
    obtain ⟨m1, m2⟩ := mk _ _ (okN (sd.take n)) ⟨1, parI (sd.take n), 0, []⟩ hkl (by simp only [valOf]; rw [ht1]; rfl)
    refine ⟨⟨7, a, (c :: sd).take (1 + n), ⟨1, (refN (sd.take n)).1, 0, []⟩⟩, ?_, fun h => by rw [m2]; rw [m1] at h; rw [hrf.2 h]⟩
    intro hp
    rw [CL_eq (fn := x15) rfl]
    rw [m1, ← hrf.1]
    simp only [Tk.cells]
    obtain ⟨t, ht⟩ : ∃ t, (c :: sd).take (1 + n) = t := ⟨_, rfl⟩
    rw [ht] at hs2 ⊢
    generalize sd.take n = q at *
    simp +contextual -implicitDefEqProofs (maxSteps := 10000000) only [x15, go_sem, ↓reduceIte, reduceCtorEq, Nat.reduceEqDiff, Nat.reduceAdd, Nat.reduceLeDiff, k2, w1, hc, e40, e41, ps, e60, pc, e45, e61, e43, e42, e91, e34, e64, hdi, hs2, hs3, hN, n7]
  have e64 : ((c.toNat : Int) = 64) = False := by simp; omega
  rw [if_neg (fun h => c64 (h64.1 h))] at hkl
  obtain ⟨m1, m2⟩ := mk _ _ false zV hkl (by simp [valOf])
  refine ⟨⟨0, 0, [], zV⟩, ?_, fun h => by rw [m1] at h; cases h⟩
  intro hp
  rw [CL_eq (fn := x15) rfl]
  rw [m1]
  simp only [Tk.cells, zV]
  simp +contextual -implicitDefEqProofs (maxSteps := 10000000) only [x15, go_sem, ↓reduceIte, reduceCtorEq, Nat.reduceEqDiff, Nat.reduceAdd, Nat.reduceLeDiff, k2, w1, hc, e40, e41, ps, e60, pc, e45, e61, e43, e42, e91, e34, e64, n0]
end Go.Proofs.YtgfeladjpjipeaaDoor.Sx.T
namespace Go.Proofs.YtgfeladjpjipeaaDoor.Sx.T
open Go Go.Proofs.YtgfeladjpjipeaaDoor.Sx
set_option maxRecDepth 100000
set_option maxHeartbeats 8000000
def accR (l : List Tk) (x : AV) : Prop := (l = [] ∧ x = .nilsl) ∨ (l ≠ [] ∧ x = .lst .own 7 (l.map Tk.cells))
def OTr (hp : Heap) (acc : List Tk) (R : Option Nat × List Tk) (r : Option (XExit × St)) : Prop := match R.1 with
  | none => ∃ fr' L, r = some (.exit 0, ⟨fr', L :: hp⟩) ∧ accR (acc ++ R.2) (fget fr' 5)
  | some p => ∃ fr' L, r = some (.ret, ⟨fr', L :: hp⟩) ∧ fget fr' 2 = .nilsl ∧ fget fr' 3 = .int .i64 50 ∧ fget fr' 4 = .int .i64 (p : Nat)
theorem OTr_cons {hp : Heap} {acc : List Tk} {t : Tk} {R : Option Nat × List Tk} {r : Option (XExit × St)} (h : OTr hp (acc ++ [t]) R r) : OTr hp acc (R.1, t :: R.2) r := by
  unfold OTr at h ⊢
  obtain ⟨p, l⟩ := R
  cases p with
  | none => simpa using h
  | some p => exact h
theorem l_rtokens (s : List UInt8) (hl : s.length ≤ 16384) (hp : Heap) : ∀ (n a : Nat) (_ : s.length ≤ a + n) (_ : a ≤ s.length) (acc : List Tk) (_ : acc.length ≤ a) (fr : List AV) (L : Level) (x : AV), fget fr 0 = .str s → fget fr 6 = .int .i64 (a : Nat) → fget fr 5 = x → accR acc x →
    OTr hp acc (toks n a (s.drop a)) (LC X GV (.loop x10_l0) ⟨fr, L :: hp⟩) := by
  have fin0 : ∀ (n a : Nat), s.length ≤ a → ∀ (acc : List Tk) (fr : List AV) (L : Level) (x : AV), fget fr 0 = .str s → fget fr 6 = .int .i64 (a : Nat) → fget fr 5 = x → accR acc x →
      OTr hp acc (toks n a (s.drop a)) (LC X GV (.loop x10_l0) ⟨fr, L :: hp⟩) := by
    intro n a ha acc fr L x h0 h6 h5 hx
    have k1 : ((a : Int) < (s.length : Int)) = False := by simp; omega
    rw [List.drop_of_length_le ha, toks_nil, LC_loop]
    simp +contextual -implicitDefEqProofs (maxSteps := 10000000) only [x10_l0_run, go_sem, ↓reduceIte, reduceCtorEq, Nat.reduceEqDiff, h0, h6, k1]
    refine ⟨_, _, rfl, ?_⟩
    simp only [go_sem, ↓reduceIte, Nat.reduceEqDiff, h5, List.append_nil]
    exact hx
  intro n
  induction n with
  | zero =>
    intro a h1 h2 acc hacc fr L x h0 h6 h5 hx
    exact fin0 0 a (by omega) acc fr L x h0 h6 h5 hx
  | succ n ih =>
    intro a h1 h2 acc hacc fr L x h0 h6 h5 hx
    by_cases ha : a < s.length
    · have k1 : ((a : Int) < (s.length : Int)) = True := by simp; omega
      have k2 : (a < s.length) = True := by simp; omega
      obtain ⟨c, hc⟩ : ∃ c, s.getD a 0 = c := ⟨_, rfl⟩
      have hdr : s.drop a = c :: s.drop (a + 1) := by
        rw [List.drop_eq_getElem_cons ha]
        simp [List.getD, ha] at hc
        rw [hc]
      have w1 : wr .i64 ((a : Int) + 1) = ((a + 1 : Nat) : Int) := by rw [wr_i64 _ (by omega)]; omega
      have h32 : c = 32 ↔ c.toNat = 32 := u8n c 32 (by decide)
      have h10 : c = 10 ↔ c.toNat = 10 := u8n c 10 (by decide)
      by_cases hb : blk c = true
      · rw [hdr, toks_blk _ _ _ _ hb]
        have st : ∃ fr1, LC X GV (.loop x10_l0) ⟨fr, L :: hp⟩ = LC X GV (.loop x10_l0) ⟨fr1, L :: hp⟩ ∧ fget fr1 0 = .str s ∧ fget fr1 6 = .int .i64 ((a + 1 : Nat) : Int) ∧ fget fr1 5 = x := by
          unfold blk at hb
          rw [decide_eq_true_eq, h32, h10] at hb
          by_cases b1 : c.toNat = 32
          · have e1 : ((c.toNat : Int) = 32) = True := by simp; omega
            conv => enter [1, fr1, 1, 1]; rw [LC_loop]
            simp +contextual -implicitDefEqProofs (maxSteps := 10000000) only [x10_l0_run, go_sem, ↓reduceIte, reduceCtorEq, Nat.reduceEqDiff, h0, h6, k1, k2, hc, w1, e1]
            refine ⟨_, rfl, ?_, ?_, ?_⟩ <;> simp only [go_sem, ↓reduceIte, reduceCtorEq, Nat.reduceEqDiff, h0, h5]
          · have e1 : ((c.toNat : Int) = 32) = False := by simp; omega
            have e2 : ((c.toNat : Int) = 10) = True := by simp; omega
            conv => enter [1, fr1, 1, 1]; rw [LC_loop]
            simp +contextual -implicitDefEqProofs (maxSteps := 10000000) only [x10_l0_run, go_sem, ↓reduceIte, reduceCtorEq, Nat.reduceEqDiff, h0, h6, k1, k2, hc, w1, e1, e2]
            refine ⟨_, rfl, ?_, ?_, ?_⟩ <;> simp only [go_sem, ↓reduceIte, reduceCtorEq, Nat.reduceEqDiff, h0, h5]
        obtain ⟨fr1, e1, g0, g6, g5⟩ := st
        rw [e1]
        exact ih (a + 1) (by omega) (by omega) acc (by omega) fr1 L x g0 g6 g5 hx
      · rw [Bool.not_eq_true] at hb
        have e1 : ((c.toNat : Int) = 32) = False := by
          simp only [eq_iff_iff, iff_false]
          intro h
          rw [show blk c = true by unfold blk; rw [decide_eq_true_eq, h32]; left; omega] at hb
          cases hb
        have e2 : ((c.toNat : Int) = 10) = False := by
          simp only [eq_iff_iff, iff_false]
          intro h
          rw [show blk c = true by unfold blk; rw [decide_eq_true_eq, h10]; right; omega] at hb
          cases hb
        obtain ⟨T, ho, hT⟩ : ∃ T : Tk, (∀ hp, CL X GV 15 [.str s, .int .i64 (a : Nat)] hp = some (.tup [.agg T.cells, .bool (okOf (s.drop a))], hp)) ∧ (okOf (s.drop a) = true → T = tkOf a (s.drop a)) := p_rone s (by omega) a ha
        have hkl := kl_le (s.drop a)
        have hok := ok_kl (s.drop a)
        have htk : (tkOf a (s.drop a)).t.length = (kl (s.drop a)).2 := by
          simp only [tkOf, List.length_take]
          omega
        rw [hdr] at ho hkl hok htk hT
        rw [hdr]
        by_cases hk : okOf (c :: s.drop (a + 1)) = true
        · rw [toks_ok _ _ _ _ hb hk]
          refine OTr_cons ?_
          rw [hk, hT hk] at ho
          have hk0 := hok hk
          have hk1 := hkl.2.1 hk0
          have hk2 := hkl.2.2.1
          rw [← hdr, List.length_drop] at hk2
          have hdd : (c :: s.drop (a + 1)).drop (kl (c :: s.drop (a + 1))).2 = s.drop (a + (kl (c :: s.drop (a + 1))).2) := by rw [← hdr, List.drop_drop]
          rw [hdd]
          rw [hdr] at hk2
          obtain ⟨m, hm⟩ : ∃ m, (kl (c :: s.drop (a + 1))).2 = m := ⟨_, rfl⟩
          rw [hm] at htk hk1 hk2 ⊢
          obtain ⟨t, ht⟩ : ∃ t, tkOf a (c :: s.drop (a + 1)) = t := ⟨_, rfl⟩
          rw [ht] at ho htk ⊢
          have htc : [t.cells] = [t].map Tk.cells := rfl
          obtain ⟨tk, ta, tt, tv⟩ := t
          obtain ⟨vk, vn, vd, vs⟩ := tv
          simp only [Tk.cells] at ho htk htc
          have w2 : wr .i64 ((a : Int) + (tt.length : Int)) = ((a + m : Nat) : Int) := by rw [htk, wr_i64 _ (by omega)]; omega
          have rm : (((acc.map Tk.cells).length + 1) * 72 ≤ room) = True := by rw [List.length_map]; unfold room; simp; omega
          have rm1 : (1 * 72 ≤ room) = True := by unfold room; simp
          have hlc : ∀ v cs, lcells (lputc L 7 v cs) 7 v = some cs := fun v cs => by rw [lcells_put]; simp
          have st : ∃ fr1 L1, LC X GV (.loop x10_l0) ⟨fr, L :: hp⟩ = LC X GV (.loop x10_l0) ⟨fr1, L1 :: hp⟩ ∧ fget fr1 0 = .str s ∧ fget fr1 6 = .int .i64 ((a + m : Nat) : Int) ∧ fget fr1 5 = .lst .own 7 ((acc ++ [(⟨tk, ta, tt, ⟨vk, vn, vd, vs⟩⟩ : Tk)]).map Tk.cells) := by
            rcases hx with ⟨rfl, rfl⟩ | ⟨_, rfl⟩
            · conv => enter [1, fr1, 1, L1, 1, 1]; rw [LC_loop]
              simp +contextual -implicitDefEqProofs (maxSteps := 10000000) only [x10_l0_run, go_sem, ↓reduceIte, reduceCtorEq, Nat.reduceEqDiff, Nat.reduceAdd, Nat.reduceMul, Nat.reduceLT, Nat.reduceDiv, h0, h6, h5, k1, k2, hc, w1, e1, e2, ho, w2, rm1, hlc]
              refine ⟨_, _, rfl, ?_, ?_, ?_⟩ <;> simp only [go_sem, ↓reduceIte, reduceCtorEq, Nat.reduceEqDiff, h0]
              rfl
            · conv => enter [1, fr1, 1, L1, 1, 1]; rw [LC_loop]
              simp +contextual -implicitDefEqProofs (maxSteps := 10000000) only [x10_l0_run, go_sem, ↓reduceIte, reduceCtorEq, Nat.reduceEqDiff, Nat.reduceAdd, Nat.reduceLT, Nat.reduceDiv, h0, h6, h5, k1, k2, hc, w1, e1, e2, ho, w2, rm, hlc]
              refine ⟨_, _, rfl, ?_, ?_, ?_⟩ <;> simp only [go_sem, ↓reduceIte, reduceCtorEq, Nat.reduceEqDiff, h0]
              rw [List.map_append]
              rfl
          obtain ⟨fr1, L1, e3, g0, g6, g5⟩ := st
          rw [e3]
          exact ih (a + m) (by omega) (by omega) _ (by simp; omega) fr1 L1 _ g0 g6 g5 (.inr ⟨by simp, rfl⟩)
        · rw [Bool.not_eq_true] at hk
          rw [toks_bad _ _ _ _ hb hk, LC_loop]
          rw [hk] at ho
          obtain ⟨tk, ta, tt, vk, vn, vd, vs⟩ := T
          simp only [Tk.cells] at ho
          simp +contextual -implicitDefEqProofs (maxSteps := 10000000) only [x10_l0_run, go_sem, ↓reduceIte, reduceCtorEq, Nat.reduceEqDiff, Nat.reduceAdd, h0, h6, k1, k2, hc, w1, e1, e2, ho]
          refine ⟨_, _, rfl, ?_, ?_, ?_⟩ <;> simp only [go_sem, ↓reduceIte, Nat.reduceEqDiff]
    · exact fin0 (n + 1) a (by omega) acc fr L x h0 h6 h5 hx
theorem free_cells2 (l : List Tk) : refFreeL (l.map Tk.cells).flatten = true := by
  induction l with
  | nil => rfl
  | cons t l ih =>
    rw [List.map_cons, List.flatten_cons]
    simp only [Tk.cells, List.cons_append, List.nil_append, refFreeL, refFree, ih, Bool.and_self]
theorem p_rtoksOk (s : List UInt8) (hl : s.length ≤ 16384) (l : List Tk) (h : toks s.length 0 s = (none, l)) (hp : Heap) : CL X GV 10 [.str s] hp = some (.tup [(if l = [] then .nilsl else .lst .none 7 (l.map Tk.cells)), .int .i64 0, .int .i64 0], hp) := by
  have f0 : ((16384 : Int) < (s.length : Int)) = False := by simp; omega
  have hf := free_cells2 l
  rw [CL_eq (fn := x10) rfl]
  simp +contextual -implicitDefEqProofs (maxSteps := 10000000) only [x10, go_sem, ↓reduceIte, reduceCtorEq, f0]
  have key := fun fr h0 h6 h5 => l_rtokens s hl hp s.length 0 (by omega) (by omega) [] (by simp) fr [] .nilsl h0 h6 h5 (.inl ⟨rfl, rfl⟩)
  rw [List.drop_zero, h] at key
  refine elimL (fun r => finK _ (seqK (blockK 0 r) _) = _) (key _ ?_ ?_ ?_) ?_
  all_goals try simp only [go_sem, ↓reduceIte, reduceCtorEq, Nat.reduceEqDiff, Int.natCast_zero]
  rintro r ⟨fr', L, rfl, hx⟩
  rw [List.nil_append] at hx
  rcases hx with ⟨rfl, hx⟩ | hx
  · simp +contextual -implicitDefEqProofs (maxSteps := 10000000) only [go_sem, ↓reduceIte, Nat.reduceEqDiff, Nat.reduceAdd, hx]
  · obtain ⟨hn, hx⟩ := hx
    simp +contextual -implicitDefEqProofs (maxSteps := 10000000) only [go_sem, ↓reduceIte, Nat.reduceEqDiff, Nat.reduceAdd, hx, hn]
theorem p_rtoksBad (s : List UInt8) (hl : s.length ≤ 16384) (p : Nat) (l : List Tk) (h : toks s.length 0 s = (some p, l)) (hp : Heap) : CL X GV 10 [.str s] hp = some (.tup [.nilsl, .int .i64 50, .int .i64 (p : Nat)], hp) := by
  have f0 : ((16384 : Int) < (s.length : Int)) = False := by simp; omega
  rw [CL_eq (fn := x10) rfl]
  simp +contextual -implicitDefEqProofs (maxSteps := 10000000) only [x10, go_sem, ↓reduceIte, reduceCtorEq, f0]
  have key := fun fr h0 h6 h5 => l_rtokens s hl hp s.length 0 (by omega) (by omega) [] (by simp) fr [] .nilsl h0 h6 h5 (.inl ⟨rfl, rfl⟩)
  rw [List.drop_zero, h] at key
  refine elimL (fun r => finK _ (seqK (blockK 0 r) _) = _) (key _ ?_ ?_ ?_) ?_
  all_goals try simp only [go_sem, ↓reduceIte, reduceCtorEq, Nat.reduceEqDiff, Int.natCast_zero]
  rintro r ⟨fr', L, rfl, h2, h3, h4⟩
  simp +contextual -implicitDefEqProofs (maxSteps := 10000000) only [go_sem, ↓reduceIte, Nat.reduceAdd, h2, h3, h4]
theorem p_rtoksLong (s : List UInt8) (hl : 16384 < s.length) (hp : Heap) : CL X GV 10 [.str s] hp = some (.tup [.nilsl, .int .i64 2, .int .i64 0], hp) := by
  rw [CL_eq (fn := x10) rfl]
  have f0 : ((16384 : Int) < (s.length : Int)) = True := by simp; omega
  simp +contextual -implicitDefEqProofs (maxSteps := 10000000) only [x10, go_sem, ↓reduceIte, reduceCtorEq, Nat.reduceEqDiff, Nat.reduceAdd, f0]
theorem p_toksU (s : List UInt8) (hl : s.length ≤ 16384) (l : List Tk) (h : toks s.length 0 s = (none, l)) (hp : Heap) :
    CL X GV 8 [.str s] hp = some (if l = [] then .tup [.nilsl, .int .i64 0, .int .i64 0] else .lst .uniq 1007 ([.int .i64 0, .int .i64 0] :: l.map Tk.cells), hp) := by
  have f0 : ((16384 : Int) < (s.length : Int)) = False := by simp; omega
  have hf := free_cells2 l
  rw [CL_eq (fn := x8) rfl]
  simp +contextual -implicitDefEqProofs (maxSteps := 10000000) only [x8, go_sem, ↓reduceIte, reduceCtorEq, f0]
  have key := fun fr h0 h6 h5 => l_tokens s hl hp s.length 0 (by omega) (by omega) [] (by simp) fr [] .nilsl h0 h6 h5 (.inl ⟨rfl, rfl⟩)
  rw [List.drop_zero, h] at key
  refine elimL (fun r => finK _ (seqK (blockK 0 r) _) = _) (key _ ?_ ?_ ?_) ?_
  all_goals try simp only [go_sem, ↓reduceIte, reduceCtorEq, Nat.reduceEqDiff, Int.natCast_zero]
  rintro r ⟨fr', L, rfl, hx⟩
  rw [List.nil_append] at hx
  rcases hx with ⟨rfl, hx⟩ | hx
  · simp +contextual -implicitDefEqProofs (maxSteps := 10000000) only [go_sem, ↓reduceIte, Nat.reduceEqDiff, Nat.reduceAdd, hx]
  · obtain ⟨hn, hx⟩ := hx
    simp +contextual -implicitDefEqProofs (maxSteps := 10000000) only [go_sem, ↓reduceIte, Nat.reduceEqDiff, Nat.reduceAdd, Nat.reduceLT, hx, hn]
theorem p_toksUBad (s : List UInt8) (hl : s.length ≤ 16384) (p : Nat) (l : List Tk) (h : toks s.length 0 s = (some p, l)) (hp : Heap) : CL X GV 8 [.str s] hp = some (.tup [.nilsl, .int .i64 50, .int .i64 (p : Nat)], hp) := by
  have f0 : ((16384 : Int) < (s.length : Int)) = False := by simp; omega
  rw [CL_eq (fn := x8) rfl]
  simp +contextual -implicitDefEqProofs (maxSteps := 10000000) only [x8, go_sem, ↓reduceIte, reduceCtorEq, f0]
  have key := fun fr h0 h6 h5 => l_tokens s hl hp s.length 0 (by omega) (by omega) [] (by simp) fr [] .nilsl h0 h6 h5 (.inl ⟨rfl, rfl⟩)
  rw [List.drop_zero, h] at key
  refine elimL (fun r => finK _ (seqK (blockK 0 r) _) = _) (key _ ?_ ?_ ?_) ?_
  all_goals try simp only [go_sem, ↓reduceIte, reduceCtorEq, Nat.reduceEqDiff, Int.natCast_zero]
  rintro r ⟨fr', L, rfl, h2, h3, h4⟩
  simp +contextual -implicitDefEqProofs (maxSteps := 10000000) only [go_sem, ↓reduceIte, Nat.reduceAdd, h2, h3, h4]
theorem p_toksULong (s : List UInt8) (hl : 16384 < s.length) (hp : Heap) : CL X GV 8 [.str s] hp = some (.tup [.nilsl, .int .i64 2, .int .i64 0], hp) := by
  rw [CL_eq (fn := x8) rfl]
  have f0 : ((16384 : Int) < (s.length : Int)) = True := by simp; omega
  simp +contextual -implicitDefEqProofs (maxSteps := 10000000) only [x8, go_sem, ↓reduceIte, reduceCtorEq, Nat.reduceEqDiff, Nat.reduceAdd, f0]
end Go.Proofs.YtgfeladjpjipeaaDoor.Sx.T
namespace Go.Proofs.YtgfeladjpjipeaaDoor.Sx.T
open Go Go.Proofs.YtgfeladjpjipeaaDoor.Sx
set_option maxRecDepth 100000
set_option maxHeartbeats 8000000
theorem toks_len2 : ∀ (n a : Nat) (r : List UInt8) (o : Option Nat) (l : List Tk), toks n a r = (o, l) → l.length ≤ n := by
  intro n
  induction n with
  | zero => intro a r o l h; rw [toks] at h; cases h; simp
  | succ n ih =>
    intro a r o l h
    cases r with
    | nil => rw [toks_nil] at h; cases h; simp
    | cons c r =>
      cases hk : blk c with
      | true =>
        rw [toks_blk _ _ _ _ hk] at h
        have := ih _ _ _ _ h
        omega
      | false =>
        cases ho : okOf (c :: r) with
        | false => rw [toks_bad _ _ _ _ hk ho] at h; cases h; simp
        | true =>
          rw [toks_ok _ _ _ _ hk ho] at h
          have := ih (a + (kl (c :: r)).2) ((c :: r).drop (kl (c :: r)).2) _ _ rfl
          have h2 := congrArg Prod.snd h
          simp only at h2
          rw [← h2, List.length_cons]
          omega
theorem p_same2 (t : Tk) (hp : Heap) : CL X GV 13 [.agg t.cells, .agg t.cells] hp = some (.bool true, hp) := by
  obtain ⟨k, a, t, vk, vn, vd, vs⟩ := t
  simp only [Tk.cells]
  rw [CL_eq (fn := x13) rfl]
  simp +contextual -implicitDefEqProofs (maxSteps := 10000000) only [x13, go_sem, ↓reduceIte, Nat.reduceEqDiff, Nat.reduceAdd]
theorem p_allNil (hp : Heap) : CL X GV 11 [.nilsl, .nilsl] hp = some (.bool true, hp) := by
  have b0 : ((0 : Int) != 0) = false := rfl
  rw [CL_eq (fn := x11) rfl]
  simp +contextual -implicitDefEqProofs (maxSteps := 10000000) only [x11, go_sem, ↓reduceIte, reduceCtorEq, Nat.reduceEqDiff, b0]
  rw [LC_loop]
  simp +contextual -implicitDefEqProofs (maxSteps := 10000000) only [x11_l0_run, go_sem, ↓reduceIte, reduceCtorEq, Nat.reduceEqDiff, Int.lt_irrefl]
theorem p_allL (l : List Tk) (hl : l.length ≤ 1048576) (hp : Heap) : CL X GV 11 [.lst .none 7 (l.map Tk.cells), .lst .none 7 (l.map Tk.cells)] hp = some (.bool true, hp) := by
  obtain ⟨C, hC⟩ : ∃ C, l.map Tk.cells = C := ⟨_, rfl⟩
  have hCl : C.length = l.length := by rw [← hC, List.length_map]
  have b0 : ((C.length : Int) != (C.length : Int)) = false := by simp
  rw [CL_eq (fn := x11) rfl, hC]
  simp +contextual -implicitDefEqProofs (maxSteps := 10000000) only [x11, go_sem, ↓reduceIte, reduceCtorEq, Nat.reduceEqDiff, b0]
  obtain ⟨I, hI⟩ : ∃ I : Nat → List AV → Heap → Prop, ∀ i fr hp', I i fr hp' ↔ (hp' = [] :: hp ∧ fget fr 0 = .lst .none 7 C ∧ fget fr 1 = .lst .none 7 C ∧ fget fr 5 = .int .i64 (i : Nat)) := ⟨_, fun _ _ _ => Iff.rfl⟩
  obtain ⟨Q, hQ⟩ : ∃ Q : XExit → List AV → Heap → Prop, ∀ e fr hp', Q e fr hp' ↔ (hp' = [] :: hp ∧ e = .exit 0) := ⟨_, fun _ _ _ => Iff.rfl⟩
  refine LC_upK l.length I Q (fun r => finK _ (seqK (blockK 0 r) _) = _) ?_ ?_ ?_ ?_
  · rw [hI]
    refine ⟨rfl, ?_, ?_, ?_⟩ <;> simp only [go_sem, ↓reduceIte, reduceCtorEq, Nat.reduceEqDiff, Int.natCast_zero]
  · intro i hi fr hp' hh
    obtain ⟨rfl, h0, h1, h5⟩ := (hI _ _ _).1 hh
    have k1 : ((i : Int) < (C.length : Int)) = True := by simp; omega
    have k2 : (i < C.length) = True := by simp; omega
    have w1 : wr .i64 ((i : Int) + 1) = ((i + 1 : Nat) : Int) := by rw [wr_i64 _ (by omega)]; omega
    obtain ⟨t, ht⟩ : ∃ t, l[i] = t := ⟨_, rfl⟩
    have hg : C.getD i [] = t.cells := by rw [← hC, ← ht]; simp [List.getD, hi]
    have hs := p_same2 t
    obtain ⟨tk, ta, tt, vk, vn, vd, vs⟩ := t
    simp only [Tk.cells] at hg hs
    simp +contextual -implicitDefEqProofs (maxSteps := 10000000) only [x11_l0_run, go_sem, ↓reduceIte, reduceCtorEq, Nat.reduceEqDiff, Nat.reduceAdd, h0, h1, h5, k1, k2, w1, hg, hs]
    rw [hI]
    refine ⟨rfl, ?_, ?_, ?_⟩ <;> simp only [go_sem, ↓reduceIte, reduceCtorEq, Nat.reduceEqDiff, h0, h1]
  · intro fr hp' hh
    obtain ⟨rfl, h0, h1, h5⟩ := (hI _ _ _).1 hh
    have k1 : ((l.length : Int) < (C.length : Int)) = False := by simp; omega
    simp +contextual -implicitDefEqProofs (maxSteps := 10000000) only [x11_l0_run, go_sem, ↓reduceIte, reduceCtorEq, Nat.reduceEqDiff, h0, h5, k1]
    rw [hQ]
    exact ⟨rfl, rfl⟩
  · intro e' fr hp' he hh
    obtain ⟨rfl, rfl⟩ := (hQ _ _ _).1 hh
    simp +contextual -implicitDefEqProofs (maxSteps := 10000000) only [go_sem, ↓reduceIte]
theorem flat7 : ∀ (l : List Tk) (i : Nat) (h : i < l.length), ((l.map Tk.cells).flatten).drop (i * 7) = (l[i]).cells ++ ((l.map Tk.cells).flatten).drop (i * 7 + 7)
  | [], i, h => by simp at h
  | t :: l, 0, _ => by
    simp only [List.map_cons, List.flatten_cons, Nat.zero_mul, List.drop_zero, List.getElem_cons_zero, Nat.zero_add]
    rfl
  | t :: l, i + 1, h => by
    have ih := flat7 l i (by simpa using h)
    have e : (i + 1) * 7 = 7 + i * 7 := by omega
    have hd : ∀ k, ((t :: l).map Tk.cells).flatten.drop (7 + k) = (l.map Tk.cells).flatten.drop k := by
      intro k
      rw [List.map_cons, List.flatten_cons, ← List.drop_drop]
      rfl
    rw [e, hd, Nat.add_assoc, hd]
    exact ih
theorem flat7_len : ∀ l : List Tk, ((l.map Tk.cells).flatten).length = l.length * 7
  | [] => rfl
  | t :: l => by
    rw [List.map_cons, List.flatten_cons, List.length_append, flat7_len l, List.length_cons]
    have : t.cells.length = 7 := rfl
    omega
theorem p_allB (l : List Tk) (hl : l.length ≤ 1048576) (r : Ref) (hp : Heap) (hc : cellsAt hp r = some (l.map Tk.cells).flatten) :
    CL X GV 11 [.sl r 7 0 l.length, .lst .none 7 (l.map Tk.cells)] hp = some (.bool true, hp) := by
  have hne := cellsAt_ne hc
  obtain ⟨C, hC⟩ : ∃ C, l.map Tk.cells = C := ⟨_, rfl⟩
  have hCl : C.length = l.length := by rw [← hC, List.length_map]
  have b0 : ((l.length : Int) != (C.length : Int)) = false := by rw [hCl]; simp
  rw [CL_eq (fn := x11) rfl, hC]
  simp +contextual -implicitDefEqProofs (maxSteps := 10000000) only [x11, go_sem, ↓reduceIte, reduceCtorEq, Nat.reduceEqDiff, uf_sl, lensK_sl, b0]
  obtain ⟨I, hI⟩ : ∃ I : Nat → List AV → Heap → Prop, ∀ i fr hp', I i fr hp' ↔ (hp' = [] :: hp ∧ fget fr 0 = .sl r 7 0 l.length ∧ fget fr 1 = .lst .none 7 C ∧ fget fr 5 = .int .i64 (i : Nat)) := ⟨_, fun _ _ _ => Iff.rfl⟩
  obtain ⟨Q, hQ⟩ : ∃ Q : XExit → List AV → Heap → Prop, ∀ e fr hp', Q e fr hp' ↔ (hp' = [] :: hp ∧ e = .exit 0) := ⟨_, fun _ _ _ => Iff.rfl⟩
  refine LC_upK l.length I Q (fun r => finK _ (seqK (blockK 0 r) _) = _) ?_ ?_ ?_ ?_
  · rw [hI]
    refine ⟨rfl, ?_, ?_, ?_⟩ <;> simp only [go_sem, ↓reduceIte, reduceCtorEq, Nat.reduceEqDiff, Int.natCast_zero]
  · intro i hi fr hp' hh
    obtain ⟨rfl, h0, h1, h5⟩ := (hI _ _ _).1 hh
    have k1 : ((i : Int) < (l.length : Int)) = True := by simp; omega
    have k2 : (i < C.length) = True := by simp; omega
    have k3 : (i < l.length) = True := by simp; omega
    have w1 : wr .i64 ((i : Int) + 1) = ((i + 1 : Nat) : Int) := by rw [wr_i64 _ (by omega)]; omega
    have hf := flat7 l i hi
    obtain ⟨t, ht⟩ : ∃ t, l[i] = t := ⟨_, rfl⟩
    have hg : C.getD i [] = t.cells := by rw [← hC, ← ht]; simp [List.getD, hi]
    rw [ht] at hf
    rw [hC] at hf hc
    have hs := p_same2 t
    obtain ⟨tk, ta, tt, vk, vn, vd, vs⟩ := t
    simp only [Tk.cells, List.cons_append, List.nil_append] at hg hs hf
    simp +contextual -implicitDefEqProofs (maxSteps := 10000000) only [x11_l0_run, go_sem, ↓reduceIte, reduceCtorEq, Nat.reduceEqDiff, Nat.reduceAdd, Nat.reduceLeDiff, h0, h1, h5, k1, k2, k3, w1, hg, hs, uf_sl, lensK_sl, iaddrK_sl, ldAt_cons, hne, hc, hf]
    rw [hI]
    refine ⟨rfl, ?_, ?_, ?_⟩ <;> simp only [go_sem, ↓reduceIte, reduceCtorEq, Nat.reduceEqDiff, h0, h1]
  · intro fr hp' hh
    obtain ⟨rfl, h0, h1, h5⟩ := (hI _ _ _).1 hh
    simp +contextual -implicitDefEqProofs (maxSteps := 10000000) only [x11_l0_run, go_sem, ↓reduceIte, reduceCtorEq, Nat.reduceEqDiff, h0, h5, Int.lt_irrefl, uf_sl, lensK_sl]
    rw [hQ]
    exact ⟨rfl, rfl⟩
  · intro e' fr hp' he hh
    obtain ⟨rfl, rfl⟩ := (hQ _ _ _).1 hh
    simp +contextual -implicitDefEqProofs (maxSteps := 10000000) only [go_sem, ↓reduceIte]
theorem bare_tk : ∀ l : List Tk, ((l.map Tk.cells).all fun e => e.all bareV) = true
  | [] => rfl
  | t :: l => by rw [List.map_cons, List.all_cons, bare_tk l]; rfl
theorem splice_lenU : ∀ (l : List AV) (i : Nat) (vs : List AV), (splice l i vs).length = l.length
  | l, i, [] => by rw [splice_nil]
  | [], i, v :: vs => by cases i <;> rfl
  | x :: l, 0, v :: vs => by rw [splice_zero, List.length_cons, List.length_cons, splice_lenU l 0 vs]
  | x :: l, i + 1, v :: vs => by rw [splice_succ, List.length_cons, List.length_cons, splice_lenU l i (v :: vs)]
theorem v_LexTokens (s : List UInt8) (hs : s.length ≤ 9223372036854775807) (hp : Heap) : CL X GV 4 [.str s] hp = some (.bool true, hp) := by
  have hlive := liveTold
  have hnil := p_allNil
  have k0 : ((0 : Int) < ((0 : Nat) : Int)) = False := by simp
  -- an answer without tokens
  have bare : ∀ (e p : Int), (∀ hp, CL X GV 8 [.str s] hp = some (.tup [.nilsl, .int .i64 e, .int .i64 p], hp)) → (∀ hp, CL X GV 10 [.str s] hp = some (.tup [.nilsl, .int .i64 e, .int .i64 p], hp)) →
      CL X GV 4 [.str s] hp = some (.bool true, hp) := by
    intro e p h1 h2
    rw [CL_eq (fn := x4) rfl]
    simp +contextual -implicitDefEqProofs (maxSteps := 10000000) only [x4, go_sem, ↓reduceIte, reduceCtorEq, Nat.reduceEqDiff, h1, h2, o_extm, extmK_tup, o_thw, thwK_nil, o_callw, hnil, cwK_same]
    rw [LC_loop]
    simp +contextual -implicitDefEqProofs (maxSteps := 10000000) only [x4_l0_run, go_sem, ↓reduceIte, reduceCtorEq, Nat.reduceEqDiff, Int.reduceNeg, h1, Int.lt_irrefl, o_extm, extmK_tup, o_ownd, owndK_nil, hnil, hlive]
  by_cases hl : s.length ≤ 16384
  · cases ht : toks s.length 0 s with
    | mk o l =>
      cases o with
      | some p => exact bare 50 (p : Nat) (p_toksUBad s hl p l ht) (p_rtoksBad s hl p l ht)
      | none =>
        have h1 := p_toksU s hl l ht
        have h2 := p_rtoksOk s hl l ht
        by_cases hn : l = []
        · rw [if_pos hn] at h2
          simp only [if_pos hn] at h1
          exact bare 0 0 h1 h2
        · rw [if_neg hn] at h2
          simp only [if_neg hn] at h1
          have hlen : l.length ≤ s.length := toks_len2 s.length 0 s none l ht
          have hbare := bare_tk l
          have hall := p_allL l (by omega)
          have hfl := flat7_len l
          have hlc : ∀ C, lcells (lputc [] 3 0 C) 3 0 = some C := fun C => by rw [lcells_put]; simp
          have hput : ∀ C D, lputc (lputc [] 3 0 C) 3 0 D = lputc [] 3 0 D := fun C D => by unfold lputc; rw [lput_lput]
          have hB := p_allB l (by omega) ⟨hp.length, 3, 0⟩ (lputc [] 3 0 (l.map Tk.cells).flatten :: hp) (by rw [cellsAt_top, hlc])
          obtain ⟨C, hC⟩ : ∃ C, l.map Tk.cells = C := ⟨_, rfl⟩
          have hCl : C.length = l.length := by rw [← hC, List.length_map]
          rw [hC] at h2 hbare hfl hB
          simp only [hC] at h1 hall
          have hnv : nextVer [] 3 = 0 := rfl
          rw [CL_eq (fn := x4) rfl]
          simp +contextual -implicitDefEqProofs (maxSteps := 10000000) only [x4, go_sem, ↓reduceIte, reduceCtorEq, Nat.reduceEqDiff, Nat.reduceLeDiff, Nat.reduceLT, Nat.reduceSub, h1, h2, o_extm, extmK_held, o_thw, thwK_uniq, hbare, hCl, hnv, uf_sl, o_callw, hB, cwK_same]
          obtain ⟨I, hI⟩ : ∃ I : Nat → List AV → Heap → Prop, ∀ i fr hp', I i fr hp' ↔ ((∃ D, hp' = lputc [] 3 0 D :: hp ∧ D.length = l.length * 7) ∧ fget fr 0 = .str s ∧ fget fr 3 = .sl ⟨hp.length, 3, 0⟩ 7 0 l.length ∧ fget fr 6 = .lst .none 7 C ∧ fget fr 7 = .int .i64 0 ∧ fget fr 9 = .bool true ∧ fget fr 10 = .int .i64 (i : Nat)) := ⟨_, fun _ _ _ => Iff.rfl⟩
          obtain ⟨Q, hQ⟩ : ∃ Q : XExit → List AV → Heap → Prop, ∀ e fr hp', Q e fr hp' ↔ (e = .exit 0 ∧ (∃ D, hp' = lputc [] 3 0 D :: hp) ∧ fget fr 0 = .str s ∧ fget fr 6 = .lst .none 7 C ∧ fget fr 7 = .int .i64 0 ∧ fget fr 9 = .bool true) := ⟨_, fun _ _ _ => Iff.rfl⟩
          refine LC_upK l.length I Q (fun r => finK _ (seqK (blockK 0 r) _) = _) ?_ ?_ ?_ ?_
          · rw [hI]
            refine ⟨⟨_, rfl, hfl⟩, ?_, ?_, ?_, ?_, ?_, ?_⟩ <;> simp only [go_sem, ↓reduceIte, reduceCtorEq, Nat.reduceEqDiff, Int.natCast_zero]
          · intro i hi fr hp' hh
            obtain ⟨⟨D, rfl, hD⟩, h0, h3, h6, h7, h9, h10⟩ := (hI _ _ _).1 hh
            have k1 : ((i : Int) < (l.length : Int)) = True := by simp; omega
            have k2 : (i < l.length) = True := by simp; omega
            have w1 : wr .i64 ((i : Int) + 1) = ((i + 1 : Nat) : Int) := by rw [wr_i64 _ (by omega)]; omega
            have k3 : (i * 7 + 7 ≤ D.length) = True := by simp; omega
            simp +contextual -implicitDefEqProofs (maxSteps := 10000000) only [x4_l0_run, go_sem, ↓reduceIte, Nat.reduceEqDiff, Nat.reduceAdd, Nat.reduceLeDiff, Int.reduceNeg, h3, h10, k1, k2, k3, w1, uf_sl, lensK_sl, iaddrK_sl, stAt_topc, hlc, hput]
            rw [hI]
            refine ⟨⟨_, rfl, by rw [splice_lenU, hD]⟩, ?_, ?_, ?_, ?_, ?_, ?_⟩ <;> simp only [go_sem, ↓reduceIte, reduceCtorEq, Nat.reduceEqDiff, Int.reduceNeg, h0, h3, h6, h7, h9]
          · intro fr hp' hh
            obtain ⟨⟨D, rfl, hD⟩, h0, h3, h6, h7, h9, h10⟩ := (hI _ _ _).1 hh
            simp +contextual -implicitDefEqProofs (maxSteps := 10000000) only [x4_l0_run, go_sem, ↓reduceIte, Nat.reduceEqDiff, Int.reduceNeg, h3, h10, Int.lt_irrefl, uf_sl, lensK_sl]
            rw [hQ]
            refine ⟨rfl, ⟨D, rfl⟩, ?_, ?_, ?_, ?_⟩ <;> simp only [go_sem, ↓reduceIte, reduceCtorEq, Nat.reduceEqDiff, h0, h6, h7, h9]
          · intro e fr hp' he hh
            obtain ⟨rfl, ⟨D, rfl⟩, h0, h6, h7, h9⟩ := (hQ _ _ _).1 hh
            simp +contextual -implicitDefEqProofs (maxSteps := 10000000) only [go_sem, ↓reduceIte, Nat.reduceEqDiff, Nat.reduceLeDiff, Nat.reduceLT, Nat.reduceSub, h0, h6, h7, h9, h1, o_extm, extmK_held, o_ownd, owndK_uniq, hall, hlive]
  · exact bare 2 0 (p_toksULong s (by omega)) (p_rtoksLong s (by omega))
end Go.Proofs.YtgfeladjpjipeaaDoor.Sx.T
