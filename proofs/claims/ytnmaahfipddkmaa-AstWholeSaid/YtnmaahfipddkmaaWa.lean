/- Layer 1, part 1: what the functions of whole numbers answer. -/
import Derived.Test.YtnmaahfipddkmaaEvB
import Derived.Test.YtnmaahfipddkmaaEvR
import Derived.Test.YtnmaahfipddkmaaEvP
import Derived.Test.YtnmaahfipddkmaaEvS
import Derived.Test.YtnmaahfipddkmaaSxRun
import Derived.Test.YtnmaahfipddkmaaTold
set_option linter.unusedVariables false
set_option linter.unusedSimpArgs false
namespace Go.Proofs.Ytnmaahfipddkmaa.Sx.T
open Go Go.Proofs.Ytnmaahfipddkmaa.Sx
set_option maxRecDepth 100000
set_option maxHeartbeats 4000000
theorem r27 (n : Int) (h : -9223372036854775808 ≤ n ∧ n < 9223372036854775808) (hp : Heap) : CL X (fun _ => []) 101 [.int .i64 n] hp = some (.int .u64 (n.natAbs : Int), hp) := by
  rw [CL_eq (fn := x101) rfl]
  simp +contextual -implicitDefEqProofs (maxSteps := 10000000) only [x101, go_sem, ↓reduceIte, reduceCtorEq]
  split <;> simp only [Option.some.injEq, Prod.mk.injEq, AV.int.injEq, true_and, and_true] <;> simp only [u64] <;> omega
theorem l26 (a : Nat) : ∀ (b : Nat) (fr : List AV) (hp : Heap), fget fr 0 = .int .u64 a → fget fr 1 = .int .u64 b →
    ∃ fr', LC X (fun _ => []) (.loop x100_l0) ⟨fr, hp⟩ = some (.exit 0, ⟨fr', hp⟩) ∧ fget fr' 0 = .int .u64 (Nat.gcd a b : Nat) := by
  intro b
  induction b using Nat.strongRecOn generalizing a with
  | ind b ih =>
    intro fr hp h0 h1
    rw [LC_loop]
    by_cases hb : b = 0
    · subst hb
      simp +contextual -implicitDefEqProofs (maxSteps := 10000000) only [x100_l0_run, go_sem, ↓reduceIte, h1]
      exact ⟨_, rfl, by simp only [go_sem, ↓reduceIte, reduceCtorEq, h0]; simp⟩
    · simp +contextual -implicitDefEqProofs (maxSteps := 10000000) only [x100_l0_run, go_sem, ↓reduceIte, reduceCtorEq, Nat.reduceEqDiff, h0, h1, hb]
      rw [show Nat.gcd a b = Nat.gcd b (a % b) by rw [Nat.gcd_comm b, ← Nat.gcd_rec, Nat.gcd_comm]]
      refine ih (a % b) (Nat.mod_lt _ (Nat.pos_of_ne_zero hb)) b _ hp ?_ ?_ <;> simp only [go_sem, ↓reduceIte, reduceCtorEq]
theorem r26 (a b : Nat) (hp : Heap) : CL X (fun _ => []) 100 [.int .u64 a, .int .u64 b] hp = some (.int .u64 (Nat.gcd a b : Nat), hp) := by
  rw [CL_eq (fn := x100) rfl]
  simp +contextual -implicitDefEqProofs (maxSteps := 10000000) only [x100, go_sem, ↓reduceIte]
  obtain ⟨fr', h, h0⟩ := l26 a b (fput [.int .u64 a, .int .u64 b] 4 (.int .u64 0)) ([] :: hp) (by simp only [go_sem, ↓reduceIte, reduceCtorEq]) (by simp only [go_sem, ↓reduceIte, Nat.reduceEqDiff])
  simp +contextual -implicitDefEqProofs (maxSteps := 10000000) only [h, h0, go_sem, ↓reduceIte]
def rt (x : Int × Int × Int) : AV := .tup [.agg [.int .i64 x.1, .int .i64 x.2.1], .int .i64 x.2.2]
def mk (below : Bool) (n d : Nat) : Int × Int × Int :=
  let p := n / Nat.gcd n d
  let q := d / Nat.gcd n d
  if 9223372036854775808 ≤ q ∨ 9223372036854775808 < p ∨ p = 9223372036854775808 ∧ below = false then (0, 0, 10)
  else if below then (-p, q, 0) else (p, q, 0)
def I64 (n : Int) : Prop := -9223372036854775808 ≤ n ∧ n < 9223372036854775808
def frc (t : Int) (d : Nat) : Int × Int × Int := mk (decide (t < 0)) t.natAbs d
def ofR (n d : Int) : Int × Int × Int := if d = 0 then (0, 0, 11) else frc (n * d.sign) d.natAbs
def mayR (n d : Int) : Bool := decide (0 < d ∧ Nat.gcd n.natAbs d.natAbs = 1)
theorem rt_eq (x : Int × Int × Int) : rt x = .tup [.agg [.int .i64 x.1, .int .i64 x.2.1], .int .i64 x.2.2] := rfl
theorem ofR_mk (n d : Int) (h0 : ¬ d = 0) : mk (if ¬n = 0 then !decide (n < 0) == decide (d < 0) else false) n.natAbs d.natAbs = ofR n d := by
  unfold ofR frc
  rw [if_neg h0, Int.natAbs_mul, Int.natAbs_sign_of_ne_zero h0, Nat.mul_one]
  congr 1
  rcases Int.lt_trichotomy d 0 with h | h | h
  · rw [Int.sign_eq_neg_one_of_neg h]
    by_cases h1 : n = 0
    · subst h1; rfl
    · by_cases h2 : n < 0 <;> simp [h1, h2, h] <;> omega
  · omega
  · rw [Int.sign_eq_one_of_pos h]
    by_cases h1 : n = 0
    · subst h1; rfl
    · by_cases h2 : n < 0 <;> simp [h1, h2, show ¬ d < 0 by omega]
theorem may_eq (n d : Int) (hn : I64 n) (hd : I64 d) (h : 0 < d) : (decide ((ofR n d).2.2 = 0) && ((ofR n d).1 == n && (ofR n d).2.1 == d)) = mayR n d := by
  unfold ofR mayR frc mk
  unfold I64 at *
  rw [if_neg (by omega), Int.sign_eq_one_of_pos h, Int.mul_one]
  have hg : 0 < Nat.gcd n.natAbs d.natAbs := Nat.gcd_pos_of_pos_right _ (by omega)
  by_cases h1 : Nat.gcd n.natAbs d.natAbs = 1
  · simp only [h1, Nat.div_one, and_true]
    rw [if_neg (by simp only [decide_eq_false_iff_not]; omega)]
    by_cases h2 : n < 0
    · simp [h2, h]
      omega
    · simp [h2, h]
      omega
  · have h3 : d.natAbs / Nat.gcd n.natAbs d.natAbs < d.natAbs := Nat.div_lt_self (by omega) (by omega)
    generalize d.natAbs / Nat.gcd n.natAbs d.natAbs = q at *
    generalize n.natAbs / Nat.gcd n.natAbs d.natAbs = p at *
    simp only [h1, and_false, decide_false]
    split
    · rfl
    · have : ((q : Int) == d) = false := by simp; omega
      split <;> simp [this]
theorem r10 (n d : Int) (hn : I64 n) (hd : I64 d) (hp : Heap) : CL X (fun _ => []) 92 [.int .i64 n, .int .i64 d] hp = some (rt (ofR n d), hp) := by
  rw [CL_eq (fn := x92) rfl]
  have a1 := r27 n hn
  have a2 := r27 d hd
  by_cases h0 : d = 0
  · subst h0
    simp +contextual -implicitDefEqProofs (maxSteps := 10000000) only [x92, go_sem, ↓reduceIte, Nat.reduceEqDiff, Nat.reduceAdd]
    rfl
  · have hg : Nat.gcd n.natAbs d.natAbs ≠ 0 := Nat.ne_of_gt (Nat.gcd_pos_of_pos_right _ (by omega))
    rw [← ofR_mk n d h0]
    obtain ⟨P, hP⟩ : ∃ P, n.natAbs / Nat.gcd n.natAbs d.natAbs = P := ⟨_, rfl⟩
    obtain ⟨Q, hQ⟩ : ∃ Q, d.natAbs / Nat.gcd n.natAbs d.natAbs = Q := ⟨_, rfl⟩
    have lP : P ≤ 9223372036854775808 := by rw [← hP]; exact Nat.le_trans (Nat.div_le_self _ _) (by unfold I64 at hn; omega)
    have lQ : Q ≤ 9223372036854775808 := by rw [← hQ]; exact Nat.le_trans (Nat.div_le_self _ _) (by unfold I64 at hd; omega)
    have mP : P % 18446744073709551616 = P := by omega
    have mQ : Q % 18446744073709551616 = Q := by omega
    unfold mk
    generalize hb : (if ¬n = 0 then !decide (n < 0) == decide (d < 0) else false) = b
    rw [bite_f] at hb
    simp only [decide_not] at hb
    have t0 : ((9223372036854775808 : Int) < (P : Int)) = False := by simp; omega
    have t0' : ¬ 9223372036854775808 < P := by omega
    by_cases h1 : 9223372036854775808 ≤ Q
    · have t1 : ((9223372036854775807 : Int) < (Q : Int)) = True := by simp; omega
      simp +contextual -implicitDefEqProofs (maxSteps := 10000000) only [x92, go_sem, ↓reduceIte, reduceCtorEq, Nat.reduceEqDiff, Nat.reduceAdd, Int.reduceBNe, a1, a2, r26, h0, hg, hP, hQ, mP, mQ, t1, h1, true_or, hb]
      rfl
    · have t1 : ((9223372036854775807 : Int) < (Q : Int)) = False := by simp; omega
      have e2 : wr .i64 (Q : Int) = (Q : Int) := wr_i64 _ (by omega)
      have e3 := neg_back P (by omega)
      by_cases h2 : P = 9223372036854775808
      · have t2 : ((P : Int) = (9223372036854775808 : Int)) = True := by simp; omega
        have t2' : (P = 9223372036854775808) = True := by simp [h2]
        simp +contextual -implicitDefEqProofs (maxSteps := 10000000) only [x92, go_sem, ↓reduceIte, reduceCtorEq, Nat.reduceEqDiff, Nat.reduceAdd, Nat.reduceLeDiff, Int.reduceBNe, a1, a2, r26, h0, hg, hP, hQ, mP, mQ, t0, t0', t1, t2, t2', h1, false_or, hb, e2, e3]
        cases b <;> simp_all [rt]
      · have t2 : ((P : Int) = (9223372036854775808 : Int)) = False := by simp; omega
        have e4 : wr .i64 (P : Int) = (P : Int) := wr_i64 _ (by omega)
        simp +contextual -implicitDefEqProofs (maxSteps := 10000000) only [x92, go_sem, ↓reduceIte, reduceCtorEq, Nat.reduceEqDiff, Nat.reduceAdd, Nat.reduceLeDiff, Int.reduceBNe, a1, a2, r26, h0, hg, hP, hQ, mP, mQ, t0, t0', t1, t2, h1, h2, false_or, false_and, hb, e2, e3, e4]
        cases b <;> simp_all [rt]
def wd (a b : Nat) (m : Bool) : AV := .agg [.int .u64 a, .int .u64 b, .bool m]
theorem nn (x : Nat) : (0 ≤ (x : Int)) = True := by simp
def W (n : Nat) (m : Bool) : AV := .agg [.int .u64 (n / 18446744073709551616 : Nat), .int .u64 (n % 18446744073709551616 : Nat), .bool m]
def sv (m : Bool) (n : Nat) : Int := if m = true then -(n : Int) else n
def vA (k n d : Int) (s : List UInt8) : AV := .agg [.int .i64 k, .int .i64 n, .int .i64 d, .str s]
def chk (k n d : Int) (s : List UInt8) : Int :=
  if k = 1 then (if d = 0 ∧ s = [] then 0 else 20) else if k = 2 then (if s = [] ∧ mayR n d = true then 0 else 20) else if k = 3 then (if n = 0 ∧ d = 0 then (if s.length ≤ 64 then 0 else 2) else 20) else 20
theorem v_frac (k n d : Int) (s : List UInt8) (hp : Heap) : CL X (fun _ => []) 93 [vA k n d s] hp = some (.agg [.int .i64 n, .int .i64 d], hp) := by
  rw [CL_eq (fn := x93) rfl]
  simp +contextual -implicitDefEqProofs (maxSteps := 10000000) only [x93, vA, go_sem, ↓reduceIte, Nat.reduceEqDiff, Nat.reduceAdd, Nat.reduceLeDiff]
theorem may_eq' (n d : Int) (hn : I64 n) (hd : I64 d) : ((ofR n d).2.2 = 0 ∧ (ofR n d).1 = n ∧ (ofR n d).2.1 = d) ↔ mayR n d = true := by
  by_cases h : 0 < d
  · have := may_eq n d hn hd h
    rw [← this]
    simp
  · have hm : mayR n d = false := by simp [mayR, h]
    rw [hm]
    constructor
    · rintro ⟨h1, _, h3⟩
      exfalso
      unfold ofR at h1 h3
      by_cases h0 : d = 0
      · rw [if_pos h0] at h1; simp at h1
      · rw [if_neg h0] at h3 h1
        unfold frc mk at h3 h1
        generalize d.natAbs / Nat.gcd (n * d.sign).natAbs d.natAbs = q at h3 h1
        generalize (n * d.sign).natAbs / Nat.gcd (n * d.sign).natAbs d.natAbs = p at h3 h1
        simp only at h3 h1
        split at h3
        · rename_i hc; rw [if_pos hc] at h1; simp at h1
        · split at h3 <;> simp at h3 <;> omega
    · intro h; cases h
theorem v_check (k n d : Int) (s : List UInt8) (hn : I64 n) (hd : I64 d) (hp : Heap) : CL X (fun _ => []) 80 [vA k n d s] hp = some (.int .i64 (chk k n d s), hp) := by
  have h1 := r10 n d hn hd
  have h2 := fun s => v_frac 2 n d s
  have h3 := may_eq' n d hn hd
  simp only [rt_eq, vA] at h1 h2
  rw [CL_eq (fn := x80) rfl]
  by_cases k1 : k = 1
  · subst k1
    simp +contextual -implicitDefEqProofs (maxSteps := 10000000) only [x80, vA, chk, go_sem, ↓reduceIte, Nat.reduceEqDiff, Nat.reduceAdd, Int.reduceBEq, Int.reduceBNe, h1]
    by_cases hd0 : d = 0 <;> by_cases hs : s = [] <;> simp [hd0, hs]
  · by_cases k2 : k = 2
    · subst k2
      simp +contextual -implicitDefEqProofs (maxSteps := 10000000) only [x80, vA, chk, go_sem, ↓reduceIte, Nat.reduceEqDiff, Nat.reduceAdd, Int.reduceEq, Int.reduceBEq, Int.reduceBNe, h1, h2]
      by_cases hs : s = []
      · subst hs
        by_cases hm : mayR n d = true
        · obtain ⟨e1, e2, e3⟩ := h3.2 hm
          simp [e1, e2, e3, hm]
        · have hx : ¬ ((ofR n d).2.2 = 0 ∧ (ofR n d).1 = n ∧ (ofR n d).2.1 = d) := fun e => hm (h3.1 e)
          by_cases e1 : (ofR n d).2.2 = 0 <;> by_cases e2 : (ofR n d).1 = n <;> by_cases e3 : (ofR n d).2.1 = d <;> simp_all
      · simp [hs]
    · simp +contextual -implicitDefEqProofs (maxSteps := 10000000) only [x80, vA, chk, go_sem, ↓reduceIte, Nat.reduceEqDiff, Nat.reduceAdd, Int.reduceBEq, Int.reduceBNe, h1, k1, k2]
      by_cases k3 : k = 3 <;> by_cases hn0 : n = 0 <;> by_cases hd0 : d = 0 <;> by_cases hl : s.length ≤ 64 <;> simp [k3, hn0, hd0, hl] <;> omega
set_option maxHeartbeats 8000000
def chA (n : Nat) : Prop := 97 ≤ n ∧ n ≤ 122
def chB (n : Nat) : Prop := n = 95 ∨ (48 ≤ n ∧ n ≤ 57)
def restOk (s : List UInt8) (i : Nat) : Prop := ∀ j, i ≤ j → j < s.length → chA (s.getD j 0).toNat ∨ (j ≠ 0 ∧ chB (s.getD j 0).toNat)
theorem rest_end (s : List UInt8) (i : Nat) (h : s.length ≤ i) : restOk s i := fun j h1 h2 => by omega
theorem rest_step (s : List UInt8) (i : Nat) (h : i < s.length) (hc : chA (s.getD i 0).toNat ∨ (i ≠ 0 ∧ chB (s.getD i 0).toNat)) : restOk s i ↔ restOk s (i + 1) := by
  constructor
  · exact fun H j h1 h2 => H j (by omega) h2
  · intro H j h1 h2
    by_cases e : j = i
    · subst e; exact hc
    · exact H j (by omega) h2
theorem rest_bad (s : List UInt8) (i : Nat) (h : i < s.length) (hc : ¬ (chA (s.getD i 0).toNat ∨ (i ≠ 0 ∧ chB (s.getD i 0).toNat))) : ¬ restOk s i := fun H => hc (H i (Nat.le_refl _) h)
def ON (b : Prop) (h : Heap) (r : Option (XExit × St)) : Prop :=
  (b ∧ ∃ fr' L, r = some (.exit 0, ⟨fr', L :: h⟩)) ∨ (¬ b ∧ ∃ fr' L, r = some (.ret, ⟨fr', L :: h⟩) ∧ fget fr' 2 = .bool false)
theorem l_name (s : List UInt8) (hl : s.length < 9223372036854775807) (l : Level) (h : Heap) (v : Nat) : ∀ (m i : Nat) (_ : i + m = s.length) (fr : List AV), fget fr 18 = .ptr ⟨h.length, 18, v⟩ 0 →
    ON (restOk s i) h (LC X (fun _ => []) (.loop x10_l0) ⟨fr, lputi l 18 v s i :: h⟩) := by
  intro m
  induction m with
  | zero =>
    intro i hi fr h18
    rw [LC_loop]
    have hc : (i < s.length) = False := by simp; omega
    simp +contextual -implicitDefEqProofs (maxSteps := 10000000) only [x10_l0_run, go_sem, ↓reduceIte, h18, hc, o_nexts]
    exact .inl ⟨rest_end s i (by omega), _, _, rfl⟩
  | succ m ih =>
    intro i hi fr h18
    rw [LC_loop]
    have ki : i < s.length := by omega
    have hc : (i < s.length) = True := by simp; omega
    have hlo := dec_low s i ki
    have hhi := dec_high s i ki
    have hst := rest_step s i ki
    have hbd := rest_bad s i ki
    obtain ⟨c, hcc⟩ : ∃ c, (s.getD i 0).toNat = c := ⟨_, rfl⟩
    rw [hcc] at hlo hhi hst hbd
    obtain ⟨r, w, hd⟩ : ∃ r w, decodeAt s i = (r, w) := ⟨_, _, rfl⟩
    rw [hd] at hlo hhi
    simp only [Prod.mk.injEq] at hlo hhi
    have go : chA c ∨ (i ≠ 0 ∧ chB c) → w = 1 → ∀ fr', fget fr' 18 = .ptr ⟨h.length, 18, v⟩ 0 → ON (restOk s i) h (LC X (fun _ => []) (.loop x10_l0) ⟨fr', lputi l 18 v s (i + w) :: h⟩) := by
      intro hok hw fr' g18
      have := ih (i + 1) (by omega) fr' g18
      rw [hw]
      unfold ON at this ⊢
      rw [hst hok]
      exact this
    by_cases a1 : 97 ≤ r
    · have e1 : ((97 : Int) ≤ (r : Int)) = True := by simp; omega
      by_cases a2 : r ≤ 122
      · have e2 : ((r : Int) ≤ 122) = True := by simp; omega
        have hx := hlo (by omega)
        simp +contextual -implicitDefEqProofs (maxSteps := 10000000) only [x10_l0_run, go_sem, ↓reduceIte, Nat.reduceEqDiff, h18, hc, hd, o_nexts, e1, e2]
        refine go (.inl ⟨by omega, by omega⟩) hx.2 _ ?_
        simp only [go_sem, ↓reduceIte, Nat.reduceEqDiff, h18]
      · have e2 : ((r : Int) ≤ 122) = False := by simp; omega
        have hno : ¬ (chA c ∨ (i ≠ 0 ∧ chB c)) := by unfold chA chB; omega
        have e3 : ((r : Int) = 95) = False := by simp; omega
        have e4 : ((r : Int) < 48) = False := by simp; omega
        have e5 : ((57 : Int) < (r : Int)) = True := by simp; omega
        by_cases i0 : i = 0
        · have z0 : (i = 0) = True := by simp [i0]
          simp +contextual -implicitDefEqProofs (maxSteps := 10000000) only [x10_l0_run, go_sem, ↓reduceIte, Nat.reduceEqDiff, h18, hc, hd, o_nexts, e1, e2, z0]
          exact .inr ⟨hbd hno, _, _, rfl, by simp only [go_sem, ↓reduceIte]⟩
        · simp +contextual -implicitDefEqProofs (maxSteps := 10000000) only [x10_l0_run, go_sem, ↓reduceIte, Nat.reduceEqDiff, h18, hc, hd, o_nexts, e1, e2, i0, e3, e4, e5]
          exact .inr ⟨hbd hno, _, _, rfl, by simp only [go_sem, ↓reduceIte]⟩
    · have e1 : ((97 : Int) ≤ (r : Int)) = False := by simp; omega
      have hx := hlo (by omega)
      by_cases i0 : i = 0
      · have hno : ¬ (chA c ∨ (i ≠ 0 ∧ chB c)) := by unfold chA chB; omega
        have z0 : (i = 0) = True := by simp [i0]
        simp +contextual -implicitDefEqProofs (maxSteps := 10000000) only [x10_l0_run, go_sem, ↓reduceIte, Nat.reduceEqDiff, h18, hc, hd, o_nexts, e1, z0]
        exact .inr ⟨hbd hno, _, _, rfl, by simp only [go_sem, ↓reduceIte]⟩
      by_cases b1 : r = 95
      · have e3 : ((r : Int) = 95) = True := by simp; omega
        simp +contextual -implicitDefEqProofs (maxSteps := 10000000) only [x10_l0_run, go_sem, ↓reduceIte, Nat.reduceEqDiff, h18, hc, hd, o_nexts, e1, i0, e3]
        refine go (.inr ⟨i0, .inl (by omega)⟩) hx.2 _ ?_
        simp only [go_sem, ↓reduceIte, Nat.reduceEqDiff, h18]
      have e3 : ((r : Int) = 95) = False := by simp; omega
      by_cases b2 : r < 48
      · have e4 : ((r : Int) < 48) = True := by simp; omega
        have hno : ¬ (chA c ∨ (i ≠ 0 ∧ chB c)) := by unfold chA chB; omega
        simp +contextual -implicitDefEqProofs (maxSteps := 10000000) only [x10_l0_run, go_sem, ↓reduceIte, Nat.reduceEqDiff, h18, hc, hd, o_nexts, e1, i0, e3, e4]
        exact .inr ⟨hbd hno, _, _, rfl, by simp only [go_sem, ↓reduceIte]⟩
      have e4 : ((r : Int) < 48) = False := by simp; omega
      by_cases b3 : 57 < r
      · have e5 : ((57 : Int) < (r : Int)) = True := by simp; omega
        have hno : ¬ (chA c ∨ (i ≠ 0 ∧ chB c)) := by unfold chA chB; omega
        simp +contextual -implicitDefEqProofs (maxSteps := 10000000) only [x10_l0_run, go_sem, ↓reduceIte, Nat.reduceEqDiff, h18, hc, hd, o_nexts, e1, i0, e3, e4, e5]
        exact .inr ⟨hbd hno, _, _, rfl, by simp only [go_sem, ↓reduceIte]⟩
      · have e5 : ((57 : Int) < (r : Int)) = False := by simp; omega
        simp +contextual -implicitDefEqProofs (maxSteps := 10000000) only [x10_l0_run, go_sem, ↓reduceIte, Nat.reduceEqDiff, h18, hc, hd, o_nexts, e1, i0, e3, e4, e5]
        refine go (.inr ⟨i0, .inr (by omega)⟩) hx.2 _ ?_
        simp only [go_sem, ↓reduceIte, Nat.reduceEqDiff, h18]
def kws : List (List UInt8) := [[116, 114, 117, 101], [102, 97, 108, 115, 101], [110, 111, 116], [97, 110, 100], [111, 114], [101, 120, 105, 115, 116, 115], [112, 114, 101, 118], [110, 101, 120, 116], [111, 110, 99, 101], [115, 111, 111, 110], [115, 105, 110, 99, 101], [117, 110, 116, 105, 108], [98, 101, 102, 111, 114, 101], [97, 102, 116, 101, 114], [97, 103, 103], [108, 101, 116], [108, 101, 116, 112, 97, 115, 116], [106, 111, 105, 110], [97, 110, 121], [116, 101, 115, 116], [97, 108, 116], [115, 101, 113], [115, 116, 97, 114]]
def isT (r : Option (AV × Heap)) : Bool := match r with | some (.bool true, []) => true | _ => false
theorem of_isT {r : Option (AV × Heap)} (h : isT r = true) : r = some (.bool true, []) := by
  unfold isT at h
  split at h
  · rfl
  · cases h
theorem kw_true : (kws.all fun w => isT (evCall X (fun _ => []) 5 27 [.str w] [])) = true := by kernel_rfl
theorem v_kw (s : List UInt8) : CL X (fun _ => []) 27 [.str s] [] = some (.bool (decide (s ∈ kws)), []) := by
  by_cases h : s ∈ kws
  · have := List.all_eq_true.1 kw_true s h
    rw [decide_eq_true h]
    exact CL_iff.2 ⟨5, of_isT this⟩
  · rw [decide_eq_false h]
    simp only [kws, List.mem_cons, List.not_mem_nil, or_false, not_or] at h
    obtain ⟨n1, n2, n3, n4, n5, n6, n7, n8, n9, n10, n11, n12, n13, n14, n15, n16, n17, n18, n19, n20, n21, n22, n23⟩ := h
    rw [CL_eq (fn := x27) rfl]
    simp +contextual -implicitDefEqProofs (maxSteps := 10000000) only [x27, go_sem, ↓reduceIte, reduceCtorEq, Nat.reduceEqDiff, n1, n2, n3, n4, n5, n6, n7, n8, n9, n10, n11, n12, n13, n14, n15, n16, n17, n18, n19, n20, n21, n22, n23]
def nameP (s : List UInt8) : Prop := s ≠ [] ∧ s.length ≤ 16 ∧ s ∉ kws ∧ restOk s 0
open Classical in
theorem v_name (s : List UInt8) : CL X (fun _ => []) 10 [.str s] [] = some (.bool (decide (nameP s)), []) := by
  have hk := v_kw s
  rw [CL_eq (fn := x10) rfl]
  by_cases h1 : s = []
  · have hn : decide (nameP s) = false := decide_eq_false (fun h => h.1 h1)
    rw [hn]
    simp +contextual -implicitDefEqProofs (maxSteps := 10000000) only [x10, go_sem, ↓reduceIte, reduceCtorEq, Nat.reduceEqDiff, h1]
  by_cases h2 : 16 < s.length
  · have hn : decide (nameP s) = false := decide_eq_false (fun h => by have := h.2.1; omega)
    have e2 : ((16 : Int) < (s.length : Int)) = True := by simp; omega
    rw [hn]
    simp +contextual -implicitDefEqProofs (maxSteps := 10000000) only [x10, go_sem, ↓reduceIte, reduceCtorEq, Nat.reduceEqDiff, h1, e2]
  have e2 : ((16 : Int) < (s.length : Int)) = False := by simp; omega
  by_cases h3 : s ∈ kws
  · have hn : decide (nameP s) = false := decide_eq_false (fun h => h.2.2.1 h3)
    rw [hn]
    simp +contextual -implicitDefEqProofs (maxSteps := 10000000) only [x10, go_sem, ↓reduceIte, reduceCtorEq, Nat.reduceEqDiff, h1, e2, hk, h3]
  simp +contextual -implicitDefEqProofs (maxSteps := 10000000) only [x10, go_sem, ↓reduceIte, reduceCtorEq, Nat.reduceEqDiff, h1, e2, hk, h3, o_rngs, rngK_str, rngP_some]
  refine elimL (fun r => finK _ (seqK (blockK 0 r) _) = _) (l_name s (by omega) [] [] _ s.length 0 (by omega) _ ?_) ?_
  · simp only [go_sem, ↓reduceIte]
  · rintro r (⟨hb, fr', L, rfl⟩ | ⟨hb, fr', L, rfl, g2⟩)
    · have hn : decide (nameP s) = true := decide_eq_true ⟨h1, by omega, h3, hb⟩
      rw [hn]
      simp +contextual -implicitDefEqProofs (maxSteps := 10000000) only [go_sem, ↓reduceIte]
    · have hn : decide (nameP s) = false := decide_eq_false (fun h => hb h.2.2.2)
      rw [hn]
      simp +contextual -implicitDefEqProofs (maxSteps := 10000000) only [go_sem, g2]
end Go.Proofs.Ytnmaahfipddkmaa.Sx.T
