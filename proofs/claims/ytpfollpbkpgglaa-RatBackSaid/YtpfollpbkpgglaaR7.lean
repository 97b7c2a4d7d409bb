/- Layer 1, part 7: the document's functions. -/
import Derived.Test.YtpfollpbkpgglaaR6
set_option linter.unusedVariables false
set_option linter.unusedSimpArgs false
namespace Go.Proofs.Ytpfollpbkpgglaa.Sx.T
open Go Go.Proofs.Ytpfollpbkpgglaa.Sx
set_option maxRecDepth 100000
set_option maxHeartbeats 4000000
def I64 (n : Int) : Prop := -9223372036854775808 ≤ n ∧ n < 9223372036854775808
/-- The least form of t over d. -/
def frc (t : Int) (d : Nat) : Int × Int × Int := mk (decide (t < 0)) t.natAbs d
def ofR (n d : Int) : Int × Int × Int := if d = 0 then (0, 0, 11) else frc (n * d.sign) d.natAbs
def mayR (n d : Int) : Bool := decide (0 < d ∧ Nat.gcd n.natAbs d.natAbs = 1)
theorem rt_eq (x : Int × Int × Int) : rt x = .tup [.agg [.int .i64 x.1, .int .i64 x.2.1], .int .i64 x.2.2] := rfl
theorem ofR_mk (n d : Int) (h0 : ¬ d = 0) : mk (if ¬n = 0 then !decide (n < 0) == decide (d < 0) else false) n.natAbs d.natAbs = ofR n d := by
  unfold ofR frc
  rw [if_neg h0, Int.natAbs_mul, Int.natAbs_sign_of_ne_zero h0, Nat.mul_one]
  congr 1
  rcases Int.lt_trichotomy d 0 with h | h | h
  · rw [Int.sign_eq_neg_one_of_neg h]
    by_cases h1 : n = 0
    · subst h1; rfl
    · by_cases h2 : n < 0 <;> simp [h1, h2, h] <;> omega
  · omega
  · rw [Int.sign_eq_one_of_pos h]
    by_cases h1 : n = 0
    · subst h1; rfl
    · by_cases h2 : n < 0 <;> simp [h1, h2, show ¬ d < 0 by omega]
theorem r13 (n d : Int) (hn : I64 n) (hd : I64 d) (hp : Heap) : CL X G0 13 [.int .i64 n, .int .i64 d] hp = some (rt (ofR n d), hp) := by
  rw [CL_eq (fn := x13) rfl]
  have a1 := r31 n hn
  have a2 := r31 d hd
  have a3 := r30 n.natAbs (by unfold I64 at hn; omega)
  have a4 := r30 d.natAbs (by unfold I64 at hd; omega)
  by_cases h0 : d = 0
  · subst h0
    simp (config := {contextual := true, maxSteps := 10000000, implicitDefEqProofs := false}) only [x13, go_sem, ↓reduceIte, reduceCtorEq, Nat.reduceEqDiff, Nat.reduceAdd, Nat.reduceLeDiff, Nat.reduceMul, Int.reduceEq, Int.reduceLT, Int.reduceLE, Int.reduceAdd, Int.reduceSub, Int.reduceMul, Int.reduceNeg, Int.reduceToNat, Int.reduceNe, Int.reduceBEq, Int.reduceBNe, Nat.reduceLT, Nat.reduceSub, Nat.reduceDiv, Nat.reduceMod, Int.reduceTDiv, Int.reduceTMod, big_map, big_len, big_all, big_cells, big_agg, big_load0, big_loadk, big_uf, big_free, big_drop1, big_shut, big_solid, big_put4, big_put, big_ret, ← big0, a1, a2, a3, a4]
    rfl
  · have a5 := fun b => r32 b n.natAbs d.natAbs (by unfold I64 at hn; omega) (by omega) (by unfold I64 at hd; omega)
    rw [← ofR_mk n d h0]
    by_cases h1 : n = 0
    · subst h1
      simp (config := {contextual := true, maxSteps := 10000000, implicitDefEqProofs := false}) only [x13, go_sem, ↓reduceIte, reduceCtorEq, Nat.reduceEqDiff, Nat.reduceAdd, Nat.reduceLeDiff, Nat.reduceMul, Int.reduceEq, Int.reduceLT, Int.reduceLE, Int.reduceAdd, Int.reduceSub, Int.reduceMul, Int.reduceNeg, Int.reduceToNat, Int.reduceNe, Int.reduceBEq, Int.reduceBNe, Nat.reduceLT, Nat.reduceSub, Nat.reduceDiv, Nat.reduceMod, Int.reduceTDiv, Int.reduceTMod, big_map, big_len, big_all, big_cells, big_agg, big_load0, big_loadk, big_uf, big_free, big_drop1, big_shut, big_solid, big_put4, big_put, big_ret, ← big0, a1, a2, a3, a4, a5, h0, rt_eq]
    · simp (config := {contextual := true, maxSteps := 10000000, implicitDefEqProofs := false}) only [x13, go_sem, ↓reduceIte, reduceCtorEq, Nat.reduceEqDiff, Nat.reduceAdd, Nat.reduceLeDiff, Nat.reduceMul, Int.reduceEq, Int.reduceLT, Int.reduceLE, Int.reduceAdd, Int.reduceSub, Int.reduceMul, Int.reduceNeg, Int.reduceToNat, Int.reduceNe, Int.reduceBEq, Int.reduceBNe, Nat.reduceLT, Nat.reduceSub, Nat.reduceDiv, Nat.reduceMod, Int.reduceTDiv, Int.reduceTMod, big_map, big_len, big_all, big_cells, big_agg, big_load0, big_loadk, big_uf, big_free, big_drop1, big_shut, big_solid, big_put4, big_put, big_ret, ← big0, a1, a2, a3, a4, a5, h0, h1, rt_eq]
theorem may_eq (n d : Int) (hn : I64 n) (hd : I64 d) (h : 0 < d) : (decide ((ofR n d).2.2 = 0) && ((ofR n d).1 == n && (ofR n d).2.1 == d)) = mayR n d := by
  unfold ofR mayR frc mk
  unfold I64 at *
  rw [if_neg (by omega), Int.sign_eq_one_of_pos h, Int.mul_one]
  have hg : 0 < Nat.gcd n.natAbs d.natAbs := Nat.gcd_pos_of_pos_right _ (by omega)
  by_cases h1 : Nat.gcd n.natAbs d.natAbs = 1
  · simp only [h1, Nat.div_one, and_true]
    rw [if_neg (by simp only [decide_eq_false_iff_not]; omega)]
    by_cases h2 : n < 0
    · simp [h2, h]
      omega
    · simp [h2, h]
      omega
  · have h3 : d.natAbs / Nat.gcd n.natAbs d.natAbs < d.natAbs := Nat.div_lt_self (by omega) (by omega)
    generalize d.natAbs / Nat.gcd n.natAbs d.natAbs = q at *
    generalize n.natAbs / Nat.gcd n.natAbs d.natAbs = p at *
    simp only [h1, and_false, decide_false]
    split
    · rfl
    · have : ((q : Int) == d) = false := by simp; omega
      split <;> simp [this]
theorem r33 (n d : Int) (hn : I64 n) (hd : I64 d) (hp : Heap) : CL X G0 33 [.agg [.int .i64 n, .int .i64 d]] hp = some (.bool (mayR n d), hp) := by
  rw [CL_eq (fn := x33) rfl]
  have a1 := r13 n d hn hd
  simp (config := {contextual := true, maxSteps := 10000000, implicitDefEqProofs := false}) only [x33, go_sem, ↓reduceIte, reduceCtorEq, Nat.reduceEqDiff, Nat.reduceAdd, Nat.reduceLeDiff, Nat.reduceMul, Int.reduceEq, Int.reduceLT, Int.reduceLE, Int.reduceAdd, Int.reduceSub, Int.reduceMul, Int.reduceNeg, Int.reduceToNat, Int.reduceNe, Int.reduceBEq, Int.reduceBNe, Nat.reduceLT, Nat.reduceSub, Nat.reduceDiv, Nat.reduceMod, Int.reduceTDiv, Int.reduceTMod, big_map, big_len, big_all, big_cells, big_agg, big_load0, big_loadk, big_uf, big_free, big_drop1, big_shut, big_solid, big_put4, big_put, big_ret, ← big0, a1, rt_eq]
  by_cases h : d ≤ 0
  · rw [if_pos h]
    simp only [mayR, show ¬ 0 < d by omega, false_and, decide_false]
  · rw [if_neg h, may_eq n d hn hd (by omega)]
theorem frc_int (t : Int) (d : Nat) (b : Bool) (n : Nat) (h : n = t.natAbs) (hb : b = decide (t < 0)) : mk b n d = frc t d := by
  subst h hb; rfl
theorem fin3 (b : Bool) (n D : Nat) (T : Int) (hp : Heap) (h : n = T.natAbs) (hb : b = decide (T < 0)) :
    some (AV.tup [AV.agg [AV.int .i64 (mk b n D).1, AV.int .i64 (mk b n D).2.1], AV.int .i64 (mk b n D).2.2], hp) = some (AV.tup [AV.agg [AV.int .i64 (frc T D).1, AV.int .i64 (frc T D).2.1], AV.int .i64 (frc T D).2.2], hp) := by
  rw [frc_int T D b n h hb]
theorem fin3' (P : Prop) [Decidable P] (b b' : Bool) (n D : Nat) (T : Int) (hp : Heap) (h : n = T.natAbs) (hb : (if P then b else b') = decide (T < 0)) :
    some (AV.tup [AV.agg [AV.int .i64 (if P then (mk b n D).1 else (mk b' n D).1), AV.int .i64 (if P then (mk b n D).2.1 else (mk b' n D).2.1)], AV.int .i64 (if P then (mk b n D).2.2 else (mk b' n D).2.2)], hp) =
      some (AV.tup [AV.agg [AV.int .i64 (frc T D).1, AV.int .i64 (frc T D).2.1], AV.int .i64 (frc T D).2.2], hp) := by
  split <;> rename_i h' <;> simp only [h', if_true, if_false] at hb <;> rw [frc_int T D _ n h hb]
theorem mul_sgn (a d : Int) (hd : 0 < d) : a * d = if a < 0 then -((a.natAbs * d.natAbs : Nat) : Int) else ((a.natAbs * d.natAbs : Nat) : Int) := by
  obtain ⟨k, rfl⟩ := Int.eq_ofNat_of_zero_le (Int.le_of_lt hd)
  rw [Int.natAbs_natCast, Int.natCast_mul]
  split
  · rw [← Int.neg_mul, show -(a.natAbs : Int) = a by omega]
  · rw [show (a.natAbs : Int) = a by omega]
theorem r38 (a b c d : Int) (m : Bool) (ha : I64 a) (hb : I64 b) (hc : I64 c) (hd : I64 d) (hb0 : 0 < b) (hd0 : 0 < d) (hp : Heap) :
    CL X G0 38 [.agg [.int .i64 a, .int .i64 b], .agg [.int .i64 c, .int .i64 d], .bool m] hp = some (rt (frc (a * d + (if m then - (c * b) else c * b)) (b.natAbs * d.natAbs)), hp) := by
  rw [CL_eq (fn := x38) rfl]
  have a1 := r31 a ha
  have a2 := r31 c hc
  have ub : u64 b = b.natAbs := by simp only [u64]; unfold I64 at hb; omega
  have ud : u64 d = d.natAbs := by simp only [u64]; unfold I64 at hd; omega
  have a3 := r34 a.natAbs d.natAbs (by unfold I64 at *; omega) (by unfold I64 at *; omega)
  have a4 := r34 c.natAbs b.natAbs (by unfold I64 at *; omega) (by unfold I64 at *; omega)
  have a5 := r34 b.natAbs d.natAbs (by unfold I64 at *; omega) (by unfold I64 at *; omega)
  have m1 : a.natAbs * d.natAbs ≤ 9223372036854775808 * 9223372036854775808 := Nat.mul_le_mul (by unfold I64 at *; omega) (by unfold I64 at *; omega)
  have m2 : c.natAbs * b.natAbs ≤ 9223372036854775808 * 9223372036854775808 := Nat.mul_le_mul (by unfold I64 at *; omega) (by unfold I64 at *; omega)
  have m3 : b.natAbs * d.natAbs ≤ 9223372036854775808 * 9223372036854775808 := Nat.mul_le_mul (by unfold I64 at *; omega) (by unfold I64 at *; omega)
  have m4 : 0 < b.natAbs * d.natAbs := Nat.mul_pos (by omega) (by omega)
  rw [mul_sgn a d hd0, mul_sgn c b hb0]
  generalize a.natAbs * d.natAbs = A at *
  generalize c.natAbs * b.natAbs = C at *
  generalize b.natAbs * d.natAbs = D at *
  have z0 : AV.agg [.int .u64 0, .int .u64 0, .int .u64 0, .int .u64 0] = big 0 := rfl
  have z : ∀ n, n < 340282366920938463463374607431768211456 → eqaK true [1, 1, 1, 1] (big n) (AV.agg (bigL 0)) = some (.bool (decide (n = 0) != true)) := fun n h => big_zero n h true
  have a6 := r47 A C
  have a7 := fun b => r32 b (A + C) D (by omega) (by omega) (by omega)
  have a8 := r35 A C (by omega) (by omega)
  have lt1 : A + C < 340282366920938463463374607431768211456 := by omega
  have lt2 : A - C < 340282366920938463463374607431768211456 := by omega
  have a10 := fun b => r32 b (A - C) D (by omega) (by omega) (by omega)
  have a12 := fun b => r32 b (C - A) D (by omega) (by omega) (by omega)
  by_cases h1 : (decide (a < 0)) = !decide (c < 0) == m
  · simp (config := {contextual := true, maxSteps := 10000000, implicitDefEqProofs := false}) only [x38, go_sem, ↓reduceIte, reduceCtorEq, Nat.reduceEqDiff, Nat.reduceAdd, Nat.reduceLeDiff, Nat.reduceMul, Int.reduceEq, Int.reduceLT, Int.reduceLE, Int.reduceAdd, Int.reduceSub, Int.reduceMul, Int.reduceNeg, Int.reduceToNat, Int.reduceNe, Int.reduceBEq, Int.reduceBNe, Nat.reduceLT, Nat.reduceSub, Nat.reduceDiv, Nat.reduceMod, Int.reduceTDiv, Int.reduceTMod, big_map, big_len, big_all, big_cells, big_agg, big_load0, big_loadk, big_uf, big_free, big_drop1, big_shut, big_solid, big_put4, big_put, big_ret, ← big0, a1, a2, a3, a4, a5, ub, ud, rt_eq, h1, a6, a7, z, lt1]
    refine fin3' _ _ _ _ _ _ _ ?_ ?_
    · cases m <;> by_cases p1 : a < 0 <;> by_cases p2 : c < 0 <;> simp [p1, p2] at h1 ⊢ <;> first | omega | (rw [Bool.eq_iff_iff]; simp; omega)
    · cases m <;> by_cases p1 : a < 0 <;> by_cases p2 : c < 0 <;> simp [p1, p2] at h1 ⊢ <;> first | omega | (rw [Bool.eq_iff_iff]; simp; omega)
  · by_cases h2 : A < C
    · have a11 := r48 C A (by omega) (by omega)
      simp (config := {contextual := true, maxSteps := 10000000, implicitDefEqProofs := false}) only [x38, go_sem, ↓reduceIte, reduceCtorEq, Nat.reduceEqDiff, Nat.reduceAdd, Nat.reduceLeDiff, Nat.reduceMul, Int.reduceEq, Int.reduceLT, Int.reduceLE, Int.reduceAdd, Int.reduceSub, Int.reduceMul, Int.reduceNeg, Int.reduceToNat, Int.reduceNe, Int.reduceBEq, Int.reduceBNe, Nat.reduceLT, Nat.reduceSub, Nat.reduceDiv, Nat.reduceMod, Int.reduceTDiv, Int.reduceTMod, big_map, big_len, big_all, big_cells, big_agg, big_load0, big_loadk, big_uf, big_free, big_drop1, big_shut, big_solid, big_put4, big_put, big_ret, ← big0, a1, a2, a3, a4, a5, ub, ud, rt_eq, h1, h2, a8, a11, a12, z, lt2]
      refine fin3 _ _ _ _ _ ?_ ?_
      · cases m <;> by_cases p1 : a < 0 <;> by_cases p2 : c < 0 <;> simp [p1, p2] at h1 ⊢ <;> first | omega | (rw [Bool.eq_iff_iff]; simp; omega)
      · cases m <;> by_cases p1 : a < 0 <;> by_cases p2 : c < 0 <;> simp [p1, p2] at h1 ⊢ <;> first | omega | (rw [Bool.eq_iff_iff]; simp; omega)
    · have a9 := r48 A C (by omega) (by omega)
      have h3 : (0 : Int) ≤ (if C < A then 1 else 0) := by split <;> omega
      simp (config := {contextual := true, maxSteps := 10000000, implicitDefEqProofs := false}) only [x38, go_sem, ↓reduceIte, reduceCtorEq, Nat.reduceEqDiff, Nat.reduceAdd, Nat.reduceLeDiff, Nat.reduceMul, Int.reduceEq, Int.reduceLT, Int.reduceLE, Int.reduceAdd, Int.reduceSub, Int.reduceMul, Int.reduceNeg, Int.reduceToNat, Int.reduceNe, Int.reduceBEq, Int.reduceBNe, Nat.reduceLT, Nat.reduceSub, Nat.reduceDiv, Nat.reduceMod, Int.reduceTDiv, Int.reduceTMod, big_map, big_len, big_all, big_cells, big_agg, big_load0, big_loadk, big_uf, big_free, big_drop1, big_shut, big_solid, big_put4, big_put, big_ret, ← big0, a1, a2, a3, a4, a5, ub, ud, rt_eq, h1, h2, h3, a8, a9, a10, z, lt2]
      refine fin3' _ _ _ _ _ _ _ ?_ ?_
      · cases m <;> by_cases p1 : a < 0 <;> by_cases p2 : c < 0 <;> simp [p1, p2] at h1 ⊢ <;> first | omega | (rw [Bool.eq_iff_iff]; simp; omega)
      · cases m <;> by_cases p1 : a < 0 <;> by_cases p2 : c < 0 <;> simp [p1, p2] at h1 ⊢ <;> first | omega | (rw [Bool.eq_iff_iff]; simp; omega)
end Go.Proofs.Ytpfollpbkpgglaa.Sx.T
