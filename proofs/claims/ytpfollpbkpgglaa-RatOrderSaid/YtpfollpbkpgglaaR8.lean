/- Layer 1, part 8: the document's sums, products and order. -/
import Derived.Test.YtpfollpbkpgglaaR7
set_option linter.unusedVariables false
set_option linter.unusedSimpArgs false
namespace Go.Proofs.Ytpfollpbkpgglaa.Sx.T
open Go Go.Proofs.Ytpfollpbkpgglaa.Sx
set_option maxRecDepth 100000
set_option maxHeartbeats 4000000
def both (a b c d : Int) : Bool := mayR a b && mayR c d
def addR (a b c d : Int) : Int × Int × Int := if both a b c d = true then frc (a * d + c * b) (b.natAbs * d.natAbs) else (0, 0, 1)
def subR (a b c d : Int) : Int × Int × Int := if both a b c d = true then frc (a * d + -(c * b)) (b.natAbs * d.natAbs) else (0, 0, 1)
def mulR (a b c d : Int) : Int × Int × Int := if both a b c d = true then frc (a * c) (b.natAbs * d.natAbs) else (0, 0, 1)
def divR (a b c d : Int) : Int × Int × Int := if both a b c d = true then (if c = 0 then (0, 0, 11) else frc (a * d * c.sign) (b.natAbs * c.natAbs)) else (0, 0, 1)
def cmpR (a b c d : Int) : Int := if both a b c d = true then (if a * d < c * b then -1 else if c * b < a * d then 1 else 0) else 0
theorem may_pos {a b : Int} (h : mayR a b = true) : 0 < b := by
  simp only [mayR, decide_eq_true_eq] at h
  exact h.1
theorem may_gcd {a b : Int} (h : mayR a b = true) : Nat.gcd a.natAbs b.natAbs = 1 := by
  simp only [mayR, decide_eq_true_eq] at h
  exact h.2
theorem mul_sgn2 (a c : Int) : a * c = if (decide (a < 0) == decide (c < 0)) = false then -((a.natAbs * c.natAbs : Nat) : Int) else ((a.natAbs * c.natAbs : Nat) : Int) := by
  rw [Int.natCast_mul]
  by_cases h1 : a < 0
  · have e1 : (a.natAbs : Int) = -a := by omega
    by_cases h2 : c < 0
    · have e2 : (c.natAbs : Int) = -c := by omega
      simp [h1, h2, e1, e2, Int.neg_mul, Int.mul_neg]
    · have e2 : (c.natAbs : Int) = c := by omega
      simp [h1, h2, e1, e2, Int.neg_mul, Int.mul_neg]
  · have e1 : (a.natAbs : Int) = a := by omega
    by_cases h2 : c < 0
    · have e2 : (c.natAbs : Int) = -c := by omega
      simp [h1, h2, e1, e2, Int.neg_mul, Int.mul_neg]
    · have e2 : (c.natAbs : Int) = c := by omega
      simp [h1, h2, e1, e2, Int.neg_mul, Int.mul_neg]
theorem r18 (a b c d : Int) (ha : I64 a) (hb : I64 b) (hc : I64 c) (hd : I64 d) (hp : Heap) : CL X G0 18 [.agg [.int .i64 a, .int .i64 b], .agg [.int .i64 c, .int .i64 d]] hp = some (rt (addR a b c d), hp) := by
  rw [CL_eq (fn := x18) rfl]
  have a1 := r33 a b ha hb
  have a2 := r33 c d hc hd
  unfold addR both
  by_cases h1 : mayR a b = true
  · by_cases h2 : mayR c d = true
    · have a3 := r38 a b c d false ha hb hc hd (may_pos h1) (may_pos h2)
      simp (config := {contextual := true, maxSteps := 10000000, implicitDefEqProofs := false}) only [x18, go_sem, ↓reduceIte, reduceCtorEq, Nat.reduceEqDiff, Nat.reduceAdd, Nat.reduceLeDiff, Nat.reduceMul, Int.reduceEq, Int.reduceLT, Int.reduceLE, Int.reduceAdd, Int.reduceSub, Int.reduceMul, Int.reduceNeg, Int.reduceToNat, Int.reduceNe, Int.reduceBEq, Int.reduceBNe, Nat.reduceLT, Nat.reduceSub, Nat.reduceDiv, Nat.reduceMod, Int.reduceTDiv, Int.reduceTMod, a1, a2, h1, h2, a3, rt_eq]
    · simp (config := {contextual := true, maxSteps := 10000000, implicitDefEqProofs := false}) only [x18, go_sem, ↓reduceIte, reduceCtorEq, Nat.reduceEqDiff, Nat.reduceAdd, Nat.reduceLeDiff, Nat.reduceMul, Int.reduceEq, Int.reduceLT, Int.reduceLE, Int.reduceAdd, Int.reduceSub, Int.reduceMul, Int.reduceNeg, Int.reduceToNat, Int.reduceNe, Int.reduceBEq, Int.reduceBNe, Nat.reduceLT, Nat.reduceSub, Nat.reduceDiv, Nat.reduceMod, Int.reduceTDiv, Int.reduceTMod, a1, a2, h1, h2, rt_eq]
  · by_cases h2 : mayR c d = true
    · simp (config := {contextual := true, maxSteps := 10000000, implicitDefEqProofs := false}) only [x18, go_sem, ↓reduceIte, reduceCtorEq, Nat.reduceEqDiff, Nat.reduceAdd, Nat.reduceLeDiff, Nat.reduceMul, Int.reduceEq, Int.reduceLT, Int.reduceLE, Int.reduceAdd, Int.reduceSub, Int.reduceMul, Int.reduceNeg, Int.reduceToNat, Int.reduceNe, Int.reduceBEq, Int.reduceBNe, Nat.reduceLT, Nat.reduceSub, Nat.reduceDiv, Nat.reduceMod, Int.reduceTDiv, Int.reduceTMod, a1, a2, h1, h2, rt_eq]
    · simp (config := {contextual := true, maxSteps := 10000000, implicitDefEqProofs := false}) only [x18, go_sem, ↓reduceIte, reduceCtorEq, Nat.reduceEqDiff, Nat.reduceAdd, Nat.reduceLeDiff, Nat.reduceMul, Int.reduceEq, Int.reduceLT, Int.reduceLE, Int.reduceAdd, Int.reduceSub, Int.reduceMul, Int.reduceNeg, Int.reduceToNat, Int.reduceNe, Int.reduceBEq, Int.reduceBNe, Nat.reduceLT, Nat.reduceSub, Nat.reduceDiv, Nat.reduceMod, Int.reduceTDiv, Int.reduceTMod, a1, a2, h1, h2, rt_eq]
theorem r20 (a b c d : Int) (ha : I64 a) (hb : I64 b) (hc : I64 c) (hd : I64 d) (hp : Heap) : CL X G0 20 [.agg [.int .i64 a, .int .i64 b], .agg [.int .i64 c, .int .i64 d]] hp = some (rt (subR a b c d), hp) := by
  rw [CL_eq (fn := x20) rfl]
  have a1 := r33 a b ha hb
  have a2 := r33 c d hc hd
  unfold subR both
  by_cases h1 : mayR a b = true
  · by_cases h2 : mayR c d = true
    · have a3 := r38 a b c d true ha hb hc hd (may_pos h1) (may_pos h2)
      simp (config := {contextual := true, maxSteps := 10000000, implicitDefEqProofs := false}) only [x20, go_sem, ↓reduceIte, reduceCtorEq, Nat.reduceEqDiff, Nat.reduceAdd, Nat.reduceLeDiff, Nat.reduceMul, Int.reduceEq, Int.reduceLT, Int.reduceLE, Int.reduceAdd, Int.reduceSub, Int.reduceMul, Int.reduceNeg, Int.reduceToNat, Int.reduceNe, Int.reduceBEq, Int.reduceBNe, Nat.reduceLT, Nat.reduceSub, Nat.reduceDiv, Nat.reduceMod, Int.reduceTDiv, Int.reduceTMod, a1, a2, h1, h2, a3, rt_eq]
    · simp (config := {contextual := true, maxSteps := 10000000, implicitDefEqProofs := false}) only [x20, go_sem, ↓reduceIte, reduceCtorEq, Nat.reduceEqDiff, Nat.reduceAdd, Nat.reduceLeDiff, Nat.reduceMul, Int.reduceEq, Int.reduceLT, Int.reduceLE, Int.reduceAdd, Int.reduceSub, Int.reduceMul, Int.reduceNeg, Int.reduceToNat, Int.reduceNe, Int.reduceBEq, Int.reduceBNe, Nat.reduceLT, Nat.reduceSub, Nat.reduceDiv, Nat.reduceMod, Int.reduceTDiv, Int.reduceTMod, a1, a2, h1, h2, rt_eq]
  · by_cases h2 : mayR c d = true
    · simp (config := {contextual := true, maxSteps := 10000000, implicitDefEqProofs := false}) only [x20, go_sem, ↓reduceIte, reduceCtorEq, Nat.reduceEqDiff, Nat.reduceAdd, Nat.reduceLeDiff, Nat.reduceMul, Int.reduceEq, Int.reduceLT, Int.reduceLE, Int.reduceAdd, Int.reduceSub, Int.reduceMul, Int.reduceNeg, Int.reduceToNat, Int.reduceNe, Int.reduceBEq, Int.reduceBNe, Nat.reduceLT, Nat.reduceSub, Nat.reduceDiv, Nat.reduceMod, Int.reduceTDiv, Int.reduceTMod, a1, a2, h1, h2, rt_eq]
    · simp (config := {contextual := true, maxSteps := 10000000, implicitDefEqProofs := false}) only [x20, go_sem, ↓reduceIte, reduceCtorEq, Nat.reduceEqDiff, Nat.reduceAdd, Nat.reduceLeDiff, Nat.reduceMul, Int.reduceEq, Int.reduceLT, Int.reduceLE, Int.reduceAdd, Int.reduceSub, Int.reduceMul, Int.reduceNeg, Int.reduceToNat, Int.reduceNe, Int.reduceBEq, Int.reduceBNe, Nat.reduceLT, Nat.reduceSub, Nat.reduceDiv, Nat.reduceMod, Int.reduceTDiv, Int.reduceTMod, a1, a2, h1, h2, rt_eq]
theorem r23 (a b c d : Int) (ha : I64 a) (hb : I64 b) (hc : I64 c) (hd : I64 d) (hp : Heap) : CL X G0 23 [.agg [.int .i64 a, .int .i64 b], .agg [.int .i64 c, .int .i64 d]] hp = some (rt (mulR a b c d), hp) := by
  rw [CL_eq (fn := x23) rfl]
  have a1 := r33 a b ha hb
  have a2 := r33 c d hc hd
  unfold mulR both
  by_cases h1 : mayR a b = true
  · by_cases h2 : mayR c d = true
    · have hb0 := may_pos h1
      have hd0 := may_pos h2
      have s1 := r31 a ha
      have s2 := r31 c hc
      have ub : u64 b = b.natAbs := by simp only [u64]; unfold I64 at hb; omega
      have ud : u64 d = d.natAbs := by simp only [u64]; unfold I64 at hd; omega
      have a3 := r34 a.natAbs c.natAbs (by unfold I64 at *; omega) (by unfold I64 at *; omega)
      have a5 := r34 b.natAbs d.natAbs (by unfold I64 at *; omega) (by unfold I64 at *; omega)
      have m1 : a.natAbs * c.natAbs ≤ 9223372036854775808 * 9223372036854775808 := Nat.mul_le_mul (by unfold I64 at *; omega) (by unfold I64 at *; omega)
      have m3 : b.natAbs * d.natAbs ≤ 9223372036854775808 * 9223372036854775808 := Nat.mul_le_mul (by unfold I64 at *; omega) (by unfold I64 at *; omega)
      have m4 : 0 < b.natAbs * d.natAbs := Nat.mul_pos (by omega) (by omega)
      have a6 := fun q => r32 q (a.natAbs * c.natAbs) (b.natAbs * d.natAbs) (by omega) m4 (by omega)
      have z : ∀ n, n < 340282366920938463463374607431768211456 → eqaK true [1, 1, 1, 1] (big n) (AV.agg (bigL 0)) = some (.bool (decide (n = 0) != true)) := fun n h => big_zero n h true
      have lt1 : a.natAbs * c.natAbs < 340282366920938463463374607431768211456 := by omega
      simp (config := {contextual := true, maxSteps := 10000000, implicitDefEqProofs := false}) only [x23, go_sem, ↓reduceIte, reduceCtorEq, Nat.reduceEqDiff, Nat.reduceAdd, Nat.reduceLeDiff, Nat.reduceMul, Int.reduceEq, Int.reduceLT, Int.reduceLE, Int.reduceAdd, Int.reduceSub, Int.reduceMul, Int.reduceNeg, Int.reduceToNat, Int.reduceNe, Int.reduceBEq, Int.reduceBNe, Nat.reduceLT, Nat.reduceSub, Nat.reduceDiv, Nat.reduceMod, Int.reduceTDiv, Int.reduceTMod, big_map, big_len, big_all, big_cells, big_agg, big_load0, big_loadk, big_uf, big_free, big_drop1, big_shut, big_solid, big_put4, big_put, big_ret, ← big0, a1, a2, h1, h2, s1, s2, ub, ud, a3, a5, a6, z, lt1, rt_eq]
      refine fin3' _ _ _ _ _ _ _ (Int.natAbs_mul a c).symm ?_
      rw [mul_sgn2]
      generalize a.natAbs * c.natAbs = A
      by_cases p1 : a < 0 <;> by_cases p2 : c < 0 <;> rw [Bool.eq_iff_iff] <;> simp [p1, p2] <;> omega
    · simp (config := {contextual := true, maxSteps := 10000000, implicitDefEqProofs := false}) only [x23, go_sem, ↓reduceIte, reduceCtorEq, Nat.reduceEqDiff, Nat.reduceAdd, Nat.reduceLeDiff, Nat.reduceMul, Int.reduceEq, Int.reduceLT, Int.reduceLE, Int.reduceAdd, Int.reduceSub, Int.reduceMul, Int.reduceNeg, Int.reduceToNat, Int.reduceNe, Int.reduceBEq, Int.reduceBNe, Nat.reduceLT, Nat.reduceSub, Nat.reduceDiv, Nat.reduceMod, Int.reduceTDiv, Int.reduceTMod, a1, a2, h1, h2, rt_eq]
  · by_cases h2 : mayR c d = true
    · simp (config := {contextual := true, maxSteps := 10000000, implicitDefEqProofs := false}) only [x23, go_sem, ↓reduceIte, reduceCtorEq, Nat.reduceEqDiff, Nat.reduceAdd, Nat.reduceLeDiff, Nat.reduceMul, Int.reduceEq, Int.reduceLT, Int.reduceLE, Int.reduceAdd, Int.reduceSub, Int.reduceMul, Int.reduceNeg, Int.reduceToNat, Int.reduceNe, Int.reduceBEq, Int.reduceBNe, Nat.reduceLT, Nat.reduceSub, Nat.reduceDiv, Nat.reduceMod, Int.reduceTDiv, Int.reduceTMod, a1, a2, h1, h2, rt_eq]
    · simp (config := {contextual := true, maxSteps := 10000000, implicitDefEqProofs := false}) only [x23, go_sem, ↓reduceIte, reduceCtorEq, Nat.reduceEqDiff, Nat.reduceAdd, Nat.reduceLeDiff, Nat.reduceMul, Int.reduceEq, Int.reduceLT, Int.reduceLE, Int.reduceAdd, Int.reduceSub, Int.reduceMul, Int.reduceNeg, Int.reduceToNat, Int.reduceNe, Int.reduceBEq, Int.reduceBNe, Nat.reduceLT, Nat.reduceSub, Nat.reduceDiv, Nat.reduceMod, Int.reduceTDiv, Int.reduceTMod, a1, a2, h1, h2, rt_eq]
theorem r25 (a b c d : Int) (ha : I64 a) (hb : I64 b) (hc : I64 c) (hd : I64 d) (hp : Heap) : CL X G0 25 [.agg [.int .i64 a, .int .i64 b], .agg [.int .i64 c, .int .i64 d]] hp = some (rt (divR a b c d), hp) := by
  rw [CL_eq (fn := x25) rfl]
  have a1 := r33 a b ha hb
  have a2 := r33 c d hc hd
  unfold divR both
  by_cases h1 : mayR a b = true
  · by_cases h2 : mayR c d = true
    · by_cases h3 : c = 0
      · subst h3
        simp (config := {contextual := true, maxSteps := 10000000, implicitDefEqProofs := false}) only [x25, go_sem, ↓reduceIte, reduceCtorEq, Nat.reduceEqDiff, Nat.reduceAdd, Nat.reduceLeDiff, Nat.reduceMul, Int.reduceEq, Int.reduceLT, Int.reduceLE, Int.reduceAdd, Int.reduceSub, Int.reduceMul, Int.reduceNeg, Int.reduceToNat, Int.reduceNe, Int.reduceBEq, Int.reduceBNe, Nat.reduceLT, Nat.reduceSub, Nat.reduceDiv, Nat.reduceMod, Int.reduceTDiv, Int.reduceTMod, big_map, big_len, big_all, big_cells, big_agg, big_load0, big_loadk, big_uf, big_free, big_drop1, big_shut, big_solid, big_put4, big_put, big_ret, ← big0, a1, a2, h1, h2, rt_eq]
      · have hb0 := may_pos h1
        have hd0 := may_pos h2
        have s1 := r31 a ha
        have s2 := r31 c hc
        have ub : u64 b = b.natAbs := by simp only [u64]; unfold I64 at hb; omega
        have ud : u64 d = d.natAbs := by simp only [u64]; unfold I64 at hd; omega
        have a3 := r34 a.natAbs d.natAbs (by unfold I64 at *; omega) (by unfold I64 at *; omega)
        have a5 := r34 b.natAbs c.natAbs (by unfold I64 at *; omega) (by unfold I64 at *; omega)
        have m1 : a.natAbs * d.natAbs ≤ 9223372036854775808 * 9223372036854775808 := Nat.mul_le_mul (by unfold I64 at *; omega) (by unfold I64 at *; omega)
        have m3 : b.natAbs * c.natAbs ≤ 9223372036854775808 * 9223372036854775808 := Nat.mul_le_mul (by unfold I64 at *; omega) (by unfold I64 at *; omega)
        have m4 : 0 < b.natAbs * c.natAbs := Nat.mul_pos (by omega) (by omega)
        have a6 := fun q => r32 q (a.natAbs * d.natAbs) (b.natAbs * c.natAbs) (by omega) m4 (by omega)
        have z : ∀ n, n < 340282366920938463463374607431768211456 → eqaK true [1, 1, 1, 1] (big n) (AV.agg (bigL 0)) = some (.bool (decide (n = 0) != true)) := fun n h => big_zero n h true
        have lt1 : a.natAbs * d.natAbs < 340282366920938463463374607431768211456 := by omega
        simp (config := {contextual := true, maxSteps := 10000000, implicitDefEqProofs := false}) only [x25, go_sem, ↓reduceIte, reduceCtorEq, Nat.reduceEqDiff, Nat.reduceAdd, Nat.reduceLeDiff, Nat.reduceMul, Int.reduceEq, Int.reduceLT, Int.reduceLE, Int.reduceAdd, Int.reduceSub, Int.reduceMul, Int.reduceNeg, Int.reduceToNat, Int.reduceNe, Int.reduceBEq, Int.reduceBNe, Nat.reduceLT, Nat.reduceSub, Nat.reduceDiv, Nat.reduceMod, Int.reduceTDiv, Int.reduceTMod, big_map, big_len, big_all, big_cells, big_agg, big_load0, big_loadk, big_uf, big_free, big_drop1, big_shut, big_solid, big_put4, big_put, big_ret, ← big0, a1, a2, h1, h2, h3, s1, s2, ub, ud, a3, a5, a6, z, lt1, rt_eq]
        have e : (a * d * c.sign).natAbs = a.natAbs * d.natAbs := by rw [Int.natAbs_mul, Int.natAbs_mul, Int.natAbs_sign_of_ne_zero h3, Nat.mul_one]
        refine fin3' _ _ _ _ _ _ _ e.symm ?_
        have pa' : a = 0 → a.natAbs * d.natAbs = 0 := fun h => by subst h; simp
        rw [mul_sgn a d hd0]
        generalize a.natAbs * d.natAbs = A at *
        rcases Int.lt_trichotomy c 0 with h | h | h
        · rw [Int.sign_eq_neg_one_of_neg h, Int.mul_neg, Int.mul_one]
          by_cases p : a < 0
          · rw [Bool.eq_iff_iff]; simp [p, h]; try omega
          · rw [Bool.eq_iff_iff]; simp [p, h]; try omega
        · omega
        · rw [Int.sign_eq_one_of_pos h, Int.mul_one]
          by_cases p : a < 0
          · rw [Bool.eq_iff_iff]; simp [p, show ¬ c < 0 by omega]; try omega
          · rw [Bool.eq_iff_iff]; simp [p, show ¬ c < 0 by omega]; try omega
    · simp (config := {contextual := true, maxSteps := 10000000, implicitDefEqProofs := false}) only [x25, go_sem, ↓reduceIte, reduceCtorEq, Nat.reduceEqDiff, Nat.reduceAdd, Nat.reduceLeDiff, Nat.reduceMul, Int.reduceEq, Int.reduceLT, Int.reduceLE, Int.reduceAdd, Int.reduceSub, Int.reduceMul, Int.reduceNeg, Int.reduceToNat, Int.reduceNe, Int.reduceBEq, Int.reduceBNe, Nat.reduceLT, Nat.reduceSub, Nat.reduceDiv, Nat.reduceMod, Int.reduceTDiv, Int.reduceTMod, a1, a2, h1, h2, rt_eq]
  · by_cases h2 : mayR c d = true
    · simp (config := {contextual := true, maxSteps := 10000000, implicitDefEqProofs := false}) only [x25, go_sem, ↓reduceIte, reduceCtorEq, Nat.reduceEqDiff, Nat.reduceAdd, Nat.reduceLeDiff, Nat.reduceMul, Int.reduceEq, Int.reduceLT, Int.reduceLE, Int.reduceAdd, Int.reduceSub, Int.reduceMul, Int.reduceNeg, Int.reduceToNat, Int.reduceNe, Int.reduceBEq, Int.reduceBNe, Nat.reduceLT, Nat.reduceSub, Nat.reduceDiv, Nat.reduceMod, Int.reduceTDiv, Int.reduceTMod, a1, a2, h1, h2, rt_eq]
    · simp (config := {contextual := true, maxSteps := 10000000, implicitDefEqProofs := false}) only [x25, go_sem, ↓reduceIte, reduceCtorEq, Nat.reduceEqDiff, Nat.reduceAdd, Nat.reduceLeDiff, Nat.reduceMul, Int.reduceEq, Int.reduceLT, Int.reduceLE, Int.reduceAdd, Int.reduceSub, Int.reduceMul, Int.reduceNeg, Int.reduceToNat, Int.reduceNe, Int.reduceBEq, Int.reduceBNe, Nat.reduceLT, Nat.reduceSub, Nat.reduceDiv, Nat.reduceMod, Int.reduceTDiv, Int.reduceTMod, a1, a2, h1, h2, rt_eq]
theorem r15 (a b c d : Int) (ha : I64 a) (hb : I64 b) (hc : I64 c) (hd : I64 d) (hp : Heap) : CL X G0 15 [.agg [.int .i64 a, .int .i64 b], .agg [.int .i64 c, .int .i64 d]] hp = some (.int .i64 (cmpR a b c d), hp) := by
  rw [CL_eq (fn := x15) rfl]
  have a1 := r33 a b ha hb
  have a2 := r33 c d hc hd
  unfold cmpR both
  by_cases h1 : mayR a b = true
  · by_cases h2 : mayR c d = true
    · have hb0 := may_pos h1
      have hd0 := may_pos h2
      have s1 := r31 a ha
      have s2 := r31 c hc
      have ub : u64 b = b.natAbs := by simp only [u64]; unfold I64 at hb; omega
      have ud : u64 d = d.natAbs := by simp only [u64]; unfold I64 at hd; omega
      have a3 := r34 a.natAbs d.natAbs (by unfold I64 at *; omega) (by unfold I64 at *; omega)
      have a5 := r34 c.natAbs b.natAbs (by unfold I64 at *; omega) (by unfold I64 at *; omega)
      have m1 : a.natAbs * d.natAbs ≤ 9223372036854775808 * 9223372036854775808 := Nat.mul_le_mul (by unfold I64 at *; omega) (by unfold I64 at *; omega)
      have m3 : c.natAbs * b.natAbs ≤ 9223372036854775808 * 9223372036854775808 := Nat.mul_le_mul (by unfold I64 at *; omega) (by unfold I64 at *; omega)
      have a6 := r35 (a.natAbs * d.natAbs) (c.natAbs * b.natAbs) (by omega) (by omega)
      have a7 := r35 (c.natAbs * b.natAbs) (a.natAbs * d.natAbs) (by omega) (by omega)
      simp (config := {contextual := true, maxSteps := 10000000, implicitDefEqProofs := false}) only [x15, go_sem, ↓reduceIte, reduceCtorEq, Nat.reduceEqDiff, Nat.reduceAdd, Nat.reduceLeDiff, Nat.reduceMul, Int.reduceEq, Int.reduceLT, Int.reduceLE, Int.reduceAdd, Int.reduceSub, Int.reduceMul, Int.reduceNeg, Int.reduceToNat, Int.reduceNe, Int.reduceBEq, Int.reduceBNe, Nat.reduceLT, Nat.reduceSub, Nat.reduceDiv, Nat.reduceMod, Int.reduceTDiv, Int.reduceTMod, big_map, big_len, big_all, big_cells, big_agg, big_load0, big_loadk, big_uf, big_free, big_drop1, big_shut, big_solid, big_put4, big_put, big_ret, ← big0, a1, a2, h1, h2, s1, s2, ub, ud, a3, a5, a6, a7, rt_eq]
      rw [mul_sgn a d hd0, mul_sgn c b hb0]
      have pa : a ≠ 0 → 0 < a.natAbs * d.natAbs := fun h => Nat.mul_pos (by omega) (by omega)
      have pc : c ≠ 0 → 0 < c.natAbs * b.natAbs := fun h => Nat.mul_pos (by omega) (by omega)
      have pa' : a = 0 → a.natAbs * d.natAbs = 0 := fun h => by subst h; simp
      have pc' : c = 0 → c.natAbs * b.natAbs = 0 := fun h => by subst h; simp
      generalize a.natAbs * d.natAbs = A at *
      generalize c.natAbs * b.natAbs = C at *
      repeat' split
      all_goals first | rfl | omega
    · simp (config := {contextual := true, maxSteps := 10000000, implicitDefEqProofs := false}) only [x15, go_sem, ↓reduceIte, reduceCtorEq, Nat.reduceEqDiff, Nat.reduceAdd, Nat.reduceLeDiff, Nat.reduceMul, Int.reduceEq, Int.reduceLT, Int.reduceLE, Int.reduceAdd, Int.reduceSub, Int.reduceMul, Int.reduceNeg, Int.reduceToNat, Int.reduceNe, Int.reduceBEq, Int.reduceBNe, Nat.reduceLT, Nat.reduceSub, Nat.reduceDiv, Nat.reduceMod, Int.reduceTDiv, Int.reduceTMod, a1, a2, h1, h2, rt_eq]
  · by_cases h2 : mayR c d = true
    · simp (config := {contextual := true, maxSteps := 10000000, implicitDefEqProofs := false}) only [x15, go_sem, ↓reduceIte, reduceCtorEq, Nat.reduceEqDiff, Nat.reduceAdd, Nat.reduceLeDiff, Nat.reduceMul, Int.reduceEq, Int.reduceLT, Int.reduceLE, Int.reduceAdd, Int.reduceSub, Int.reduceMul, Int.reduceNeg, Int.reduceToNat, Int.reduceNe, Int.reduceBEq, Int.reduceBNe, Nat.reduceLT, Nat.reduceSub, Nat.reduceDiv, Nat.reduceMod, Int.reduceTDiv, Int.reduceTMod, a1, a2, h1, h2, rt_eq]
    · simp (config := {contextual := true, maxSteps := 10000000, implicitDefEqProofs := false}) only [x15, go_sem, ↓reduceIte, reduceCtorEq, Nat.reduceEqDiff, Nat.reduceAdd, Nat.reduceLeDiff, Nat.reduceMul, Int.reduceEq, Int.reduceLT, Int.reduceLE, Int.reduceAdd, Int.reduceSub, Int.reduceMul, Int.reduceNeg, Int.reduceToNat, Int.reduceNe, Int.reduceBEq, Int.reduceBNe, Nat.reduceLT, Nat.reduceSub, Nat.reduceDiv, Nat.reduceMod, Int.reduceTDiv, Int.reduceTMod, a1, a2, h1, h2, rt_eq]
end Go.Proofs.Ytpfollpbkpgglaa.Sx.T
