/- Layer 1, part 17: the program's products and order. -/
import Derived.Test.YtpfollpbkpgglaaR16
set_option linter.unusedVariables false
set_option linter.unusedSimpArgs false
namespace Go.Proofs.Ytpfollpbkpgglaa.Sx.T
open Go Go.Proofs.Ytpfollpbkpgglaa.Sx
set_option maxRecDepth 100000
set_option maxHeartbeats 4000000
theorem sgn_mk (a c : Int) (D : Nat) : mk ((!(decide (a < 0) == decide (c < 0))) && decide (a.natAbs * c.natAbs ≠ 0)) (a.natAbs * c.natAbs) D = frc (a * c) D := by
  refine frc_int _ _ _ _ (Int.natAbs_mul a c).symm ?_
  rw [mul_sgn2]
  generalize a.natAbs * c.natAbs = A
  by_cases p1 : a < 0 <;> by_cases p2 : c < 0 <;> rw [Bool.eq_iff_iff] <;> simp [p1, p2] <;> omega
theorem r22 (a b c d : Int) (ha : I64 a) (hb : I64 b) (hc : I64 c) (hd : I64 d) (hp : Heap) : CL X G0 22 [.agg [.int .i64 a, .int .i64 b], .agg [.int .i64 c, .int .i64 d]] hp = some (rt (mulR a b c d), hp) := by
  rw [CL_eq (fn := x22) rfl]
  have a1 := r28 a b ha hb
  have a2 := r28 c d hc hd
  unfold mulR both
  by_cases h1 : mayR a b = true
  · by_cases h2 : mayR c d = true
    · have p1 := may_pos h1
      have p2 := may_pos h2
      have s1 := r27 a ha
      have s2 := r27 c hc
      have ub : u64 b = b.natAbs := by simp only [u64]; unfold I64 at hb; omega
      have ud : u64 d = d.natAbs := by simp only [u64]; unfold I64 at hd; omega
      have a3 := r39 a.natAbs b.natAbs c.natAbs d.natAbs (!(decide (a < 0) == decide (c < 0))) (by unfold I64 at ha; omega) (by unfold I64 at hb; omega) (by unfold I64 at hc; omega) (by unfold I64 at hd; omega) (by omega) (by omega) (may_gcd h1) (may_gcd h2)
      rw [sgn_mk] at a3
      simp (config := {contextual := true, maxSteps := 10000000, implicitDefEqProofs := false}) only [x22, go_sem, ↓reduceIte, reduceCtorEq, Nat.reduceEqDiff, Nat.reduceAdd, Nat.reduceLeDiff, Nat.reduceMul, Int.reduceEq, Int.reduceLT, Int.reduceLE, Int.reduceAdd, Int.reduceSub, Int.reduceMul, Int.reduceNeg, Int.reduceToNat, Int.reduceNe, Int.reduceBEq, Int.reduceBNe, Nat.reduceLT, Nat.reduceSub, Nat.reduceDiv, Nat.reduceMod, Int.reduceTDiv, Int.reduceTMod, a1, a2, h1, h2, s1, s2, ub, ud, a3, rt_eq]
    · simp (config := {contextual := true, maxSteps := 10000000, implicitDefEqProofs := false}) only [x22, go_sem, ↓reduceIte, reduceCtorEq, Nat.reduceEqDiff, Nat.reduceAdd, Nat.reduceLeDiff, Nat.reduceMul, Int.reduceEq, Int.reduceLT, Int.reduceLE, Int.reduceAdd, Int.reduceSub, Int.reduceMul, Int.reduceNeg, Int.reduceToNat, Int.reduceNe, Int.reduceBEq, Int.reduceBNe, Nat.reduceLT, Nat.reduceSub, Nat.reduceDiv, Nat.reduceMod, Int.reduceTDiv, Int.reduceTMod, a1, a2, h1, h2, rt_eq]
  · by_cases h2 : mayR c d = true
    · simp (config := {contextual := true, maxSteps := 10000000, implicitDefEqProofs := false}) only [x22, go_sem, ↓reduceIte, reduceCtorEq, Nat.reduceEqDiff, Nat.reduceAdd, Nat.reduceLeDiff, Nat.reduceMul, Int.reduceEq, Int.reduceLT, Int.reduceLE, Int.reduceAdd, Int.reduceSub, Int.reduceMul, Int.reduceNeg, Int.reduceToNat, Int.reduceNe, Int.reduceBEq, Int.reduceBNe, Nat.reduceLT, Nat.reduceSub, Nat.reduceDiv, Nat.reduceMod, Int.reduceTDiv, Int.reduceTMod, a1, a2, h1, h2, rt_eq]
    · simp (config := {contextual := true, maxSteps := 10000000, implicitDefEqProofs := false}) only [x22, go_sem, ↓reduceIte, reduceCtorEq, Nat.reduceEqDiff, Nat.reduceAdd, Nat.reduceLeDiff, Nat.reduceMul, Int.reduceEq, Int.reduceLT, Int.reduceLE, Int.reduceAdd, Int.reduceSub, Int.reduceMul, Int.reduceNeg, Int.reduceToNat, Int.reduceNe, Int.reduceBEq, Int.reduceBNe, Nat.reduceLT, Nat.reduceSub, Nat.reduceDiv, Nat.reduceMod, Int.reduceTDiv, Int.reduceTMod, a1, a2, h1, h2, rt_eq]
theorem may_zero {d : Int} (h : mayR 0 d = true) : d = 1 := by
  have := may_gcd h
  have := may_pos h
  simp at *
  omega
theorem r24 (a b c d : Int) (ha : I64 a) (hb : I64 b) (hc : I64 c) (hd : I64 d) (hp : Heap) : CL X G0 24 [.agg [.int .i64 a, .int .i64 b], .agg [.int .i64 c, .int .i64 d]] hp = some (rt (divR a b c d), hp) := by
  rw [CL_eq (fn := x24) rfl]
  have a1 := r28 a b ha hb
  have a2 := r28 c d hc hd
  unfold divR both
  by_cases h1 : mayR a b = true
  · by_cases h2 : mayR c d = true
    · by_cases h3 : c = 0
      · subst h3
        have e := may_zero h2
        subst e
        simp (config := {contextual := true, maxSteps := 10000000, implicitDefEqProofs := false}) only [x24, go_sem, ↓reduceIte, reduceCtorEq, Nat.reduceEqDiff, Nat.reduceAdd, Nat.reduceLeDiff, Nat.reduceMul, Int.reduceEq, Int.reduceLT, Int.reduceLE, Int.reduceAdd, Int.reduceSub, Int.reduceMul, Int.reduceNeg, Int.reduceToNat, Int.reduceNe, Int.reduceBEq, Int.reduceBNe, Nat.reduceLT, Nat.reduceSub, Nat.reduceDiv, Nat.reduceMod, Int.reduceTDiv, Int.reduceTMod, a1, a2, h1, h2, rt_eq]
      · have p1 := may_pos h1
        have p2 := may_pos h2
        have s1 := r27 a ha
        have s2 := r27 c hc
        have ub : u64 b = b.natAbs := by simp only [u64]; unfold I64 at hb; omega
        have ud : u64 d = d.natAbs := by simp only [u64]; unfold I64 at hd; omega
        have a3 := r39 a.natAbs b.natAbs d.natAbs c.natAbs (!(decide (a < 0) == decide (c < 0))) (by unfold I64 at ha; omega) (by unfold I64 at hb; omega) (by unfold I64 at hd; omega) (by unfold I64 at hc; omega) (by omega) (by omega) (may_gcd h1) (by rw [Nat.gcd_comm]; exact may_gcd h2)
        have e : mk ((!(decide (a < 0) == decide (c < 0))) && decide (a.natAbs * d.natAbs ≠ 0)) (a.natAbs * d.natAbs) (b.natAbs * c.natAbs) = frc (a * d * c.sign) (b.natAbs * c.natAbs) := by
          refine frc_int _ _ _ _ ?_ ?_
          · rw [Int.natAbs_mul, Int.natAbs_mul, Int.natAbs_sign_of_ne_zero h3, Nat.mul_one]
          · have pa' : a = 0 → a.natAbs * d.natAbs = 0 := fun h => by subst h; simp
            rw [mul_sgn a d p2]
            generalize a.natAbs * d.natAbs = A at *
            rcases Int.lt_trichotomy c 0 with h | h | h
            · rw [Int.sign_eq_neg_one_of_neg h, Int.mul_neg, Int.mul_one]
              by_cases p : a < 0 <;> rw [Bool.eq_iff_iff] <;> simp [p, h] <;> try omega
            · omega
            · rw [Int.sign_eq_one_of_pos h, Int.mul_one]
              by_cases p : a < 0 <;> rw [Bool.eq_iff_iff] <;> simp [p, show ¬ c < 0 by omega] <;> try omega
        rw [e] at a3
        simp (config := {contextual := true, maxSteps := 10000000, implicitDefEqProofs := false}) only [x24, go_sem, ↓reduceIte, reduceCtorEq, Nat.reduceEqDiff, Nat.reduceAdd, Nat.reduceLeDiff, Nat.reduceMul, Int.reduceEq, Int.reduceLT, Int.reduceLE, Int.reduceAdd, Int.reduceSub, Int.reduceMul, Int.reduceNeg, Int.reduceToNat, Int.reduceNe, Int.reduceBEq, Int.reduceBNe, Nat.reduceLT, Nat.reduceSub, Nat.reduceDiv, Nat.reduceMod, Int.reduceTDiv, Int.reduceTMod, a1, a2, h1, h2, h3, s1, s2, ub, ud, a3, rt_eq, false_and]
    · simp (config := {contextual := true, maxSteps := 10000000, implicitDefEqProofs := false}) only [x24, go_sem, ↓reduceIte, reduceCtorEq, Nat.reduceEqDiff, Nat.reduceAdd, Nat.reduceLeDiff, Nat.reduceMul, Int.reduceEq, Int.reduceLT, Int.reduceLE, Int.reduceAdd, Int.reduceSub, Int.reduceMul, Int.reduceNeg, Int.reduceToNat, Int.reduceNe, Int.reduceBEq, Int.reduceBNe, Nat.reduceLT, Nat.reduceSub, Nat.reduceDiv, Nat.reduceMod, Int.reduceTDiv, Int.reduceTMod, a1, a2, h1, h2, rt_eq]
  · by_cases h2 : mayR c d = true
    · simp (config := {contextual := true, maxSteps := 10000000, implicitDefEqProofs := false}) only [x24, go_sem, ↓reduceIte, reduceCtorEq, Nat.reduceEqDiff, Nat.reduceAdd, Nat.reduceLeDiff, Nat.reduceMul, Int.reduceEq, Int.reduceLT, Int.reduceLE, Int.reduceAdd, Int.reduceSub, Int.reduceMul, Int.reduceNeg, Int.reduceToNat, Int.reduceNe, Int.reduceBEq, Int.reduceBNe, Nat.reduceLT, Nat.reduceSub, Nat.reduceDiv, Nat.reduceMod, Int.reduceTDiv, Int.reduceTMod, a1, a2, h1, h2, rt_eq]
    · simp (config := {contextual := true, maxSteps := 10000000, implicitDefEqProofs := false}) only [x24, go_sem, ↓reduceIte, reduceCtorEq, Nat.reduceEqDiff, Nat.reduceAdd, Nat.reduceLeDiff, Nat.reduceMul, Int.reduceEq, Int.reduceLT, Int.reduceLE, Int.reduceAdd, Int.reduceSub, Int.reduceMul, Int.reduceNeg, Int.reduceToNat, Int.reduceNe, Int.reduceBEq, Int.reduceBNe, Nat.reduceLT, Nat.reduceSub, Nat.reduceDiv, Nat.reduceMod, Int.reduceTDiv, Int.reduceTMod, a1, a2, h1, h2, rt_eq]
theorem may_same {a b c d : Int} (h1 : mayR a b = true) (h2 : mayR c d = true) (h : a * d = c * b) : a = c ∧ b = d := by
  have p1 := may_pos h1
  have p2 := may_pos h2
  have g1 := may_gcd h1
  have g2 := may_gcd h2
  have e : a.natAbs * d.natAbs = c.natAbs * b.natAbs := by rw [← Int.natAbs_mul, ← Int.natAbs_mul, h]
  have d1 : b.natAbs ∣ d.natAbs := Nat.Coprime.dvd_of_dvd_mul_left (show Nat.Coprime b.natAbs a.natAbs from (Nat.gcd_comm _ _).trans g1) ⟨c.natAbs, by rw [e, Nat.mul_comm]⟩
  have d2 : d.natAbs ∣ b.natAbs := Nat.Coprime.dvd_of_dvd_mul_left (show Nat.Coprime d.natAbs c.natAbs from (Nat.gcd_comm _ _).trans g2) ⟨a.natAbs, by rw [← e, Nat.mul_comm]⟩
  have e2 : b.natAbs = d.natAbs := Nat.dvd_antisymm d1 d2
  have e3 : b = d := by omega
  subst e3
  exact ⟨Int.eq_of_mul_eq_mul_right (by omega) h, rfl⟩
theorem r17 (a b c d : Int) (ha : I64 a) (hb : I64 b) (hc : I64 c) (hd : I64 d) (hp : Heap) : CL X G0 17 [.agg [.int .i64 a, .int .i64 b], .agg [.int .i64 c, .int .i64 d]] hp = some (.int .i64 (cmpR a b c d), hp) := by
  rw [CL_eq (fn := x17) rfl]
  have a1 := r28 a b ha hb
  have a2 := r28 c d hc hd
  unfold cmpR both
  by_cases h1 : mayR a b = true
  · by_cases h2 : mayR c d = true
    · by_cases h3 : a = c ∧ b = d
      · obtain ⟨rfl, rfl⟩ := h3
        simp (config := {contextual := true, maxSteps := 10000000, implicitDefEqProofs := false}) only [x17, go_sem, ↓reduceIte, reduceCtorEq, Nat.reduceEqDiff, Nat.reduceAdd, Nat.reduceLeDiff, Nat.reduceMul, Int.reduceEq, Int.reduceLT, Int.reduceLE, Int.reduceAdd, Int.reduceSub, Int.reduceMul, Int.reduceNeg, Int.reduceToNat, Int.reduceNe, Int.reduceBEq, Int.reduceBNe, Nat.reduceLT, Nat.reduceSub, Nat.reduceDiv, Nat.reduceMod, Int.reduceTDiv, Int.reduceTMod, a1, a2, h1, h2, Int.lt_irrefl]
      · have p1 := may_pos h1
        have p2 := may_pos h2
        have nb : (b < 0) = False := eq_false (by omega)
        have nd : (d < 0) = False := eq_false (by omega)
        have h36a : ∀ hp, CL X G0 36 [.int .i64 a, .int .i64 d] hp = some (W (a.natAbs * d.natAbs) (decide (a < 0)), hp) := fun hp => by
          rw [r36 a d ha hd]; simp only [nd, decide_false, Bool.bne_false]
        have h36c : ∀ hp, CL X G0 36 [.int .i64 c, .int .i64 b] hp = some (W (c.natAbs * b.natAbs) (decide (c < 0)), hp) := fun hp => by
          rw [r36 c b hc hb]; simp only [nb, decide_false, Bool.bne_false]
        have m1 : a.natAbs * d.natAbs ≤ 9223372036854775808 * 9223372036854775807 := Nat.mul_le_mul (by unfold I64 at *; omega) (by unfold I64 at *; omega)
        have m2 : c.natAbs * b.natAbs ≤ 9223372036854775808 * 9223372036854775807 := Nat.mul_le_mul (by unfold I64 at *; omega) (by unfold I64 at *; omega)
        obtain ⟨tn, tf, h37, lt, hT⟩ := sum_w (a.natAbs * d.natAbs) (c.natAbs * b.natAbs) (decide (a < 0)) (!decide (c < 0)) (by omega) (by omega)
        have ne : a * d ≠ c * b := fun h => h3 (may_same h1 h2 h)
        have eT : sv tf tn = a * d - c * b := by
          rw [hT, mul_sgn a d p2, mul_sgn c b p1]
          by_cases q1 : a < 0 <;> by_cases q2 : c < 0 <;> simp [sv, q1, q2] <;> omega
        have h3' : ((a == c) && (b == d)) = false := by
          apply Bool.eq_false_iff.2
          intro h
          simp only [Bool.and_eq_true, beq_iff_eq] at h
          exact h3 h
        simp only [W] at h36a h36c h37
        cases tf
        · have l1 : ¬ a * d < c * b := by simp [sv] at eT; omega
          have l2 : c * b < a * d := by simp [sv] at eT; omega
          simp (config := {contextual := true, maxSteps := 10000000, implicitDefEqProofs := false}) only [x17, go_sem, ↓reduceIte, reduceCtorEq, Nat.reduceEqDiff, Nat.reduceAdd, Nat.reduceLeDiff, Nat.reduceMul, Int.reduceEq, Int.reduceLT, Int.reduceLE, Int.reduceAdd, Int.reduceSub, Int.reduceMul, Int.reduceNeg, Int.reduceToNat, Int.reduceNe, Int.reduceBEq, Int.reduceBNe, Nat.reduceLT, Nat.reduceSub, Nat.reduceDiv, Nat.reduceMod, Int.reduceTDiv, Int.reduceTMod, a1, a2, h1, h2, h3', h36a, h36c, h37, l1, l2]
        · have l1 : a * d < c * b := by simp [sv] at eT; omega
          simp (config := {contextual := true, maxSteps := 10000000, implicitDefEqProofs := false}) only [x17, go_sem, ↓reduceIte, reduceCtorEq, Nat.reduceEqDiff, Nat.reduceAdd, Nat.reduceLeDiff, Nat.reduceMul, Int.reduceEq, Int.reduceLT, Int.reduceLE, Int.reduceAdd, Int.reduceSub, Int.reduceMul, Int.reduceNeg, Int.reduceToNat, Int.reduceNe, Int.reduceBEq, Int.reduceBNe, Nat.reduceLT, Nat.reduceSub, Nat.reduceDiv, Nat.reduceMod, Int.reduceTDiv, Int.reduceTMod, a1, a2, h1, h2, h3', h36a, h36c, h37, l1]
    · simp (config := {contextual := true, maxSteps := 10000000, implicitDefEqProofs := false}) only [x17, go_sem, ↓reduceIte, reduceCtorEq, Nat.reduceEqDiff, Nat.reduceAdd, Nat.reduceLeDiff, Nat.reduceMul, Int.reduceEq, Int.reduceLT, Int.reduceLE, Int.reduceAdd, Int.reduceSub, Int.reduceMul, Int.reduceNeg, Int.reduceToNat, Int.reduceNe, Int.reduceBEq, Int.reduceBNe, Nat.reduceLT, Nat.reduceSub, Nat.reduceDiv, Nat.reduceMod, Int.reduceTDiv, Int.reduceTMod, a1, a2, h1, h2]
  · by_cases h2 : mayR c d = true
    · simp (config := {contextual := true, maxSteps := 10000000, implicitDefEqProofs := false}) only [x17, go_sem, ↓reduceIte, reduceCtorEq, Nat.reduceEqDiff, Nat.reduceAdd, Nat.reduceLeDiff, Nat.reduceMul, Int.reduceEq, Int.reduceLT, Int.reduceLE, Int.reduceAdd, Int.reduceSub, Int.reduceMul, Int.reduceNeg, Int.reduceToNat, Int.reduceNe, Int.reduceBEq, Int.reduceBNe, Nat.reduceLT, Nat.reduceSub, Nat.reduceDiv, Nat.reduceMod, Int.reduceTDiv, Int.reduceTMod, a1, a2, h1, h2]
    · simp (config := {contextual := true, maxSteps := 10000000, implicitDefEqProofs := false}) only [x17, go_sem, ↓reduceIte, reduceCtorEq, Nat.reduceEqDiff, Nat.reduceAdd, Nat.reduceLeDiff, Nat.reduceMul, Int.reduceEq, Int.reduceLT, Int.reduceLE, Int.reduceAdd, Int.reduceSub, Int.reduceMul, Int.reduceNeg, Int.reduceToNat, Int.reduceNe, Int.reduceBEq, Int.reduceBNe, Nat.reduceLT, Nat.reduceSub, Nat.reduceDiv, Nat.reduceMod, Int.reduceTDiv, Int.reduceTMod, a1, a2, h1, h2]
end Go.Proofs.Ytpfollpbkpgglaa.Sx.T
