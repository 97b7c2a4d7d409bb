/- Layer 1, part 9: the program's functions of whole numbers of 128 bits. -/
import Derived.Test.YtpfollpbkpgglaaR8
set_option linter.unusedVariables false
set_option linter.unusedSimpArgs false
namespace Go.Proofs.Ytpfollpbkpgglaa.Sx.T
open Go Go.Proofs.Ytpfollpbkpgglaa.Sx
set_option maxRecDepth 100000
set_option maxHeartbeats 4000000
theorem r28 (n d : Int) (hn : I64 n) (hd : I64 d) (hp : Heap) : CL X G0 28 [.agg [.int .i64 n, .int .i64 d]] hp = some (.bool (mayR n d), hp) := by
  rw [CL_eq (fn := x28) rfl]
  have a1 := r27 n hn
  by_cases h : 0 < d
  · have ud : u64 d = d.natAbs := by simp only [u64]; unfold I64 at hd; omega
    simp (config := {contextual := true, maxSteps := 10000000, implicitDefEqProofs := false}) only [x28, go_sem, ↓reduceIte, reduceCtorEq, Nat.reduceEqDiff, Nat.reduceAdd, Nat.reduceLeDiff, Nat.reduceMul, Int.reduceEq, Int.reduceLT, Int.reduceLE, Int.reduceAdd, Int.reduceSub, Int.reduceMul, Int.reduceNeg, Int.reduceToNat, Int.reduceNe, Int.reduceBEq, Int.reduceBNe, Nat.reduceLT, Nat.reduceSub, Nat.reduceDiv, Nat.reduceMod, Int.reduceTDiv, Int.reduceTMod, a1, r26, h, ud]
    unfold mayR
    congr 3
    rw [Bool.eq_iff_iff]
    simp [h]
    omega
  · simp (config := {contextual := true, maxSteps := 10000000, implicitDefEqProofs := false}) only [x28, go_sem, ↓reduceIte, reduceCtorEq, Nat.reduceEqDiff, Nat.reduceAdd, Nat.reduceLeDiff, Nat.reduceMul, Int.reduceEq, Int.reduceLT, Int.reduceLE, Int.reduceAdd, Int.reduceSub, Int.reduceMul, Int.reduceNeg, Int.reduceToNat, Int.reduceNe, Int.reduceBEq, Int.reduceBNe, Nat.reduceLT, Nat.reduceSub, Nat.reduceDiv, Nat.reduceMod, Int.reduceTDiv, Int.reduceTMod, a1, r26, h, mayR, false_and]
/-- What the compiled code compares, told. -/
theorem tell_lt (q k : Nat) (h : q ≤ k) : ((k : Int) < (q : Int)) = False := by simp; omega
theorem r10 (n d : Int) (hn : I64 n) (hd : I64 d) (hp : Heap) : CL X G0 10 [.int .i64 n, .int .i64 d] hp = some (rt (ofR n d), hp) := by
  rw [CL_eq (fn := x10) rfl]
  have a1 := r27 n hn
  have a2 := r27 d hd
  by_cases h0 : d = 0
  · subst h0
    simp (config := {contextual := true, maxSteps := 10000000, implicitDefEqProofs := false}) only [x10, go_sem, ↓reduceIte, reduceCtorEq, Nat.reduceEqDiff, Nat.reduceAdd, Nat.reduceLeDiff, Nat.reduceMul, Int.reduceEq, Int.reduceLT, Int.reduceLE, Int.reduceAdd, Int.reduceSub, Int.reduceMul, Int.reduceNeg, Int.reduceToNat, Int.reduceNe, Int.reduceBEq, Int.reduceBNe, Nat.reduceLT, Nat.reduceSub, Nat.reduceDiv, Nat.reduceMod, Int.reduceTDiv, Int.reduceTMod, a1, a2, r26]
    rfl
  · have hg : Nat.gcd n.natAbs d.natAbs ≠ 0 := Nat.ne_of_gt (Nat.gcd_pos_of_pos_right _ (by omega))
    rw [← ofR_mk n d h0]
    obtain ⟨P, hP⟩ : ∃ P, n.natAbs / Nat.gcd n.natAbs d.natAbs = P := ⟨_, rfl⟩
    obtain ⟨Q, hQ⟩ : ∃ Q, d.natAbs / Nat.gcd n.natAbs d.natAbs = Q := ⟨_, rfl⟩
    have lP : P ≤ 9223372036854775808 := by rw [← hP]; exact Nat.le_trans (Nat.div_le_self _ _) (by unfold I64 at hn; omega)
    have lQ : Q ≤ 9223372036854775808 := by rw [← hQ]; exact Nat.le_trans (Nat.div_le_self _ _) (by unfold I64 at hd; omega)
    have mP : P % 18446744073709551616 = P := by omega
    have mQ : Q % 18446744073709551616 = Q := by omega
    unfold mk
    generalize hb : (if ¬n = 0 then !decide (n < 0) == decide (d < 0) else false) = b
    rw [bite_f] at hb
    simp only [decide_not] at hb
    have t0 : ((9223372036854775808 : Int) < (P : Int)) = False := by simp; omega
    have t0' : ¬ 9223372036854775808 < P := by omega
    by_cases h1 : 9223372036854775808 ≤ Q
    · have t1 : ((9223372036854775807 : Int) < (Q : Int)) = True := by simp; omega
      simp (config := {contextual := true, maxSteps := 10000000, implicitDefEqProofs := false}) only [x10, go_sem, ↓reduceIte, reduceCtorEq, Nat.reduceEqDiff, Nat.reduceAdd, Nat.reduceLeDiff, Nat.reduceMul, Int.reduceEq, Int.reduceLT, Int.reduceLE, Int.reduceAdd, Int.reduceSub, Int.reduceMul, Int.reduceNeg, Int.reduceToNat, Int.reduceNe, Int.reduceBEq, Int.reduceBNe, Nat.reduceLT, Nat.reduceSub, Nat.reduceDiv, Nat.reduceMod, Int.reduceTDiv, Int.reduceTMod, a1, a2, r26, h0, hg, hP, hQ, mP, mQ, t0, t1, h1, true_or, hb]
      rfl
    · have t1 : ((9223372036854775807 : Int) < (Q : Int)) = False := by simp; omega
      have e2 : wr .i64 (Q : Int) = (Q : Int) := wr_i64 _ (by omega)
      have e3 := neg_back P (by omega)
      by_cases h2 : P = 9223372036854775808
      · have t2 : ((P : Int) = (9223372036854775808 : Int)) = True := by simp; omega
        have t2' : (P = 9223372036854775808) = True := by simp [h2]
        simp (config := {contextual := true, maxSteps := 10000000, implicitDefEqProofs := false}) only [x10, go_sem, ↓reduceIte, reduceCtorEq, Nat.reduceEqDiff, Nat.reduceAdd, Nat.reduceLeDiff, Nat.reduceMul, Int.reduceEq, Int.reduceLT, Int.reduceLE, Int.reduceAdd, Int.reduceSub, Int.reduceMul, Int.reduceNeg, Int.reduceToNat, Int.reduceNe, Int.reduceBEq, Int.reduceBNe, Nat.reduceLT, Nat.reduceSub, Nat.reduceDiv, Nat.reduceMod, Int.reduceTDiv, Int.reduceTMod, a1, a2, r26, h0, hg, hP, hQ, mP, mQ, t0, t0', t1, t2, t2', h1, true_or, false_or, hb, e2, e3]
        cases b <;> simp_all [rt]
      · have t2 : ((P : Int) = (9223372036854775808 : Int)) = False := by simp; omega
        have e4 : wr .i64 (P : Int) = (P : Int) := wr_i64 _ (by omega)
        simp (config := {contextual := true, maxSteps := 10000000, implicitDefEqProofs := false}) only [x10, go_sem, ↓reduceIte, reduceCtorEq, Nat.reduceEqDiff, Nat.reduceAdd, Nat.reduceLeDiff, Nat.reduceMul, Int.reduceEq, Int.reduceLT, Int.reduceLE, Int.reduceAdd, Int.reduceSub, Int.reduceMul, Int.reduceNeg, Int.reduceToNat, Int.reduceNe, Int.reduceBEq, Int.reduceBNe, Nat.reduceLT, Nat.reduceSub, Nat.reduceDiv, Nat.reduceMod, Int.reduceTDiv, Int.reduceTMod, a1, a2, r26, h0, hg, hP, hQ, mP, mQ, t0, t0', t1, t2, h1, h2, true_or, false_or, false_and, hb, e2, e3, e4]
        cases b <;> simp_all [rt]
theorem min_32 : min 32 64 = 32 := rfl
theorem stepB (s : Nat) (hs : s ≤ 18446744073709551615) : ∃ c d, s / 4294967296 = c ∧ s % 4294967296 = d ∧ d < 4294967296 ∧ s = d + 4294967296 * c ∧ c ≤ 4294967295 ∧ c % 18446744073709551616 = c ∧ d % 18446744073709551616 = d ∧ s % 18446744073709551616 = s :=
  ⟨_, _, rfl, rfl, Nat.mod_lt _ (by omega), by omega, by omega, by omega, by omega, by omega⟩
theorem mul_digs (x0 x1 y0 y1 : Nat) : (x0 + 4294967296 * x1) * (y0 + 4294967296 * y1) = x0 * y0 + 4294967296 * (x0 * y1 + x1 * y0) + 18446744073709551616 * (x1 * y1) := by
  rw [Nat.add_mul, Nat.mul_add, Nat.mul_add]
  have p1 : x0 * (4294967296 * y1) = 4294967296 * (x0 * y1) := Nat.mul_left_comm _ _ _
  have p2 : 4294967296 * x1 * y0 = 4294967296 * (x1 * y0) := Nat.mul_assoc _ _ _
  have p3 : 4294967296 * x1 * (4294967296 * y1) = 18446744073709551616 * (x1 * y1) := by
    rw [Nat.mul_assoc, Nat.mul_left_comm x1, ← Nat.mul_assoc]
  rw [p1, p2, p3, Nat.mul_add]
  omega
theorem r42 (a b : Nat) (ha : a < 18446744073709551616) (hb : b < 18446744073709551616) (hp : Heap) : CL X G0 42 [.int .u64 a, .int .u64 b] hp = some (.tup [.int .u64 (a * b / 18446744073709551616 : Nat), .int .u64 (a * b % 18446744073709551616 : Nat)], hp) := by
  rw [CL_eq (fn := x42) rfl]
  simp (config := {contextual := true, maxSteps := 10000000, implicitDefEqProofs := false}) only [x42, go_sem, ↓reduceIte, reduceCtorEq, Nat.reduceEqDiff, Nat.reduceAdd, Nat.reduceLeDiff, Nat.reduceMul, Int.reduceEq, Int.reduceLT, Int.reduceLE, Int.reduceAdd, Int.reduceSub, Int.reduceMul, Int.reduceNeg, Int.reduceToNat, Int.reduceNe, Int.reduceBEq, Int.reduceBNe, Nat.reduceLT, Nat.reduceSub, Nat.reduceDiv, Nat.reduceMod, Int.reduceTDiv, Int.reduceTMod, min_32, Nat.reducePow, Nat.mod_mod]
  obtain ⟨x1, x0, u1, u2, bx, ex, gx, mx1, mx2, mx3⟩ := stepB a (by omega)
  obtain ⟨y1, y0, v1, v2, bY, ey, gy, my1, my2, my3⟩ := stepB b (by omega)
  simp only [u1, u2, v1, v2, mx1, mx2, my1, my2]
  rw [ex, ey, mul_digs]
  have q00 := mul_bound x0 y0 bx bY
  have q01 := mul_bound x0 y1 bx (by omega)
  have q10 := mul_bound x1 y0 (by omega) bY
  have q11 := mul_bound x1 y1 (by omega) (by omega)
  generalize x0 * y0 = p00 at *
  generalize x0 * y1 = p01 at *
  generalize x1 * y0 = p10 at *
  generalize x1 * y1 = p11 at *
  clear ex ey u1 u2 v1 v2 mx1 mx2 my1 my2 mx3 my3
  simp only [Nat.mod_eq_of_lt (show p00 < 18446744073709551616 by omega), Nat.mod_eq_of_lt (show p01 < 18446744073709551616 by omega), Nat.mod_eq_of_lt (show p10 < 18446744073709551616 by omega), Nat.mod_eq_of_lt (show p11 < 18446744073709551616 by omega)]
  obtain ⟨c1, d1, u1, u2, b1, e1, g1, m1, m2, m3⟩ := stepB p00 (by omega)
  simp only [u1]
  obtain ⟨c2, d2, u1, u2, b2, e2, g2, m1, m2, m3⟩ := stepB (p10 + c1) (by omega)
  simp only [u1, u2, m1, m2, m3]
  obtain ⟨c3, d3, u1, u2, b3, e3, g3, m1, m2, m3⟩ := stepB (d2 + p01) (by omega)
  simp only [u1, u2, m1, m2, m3, Nat.mod_eq_of_lt (show p11 + c2 < 18446744073709551616 by omega)]
  have t : p00 + 4294967296 * (p01 + p10) + 18446744073709551616 * p11 = (d1 + 4294967296 * d3) + 18446744073709551616 * (p11 + c2 + c3) := by omega
  rw [t, Nat.add_mul_div_left _ _ (by omega), Nat.div_eq_of_lt (show d1 + 4294967296 * d3 < 18446744073709551616 by omega), Nat.zero_add]
  have t2 : (p11 + c2 + c3) % 18446744073709551616 = p11 + c2 + c3 := Nat.mod_eq_of_lt (by omega)
  rw [t2]
end Go.Proofs.Ytpfollpbkpgglaa.Sx.T
