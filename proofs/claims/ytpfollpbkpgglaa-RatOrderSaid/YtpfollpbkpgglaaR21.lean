/- Layer 1, part 21: order. -/
import Derived.Test.YtpfollpbkpgglaaR20
set_option linter.unusedVariables false
set_option linter.unusedSimpArgs false
namespace Go.Proofs.Ytpfollpbkpgglaa.Sx.T
open Go Go.Proofs.Ytpfollpbkpgglaa.Sx
set_option maxRecDepth 100000
set_option maxHeartbeats 40000000
def sg (x : Int) : Int := if x < 0 then -1 else if 0 < x then 1 else 0
theorem cmp_sg {a b c d : Int} (h1 : mayR a b = true) (h2 : mayR c d = true) : cmpR a b c d = sg (a * d - c * b) := by
  unfold cmpR sg
  rw [if_pos (both_of h1 h2)]
  repeat' split
  all_goals first | rfl | omega
theorem sg_pos (k x y : Int) (hk : 0 < k) (h : k * x = y) : sg y = sg x := by
  subst h
  unfold sg
  have e1 : k * x < 0 ↔ x < 0 := by
    constructor
    · intro h
      refine Int.lt_of_not_ge fun hge => ?_
      have := Int.mul_nonneg (Int.le_of_lt hk) hge
      omega
    · exact fun h => Int.mul_neg_of_pos_of_neg hk h
  have e2 : 0 < k * x ↔ 0 < x := by
    constructor
    · intro h
      refine Int.lt_of_not_ge fun hge => ?_
      have := Int.mul_nonpos_of_nonneg_of_nonpos (Int.le_of_lt hk) hge
      omega
    · exact fun h => Int.mul_pos hk h
  by_cases h1 : x < 0
  · rw [if_pos h1, if_pos (e1.2 h1)]
  · rw [if_neg h1, if_neg (fun h => h1 (e1.1 h))]
    by_cases h2 : 0 < x
    · rw [if_pos h2, if_pos (e2.2 h2)]
    · rw [if_neg h2, if_neg (fun h => h2 (e2.1 h))]
theorem sg_neg (x : Int) : sg (-x) = -sg x := by
  unfold sg
  repeat' split
  all_goals first | rfl | omega
theorem sg_zero (x : Int) : sg x = 0 ↔ x = 0 := by
  unfold sg
  repeat' split
  all_goals omega
theorem sg_le (x : Int) : sg x ≤ 0 ↔ x ≤ 0 := by
  unfold sg
  repeat' split
  all_goals omega
theorem sg_range (x : Int) : -1 ≤ sg x ∧ sg x ≤ 1 := by
  unfold sg
  repeat' split
  all_goals omega
/-- Being less goes on. -/
theorem on_law {a b c d e f : Int} (hb : 0 < b) (hd : 0 < d) (hf : 0 < f) (h1 : a * d - c * b ≤ 0) (h2 : c * f - e * d ≤ 0) :
    a * f - e * b ≤ 0 ∧ (a * f - e * b = 0 ↔ (a * d - c * b = 0 ∧ c * f - e * d = 0)) := by
  have k1 : d * (a * f - e * b) = f * (a * d - c * b) + b * (c * f - e * d) := by grind
  have n1 : f * (a * d - c * b) ≤ 0 := Int.mul_nonpos_of_nonneg_of_nonpos (Int.le_of_lt hf) h1
  have n2 : b * (c * f - e * d) ≤ 0 := Int.mul_nonpos_of_nonneg_of_nonpos (Int.le_of_lt hb) h2
  have s0 := sg_pos d (a * f - e * b) _ hd rfl
  have s1 := sg_pos f (a * d - c * b) _ hf rfl
  have s2 := sg_pos b (c * f - e * d) _ hb rfl
  rw [k1] at s0
  constructor
  · rw [← sg_le, ← s0, sg_le]
    omega
  · rw [← sg_zero, ← sg_zero (a * d - c * b), ← sg_zero (c * f - e * d), ← s0, ← s1, ← s2, sg_zero, sg_zero, sg_zero]
    omega
theorem same_law {a b c d : Int} (h1 : mayR a b = true) (h2 : mayR c d = true) : (a * d - c * b = 0) ↔ (a = c ∧ b = d) := by
  constructor
  · intro h
    exact may_same h1 h2 (by omega)
  · rintro ⟨rfl, rfl⟩
    omega
theorem frc_sign {T : Int} {D : Nat} (hD : 0 < D) {s t : Int} (h : frc T D = (s, t, 0)) : sg s = sg T := by
  obtain ⟨m, _, _, e⟩ := frc_may hD h
  have t0 := may_pos m
  have a1 := sg_pos D s (s * D) (by omega) (by rw [Int.mul_comm])
  have a2 := sg_pos t T (T * t) t0 (by rw [Int.mul_comm])
  rw [← a1, e, a2]
/-- Order stays behind adding the same. -/
theorem add_order {a b c d e f s t u v : Int} (hb : 0 < b) (hd : 0 < d) (hf : 0 < f) (ht : 0 < t) (hv : 0 < v)
    (h1 : s * (b * f) = (a * f + e * b) * t) (h2 : u * (d * f) = (c * f + e * d) * v) : sg (s * v - u * t) = sg (a * d - c * b) := by
  have k : (b * f) * (d * f) * (s * v - u * t) = (t * v * (f * f)) * (a * d - c * b) := by grind
  have p1 : 0 < (b * f) * (d * f) := Int.mul_pos (Int.mul_pos hb hf) (Int.mul_pos hd hf)
  have p2 : 0 < t * v * (f * f) := Int.mul_pos (Int.mul_pos ht hv) (Int.mul_pos hf hf)
  rw [← sg_pos _ _ _ p1 rfl, k, sg_pos _ _ _ p2 rfl]
theorem r7 (a b c d e f : Int) (ha : I64 a) (hb : I64 b) (hc : I64 c) (hd : I64 d) (he : I64 e) (hf : I64 f) (hp : Heap) :
    CL X G0 7 [.agg [.int .i64 a, .int .i64 b], .agg [.int .i64 c, .int .i64 d], .agg [.int .i64 e, .int .i64 f]] hp = some (.bool true, hp) := by
  rw [CL_eq (fn := x7) rfl]
  have s1 := r21 a b ha hb
  have s2 := r21 c d hc hd
  have s3 := r21 e f he hf
  have p1 := r17 a b c d ha hb hc hd
  by_cases h1 : mayR a b = true
  · by_cases h2 : mayR c d = true
    · by_cases h3 : mayR e f = true
      · have b0 := may_pos h1
        have d0 := may_pos h2
        have f0 := may_pos h3
        have p2 := r17 c d e f hc hd he hf
        have p3 := r17 a b e f ha hb he hf
        have p4 := r17 c d a b hc hd ha hb
        have q1 := r19 a b c d ha hb hc hd
        have q2 := r11 a b e f ha hb he hf
        have q3 := r11 c d e f hc hd he hf
        rw [cmp_sg h1 h2] at p1
        rw [cmp_sg h2 h3] at p2
        rw [cmp_sg h1 h3] at p3
        rw [cmp_sg h2 h1, show c * b - a * d = -(a * d - c * b) by omega, sg_neg] at p4
        obtain ⟨ab, hab⟩ : ∃ x, sg (a * d - c * b) = x := ⟨_, rfl⟩
        obtain ⟨bc, hbc⟩ : ∃ x, sg (c * f - e * d) = x := ⟨_, rfl⟩
        obtain ⟨ac, hac⟩ : ∃ x, sg (a * f - e * b) = x := ⟨_, rfl⟩
        have r0 := sg_range (a * d - c * b)
        have wab : wr .i64 (-ab) = -ab := wr_i64 _ (by omega)
        have eqv : (ab = 0) ↔ (a = c ∧ b = d) := by rw [← hab, sg_zero, same_law h1 h2]
        have onn : ¬ 0 < ab → ¬ 0 < bc → ac ≤ 0 ∧ (ac = 0 ↔ (ab = 0 ∧ bc = 0)) := by
          intro n1 n2
          have := on_law b0 d0 f0 ((sg_le _).1 (show sg (a * d - c * b) ≤ 0 by omega)) ((sg_le _).1 (show sg (c * f - e * d) ≤ 0 by omega))
          rw [← sg_le, ← sg_zero, ← sg_zero (a * d - c * b), ← sg_zero (c * f - e * d), hab, hbc, hac] at this
          exact this
        rw [hab] at p1 p4 r0
        rw [hbc] at p2
        rw [hac] at p3
        rw [sub_may h1 h2] at q1
        rw [add_may h1 h3] at q2
        rw [add_may h2 h3] at q3
        rcases k1 : frc (a * d + -(c * b)) (b.natAbs * d.natAbs) with ⟨u, v, g⟩
        rcases k2 : frc (a * f + e * b) (b.natAbs * f.natAbs) with ⟨s, t, k⟩
        rcases k3 : frc (c * f + e * d) (d.natAbs * f.natAbs) with ⟨p, q, l⟩
        rw [k1] at q1
        rw [k2] at q2
        rw [k3] at q3
        have sgn : g = 0 → (0 < u ↔ 0 < ab) ∧ (u < 0 ↔ ab < 0) := by
          intro hg
          subst hg
          have := frc_sign (dpos b0 d0) k1
          rw [show a * d + -(c * b) = a * d - c * b by omega, hab] at this
          rw [← this]
          unfold sg
          constructor <;> (repeat' split) <;> omega
        have bth : k = 0 → l = 0 → ∀ hp, CL X G0 17 [.agg [.int .i64 s, .int .i64 t], .agg [.int .i64 p, .int .i64 q]] hp = some (.int .i64 ab, hp) := by
          intro hk hl hp
          subst hk hl
          obtain ⟨m1, i1, i2, e1⟩ := frc_may (dpos b0 f0) k2
          obtain ⟨m2, j1, j2, e2⟩ := frc_may (dpos d0 f0) k3
          rw [dcast b0 f0] at e1
          rw [dcast d0 f0] at e2
          rw [r17 s t p q i1 i2 j1 j2, cmp_sg m1 m2, add_order b0 d0 f0 (may_pos m1) (may_pos m2) e1 e2, hab]
        clear r0 wab
        have ab3 : ab = -1 ∨ ab = 0 ∨ ab = 1 := by have := sg_range (a * d - c * b); omega
        have bc3 : bc = -1 ∨ bc = 0 ∨ bc = 1 := by have := sg_range (c * f - e * d); omega
        have ac3 : ac = -1 ∨ ac = 0 ∨ ac = 1 := by have := sg_range (a * f - e * b); omega
        clear hab hbc hac k1 k2 k3
        rcases ab3 with rfl | rfl | rfl
        · skip
          have en : ((a == c) && (b == d)) = false := by
            apply Bool.eq_false_iff.2
            intro h
            simp only [Bool.and_eq_true, beq_iff_eq] at h
            exact absurd (eqv.2 h) (by omega)
          rcases bc3 with rfl | rfl | rfl
          · skip
            obtain rfl : ac = -1 := by have := onn (by omega) (by omega); omega
            by_cases hg : g = 0
            · obtain ⟨z1, z2⟩ := sgn hg
              have v1 : (0 < u) = False := eq_false (by omega)
              have v2 : (u < 0) = True := eq_true (by omega)
              subst hg
              by_cases hk : k = 0
              · by_cases hl : l = 0
                · have y1 := bth hk hl
                  subst hk hl
                  simp (config := {contextual := true, maxSteps := 10000000, implicitDefEqProofs := false}) only [x7, go_sem, ↓reduceIte, reduceCtorEq, Nat.reduceEqDiff, Nat.reduceAdd, Nat.reduceLeDiff, Nat.reduceMul, Int.reduceEq, Int.reduceLT, Int.reduceLE, Int.reduceAdd, Int.reduceSub, Int.reduceMul, Int.reduceNeg, Int.reduceToNat, Int.reduceNe, Int.reduceBEq, Int.reduceBNe, Nat.reduceLT, Nat.reduceSub, Nat.reduceDiv, Nat.reduceMod, Int.reduceTDiv, Int.reduceTMod, s1, s2, s3, h1, h2, h3, p1, p2, p3, p4, q1, q2, q3, r12, rt_eq, false_and, v1, v2, en, y1]
                · subst hk
                  simp (config := {contextual := true, maxSteps := 10000000, implicitDefEqProofs := false}) only [x7, go_sem, ↓reduceIte, reduceCtorEq, Nat.reduceEqDiff, Nat.reduceAdd, Nat.reduceLeDiff, Nat.reduceMul, Int.reduceEq, Int.reduceLT, Int.reduceLE, Int.reduceAdd, Int.reduceSub, Int.reduceMul, Int.reduceNeg, Int.reduceToNat, Int.reduceNe, Int.reduceBEq, Int.reduceBNe, Nat.reduceLT, Nat.reduceSub, Nat.reduceDiv, Nat.reduceMod, Int.reduceTDiv, Int.reduceTMod, s1, s2, s3, h1, h2, h3, p1, p2, p3, p4, q1, q2, q3, r12, rt_eq, false_and, v1, v2, en, hl]
              · simp (config := {contextual := true, maxSteps := 10000000, implicitDefEqProofs := false}) only [x7, go_sem, ↓reduceIte, reduceCtorEq, Nat.reduceEqDiff, Nat.reduceAdd, Nat.reduceLeDiff, Nat.reduceMul, Int.reduceEq, Int.reduceLT, Int.reduceLE, Int.reduceAdd, Int.reduceSub, Int.reduceMul, Int.reduceNeg, Int.reduceToNat, Int.reduceNe, Int.reduceBEq, Int.reduceBNe, Nat.reduceLT, Nat.reduceSub, Nat.reduceDiv, Nat.reduceMod, Int.reduceTDiv, Int.reduceTMod, s1, s2, s3, h1, h2, h3, p1, p2, p3, p4, q1, q2, q3, r12, rt_eq, false_and, v1, v2, en, hk]
            · skip
              by_cases hk : k = 0
              · by_cases hl : l = 0
                · have y1 := bth hk hl
                  subst hk hl
                  simp (config := {contextual := true, maxSteps := 10000000, implicitDefEqProofs := false}) only [x7, go_sem, ↓reduceIte, reduceCtorEq, Nat.reduceEqDiff, Nat.reduceAdd, Nat.reduceLeDiff, Nat.reduceMul, Int.reduceEq, Int.reduceLT, Int.reduceLE, Int.reduceAdd, Int.reduceSub, Int.reduceMul, Int.reduceNeg, Int.reduceToNat, Int.reduceNe, Int.reduceBEq, Int.reduceBNe, Nat.reduceLT, Nat.reduceSub, Nat.reduceDiv, Nat.reduceMod, Int.reduceTDiv, Int.reduceTMod, s1, s2, s3, h1, h2, h3, p1, p2, p3, p4, q1, q2, q3, r12, rt_eq, false_and, hg, en, y1]
                · subst hk
                  simp (config := {contextual := true, maxSteps := 10000000, implicitDefEqProofs := false}) only [x7, go_sem, ↓reduceIte, reduceCtorEq, Nat.reduceEqDiff, Nat.reduceAdd, Nat.reduceLeDiff, Nat.reduceMul, Int.reduceEq, Int.reduceLT, Int.reduceLE, Int.reduceAdd, Int.reduceSub, Int.reduceMul, Int.reduceNeg, Int.reduceToNat, Int.reduceNe, Int.reduceBEq, Int.reduceBNe, Nat.reduceLT, Nat.reduceSub, Nat.reduceDiv, Nat.reduceMod, Int.reduceTDiv, Int.reduceTMod, s1, s2, s3, h1, h2, h3, p1, p2, p3, p4, q1, q2, q3, r12, rt_eq, false_and, hg, en, hl]
              · simp (config := {contextual := true, maxSteps := 10000000, implicitDefEqProofs := false}) only [x7, go_sem, ↓reduceIte, reduceCtorEq, Nat.reduceEqDiff, Nat.reduceAdd, Nat.reduceLeDiff, Nat.reduceMul, Int.reduceEq, Int.reduceLT, Int.reduceLE, Int.reduceAdd, Int.reduceSub, Int.reduceMul, Int.reduceNeg, Int.reduceToNat, Int.reduceNe, Int.reduceBEq, Int.reduceBNe, Nat.reduceLT, Nat.reduceSub, Nat.reduceDiv, Nat.reduceMod, Int.reduceTDiv, Int.reduceTMod, s1, s2, s3, h1, h2, h3, p1, p2, p3, p4, q1, q2, q3, r12, rt_eq, false_and, hg, en, hk]
          · skip
            obtain rfl : ac = -1 := by have := onn (by omega) (by omega); omega
            by_cases hg : g = 0
            · obtain ⟨z1, z2⟩ := sgn hg
              have v1 : (0 < u) = False := eq_false (by omega)
              have v2 : (u < 0) = True := eq_true (by omega)
              subst hg
              by_cases hk : k = 0
              · by_cases hl : l = 0
                · have y1 := bth hk hl
                  subst hk hl
                  simp (config := {contextual := true, maxSteps := 10000000, implicitDefEqProofs := false}) only [x7, go_sem, ↓reduceIte, reduceCtorEq, Nat.reduceEqDiff, Nat.reduceAdd, Nat.reduceLeDiff, Nat.reduceMul, Int.reduceEq, Int.reduceLT, Int.reduceLE, Int.reduceAdd, Int.reduceSub, Int.reduceMul, Int.reduceNeg, Int.reduceToNat, Int.reduceNe, Int.reduceBEq, Int.reduceBNe, Nat.reduceLT, Nat.reduceSub, Nat.reduceDiv, Nat.reduceMod, Int.reduceTDiv, Int.reduceTMod, s1, s2, s3, h1, h2, h3, p1, p2, p3, p4, q1, q2, q3, r12, rt_eq, false_and, v1, v2, en, y1]
                · subst hk
                  simp (config := {contextual := true, maxSteps := 10000000, implicitDefEqProofs := false}) only [x7, go_sem, ↓reduceIte, reduceCtorEq, Nat.reduceEqDiff, Nat.reduceAdd, Nat.reduceLeDiff, Nat.reduceMul, Int.reduceEq, Int.reduceLT, Int.reduceLE, Int.reduceAdd, Int.reduceSub, Int.reduceMul, Int.reduceNeg, Int.reduceToNat, Int.reduceNe, Int.reduceBEq, Int.reduceBNe, Nat.reduceLT, Nat.reduceSub, Nat.reduceDiv, Nat.reduceMod, Int.reduceTDiv, Int.reduceTMod, s1, s2, s3, h1, h2, h3, p1, p2, p3, p4, q1, q2, q3, r12, rt_eq, false_and, v1, v2, en, hl]
              · simp (config := {contextual := true, maxSteps := 10000000, implicitDefEqProofs := false}) only [x7, go_sem, ↓reduceIte, reduceCtorEq, Nat.reduceEqDiff, Nat.reduceAdd, Nat.reduceLeDiff, Nat.reduceMul, Int.reduceEq, Int.reduceLT, Int.reduceLE, Int.reduceAdd, Int.reduceSub, Int.reduceMul, Int.reduceNeg, Int.reduceToNat, Int.reduceNe, Int.reduceBEq, Int.reduceBNe, Nat.reduceLT, Nat.reduceSub, Nat.reduceDiv, Nat.reduceMod, Int.reduceTDiv, Int.reduceTMod, s1, s2, s3, h1, h2, h3, p1, p2, p3, p4, q1, q2, q3, r12, rt_eq, false_and, v1, v2, en, hk]
            · skip
              by_cases hk : k = 0
              · by_cases hl : l = 0
                · have y1 := bth hk hl
                  subst hk hl
                  simp (config := {contextual := true, maxSteps := 10000000, implicitDefEqProofs := false}) only [x7, go_sem, ↓reduceIte, reduceCtorEq, Nat.reduceEqDiff, Nat.reduceAdd, Nat.reduceLeDiff, Nat.reduceMul, Int.reduceEq, Int.reduceLT, Int.reduceLE, Int.reduceAdd, Int.reduceSub, Int.reduceMul, Int.reduceNeg, Int.reduceToNat, Int.reduceNe, Int.reduceBEq, Int.reduceBNe, Nat.reduceLT, Nat.reduceSub, Nat.reduceDiv, Nat.reduceMod, Int.reduceTDiv, Int.reduceTMod, s1, s2, s3, h1, h2, h3, p1, p2, p3, p4, q1, q2, q3, r12, rt_eq, false_and, hg, en, y1]
                · subst hk
                  simp (config := {contextual := true, maxSteps := 10000000, implicitDefEqProofs := false}) only [x7, go_sem, ↓reduceIte, reduceCtorEq, Nat.reduceEqDiff, Nat.reduceAdd, Nat.reduceLeDiff, Nat.reduceMul, Int.reduceEq, Int.reduceLT, Int.reduceLE, Int.reduceAdd, Int.reduceSub, Int.reduceMul, Int.reduceNeg, Int.reduceToNat, Int.reduceNe, Int.reduceBEq, Int.reduceBNe, Nat.reduceLT, Nat.reduceSub, Nat.reduceDiv, Nat.reduceMod, Int.reduceTDiv, Int.reduceTMod, s1, s2, s3, h1, h2, h3, p1, p2, p3, p4, q1, q2, q3, r12, rt_eq, false_and, hg, en, hl]
              · simp (config := {contextual := true, maxSteps := 10000000, implicitDefEqProofs := false}) only [x7, go_sem, ↓reduceIte, reduceCtorEq, Nat.reduceEqDiff, Nat.reduceAdd, Nat.reduceLeDiff, Nat.reduceMul, Int.reduceEq, Int.reduceLT, Int.reduceLE, Int.reduceAdd, Int.reduceSub, Int.reduceMul, Int.reduceNeg, Int.reduceToNat, Int.reduceNe, Int.reduceBEq, Int.reduceBNe, Nat.reduceLT, Nat.reduceSub, Nat.reduceDiv, Nat.reduceMod, Int.reduceTDiv, Int.reduceTMod, s1, s2, s3, h1, h2, h3, p1, p2, p3, p4, q1, q2, q3, r12, rt_eq, false_and, hg, en, hk]
          · skip
            by_cases hg : g = 0
            · obtain ⟨z1, z2⟩ := sgn hg
              have v1 : (0 < u) = False := eq_false (by omega)
              have v2 : (u < 0) = True := eq_true (by omega)
              subst hg
              by_cases hk : k = 0
              · by_cases hl : l = 0
                · have y1 := bth hk hl
                  subst hk hl
                  simp (config := {contextual := true, maxSteps := 10000000, implicitDefEqProofs := false}) only [x7, go_sem, ↓reduceIte, reduceCtorEq, Nat.reduceEqDiff, Nat.reduceAdd, Nat.reduceLeDiff, Nat.reduceMul, Int.reduceEq, Int.reduceLT, Int.reduceLE, Int.reduceAdd, Int.reduceSub, Int.reduceMul, Int.reduceNeg, Int.reduceToNat, Int.reduceNe, Int.reduceBEq, Int.reduceBNe, Nat.reduceLT, Nat.reduceSub, Nat.reduceDiv, Nat.reduceMod, Int.reduceTDiv, Int.reduceTMod, s1, s2, s3, h1, h2, h3, p1, p2, p3, p4, q1, q2, q3, r12, rt_eq, false_and, v1, v2, en, y1]
                · subst hk
                  simp (config := {contextual := true, maxSteps := 10000000, implicitDefEqProofs := false}) only [x7, go_sem, ↓reduceIte, reduceCtorEq, Nat.reduceEqDiff, Nat.reduceAdd, Nat.reduceLeDiff, Nat.reduceMul, Int.reduceEq, Int.reduceLT, Int.reduceLE, Int.reduceAdd, Int.reduceSub, Int.reduceMul, Int.reduceNeg, Int.reduceToNat, Int.reduceNe, Int.reduceBEq, Int.reduceBNe, Nat.reduceLT, Nat.reduceSub, Nat.reduceDiv, Nat.reduceMod, Int.reduceTDiv, Int.reduceTMod, s1, s2, s3, h1, h2, h3, p1, p2, p3, p4, q1, q2, q3, r12, rt_eq, false_and, v1, v2, en, hl]
              · simp (config := {contextual := true, maxSteps := 10000000, implicitDefEqProofs := false}) only [x7, go_sem, ↓reduceIte, reduceCtorEq, Nat.reduceEqDiff, Nat.reduceAdd, Nat.reduceLeDiff, Nat.reduceMul, Int.reduceEq, Int.reduceLT, Int.reduceLE, Int.reduceAdd, Int.reduceSub, Int.reduceMul, Int.reduceNeg, Int.reduceToNat, Int.reduceNe, Int.reduceBEq, Int.reduceBNe, Nat.reduceLT, Nat.reduceSub, Nat.reduceDiv, Nat.reduceMod, Int.reduceTDiv, Int.reduceTMod, s1, s2, s3, h1, h2, h3, p1, p2, p3, p4, q1, q2, q3, r12, rt_eq, false_and, v1, v2, en, hk]
            · skip
              by_cases hk : k = 0
              · by_cases hl : l = 0
                · have y1 := bth hk hl
                  subst hk hl
                  simp (config := {contextual := true, maxSteps := 10000000, implicitDefEqProofs := false}) only [x7, go_sem, ↓reduceIte, reduceCtorEq, Nat.reduceEqDiff, Nat.reduceAdd, Nat.reduceLeDiff, Nat.reduceMul, Int.reduceEq, Int.reduceLT, Int.reduceLE, Int.reduceAdd, Int.reduceSub, Int.reduceMul, Int.reduceNeg, Int.reduceToNat, Int.reduceNe, Int.reduceBEq, Int.reduceBNe, Nat.reduceLT, Nat.reduceSub, Nat.reduceDiv, Nat.reduceMod, Int.reduceTDiv, Int.reduceTMod, s1, s2, s3, h1, h2, h3, p1, p2, p3, p4, q1, q2, q3, r12, rt_eq, false_and, hg, en, y1]
                · subst hk
                  simp (config := {contextual := true, maxSteps := 10000000, implicitDefEqProofs := false}) only [x7, go_sem, ↓reduceIte, reduceCtorEq, Nat.reduceEqDiff, Nat.reduceAdd, Nat.reduceLeDiff, Nat.reduceMul, Int.reduceEq, Int.reduceLT, Int.reduceLE, Int.reduceAdd, Int.reduceSub, Int.reduceMul, Int.reduceNeg, Int.reduceToNat, Int.reduceNe, Int.reduceBEq, Int.reduceBNe, Nat.reduceLT, Nat.reduceSub, Nat.reduceDiv, Nat.reduceMod, Int.reduceTDiv, Int.reduceTMod, s1, s2, s3, h1, h2, h3, p1, p2, p3, p4, q1, q2, q3, r12, rt_eq, false_and, hg, en, hl]
              · simp (config := {contextual := true, maxSteps := 10000000, implicitDefEqProofs := false}) only [x7, go_sem, ↓reduceIte, reduceCtorEq, Nat.reduceEqDiff, Nat.reduceAdd, Nat.reduceLeDiff, Nat.reduceMul, Int.reduceEq, Int.reduceLT, Int.reduceLE, Int.reduceAdd, Int.reduceSub, Int.reduceMul, Int.reduceNeg, Int.reduceToNat, Int.reduceNe, Int.reduceBEq, Int.reduceBNe, Nat.reduceLT, Nat.reduceSub, Nat.reduceDiv, Nat.reduceMod, Int.reduceTDiv, Int.reduceTMod, s1, s2, s3, h1, h2, h3, p1, p2, p3, p4, q1, q2, q3, r12, rt_eq, false_and, hg, en, hk]
        · skip
          have ea : (a == c) = true := by rw [beq_iff_eq]; exact (eqv.1 rfl).1
          have eb : (b == d) = true := by rw [beq_iff_eq]; exact (eqv.1 rfl).2
          rcases bc3 with rfl | rfl | rfl
          · skip
            obtain rfl : ac = -1 := by have := onn (by omega) (by omega); omega
            by_cases hg : g = 0
            · obtain ⟨z1, z2⟩ := sgn hg
              have v1 : (0 < u) = False := eq_false (by omega)
              have v2 : (u < 0) = False := eq_false (by omega)
              subst hg
              by_cases hk : k = 0
              · by_cases hl : l = 0
                · have y1 := bth hk hl
                  subst hk hl
                  simp (config := {contextual := true, maxSteps := 10000000, implicitDefEqProofs := false}) only [x7, go_sem, ↓reduceIte, reduceCtorEq, Nat.reduceEqDiff, Nat.reduceAdd, Nat.reduceLeDiff, Nat.reduceMul, Int.reduceEq, Int.reduceLT, Int.reduceLE, Int.reduceAdd, Int.reduceSub, Int.reduceMul, Int.reduceNeg, Int.reduceToNat, Int.reduceNe, Int.reduceBEq, Int.reduceBNe, Nat.reduceLT, Nat.reduceSub, Nat.reduceDiv, Nat.reduceMod, Int.reduceTDiv, Int.reduceTMod, s1, s2, s3, h1, h2, h3, p1, p2, p3, p4, q1, q2, q3, r12, rt_eq, false_and, v1, v2, ea, eb, y1]
                · subst hk
                  simp (config := {contextual := true, maxSteps := 10000000, implicitDefEqProofs := false}) only [x7, go_sem, ↓reduceIte, reduceCtorEq, Nat.reduceEqDiff, Nat.reduceAdd, Nat.reduceLeDiff, Nat.reduceMul, Int.reduceEq, Int.reduceLT, Int.reduceLE, Int.reduceAdd, Int.reduceSub, Int.reduceMul, Int.reduceNeg, Int.reduceToNat, Int.reduceNe, Int.reduceBEq, Int.reduceBNe, Nat.reduceLT, Nat.reduceSub, Nat.reduceDiv, Nat.reduceMod, Int.reduceTDiv, Int.reduceTMod, s1, s2, s3, h1, h2, h3, p1, p2, p3, p4, q1, q2, q3, r12, rt_eq, false_and, v1, v2, ea, eb, hl]
              · simp (config := {contextual := true, maxSteps := 10000000, implicitDefEqProofs := false}) only [x7, go_sem, ↓reduceIte, reduceCtorEq, Nat.reduceEqDiff, Nat.reduceAdd, Nat.reduceLeDiff, Nat.reduceMul, Int.reduceEq, Int.reduceLT, Int.reduceLE, Int.reduceAdd, Int.reduceSub, Int.reduceMul, Int.reduceNeg, Int.reduceToNat, Int.reduceNe, Int.reduceBEq, Int.reduceBNe, Nat.reduceLT, Nat.reduceSub, Nat.reduceDiv, Nat.reduceMod, Int.reduceTDiv, Int.reduceTMod, s1, s2, s3, h1, h2, h3, p1, p2, p3, p4, q1, q2, q3, r12, rt_eq, false_and, v1, v2, ea, eb, hk]
            · skip
              by_cases hk : k = 0
              · by_cases hl : l = 0
                · have y1 := bth hk hl
                  subst hk hl
                  simp (config := {contextual := true, maxSteps := 10000000, implicitDefEqProofs := false}) only [x7, go_sem, ↓reduceIte, reduceCtorEq, Nat.reduceEqDiff, Nat.reduceAdd, Nat.reduceLeDiff, Nat.reduceMul, Int.reduceEq, Int.reduceLT, Int.reduceLE, Int.reduceAdd, Int.reduceSub, Int.reduceMul, Int.reduceNeg, Int.reduceToNat, Int.reduceNe, Int.reduceBEq, Int.reduceBNe, Nat.reduceLT, Nat.reduceSub, Nat.reduceDiv, Nat.reduceMod, Int.reduceTDiv, Int.reduceTMod, s1, s2, s3, h1, h2, h3, p1, p2, p3, p4, q1, q2, q3, r12, rt_eq, false_and, hg, ea, eb, y1]
                · subst hk
                  simp (config := {contextual := true, maxSteps := 10000000, implicitDefEqProofs := false}) only [x7, go_sem, ↓reduceIte, reduceCtorEq, Nat.reduceEqDiff, Nat.reduceAdd, Nat.reduceLeDiff, Nat.reduceMul, Int.reduceEq, Int.reduceLT, Int.reduceLE, Int.reduceAdd, Int.reduceSub, Int.reduceMul, Int.reduceNeg, Int.reduceToNat, Int.reduceNe, Int.reduceBEq, Int.reduceBNe, Nat.reduceLT, Nat.reduceSub, Nat.reduceDiv, Nat.reduceMod, Int.reduceTDiv, Int.reduceTMod, s1, s2, s3, h1, h2, h3, p1, p2, p3, p4, q1, q2, q3, r12, rt_eq, false_and, hg, ea, eb, hl]
              · simp (config := {contextual := true, maxSteps := 10000000, implicitDefEqProofs := false}) only [x7, go_sem, ↓reduceIte, reduceCtorEq, Nat.reduceEqDiff, Nat.reduceAdd, Nat.reduceLeDiff, Nat.reduceMul, Int.reduceEq, Int.reduceLT, Int.reduceLE, Int.reduceAdd, Int.reduceSub, Int.reduceMul, Int.reduceNeg, Int.reduceToNat, Int.reduceNe, Int.reduceBEq, Int.reduceBNe, Nat.reduceLT, Nat.reduceSub, Nat.reduceDiv, Nat.reduceMod, Int.reduceTDiv, Int.reduceTMod, s1, s2, s3, h1, h2, h3, p1, p2, p3, p4, q1, q2, q3, r12, rt_eq, false_and, hg, ea, eb, hk]
          · skip
            obtain rfl : ac = 0 := by have := onn (by omega) (by omega); omega
            by_cases hg : g = 0
            · obtain ⟨z1, z2⟩ := sgn hg
              have v1 : (0 < u) = False := eq_false (by omega)
              have v2 : (u < 0) = False := eq_false (by omega)
              subst hg
              by_cases hk : k = 0
              · by_cases hl : l = 0
                · have y1 := bth hk hl
                  subst hk hl
                  simp (config := {contextual := true, maxSteps := 10000000, implicitDefEqProofs := false}) only [x7, go_sem, ↓reduceIte, reduceCtorEq, Nat.reduceEqDiff, Nat.reduceAdd, Nat.reduceLeDiff, Nat.reduceMul, Int.reduceEq, Int.reduceLT, Int.reduceLE, Int.reduceAdd, Int.reduceSub, Int.reduceMul, Int.reduceNeg, Int.reduceToNat, Int.reduceNe, Int.reduceBEq, Int.reduceBNe, Nat.reduceLT, Nat.reduceSub, Nat.reduceDiv, Nat.reduceMod, Int.reduceTDiv, Int.reduceTMod, s1, s2, s3, h1, h2, h3, p1, p2, p3, p4, q1, q2, q3, r12, rt_eq, false_and, v1, v2, ea, eb, y1]
                · subst hk
                  simp (config := {contextual := true, maxSteps := 10000000, implicitDefEqProofs := false}) only [x7, go_sem, ↓reduceIte, reduceCtorEq, Nat.reduceEqDiff, Nat.reduceAdd, Nat.reduceLeDiff, Nat.reduceMul, Int.reduceEq, Int.reduceLT, Int.reduceLE, Int.reduceAdd, Int.reduceSub, Int.reduceMul, Int.reduceNeg, Int.reduceToNat, Int.reduceNe, Int.reduceBEq, Int.reduceBNe, Nat.reduceLT, Nat.reduceSub, Nat.reduceDiv, Nat.reduceMod, Int.reduceTDiv, Int.reduceTMod, s1, s2, s3, h1, h2, h3, p1, p2, p3, p4, q1, q2, q3, r12, rt_eq, false_and, v1, v2, ea, eb, hl]
              · simp (config := {contextual := true, maxSteps := 10000000, implicitDefEqProofs := false}) only [x7, go_sem, ↓reduceIte, reduceCtorEq, Nat.reduceEqDiff, Nat.reduceAdd, Nat.reduceLeDiff, Nat.reduceMul, Int.reduceEq, Int.reduceLT, Int.reduceLE, Int.reduceAdd, Int.reduceSub, Int.reduceMul, Int.reduceNeg, Int.reduceToNat, Int.reduceNe, Int.reduceBEq, Int.reduceBNe, Nat.reduceLT, Nat.reduceSub, Nat.reduceDiv, Nat.reduceMod, Int.reduceTDiv, Int.reduceTMod, s1, s2, s3, h1, h2, h3, p1, p2, p3, p4, q1, q2, q3, r12, rt_eq, false_and, v1, v2, ea, eb, hk]
            · skip
              by_cases hk : k = 0
              · by_cases hl : l = 0
                · have y1 := bth hk hl
                  subst hk hl
                  simp (config := {contextual := true, maxSteps := 10000000, implicitDefEqProofs := false}) only [x7, go_sem, ↓reduceIte, reduceCtorEq, Nat.reduceEqDiff, Nat.reduceAdd, Nat.reduceLeDiff, Nat.reduceMul, Int.reduceEq, Int.reduceLT, Int.reduceLE, Int.reduceAdd, Int.reduceSub, Int.reduceMul, Int.reduceNeg, Int.reduceToNat, Int.reduceNe, Int.reduceBEq, Int.reduceBNe, Nat.reduceLT, Nat.reduceSub, Nat.reduceDiv, Nat.reduceMod, Int.reduceTDiv, Int.reduceTMod, s1, s2, s3, h1, h2, h3, p1, p2, p3, p4, q1, q2, q3, r12, rt_eq, false_and, hg, ea, eb, y1]
                · subst hk
                  simp (config := {contextual := true, maxSteps := 10000000, implicitDefEqProofs := false}) only [x7, go_sem, ↓reduceIte, reduceCtorEq, Nat.reduceEqDiff, Nat.reduceAdd, Nat.reduceLeDiff, Nat.reduceMul, Int.reduceEq, Int.reduceLT, Int.reduceLE, Int.reduceAdd, Int.reduceSub, Int.reduceMul, Int.reduceNeg, Int.reduceToNat, Int.reduceNe, Int.reduceBEq, Int.reduceBNe, Nat.reduceLT, Nat.reduceSub, Nat.reduceDiv, Nat.reduceMod, Int.reduceTDiv, Int.reduceTMod, s1, s2, s3, h1, h2, h3, p1, p2, p3, p4, q1, q2, q3, r12, rt_eq, false_and, hg, ea, eb, hl]
              · simp (config := {contextual := true, maxSteps := 10000000, implicitDefEqProofs := false}) only [x7, go_sem, ↓reduceIte, reduceCtorEq, Nat.reduceEqDiff, Nat.reduceAdd, Nat.reduceLeDiff, Nat.reduceMul, Int.reduceEq, Int.reduceLT, Int.reduceLE, Int.reduceAdd, Int.reduceSub, Int.reduceMul, Int.reduceNeg, Int.reduceToNat, Int.reduceNe, Int.reduceBEq, Int.reduceBNe, Nat.reduceLT, Nat.reduceSub, Nat.reduceDiv, Nat.reduceMod, Int.reduceTDiv, Int.reduceTMod, s1, s2, s3, h1, h2, h3, p1, p2, p3, p4, q1, q2, q3, r12, rt_eq, false_and, hg, ea, eb, hk]
          · skip
            by_cases hg : g = 0
            · obtain ⟨z1, z2⟩ := sgn hg
              have v1 : (0 < u) = False := eq_false (by omega)
              have v2 : (u < 0) = False := eq_false (by omega)
              subst hg
              by_cases hk : k = 0
              · by_cases hl : l = 0
                · have y1 := bth hk hl
                  subst hk hl
                  simp (config := {contextual := true, maxSteps := 10000000, implicitDefEqProofs := false}) only [x7, go_sem, ↓reduceIte, reduceCtorEq, Nat.reduceEqDiff, Nat.reduceAdd, Nat.reduceLeDiff, Nat.reduceMul, Int.reduceEq, Int.reduceLT, Int.reduceLE, Int.reduceAdd, Int.reduceSub, Int.reduceMul, Int.reduceNeg, Int.reduceToNat, Int.reduceNe, Int.reduceBEq, Int.reduceBNe, Nat.reduceLT, Nat.reduceSub, Nat.reduceDiv, Nat.reduceMod, Int.reduceTDiv, Int.reduceTMod, s1, s2, s3, h1, h2, h3, p1, p2, p3, p4, q1, q2, q3, r12, rt_eq, false_and, v1, v2, ea, eb, y1]
                · subst hk
                  simp (config := {contextual := true, maxSteps := 10000000, implicitDefEqProofs := false}) only [x7, go_sem, ↓reduceIte, reduceCtorEq, Nat.reduceEqDiff, Nat.reduceAdd, Nat.reduceLeDiff, Nat.reduceMul, Int.reduceEq, Int.reduceLT, Int.reduceLE, Int.reduceAdd, Int.reduceSub, Int.reduceMul, Int.reduceNeg, Int.reduceToNat, Int.reduceNe, Int.reduceBEq, Int.reduceBNe, Nat.reduceLT, Nat.reduceSub, Nat.reduceDiv, Nat.reduceMod, Int.reduceTDiv, Int.reduceTMod, s1, s2, s3, h1, h2, h3, p1, p2, p3, p4, q1, q2, q3, r12, rt_eq, false_and, v1, v2, ea, eb, hl]
              · simp (config := {contextual := true, maxSteps := 10000000, implicitDefEqProofs := false}) only [x7, go_sem, ↓reduceIte, reduceCtorEq, Nat.reduceEqDiff, Nat.reduceAdd, Nat.reduceLeDiff, Nat.reduceMul, Int.reduceEq, Int.reduceLT, Int.reduceLE, Int.reduceAdd, Int.reduceSub, Int.reduceMul, Int.reduceNeg, Int.reduceToNat, Int.reduceNe, Int.reduceBEq, Int.reduceBNe, Nat.reduceLT, Nat.reduceSub, Nat.reduceDiv, Nat.reduceMod, Int.reduceTDiv, Int.reduceTMod, s1, s2, s3, h1, h2, h3, p1, p2, p3, p4, q1, q2, q3, r12, rt_eq, false_and, v1, v2, ea, eb, hk]
            · skip
              by_cases hk : k = 0
              · by_cases hl : l = 0
                · have y1 := bth hk hl
                  subst hk hl
                  simp (config := {contextual := true, maxSteps := 10000000, implicitDefEqProofs := false}) only [x7, go_sem, ↓reduceIte, reduceCtorEq, Nat.reduceEqDiff, Nat.reduceAdd, Nat.reduceLeDiff, Nat.reduceMul, Int.reduceEq, Int.reduceLT, Int.reduceLE, Int.reduceAdd, Int.reduceSub, Int.reduceMul, Int.reduceNeg, Int.reduceToNat, Int.reduceNe, Int.reduceBEq, Int.reduceBNe, Nat.reduceLT, Nat.reduceSub, Nat.reduceDiv, Nat.reduceMod, Int.reduceTDiv, Int.reduceTMod, s1, s2, s3, h1, h2, h3, p1, p2, p3, p4, q1, q2, q3, r12, rt_eq, false_and, hg, ea, eb, y1]
                · subst hk
                  simp (config := {contextual := true, maxSteps := 10000000, implicitDefEqProofs := false}) only [x7, go_sem, ↓reduceIte, reduceCtorEq, Nat.reduceEqDiff, Nat.reduceAdd, Nat.reduceLeDiff, Nat.reduceMul, Int.reduceEq, Int.reduceLT, Int.reduceLE, Int.reduceAdd, Int.reduceSub, Int.reduceMul, Int.reduceNeg, Int.reduceToNat, Int.reduceNe, Int.reduceBEq, Int.reduceBNe, Nat.reduceLT, Nat.reduceSub, Nat.reduceDiv, Nat.reduceMod, Int.reduceTDiv, Int.reduceTMod, s1, s2, s3, h1, h2, h3, p1, p2, p3, p4, q1, q2, q3, r12, rt_eq, false_and, hg, ea, eb, hl]
              · simp (config := {contextual := true, maxSteps := 10000000, implicitDefEqProofs := false}) only [x7, go_sem, ↓reduceIte, reduceCtorEq, Nat.reduceEqDiff, Nat.reduceAdd, Nat.reduceLeDiff, Nat.reduceMul, Int.reduceEq, Int.reduceLT, Int.reduceLE, Int.reduceAdd, Int.reduceSub, Int.reduceMul, Int.reduceNeg, Int.reduceToNat, Int.reduceNe, Int.reduceBEq, Int.reduceBNe, Nat.reduceLT, Nat.reduceSub, Nat.reduceDiv, Nat.reduceMod, Int.reduceTDiv, Int.reduceTMod, s1, s2, s3, h1, h2, h3, p1, p2, p3, p4, q1, q2, q3, r12, rt_eq, false_and, hg, ea, eb, hk]
        · skip
          have en : ((a == c) && (b == d)) = false := by
            apply Bool.eq_false_iff.2
            intro h
            simp only [Bool.and_eq_true, beq_iff_eq] at h
            exact absurd (eqv.2 h) (by omega)
          by_cases hg : g = 0
          · obtain ⟨z1, z2⟩ := sgn hg
            have v1 : (0 < u) = True := eq_true (by omega)
            have v2 : (u < 0) = False := eq_false (by omega)
            subst hg
            by_cases hk : k = 0
            · by_cases hl : l = 0
              · have y1 := bth hk hl
                subst hk hl
                simp (config := {contextual := true, maxSteps := 10000000, implicitDefEqProofs := false}) only [x7, go_sem, ↓reduceIte, reduceCtorEq, Nat.reduceEqDiff, Nat.reduceAdd, Nat.reduceLeDiff, Nat.reduceMul, Int.reduceEq, Int.reduceLT, Int.reduceLE, Int.reduceAdd, Int.reduceSub, Int.reduceMul, Int.reduceNeg, Int.reduceToNat, Int.reduceNe, Int.reduceBEq, Int.reduceBNe, Nat.reduceLT, Nat.reduceSub, Nat.reduceDiv, Nat.reduceMod, Int.reduceTDiv, Int.reduceTMod, s1, s2, s3, h1, h2, h3, p1, p2, p3, p4, q1, q2, q3, r12, rt_eq, false_and, v1, v2, en, y1]
              · subst hk
                simp (config := {contextual := true, maxSteps := 10000000, implicitDefEqProofs := false}) only [x7, go_sem, ↓reduceIte, reduceCtorEq, Nat.reduceEqDiff, Nat.reduceAdd, Nat.reduceLeDiff, Nat.reduceMul, Int.reduceEq, Int.reduceLT, Int.reduceLE, Int.reduceAdd, Int.reduceSub, Int.reduceMul, Int.reduceNeg, Int.reduceToNat, Int.reduceNe, Int.reduceBEq, Int.reduceBNe, Nat.reduceLT, Nat.reduceSub, Nat.reduceDiv, Nat.reduceMod, Int.reduceTDiv, Int.reduceTMod, s1, s2, s3, h1, h2, h3, p1, p2, p3, p4, q1, q2, q3, r12, rt_eq, false_and, v1, v2, en, hl]
            · simp (config := {contextual := true, maxSteps := 10000000, implicitDefEqProofs := false}) only [x7, go_sem, ↓reduceIte, reduceCtorEq, Nat.reduceEqDiff, Nat.reduceAdd, Nat.reduceLeDiff, Nat.reduceMul, Int.reduceEq, Int.reduceLT, Int.reduceLE, Int.reduceAdd, Int.reduceSub, Int.reduceMul, Int.reduceNeg, Int.reduceToNat, Int.reduceNe, Int.reduceBEq, Int.reduceBNe, Nat.reduceLT, Nat.reduceSub, Nat.reduceDiv, Nat.reduceMod, Int.reduceTDiv, Int.reduceTMod, s1, s2, s3, h1, h2, h3, p1, p2, p3, p4, q1, q2, q3, r12, rt_eq, false_and, v1, v2, en, hk]
          · skip
            by_cases hk : k = 0
            · by_cases hl : l = 0
              · have y1 := bth hk hl
                subst hk hl
                simp (config := {contextual := true, maxSteps := 10000000, implicitDefEqProofs := false}) only [x7, go_sem, ↓reduceIte, reduceCtorEq, Nat.reduceEqDiff, Nat.reduceAdd, Nat.reduceLeDiff, Nat.reduceMul, Int.reduceEq, Int.reduceLT, Int.reduceLE, Int.reduceAdd, Int.reduceSub, Int.reduceMul, Int.reduceNeg, Int.reduceToNat, Int.reduceNe, Int.reduceBEq, Int.reduceBNe, Nat.reduceLT, Nat.reduceSub, Nat.reduceDiv, Nat.reduceMod, Int.reduceTDiv, Int.reduceTMod, s1, s2, s3, h1, h2, h3, p1, p2, p3, p4, q1, q2, q3, r12, rt_eq, false_and, hg, en, y1]
              · subst hk
                simp (config := {contextual := true, maxSteps := 10000000, implicitDefEqProofs := false}) only [x7, go_sem, ↓reduceIte, reduceCtorEq, Nat.reduceEqDiff, Nat.reduceAdd, Nat.reduceLeDiff, Nat.reduceMul, Int.reduceEq, Int.reduceLT, Int.reduceLE, Int.reduceAdd, Int.reduceSub, Int.reduceMul, Int.reduceNeg, Int.reduceToNat, Int.reduceNe, Int.reduceBEq, Int.reduceBNe, Nat.reduceLT, Nat.reduceSub, Nat.reduceDiv, Nat.reduceMod, Int.reduceTDiv, Int.reduceTMod, s1, s2, s3, h1, h2, h3, p1, p2, p3, p4, q1, q2, q3, r12, rt_eq, false_and, hg, en, hl]
            · simp (config := {contextual := true, maxSteps := 10000000, implicitDefEqProofs := false}) only [x7, go_sem, ↓reduceIte, reduceCtorEq, Nat.reduceEqDiff, Nat.reduceAdd, Nat.reduceLeDiff, Nat.reduceMul, Int.reduceEq, Int.reduceLT, Int.reduceLE, Int.reduceAdd, Int.reduceSub, Int.reduceMul, Int.reduceNeg, Int.reduceToNat, Int.reduceNe, Int.reduceBEq, Int.reduceBNe, Nat.reduceLT, Nat.reduceSub, Nat.reduceDiv, Nat.reduceMod, Int.reduceTDiv, Int.reduceTMod, s1, s2, s3, h1, h2, h3, p1, p2, p3, p4, q1, q2, q3, r12, rt_eq, false_and, hg, en, hk]
      · simp (config := {contextual := true, maxSteps := 10000000, implicitDefEqProofs := false}) only [x7, go_sem, ↓reduceIte, reduceCtorEq, Nat.reduceEqDiff, Nat.reduceAdd, Nat.reduceLeDiff, Nat.reduceMul, Int.reduceEq, Int.reduceLT, Int.reduceLE, Int.reduceAdd, Int.reduceSub, Int.reduceMul, Int.reduceNeg, Int.reduceToNat, Int.reduceNe, Int.reduceBEq, Int.reduceBNe, Nat.reduceLT, Nat.reduceSub, Nat.reduceDiv, Nat.reduceMod, Int.reduceTDiv, Int.reduceTMod, s1, s2, s3, h1, h2, h3, p1, r12]
    · simp (config := {contextual := true, maxSteps := 10000000, implicitDefEqProofs := false}) only [x7, go_sem, ↓reduceIte, reduceCtorEq, Nat.reduceEqDiff, Nat.reduceAdd, Nat.reduceLeDiff, Nat.reduceMul, Int.reduceEq, Int.reduceLT, Int.reduceLE, Int.reduceAdd, Int.reduceSub, Int.reduceMul, Int.reduceNeg, Int.reduceToNat, Int.reduceNe, Int.reduceBEq, Int.reduceBNe, Nat.reduceLT, Nat.reduceSub, Nat.reduceDiv, Nat.reduceMod, Int.reduceTDiv, Int.reduceTMod, s1, s2, h1, h2, p1, r12]
  · simp (config := {contextual := true, maxSteps := 10000000, implicitDefEqProofs := false}) only [x7, go_sem, ↓reduceIte, reduceCtorEq, Nat.reduceEqDiff, Nat.reduceAdd, Nat.reduceLeDiff, Nat.reduceMul, Int.reduceEq, Int.reduceLT, Int.reduceLE, Int.reduceAdd, Int.reduceSub, Int.reduceMul, Int.reduceNeg, Int.reduceToNat, Int.reduceNe, Int.reduceBEq, Int.reduceBNe, Nat.reduceLT, Nat.reduceSub, Nat.reduceDiv, Nat.reduceMod, Int.reduceTDiv, Int.reduceTMod, s1, h1, p1, r12]
end Go.Proofs.Ytpfollpbkpgglaa.Sx.T
