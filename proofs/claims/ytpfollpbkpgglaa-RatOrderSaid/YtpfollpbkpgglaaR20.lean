/- Layer 1, part 20: back again, and order. -/
import Derived.Test.YtpfollpbkpgglaaR19
set_option linter.unusedVariables false
set_option linter.unusedSimpArgs false
namespace Go.Proofs.Ytpfollpbkpgglaa.Sx.T
open Go Go.Proofs.Ytpfollpbkpgglaa.Sx
set_option maxRecDepth 100000
set_option maxHeartbeats 4000000
theorem ofR_may (a b : Int) (ha : I64 a) (hb : I64 b) : (decide ((ofR a b).2.2 = 0) && ((ofR a b).1 == a && (ofR a b).2.1 == b)) = mayR a b := by
  by_cases h : 0 < b
  · exact may_eq a b ha hb h
  · have hm : mayR a b = false := by simp [mayR, h]
    rw [hm]
    unfold ofR
    by_cases h0 : b = 0
    · rw [if_pos h0]; rfl
    · rw [if_neg h0]
      rcases hf : frc (a * b.sign) b.natAbs with ⟨s, t, e⟩
      rcases frc_ok (by omega) hf with h1 | ⟨h1, h2, h3⟩
      · subst h1
        have := may_pos (frc_may (by omega) hf).1
        simp
        intro _
        omega
      · subst h3
        rfl
theorem r21 (a b : Int) (ha : I64 a) (hb : I64 b) (hp : Heap) : CL X G0 21 [.agg [.int .i64 a, .int .i64 b]] hp = some (.bool (mayR a b), hp) := by
  rw [CL_eq (fn := x21) rfl]
  have a1 := r10 a b ha hb
  simp (config := {contextual := true, maxSteps := 10000000, implicitDefEqProofs := false}) only [x21, go_sem, ↓reduceIte, reduceCtorEq, Nat.reduceEqDiff, Nat.reduceAdd, Nat.reduceLeDiff, Nat.reduceMul, Int.reduceEq, Int.reduceLT, Int.reduceLE, Int.reduceAdd, Int.reduceSub, Int.reduceMul, Int.reduceNeg, Int.reduceToNat, Int.reduceNe, Int.reduceBEq, Int.reduceBNe, Nat.reduceLT, Nat.reduceSub, Nat.reduceDiv, Nat.reduceMod, Int.reduceTDiv, Int.reduceTMod, a1, rt_eq]
  rw [ofR_may a b ha hb]
theorem ofR_ok {n d a b : Int} (h : ofR n d = (a, b, 0)) : mayR a b = true ∧ I64 a ∧ I64 b := by
  unfold ofR at h
  by_cases h0 : d = 0
  · rw [if_pos h0] at h
    injection h with _ h
    injection h with _ h
    cases h
  · rw [if_neg h0] at h
    obtain ⟨h1, h2, h3, _⟩ := frc_may (by omega) h
    exact ⟨h1, h2, h3⟩
theorem r9 (n d m c : Int) (hn : I64 n) (hd : I64 d) (hm : I64 m) (hc : I64 c) (hp : Heap) : CL X G0 9 [.agg [.int .i64 n, .int .i64 d, .int .i64 m, .int .i64 c]] hp = some (.bool true, hp) := by
  rw [CL_eq (fn := x9) rfl]
  have a1 := r10 n d hn hd
  have a2 := r10 m c hm hc
  rcases h1 : ofR n d with ⟨a, b, e⟩
  rcases h2 : ofR m c with ⟨x, y, f⟩
  rw [h1] at a1
  rw [h2] at a2
  by_cases he : e = 0
  · by_cases hf : f = 0
    · subst he hf
      obtain ⟨m1, i1, i2⟩ := ofR_ok h1
      obtain ⟨m2, j1, j2⟩ := ofR_ok h2
      have b0 := may_pos m1
      have y0 := may_pos m2
      have c1 : (b ≤ 0) = False := eq_false (by omega)
      have c2 : (y ≤ 0) = False := eq_false (by omega)
      have s1 := r21 a b i1 i2
      have s2 := r21 x y j1 j2
      rw [m1] at s1
      rw [m2] at s2
      have p1 := r11 a b x y i1 i2 j1 j2
      have p2 := r11 x y a b j1 j2 i1 i2
      have q1 := r22 a b x y i1 i2 j1 j2
      have q2 := r22 x y a b j1 j2 i1 i2
      rw [add_comm_may m1 m2] at p2
      rw [mul_comm_may m1 m2] at q2
      rcases ha : addR a b x y with ⟨s, t, g⟩
      rcases hq : mulR a b x y with ⟨p, q, k⟩
      rw [ha] at p1 p2
      rw [hq] at q1 q2
      have mp : k = 0 → (∀ hp, CL X G0 21 [.agg [.int .i64 p, .int .i64 q]] hp = some (.bool true, hp)) ∧ (x ≠ 0 → ∀ hp, CL X G0 24 [.agg [.int .i64 p, .int .i64 q], .agg [.int .i64 x, .int .i64 y]] hp = some (rt (a, b, 0), hp)) := by
        intro hk
        subst hk
        obtain ⟨u1, u2, u3, u4⟩ := mul_back m1 m2 i1 i2 hq
        refine ⟨fun hp => by rw [r21 p q u2 u3, u1], fun hx hp => by rw [r24 p q x y u2 u3 j1 j2, u4 hx]⟩
      by_cases hg : g = 0
      · subst hg
        obtain ⟨u1, u2, u3, u4⟩ := add_back m1 m2 i1 i2 ha
        have s3 := r21 s t u2 u3
        rw [u1] at s3
        have w1 := r19 s t x y u2 u3 j1 j2
        rw [u4] at w1
        by_cases hk : k = 0
        · subst hk
          obtain ⟨z1, z2⟩ := mp rfl
          by_cases hx : x = 0
          · subst hx
            simp (config := {contextual := true, maxSteps := 10000000, implicitDefEqProofs := false}) only [x9, go_sem, ↓reduceIte, reduceCtorEq, Nat.reduceEqDiff, Nat.reduceAdd, Nat.reduceLeDiff, Nat.reduceMul, Int.reduceEq, Int.reduceLT, Int.reduceLE, Int.reduceAdd, Int.reduceSub, Int.reduceMul, Int.reduceNeg, Int.reduceToNat, Int.reduceNe, Int.reduceBEq, Int.reduceBNe, Nat.reduceLT, Nat.reduceSub, Nat.reduceDiv, Nat.reduceMod, Int.reduceTDiv, Int.reduceTMod, a1, a2, c1, c2, s1, s2, p1, p2, q1, q2, s3, w1, z1, r12, rt_eq]
          · have z3 := z2 hx
            simp (config := {contextual := true, maxSteps := 10000000, implicitDefEqProofs := false}) only [x9, go_sem, ↓reduceIte, reduceCtorEq, Nat.reduceEqDiff, Nat.reduceAdd, Nat.reduceLeDiff, Nat.reduceMul, Int.reduceEq, Int.reduceLT, Int.reduceLE, Int.reduceAdd, Int.reduceSub, Int.reduceMul, Int.reduceNeg, Int.reduceToNat, Int.reduceNe, Int.reduceBEq, Int.reduceBNe, Nat.reduceLT, Nat.reduceSub, Nat.reduceDiv, Nat.reduceMod, Int.reduceTDiv, Int.reduceTMod, a1, a2, c1, c2, s1, s2, p1, p2, q1, q2, s3, w1, z1, z3, hx, r12, rt_eq]
        · simp (config := {contextual := true, maxSteps := 10000000, implicitDefEqProofs := false}) only [x9, go_sem, ↓reduceIte, reduceCtorEq, Nat.reduceEqDiff, Nat.reduceAdd, Nat.reduceLeDiff, Nat.reduceMul, Int.reduceEq, Int.reduceLT, Int.reduceLE, Int.reduceAdd, Int.reduceSub, Int.reduceMul, Int.reduceNeg, Int.reduceToNat, Int.reduceNe, Int.reduceBEq, Int.reduceBNe, Nat.reduceLT, Nat.reduceSub, Nat.reduceDiv, Nat.reduceMod, Int.reduceTDiv, Int.reduceTMod, a1, a2, c1, c2, s1, s2, p1, p2, q1, q2, s3, w1, hk, r12, rt_eq, false_and]
      · by_cases hk : k = 0
        · subst hk
          obtain ⟨z1, z2⟩ := mp rfl
          by_cases hx : x = 0
          · subst hx
            simp (config := {contextual := true, maxSteps := 10000000, implicitDefEqProofs := false}) only [x9, go_sem, ↓reduceIte, reduceCtorEq, Nat.reduceEqDiff, Nat.reduceAdd, Nat.reduceLeDiff, Nat.reduceMul, Int.reduceEq, Int.reduceLT, Int.reduceLE, Int.reduceAdd, Int.reduceSub, Int.reduceMul, Int.reduceNeg, Int.reduceToNat, Int.reduceNe, Int.reduceBEq, Int.reduceBNe, Nat.reduceLT, Nat.reduceSub, Nat.reduceDiv, Nat.reduceMod, Int.reduceTDiv, Int.reduceTMod, a1, a2, c1, c2, s1, s2, p1, p2, q1, q2, hg, z1, r12, rt_eq, false_and]
          · have z3 := z2 hx
            simp (config := {contextual := true, maxSteps := 10000000, implicitDefEqProofs := false}) only [x9, go_sem, ↓reduceIte, reduceCtorEq, Nat.reduceEqDiff, Nat.reduceAdd, Nat.reduceLeDiff, Nat.reduceMul, Int.reduceEq, Int.reduceLT, Int.reduceLE, Int.reduceAdd, Int.reduceSub, Int.reduceMul, Int.reduceNeg, Int.reduceToNat, Int.reduceNe, Int.reduceBEq, Int.reduceBNe, Nat.reduceLT, Nat.reduceSub, Nat.reduceDiv, Nat.reduceMod, Int.reduceTDiv, Int.reduceTMod, a1, a2, c1, c2, s1, s2, p1, p2, q1, q2, hg, z1, z3, hx, r12, rt_eq, false_and]
        · simp (config := {contextual := true, maxSteps := 10000000, implicitDefEqProofs := false}) only [x9, go_sem, ↓reduceIte, reduceCtorEq, Nat.reduceEqDiff, Nat.reduceAdd, Nat.reduceLeDiff, Nat.reduceMul, Int.reduceEq, Int.reduceLT, Int.reduceLE, Int.reduceAdd, Int.reduceSub, Int.reduceMul, Int.reduceNeg, Int.reduceToNat, Int.reduceNe, Int.reduceBEq, Int.reduceBNe, Nat.reduceLT, Nat.reduceSub, Nat.reduceDiv, Nat.reduceMod, Int.reduceTDiv, Int.reduceTMod, a1, a2, c1, c2, s1, s2, p1, p2, q1, q2, hg, hk, r12, rt_eq, false_and]
    · simp (config := {contextual := true, maxSteps := 10000000, implicitDefEqProofs := false}) only [x9, go_sem, ↓reduceIte, reduceCtorEq, Nat.reduceEqDiff, Nat.reduceAdd, Nat.reduceLeDiff, Nat.reduceMul, Int.reduceEq, Int.reduceLT, Int.reduceLE, Int.reduceAdd, Int.reduceSub, Int.reduceMul, Int.reduceNeg, Int.reduceToNat, Int.reduceNe, Int.reduceBEq, Int.reduceBNe, Nat.reduceLT, Nat.reduceSub, Nat.reduceDiv, Nat.reduceMod, Int.reduceTDiv, Int.reduceTMod, a1, a2, he, hf, r12, rt_eq]
  · simp (config := {contextual := true, maxSteps := 10000000, implicitDefEqProofs := false}) only [x9, go_sem, ↓reduceIte, reduceCtorEq, Nat.reduceEqDiff, Nat.reduceAdd, Nat.reduceLeDiff, Nat.reduceMul, Int.reduceEq, Int.reduceLT, Int.reduceLE, Int.reduceAdd, Int.reduceSub, Int.reduceMul, Int.reduceNeg, Int.reduceToNat, Int.reduceNe, Int.reduceBEq, Int.reduceBNe, Nat.reduceLT, Nat.reduceSub, Nat.reduceDiv, Nat.reduceMod, Int.reduceTDiv, Int.reduceTMod, a1, a2, he, r12, rt_eq]
end Go.Proofs.Ytpfollpbkpgglaa.Sx.T
