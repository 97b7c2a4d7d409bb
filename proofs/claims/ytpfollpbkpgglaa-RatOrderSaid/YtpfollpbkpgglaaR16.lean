/- Layer 1, part 16: the program's functions. -/
import Derived.Test.YtpfollpbkpgglaaR15
set_option linter.unusedVariables false
set_option linter.unusedSimpArgs false
namespace Go.Proofs.Ytpfollpbkpgglaa.Sx.T
open Go Go.Proofs.Ytpfollpbkpgglaa.Sx
set_option maxRecDepth 100000
set_option maxHeartbeats 4000000
theorem r11 (a b c d : Int) (ha : I64 a) (hb : I64 b) (hc : I64 c) (hd : I64 d) (hp : Heap) : CL X G0 11 [.agg [.int .i64 a, .int .i64 b], .agg [.int .i64 c, .int .i64 d]] hp = some (rt (addR a b c d), hp) := by
  rw [CL_eq (fn := x11) rfl]
  have a1 := r28 a b ha hb
  have a2 := r28 c d hc hd
  unfold addR both
  by_cases h1 : mayR a b = true
  · by_cases h2 : mayR c d = true
    · have p1 := may_pos h1
      have p2 := may_pos h2
      have e1 : ((b.natAbs : Nat) : Int) = b := by omega
      have e2 : ((d.natAbs : Nat) : Int) = d := by omega
      have a3 := r29 a c b.natAbs d.natAbs 1 false rfl ha (by unfold I64 at hb; omega) hc (by unfold I64 at hd; omega) (by omega) (by omega) (may_gcd h1) (may_gcd h2)
      rw [e1, e2] at a3
      simp (config := {contextual := true, maxSteps := 10000000, implicitDefEqProofs := false}) only [x11, go_sem, ↓reduceIte, reduceCtorEq, Nat.reduceEqDiff, Nat.reduceAdd, Nat.reduceLeDiff, Nat.reduceMul, Int.reduceEq, Int.reduceLT, Int.reduceLE, Int.reduceAdd, Int.reduceSub, Int.reduceMul, Int.reduceNeg, Int.reduceToNat, Int.reduceNe, Int.reduceBEq, Int.reduceBNe, Nat.reduceLT, Nat.reduceSub, Nat.reduceDiv, Nat.reduceMod, Int.reduceTDiv, Int.reduceTMod, a1, a2, h1, h2, a3, rt_eq]
    · simp (config := {contextual := true, maxSteps := 10000000, implicitDefEqProofs := false}) only [x11, go_sem, ↓reduceIte, reduceCtorEq, Nat.reduceEqDiff, Nat.reduceAdd, Nat.reduceLeDiff, Nat.reduceMul, Int.reduceEq, Int.reduceLT, Int.reduceLE, Int.reduceAdd, Int.reduceSub, Int.reduceMul, Int.reduceNeg, Int.reduceToNat, Int.reduceNe, Int.reduceBEq, Int.reduceBNe, Nat.reduceLT, Nat.reduceSub, Nat.reduceDiv, Nat.reduceMod, Int.reduceTDiv, Int.reduceTMod, a1, a2, h1, h2, rt_eq]
  · by_cases h2 : mayR c d = true
    · simp (config := {contextual := true, maxSteps := 10000000, implicitDefEqProofs := false}) only [x11, go_sem, ↓reduceIte, reduceCtorEq, Nat.reduceEqDiff, Nat.reduceAdd, Nat.reduceLeDiff, Nat.reduceMul, Int.reduceEq, Int.reduceLT, Int.reduceLE, Int.reduceAdd, Int.reduceSub, Int.reduceMul, Int.reduceNeg, Int.reduceToNat, Int.reduceNe, Int.reduceBEq, Int.reduceBNe, Nat.reduceLT, Nat.reduceSub, Nat.reduceDiv, Nat.reduceMod, Int.reduceTDiv, Int.reduceTMod, a1, a2, h1, h2, rt_eq]
    · simp (config := {contextual := true, maxSteps := 10000000, implicitDefEqProofs := false}) only [x11, go_sem, ↓reduceIte, reduceCtorEq, Nat.reduceEqDiff, Nat.reduceAdd, Nat.reduceLeDiff, Nat.reduceMul, Int.reduceEq, Int.reduceLT, Int.reduceLE, Int.reduceAdd, Int.reduceSub, Int.reduceMul, Int.reduceNeg, Int.reduceToNat, Int.reduceNe, Int.reduceBEq, Int.reduceBNe, Nat.reduceLT, Nat.reduceSub, Nat.reduceDiv, Nat.reduceMod, Int.reduceTDiv, Int.reduceTMod, a1, a2, h1, h2, rt_eq]
theorem r19 (a b c d : Int) (ha : I64 a) (hb : I64 b) (hc : I64 c) (hd : I64 d) (hp : Heap) : CL X G0 19 [.agg [.int .i64 a, .int .i64 b], .agg [.int .i64 c, .int .i64 d]] hp = some (rt (subR a b c d), hp) := by
  rw [CL_eq (fn := x19) rfl]
  have a1 := r28 a b ha hb
  have a2 := r28 c d hc hd
  unfold subR both
  by_cases h1 : mayR a b = true
  · by_cases h2 : mayR c d = true
    · have p1 := may_pos h1
      have p2 := may_pos h2
      have e1 : ((b.natAbs : Nat) : Int) = b := by omega
      have e2 : ((d.natAbs : Nat) : Int) = d := by omega
      have a3 := r29 a c b.natAbs d.natAbs (-1) true rfl ha (by unfold I64 at hb; omega) hc (by unfold I64 at hd; omega) (by omega) (by omega) (may_gcd h1) (may_gcd h2)
      rw [e1, e2] at a3
      simp (config := {contextual := true, maxSteps := 10000000, implicitDefEqProofs := false}) only [x19, go_sem, ↓reduceIte, reduceCtorEq, Nat.reduceEqDiff, Nat.reduceAdd, Nat.reduceLeDiff, Nat.reduceMul, Int.reduceEq, Int.reduceLT, Int.reduceLE, Int.reduceAdd, Int.reduceSub, Int.reduceMul, Int.reduceNeg, Int.reduceToNat, Int.reduceNe, Int.reduceBEq, Int.reduceBNe, Nat.reduceLT, Nat.reduceSub, Nat.reduceDiv, Nat.reduceMod, Int.reduceTDiv, Int.reduceTMod, a1, a2, h1, h2, a3, rt_eq]
    · simp (config := {contextual := true, maxSteps := 10000000, implicitDefEqProofs := false}) only [x19, go_sem, ↓reduceIte, reduceCtorEq, Nat.reduceEqDiff, Nat.reduceAdd, Nat.reduceLeDiff, Nat.reduceMul, Int.reduceEq, Int.reduceLT, Int.reduceLE, Int.reduceAdd, Int.reduceSub, Int.reduceMul, Int.reduceNeg, Int.reduceToNat, Int.reduceNe, Int.reduceBEq, Int.reduceBNe, Nat.reduceLT, Nat.reduceSub, Nat.reduceDiv, Nat.reduceMod, Int.reduceTDiv, Int.reduceTMod, a1, a2, h1, h2, rt_eq]
  · by_cases h2 : mayR c d = true
    · simp (config := {contextual := true, maxSteps := 10000000, implicitDefEqProofs := false}) only [x19, go_sem, ↓reduceIte, reduceCtorEq, Nat.reduceEqDiff, Nat.reduceAdd, Nat.reduceLeDiff, Nat.reduceMul, Int.reduceEq, Int.reduceLT, Int.reduceLE, Int.reduceAdd, Int.reduceSub, Int.reduceMul, Int.reduceNeg, Int.reduceToNat, Int.reduceNe, Int.reduceBEq, Int.reduceBNe, Nat.reduceLT, Nat.reduceSub, Nat.reduceDiv, Nat.reduceMod, Int.reduceTDiv, Int.reduceTMod, a1, a2, h1, h2, rt_eq]
    · simp (config := {contextual := true, maxSteps := 10000000, implicitDefEqProofs := false}) only [x19, go_sem, ↓reduceIte, reduceCtorEq, Nat.reduceEqDiff, Nat.reduceAdd, Nat.reduceLeDiff, Nat.reduceMul, Int.reduceEq, Int.reduceLT, Int.reduceLE, Int.reduceAdd, Int.reduceSub, Int.reduceMul, Int.reduceNeg, Int.reduceToNat, Int.reduceNe, Int.reduceBEq, Int.reduceBNe, Nat.reduceLT, Nat.reduceSub, Nat.reduceDiv, Nat.reduceMod, Int.reduceTDiv, Int.reduceTMod, a1, a2, h1, h2, rt_eq]
theorem gcd_prod (a b c d : Nat) (hc : 0 < c) (hd : 0 < d) (hac : Nat.gcd a c = 1) (hbd : Nat.gcd b d = 1) :
    a * b / Nat.gcd (a * b) (c * d) = a / Nat.gcd a d * (b / Nat.gcd b c) ∧ c * d / Nat.gcd (a * b) (c * d) = c / Nat.gcd b c * (d / Nat.gcd a d) := by
  have g0 : 0 < Nat.gcd a d := Nat.gcd_pos_of_pos_right _ hd
  have h0 : 0 < Nat.gcd b c := Nat.gcd_pos_of_pos_right _ hc
  have c1 : Nat.Coprime (a / Nat.gcd a d) (d / Nat.gcd a d) := Nat.coprime_div_gcd_div_gcd g0
  have c2 : Nat.Coprime (b / Nat.gcd b c) (c / Nat.gcd b c) := Nat.coprime_div_gcd_div_gcd h0
  have ga := Nat.gcd_dvd_left a d
  have gd := Nat.gcd_dvd_right a d
  have gb := Nat.gcd_dvd_left b c
  have gc := Nat.gcd_dvd_right b c
  have ea := Nat.mul_div_cancel' ga
  have ed := Nat.mul_div_cancel' gd
  have eb := Nat.mul_div_cancel' gb
  have ec := Nat.mul_div_cancel' gc
  have c3 : Nat.Coprime (a / Nat.gcd a d) (c / Nat.gcd b c) := Nat.Coprime.coprime_dvd_left (Nat.div_dvd_of_dvd ga) (Nat.Coprime.coprime_dvd_right (Nat.div_dvd_of_dvd gc) hac)
  have c4 : Nat.Coprime (b / Nat.gcd b c) (d / Nat.gcd a d) := Nat.Coprime.coprime_dvd_left (Nat.div_dvd_of_dvd gb) (Nat.Coprime.coprime_dvd_right (Nat.div_dvd_of_dvd gd) hbd)
  generalize Nat.gcd a d = g at *
  generalize Nat.gcd b c = h at *
  generalize a / g = a' at *
  generalize d / g = d' at *
  generalize b / h = b' at *
  generalize c / h = c' at *
  subst ea ed eb ec
  have x1 : g * a' * (h * b') = g * h * (a' * b') := by ac_rfl
  have x2 : h * c' * (g * d') = g * h * (c' * d') := by ac_rfl
  have cc : Nat.gcd (a' * b') (c' * d') = 1 := Nat.Coprime.mul_right (Nat.Coprime.mul_left c3 c2) (Nat.Coprime.mul_left c1 c4)
  rw [x1, x2, Nat.gcd_mul_left, cc, Nat.mul_one, Nat.mul_div_cancel_left _ (Nat.mul_pos g0 h0), Nat.mul_div_cancel_left _ (Nat.mul_pos g0 h0)]
  exact ⟨rfl, rfl⟩
theorem r39 (a c b d : Nat) (m : Bool) (ha : a < 18446744073709551616) (hc : c < 18446744073709551616) (hb : b < 18446744073709551616) (hd : d < 18446744073709551616) (c0 : 0 < c) (d0 : 0 < d)
    (hac : Nat.gcd a c = 1) (hbd : Nat.gcd b d = 1) (hp : Heap) :
    CL X G0 39 [.int .u64 a, .int .u64 c, .int .u64 b, .int .u64 d, .bool m] hp = some (rt (mk (m && decide (a * b ≠ 0)) (a * b) (c * d)), hp) := by
  rw [CL_eq (fn := x39) rfl]
  obtain ⟨g, hg⟩ : ∃ g, Nat.gcd a d = g := ⟨_, rfl⟩
  obtain ⟨h, hh⟩ : ∃ h, Nat.gcd b c = h := ⟨_, rfl⟩
  have g0 : g ≠ 0 := by rw [← hg]; exact Nat.ne_of_gt (Nat.gcd_pos_of_pos_right _ d0)
  have h0 : h ≠ 0 := by rw [← hh]; exact Nat.ne_of_gt (Nat.gcd_pos_of_pos_right _ c0)
  have gp := gcd_prod a b c d c0 d0 hac hbd
  rw [mk_pack, gp.1, gp.2, hg, hh]
  have la : a / g ≤ a := Nat.div_le_self _ _
  have lb : b / h ≤ b := Nat.div_le_self _ _
  have lc : c / h ≤ c := Nat.div_le_self _ _
  have ld : d / g ≤ d := Nat.div_le_self _ _
  have z : (a * b ≠ 0) ↔ (a / g * (b / h) ≠ 0) := by
    have e1 := Nat.div_mul_cancel (show g ∣ a by rw [← hg]; exact Nat.gcd_dvd_left _ _)
    have e2 := Nat.div_mul_cancel (show h ∣ b by rw [← hh]; exact Nat.gcd_dvd_left _ _)
    constructor
    · intro p q
      apply p
      rcases Nat.mul_eq_zero.1 q with q | q
      · rw [← e1, q, Nat.zero_mul, Nat.zero_mul]
      · rw [← e2, q, Nat.zero_mul, Nat.mul_zero]
    · intro p q
      apply p
      rcases Nat.mul_eq_zero.1 q with q | q
      · rw [q, Nat.zero_div, Nat.zero_mul]
      · rw [q, Nat.zero_div, Nat.mul_zero]
  have h42a := r42 (a / g) (b / h) (by omega) (by omega)
  have h42c := r42 (c / h) (d / g) (by omega) (by omega)
  have ma : a / g % 18446744073709551616 = a / g := Nat.mod_eq_of_lt (by omega)
  have mb : b / h % 18446744073709551616 = b / h := Nat.mod_eq_of_lt (by omega)
  have mc : c / h % 18446744073709551616 = c / h := Nat.mod_eq_of_lt (by omega)
  have md : d / g % 18446744073709551616 = d / g := Nat.mod_eq_of_lt (by omega)
  have z' : decide (a * b ≠ 0) = decide (a / g * (b / h) ≠ 0) := decide_eq_decide.2 z
  rw [z']
  obtain ⟨N, hN⟩ : ∃ N, a / g * (b / h) = N := ⟨_, rfl⟩
  obtain ⟨Q, hQ⟩ : ∃ Q, c / h * (d / g) = Q := ⟨_, rfl⟩
  simp only [hN] at h42a ⊢
  simp only [hQ] at h42c ⊢
  by_cases n1 : N / 18446744073709551616 = 0
  · have n2 : N % 18446744073709551616 = N := by omega
    have nb := neg_back N
    obtain ⟨w, hw⟩ : ∃ w, (m && !decide (N = 0)) = w := ⟨_, rfl⟩
    have hw' : (m && decide (N ≠ 0)) = w := by rw [← hw]; simp
    rw [hw']
    have hN0 : ∀ (A B : Bool), (if N = 0 then A else B) = if N = 0 then A else B := fun _ _ => rfl
    by_cases q1 : Q / 18446744073709551616 = 0
    · have q2 : Q % 18446744073709551616 = Q := by omega
      by_cases q3 : Q < 9223372036854775808
      · have q4 : ((9223372036854775807 : Int) < (Q : Int)) = False := eq_false (by omega)
        have q5 : wr .i64 (Q : Int) = (Q : Int) := wr_i64 _ (by omega)
        rcases Nat.lt_trichotomy N 9223372036854775808 with t | t | t
        · have t1 : ((9223372036854775808 : Int) < (N : Int)) = False := eq_false (by omega)
          have t2 : ((N : Int) = (9223372036854775808 : Int)) = False := eq_false (by omega)
          have t3 : wr .i64 (N : Int) = (N : Int) := wr_i64 _ (by omega)
          have pk : pack w N Q = (sv w N, (Q : Int), 0) := by rw [pack_ok, if_pos ⟨by simp [okP, t], q3⟩]
          rw [pk]
          simp (config := {contextual := true, maxSteps := 10000000, implicitDefEqProofs := false}) only [x39, go_sem, ↓reduceIte, reduceCtorEq, Nat.reduceEqDiff, Nat.reduceAdd, Nat.reduceLeDiff, Nat.reduceMul, Int.reduceEq, Int.reduceLT, Int.reduceLE, Int.reduceAdd, Int.reduceSub, Int.reduceMul, Int.reduceNeg, Int.reduceToNat, Int.reduceNe, Int.reduceBEq, Int.reduceBNe, Nat.reduceLT, Nat.reduceSub, Nat.reduceDiv, Nat.reduceMod, Int.reduceTDiv, Int.reduceTMod, r26, hg, hh, g0, h0, ma, mb, mc, md, h42a, h42c, n1, n2, q1, q2, q4, q5, t1, t2, t3, nb (by omega), hw, rt_eq]
          subst hw
          cases m <;> by_cases n0 : N = 0 <;> simp [sv, n0]
        · have t1 : ((9223372036854775808 : Int) < (N : Int)) = False := eq_false (by omega)
          have t2 : ((N : Int) = (9223372036854775808 : Int)) = True := eq_true (by omega)
          have t3 : N ≠ 0 := by omega
          simp (config := {contextual := true, maxSteps := 10000000, implicitDefEqProofs := false}) only [x39, go_sem, ↓reduceIte, reduceCtorEq, Nat.reduceEqDiff, Nat.reduceAdd, Nat.reduceLeDiff, Nat.reduceMul, Int.reduceEq, Int.reduceLT, Int.reduceLE, Int.reduceAdd, Int.reduceSub, Int.reduceMul, Int.reduceNeg, Int.reduceToNat, Int.reduceNe, Int.reduceBEq, Int.reduceBNe, Nat.reduceLT, Nat.reduceSub, Nat.reduceDiv, Nat.reduceMod, Int.reduceTDiv, Int.reduceTMod, r26, hg, hh, g0, h0, ma, mb, mc, md, h42a, h42c, n1, n2, q1, q2, q4, q5, t1, t2, t3, nb (by omega), hw, rt_eq]
          subst hw
          cases m <;> simp [pack, t, show ¬ 9223372036854775808 ≤ Q by omega]
        · have t1 : ((9223372036854775808 : Int) < (N : Int)) = True := eq_true (by omega)
          have pk : pack w N Q = (0, 0, 10) := by rw [pack_ok, if_neg (by simp [okP]; omega)]
          rw [pk]
          simp (config := {contextual := true, maxSteps := 10000000, implicitDefEqProofs := false}) only [x39, go_sem, ↓reduceIte, reduceCtorEq, Nat.reduceEqDiff, Nat.reduceAdd, Nat.reduceLeDiff, Nat.reduceMul, Int.reduceEq, Int.reduceLT, Int.reduceLE, Int.reduceAdd, Int.reduceSub, Int.reduceMul, Int.reduceNeg, Int.reduceToNat, Int.reduceNe, Int.reduceBEq, Int.reduceBNe, Nat.reduceLT, Nat.reduceSub, Nat.reduceDiv, Nat.reduceMod, Int.reduceTDiv, Int.reduceTMod, r26, hg, hh, g0, h0, ma, mb, mc, md, h42a, h42c, n1, n2, q1, q2, q4, q5, t1, hw, rt_eq]
      · have q4 : ((9223372036854775807 : Int) < (Q : Int)) = True := eq_true (by omega)
        have pk : pack w N Q = (0, 0, 10) := by rw [pack_ok, if_neg (fun h => q3 h.2)]
        rw [pk]
        simp (config := {contextual := true, maxSteps := 10000000, implicitDefEqProofs := false}) only [x39, go_sem, ↓reduceIte, reduceCtorEq, Nat.reduceEqDiff, Nat.reduceAdd, Nat.reduceLeDiff, Nat.reduceMul, Int.reduceEq, Int.reduceLT, Int.reduceLE, Int.reduceAdd, Int.reduceSub, Int.reduceMul, Int.reduceNeg, Int.reduceToNat, Int.reduceNe, Int.reduceBEq, Int.reduceBNe, Nat.reduceLT, Nat.reduceSub, Nat.reduceDiv, Nat.reduceMod, Int.reduceTDiv, Int.reduceTMod, r26, hg, hh, g0, h0, ma, mb, mc, md, h42a, h42c, n1, n2, q1, q2, q4, hw, rt_eq]
    · have pk : pack w N Q = (0, 0, 10) := by rw [pack_ok, if_neg (fun h => q1 (by omega))]
      rw [pk]
      simp (config := {contextual := true, maxSteps := 10000000, implicitDefEqProofs := false}) only [x39, go_sem, ↓reduceIte, reduceCtorEq, Nat.reduceEqDiff, Nat.reduceAdd, Nat.reduceLeDiff, Nat.reduceMul, Int.reduceEq, Int.reduceLT, Int.reduceLE, Int.reduceAdd, Int.reduceSub, Int.reduceMul, Int.reduceNeg, Int.reduceToNat, Int.reduceNe, Int.reduceBEq, Int.reduceBNe, Nat.reduceLT, Nat.reduceSub, Nat.reduceDiv, Nat.reduceMod, Int.reduceTDiv, Int.reduceTMod, r26, hg, hh, g0, h0, ma, mb, mc, md, h42a, h42c, n1, n2, q1, hw, rt_eq]
  · have pk : ∀ w, pack w N Q = (0, 0, 10) := fun w => by rw [pack_ok, if_neg (by simp [okP]; omega)]
    rw [pk]
    simp (config := {contextual := true, maxSteps := 10000000, implicitDefEqProofs := false}) only [x39, go_sem, ↓reduceIte, reduceCtorEq, Nat.reduceEqDiff, Nat.reduceAdd, Nat.reduceLeDiff, Nat.reduceMul, Int.reduceEq, Int.reduceLT, Int.reduceLE, Int.reduceAdd, Int.reduceSub, Int.reduceMul, Int.reduceNeg, Int.reduceToNat, Int.reduceNe, Int.reduceBEq, Int.reduceBNe, Nat.reduceLT, Nat.reduceSub, Nat.reduceDiv, Nat.reduceMod, Int.reduceTDiv, Int.reduceTMod, r26, hg, hh, g0, h0, ma, mb, mc, md, h42a, h42c, n1, rt_eq]
end Go.Proofs.Ytpfollpbkpgglaa.Sx.T
