/- Layer 1, part 13: the quotient of a number of 128 bits. -/
import Derived.Test.YtpfollpbkpgglaaR12
set_option linter.unusedVariables false
set_option linter.unusedSimpArgs false
namespace Go.Proofs.Ytpfollpbkpgglaa.Sx.T
open Go Go.Proofs.Ytpfollpbkpgglaa.Sx
set_option maxRecDepth 100000
set_option maxHeartbeats 4000000
theorem r49 (n : Nat) (h0 : 0 < n) (h : n < 18446744073709551616) : ∃ s, (∀ hp, CL X G0 49 [.int .u64 n] hp = some (.int .i64 (s : Nat), hp)) ∧ s ≤ 63 ∧ 9223372036854775808 ≤ n * 2 ^ s ∧ n * 2 ^ s < 18446744073709551616 ∧ (2 ≤ n → s ≤ 62) := by
  obtain ⟨k, hk, k1, k2, k3, k4⟩ := r50 n h0 h []
  refine ⟨64 - k, ?_, by omega, ?_, ?_, ?_⟩
  · intro hp
    rw [CL_eq (fn := x49) rfl]
    have e : wr .i64 (64 - (k : Int)) = ((64 - k : Nat) : Int) := by rw [wr_i64 _ (by omega)]; omega
    simp (config := {contextual := true, maxSteps := 10000000, implicitDefEqProofs := false}) only [x49, go_sem, ↓reduceIte, reduceCtorEq, Nat.reduceEqDiff, Nat.reduceAdd, Nat.reduceLeDiff, Nat.reduceMul, Int.reduceEq, Int.reduceLT, Int.reduceLE, Int.reduceAdd, Int.reduceSub, Int.reduceMul, Int.reduceNeg, Int.reduceToNat, Int.reduceNe, Int.reduceBEq, Int.reduceBNe, Nat.reduceLT, Nat.reduceSub, Nat.reduceDiv, Nat.reduceMod, Int.reduceTDiv, Int.reduceTMod, hk, e]
  · have := Nat.mul_le_mul_right (2 ^ (64 - k)) k3
    rw [← Nat.pow_add, show k - 1 + (64 - k) = 63 by omega] at this
    exact this
  · have := Nat.mul_lt_mul_of_pos_right k4 (Nat.two_pow_pos (64 - k))
    rw [← Nat.pow_add, show k + (64 - k) = 64 by omega] at this
    exact this
  · intro h2
    have : 2 ≤ k := by
      apply Nat.le_of_not_lt
      intro hlt
      have : k = 1 := by omega
      subst this
      omega
    omega
theorem comb0 (u a b A B r1 r0 : Nat) (h1 : 4294967296 * u + a = A + r1) (h0 : 4294967296 * r1 + b = B + r0) :
    18446744073709551616 * u + (4294967296 * a + b) = 4294967296 * A + B + r0 := by
  omega
theorem comb (u L q1 q0 r1 r0 Y : Nat) (h1 : u * 4294967296 + L / 4294967296 = q1 * Y + r1) (h0 : r1 * 4294967296 + L % 4294967296 = q0 * Y + r0) :
    u * 18446744073709551616 + L = (q1 * 4294967296 + q0) * Y + r0 := by
  have a : (q1 * 4294967296 + q0) * Y = 4294967296 * (q1 * Y) + q0 * Y := by rw [Nat.add_mul, Nat.mul_right_comm, Nat.mul_comm (q1 * Y)]
  rw [Nat.mul_comm] at h1 h0
  have e := comb0 _ _ _ _ _ _ _ h1 h0
  rw [Nat.div_add_mod] at e
  rw [a, Nat.mul_comm u]
  exact e
theorem comb3 (h A x z : Nat) : 18446744073709551616 * (h * A) + (18446744073709551616 * x + z) = 18446744073709551616 * (h * A + x) + z := by
  rw [Nat.mul_add, Nat.add_assoc]
theorem le1_law (x Q v Y : Nat) (hQ : Q = (x * 4294967296 + v) / Y) (hv : v < 4294967296) (hY : 4294967296 ≤ Y) : Q ≤ x / (Y / 4294967296) := by
  rw [Nat.le_div_iff_mul_le (by omega)]
  have a := Nat.div_mul_le_self (x * 4294967296 + v) Y
  rw [← hQ] at a
  have b := Nat.mul_le_mul_left Q (show Y / 4294967296 * 4294967296 ≤ Y by omega)
  rw [← Nat.mul_assoc] at b
  omega
/-- The plain law of the division. -/
theorem div_law (hi lo y s : Nat) (hy : hi < y) (hlo : lo < 18446744073709551616) (hs : s ≤ 62) (hn1 : 9223372036854775808 ≤ y * 2 ^ s) (hn2 : y * 2 ^ s < 18446744073709551616)
    (Y u L q1 r1 q0 r0 : Nat) (hY : Y = y * 2 ^ s) (hu : u = hi * 2 ^ s + lo / 2 ^ (64 - s)) (hL : L = lo * 2 ^ s % 18446744073709551616)
    (h1 : u * 4294967296 + L / 4294967296 = q1 * Y + r1) (l1 : r1 < Y) (h0 : r1 * 4294967296 + L % 4294967296 = q0 * Y + r0) (l0 : r0 < Y) :
    q1 * 4294967296 + q0 = (hi * 18446744073709551616 + lo) / y ∧ r0 / 2 ^ s = (hi * 18446744073709551616 + lo) % y := by
  have hp := Nat.two_pow_pos s
  have e64 : 2 ^ s * 2 ^ (64 - s) = 18446744073709551616 := by rw [← Nat.pow_add, show s + (64 - s) = 64 by omega]
  have hU : (hi * 18446744073709551616 + lo) * 2 ^ s = u * 18446744073709551616 + L := by
    have d := Nat.div_add_mod lo (2 ^ (64 - s))
    have ml := Nat.mod_lt lo (Nat.two_pow_pos (64 - s))
    rw [hL, hu]
    generalize 2 ^ (64 - s) = B at *
    generalize 2 ^ s = A at *
    generalize lo / B = x at *
    generalize lo % B = z at *
    have m : lo * A = A * B * x + z * A := by rw [← d, Nat.add_mul]; congr 1; ac_rfl
    have lt : z * A < A * B := by rw [Nat.mul_comm A B]; exact Nat.mul_lt_mul_of_pos_right ml hp
    rw [e64] at m lt
    have mm : lo * A % 18446744073709551616 = z * A := by rw [m, Nat.mul_add_mod, Nat.mod_eq_of_lt lt]
    rw [mm, Nat.add_mul, m, Nat.mul_right_comm hi, Nat.mul_comm _ 18446744073709551616, Nat.mul_comm _ 18446744073709551616]
    exact comb3 hi A x (z * A)
  have hU2 : u * 18446744073709551616 + L = (q1 * 4294967296 + q0) * Y + r0 := by
    exact comb u L q1 q0 r1 r0 Y h1 h0
  have hYp : 0 < Y := by omega
  have u1 := (Nat.div_mod_unique (a := u * 18446744073709551616 + L) (d := q1 * 4294967296 + q0) (c := r0) hYp).2 ⟨by rw [hU2, Nat.mul_comm Y]; omega, l0⟩
  rw [← hU, hY] at u1
  rw [Nat.mul_div_mul_right _ _ hp, Nat.mul_mod_mul_right] at u1
  refine ⟨u1.1.symm, ?_⟩
  rw [← u1.2, Nat.mul_div_cancel _ hp]
theorem sub_law1 (x z r : Nat) (hx : x = z + r) (hr : r < 18446744073709551616) : u64 ((x : Int) - ((z % 18446744073709551616 : Nat) : Int)) = r := by
  simp only [u64]; omega
theorem sub_law2 (x v z r : Nat) (hx : x * 4294967296 + v = z + r) (hr : r < 18446744073709551616) : u64 (((x * 4294967296 % 18446744073709551616 + v) % 18446744073709551616 : Nat) - ((z % 18446744073709551616 : Nat) : Int)) = r := by
  simp only [u64]; omega
theorem r40 (hi lo y : Nat) (hy : hi < y) (hy' : y < 18446744073709551616) (hlo : lo < 18446744073709551616) (hp : Heap) :
    CL X G0 40 [.int .u64 hi, .int .u64 lo, .int .u64 y] hp = some (.tup [.int .u64 ((hi * 18446744073709551616 + lo) / y : Nat), .int .u64 ((hi * 18446744073709551616 + lo) % y : Nat)], hp) := by
  rw [CL_eq (fn := x40) rfl]
  have f1 : y ≠ 0 := by omega
  have f2 : ((y : Int) ≤ hi) = False := eq_false (by omega)
  by_cases h0 : hi = 0
  · subst h0
    have f3 : lo / y % 18446744073709551616 = lo / y := Nat.mod_eq_of_lt (Nat.lt_of_le_of_lt (Nat.div_le_self _ _) hlo)
    simp (config := {contextual := true, maxSteps := 10000000, implicitDefEqProofs := false}) only [x40, go_sem, ↓reduceIte, reduceCtorEq, Nat.reduceEqDiff, Nat.reduceAdd, Nat.reduceLeDiff, Nat.reduceMul, Int.reduceEq, Int.reduceLT, Int.reduceLE, Int.reduceAdd, Int.reduceSub, Int.reduceMul, Int.reduceNeg, Int.reduceToNat, Int.reduceNe, Int.reduceBEq, Int.reduceBNe, Nat.reduceLT, Nat.reduceSub, Nat.reduceDiv, Nat.reduceMod, Int.reduceTDiv, Int.reduceTMod, f1, f2, f3, Nat.zero_mul]
  · obtain ⟨s, a49, hs, n1, n2, hs2⟩ := r49 y (by omega) hy'
    have hs62 := hs2 (by omega)
    have g1 : s % 18446744073709551616 = s := by omega
    have g2 : min s 64 = s := by omega
    have g3 : u64 (64 - (s : Int)) = 64 - s := by simp only [u64]; omega
    have g4 : min (64 - s) 64 = 64 - s := by omega
    obtain ⟨Y, hY⟩ : ∃ Y, y * 2 ^ s = Y := ⟨_, rfl⟩
    have g5 : Y % 18446744073709551616 = Y := Nat.mod_eq_of_lt (by omega)
    have e64 : 2 ^ s * 2 ^ (64 - s) = 18446744073709551616 := by rw [← Nat.pow_add, show s + (64 - s) = 64 by omega]
    have hlo2 : lo / 2 ^ (64 - s) < 2 ^ s := by
      rw [Nat.div_lt_iff_lt_mul (Nat.two_pow_pos _), e64]
      exact hlo
    obtain ⟨u, hu⟩ : ∃ u, hi * 2 ^ s + lo / 2 ^ (64 - s) = u := ⟨_, rfl⟩
    have huY : u < Y := by
      have i1 : hi * 2 ^ s + 2 ^ s ≤ Y := by rw [← hY, ← Nat.succ_mul]; exact Nat.mul_le_mul_right _ hy
      have i2 : u < hi * 2 ^ s + 2 ^ s := by rw [← hu]; exact Nat.add_lt_add_left hlo2 _
      exact Nat.lt_of_lt_of_le i2 i1
    have hhi : hi * 2 ^ s < 18446744073709551616 := by
      refine Nat.lt_of_le_of_lt (Nat.mul_le_mul_right _ (Nat.le_of_lt hy)) ?_
      rw [hY]; omega
    have g6 : ((hi * 2 ^ s % 18446744073709551616) ||| (lo / 2 ^ (64 - s))) % 18446744073709551616 = u := by
      rw [Nat.mod_eq_of_lt hhi, Nat.mul_comm, ← Nat.two_pow_add_eq_or_of_lt hlo2, Nat.mul_comm, hu]
      exact Nat.mod_eq_of_lt (Nat.lt_trans huY (by omega))
    obtain ⟨L, hL⟩ : ∃ L, lo * 2 ^ s % 18446744073709551616 = L := ⟨_, rfl⟩
    have hLb : L < 18446744073709551616 := by omega
    have g7 : L % 18446744073709551616 = L := Nat.mod_eq_of_lt hLb
    have b1 : L % 4294967296 % 18446744073709551616 = L % 4294967296 := by omega
    have b2 : Y % 4294967296 % 18446744073709551616 = Y % 4294967296 := by omega
    have hyh : Y / 4294967296 ≠ 0 := by omega
    have dec : Y / 4294967296 * 4294967296 + Y % 4294967296 = Y := by omega
    obtain ⟨q1, hq1⟩ : ∃ q1, (u * 4294967296 + L / 4294967296) / Y = q1 := ⟨_, rfl⟩
    obtain ⟨r1, hr1⟩ : ∃ r1, (u * 4294967296 + L / 4294967296) % Y = r1 := ⟨_, rfl⟩
    have d1 := Nat.div_add_mod (u * 4294967296 + L / 4294967296) Y
    rw [hq1, hr1] at d1
    have lr1 : r1 < Y := by rw [← hr1]; exact Nat.mod_lt _ (by omega)
    have lq1 : q1 < 4294967296 := by rw [← hq1, Nat.div_lt_iff_lt_mul (by omega)]; omega
    obtain ⟨q0, hq0⟩ : ∃ q0, (r1 * 4294967296 + L % 4294967296) / Y = q0 := ⟨_, rfl⟩
    obtain ⟨r0, hr0⟩ : ∃ r0, (r1 * 4294967296 + L % 4294967296) % Y = r0 := ⟨_, rfl⟩
    have d0 := Nat.div_add_mod (r1 * 4294967296 + L % 4294967296) Y
    rw [hq0, hr0] at d0
    have lr0 : r0 < Y := by rw [← hr0]; exact Nat.mod_lt _ (by omega)
    have lq0 : q0 < 4294967296 := by rw [← hq0, Nat.div_lt_iff_lt_mul (by omega)]; omega
    have law := div_law hi lo y s hy hlo hs62 n1 n2 Y u L q1 r1 q0 r0 hY.symm hu.symm hL.symm (by rw [Nat.mul_comm q1]; exact d1.symm) lr1 (by rw [Nat.mul_comm q0]; exact d0.symm) lr0
    rw [← law.1, ← law.2]
    clear law
    have uu (x : Nat) (hx : x < Y) : x / (Y / 4294967296) < 4294967298 := (Nat.div_lt_iff_lt_mul (by omega)).2 (by omega)
    have w1 (x : Nat) (hx : x < Y) : x / (Y / 4294967296) % 18446744073709551616 = x / (Y / 4294967296) := Nat.mod_eq_of_lt (Nat.lt_trans (uu x hx) (by decide))
    have hlt (x : Nat) : x % (Y / 4294967296) < 4294967296 := Nat.lt_of_lt_of_le (Nat.mod_lt x (by omega)) (by omega)
    have w2 (x : Nat) (hx : x < Y) : u64 ((x : Int) - ((x / (Y / 4294967296) * (Y / 4294967296) % 18446744073709551616 : Nat) : Int)) = x % (Y / 4294967296) :=
      sub_law1 x _ _ (by rw [Nat.mul_comm]; exact (Nat.div_add_mod x _).symm) (Nat.lt_trans (hlt x) (by decide))
    have du (x : Nat) : x = x / (Y / 4294967296) * (Y / 4294967296) + x % (Y / 4294967296) := by rw [Nat.mul_comm]; exact (Nat.div_add_mod x _).symm
    have le1 (x Q v : Nat) (hQ : Q = (x * 4294967296 + v) / Y) (hv : v < 4294967296) : Q ≤ x / (Y / 4294967296) := le1_law x Q v Y hQ hv (by omega)
    have s1 : u64 (((u * 4294967296 % 18446744073709551616 + L / 4294967296) % 18446744073709551616 : Nat) - ((q1 * Y % 18446744073709551616 : Nat) : Int)) = r1 :=
      sub_law2 _ _ _ _ (by rw [Nat.mul_comm q1]; exact d1.symm) (by omega)
    have s0 : u64 (((r1 * 4294967296 % 18446744073709551616 + L % 4294967296) % 18446744073709551616 : Nat) - ((q0 * Y % 18446744073709551616 : Nat) : Int)) = r0 :=
      sub_law2 _ _ _ _ (by rw [Nat.mul_comm q0]; exact d0.symm) (by omega)
    have s2 : (q1 * 4294967296 % 18446744073709551616 + q0) % 18446744073709551616 = q1 * 4294967296 + q0 := by omega
    have bL1 : L / 4294967296 < 4294967296 := by omega
    have bL0 : L % 4294967296 < 4294967296 := Nat.mod_lt _ (by omega)
    have bY1 : Y / 4294967296 < 4294967296 := by omega
    have bY0 : Y % 4294967296 < 4294967296 := Nat.mod_lt _ (by omega)
    have lA := fun fr => l40_0 q1 (Y / 4294967296) (Y % 4294967296) (L / 4294967296) u (.int .u64 Y) (.int .u64 s) (.int .u64 u) (.int .u64 (L % 4294967296 : Nat)) ([] :: hp) bY1 bY0 bL1 (by rw [dec]; exact hq1.symm) lq1 (by omega) (u / (Y / 4294967296)) (u % (Y / 4294967296)) fr (le1 u q1 _ hq1.symm bL1) (Nat.le_of_lt_succ (uu u huY)) (du u) (hlt u)
    have lB := fun fr => l40_1 q0 (Y / 4294967296) (Y % 4294967296) (L % 4294967296) r1 (.int .u64 Y) (.int .u64 s) (.int .u64 q1) (.int .u64 r1) ([] :: hp) bY1 bY0 bL0 (by rw [dec]; exact hq0.symm) lq0 (by omega) (r1 / (Y / 4294967296)) (r1 % (Y / 4294967296)) fr (le1 r1 q0 _ hq0.symm bL0) (Nat.le_of_lt_succ (uu r1 lr1)) (du r1) (hlt r1)
    simp (config := {contextual := true, maxSteps := 10000000, implicitDefEqProofs := false}) only [x40, go_sem, ↓reduceIte, reduceCtorEq, Nat.reduceEqDiff, Nat.reduceAdd, Nat.reduceLeDiff, Nat.reduceMul, Int.reduceEq, Int.reduceLT, Int.reduceLE, Int.reduceAdd, Int.reduceSub, Int.reduceMul, Int.reduceNeg, Int.reduceToNat, Int.reduceNe, Int.reduceBEq, Int.reduceBNe, Nat.reduceLT, Nat.reduceSub, Nat.reduceDiv, Nat.reduceMod, Int.reduceTDiv, Int.reduceTMod, f1, f2, h0, a49, min_32, Nat.reducePow, g1, g2, g3, g4, hY, g5, g6, hL, g7, b1, b2, hyh, w1 u huY, w2 u huY]
    refine elimL (fun r => finK _ (seqK (blockK 0 r) _) = _) (lA _ ?_ ?_ ?_ ?_ ?_ ?_ ?_ ?_ ?_) ?_
    all_goals try simp only [go_sem, ↓reduceIte, reduceCtorEq, Nat.reduceEqDiff, Nat.reduceAdd, Nat.reduceLeDiff, Nat.reduceMul, Int.reduceEq, Int.reduceLT, Int.reduceLE, Int.reduceAdd, Int.reduceSub, Int.reduceMul, Int.reduceNeg, Int.reduceToNat, Int.reduceNe, Int.reduceBEq, Int.reduceBNe, Nat.reduceLT, Nat.reduceSub, Nat.reduceDiv, Nat.reduceMod, Int.reduceTDiv, Int.reduceTMod]
    rintro r ⟨fr', rfl, k15, k9, k10, k13, k2, k8, k11, k14⟩
    simp (config := {contextual := true, maxSteps := 10000000, implicitDefEqProofs := false}) only [go_sem, ↓reduceIte, reduceCtorEq, Nat.reduceEqDiff, Nat.reduceAdd, Nat.reduceLeDiff, Nat.reduceMul, Int.reduceEq, Int.reduceLT, Int.reduceLE, Int.reduceAdd, Int.reduceSub, Int.reduceMul, Int.reduceNeg, Int.reduceToNat, Int.reduceNe, Int.reduceBEq, Int.reduceBNe, Nat.reduceLT, Nat.reduceSub, Nat.reduceDiv, Nat.reduceMod, Int.reduceTDiv, Int.reduceTMod, k15, k9, k10, k13, k2, k8, k11, k14, s1, hyh, w1 r1 lr1, w2 r1 lr1]
    refine elimL (fun r => finK _ (seqK (blockK 2 r) _) = _) (lB _ ?_ ?_ ?_ ?_ ?_ ?_ ?_ ?_ ?_) ?_
    all_goals try simp only [go_sem, ↓reduceIte, reduceCtorEq, Nat.reduceEqDiff, Nat.reduceAdd, Nat.reduceLeDiff, Nat.reduceMul, Int.reduceEq, Int.reduceLT, Int.reduceLE, Int.reduceAdd, Int.reduceSub, Int.reduceMul, Int.reduceNeg, Int.reduceToNat, Int.reduceNe, Int.reduceBEq, Int.reduceBNe, Nat.reduceLT, Nat.reduceSub, Nat.reduceDiv, Nat.reduceMod, Int.reduceTDiv, Int.reduceTMod, k9, k10, k14, k2, k8, k15]
    rintro r ⟨fr', rfl, k18, k9, k10, k14, k2, k8, k15, k17⟩
    simp (config := {contextual := true, maxSteps := 10000000, implicitDefEqProofs := false}) only [go_sem, ↓reduceIte, reduceCtorEq, Nat.reduceEqDiff, Nat.reduceAdd, Nat.reduceLeDiff, Nat.reduceMul, Int.reduceEq, Int.reduceLT, Int.reduceLE, Int.reduceAdd, Int.reduceSub, Int.reduceMul, Int.reduceNeg, Int.reduceToNat, Int.reduceNe, Int.reduceBEq, Int.reduceBNe, Nat.reduceLT, Nat.reduceSub, Nat.reduceDiv, Nat.reduceMod, Int.reduceTDiv, Int.reduceTMod, k18, k9, k10, k14, k2, k8, k15, k17, s0, s2, g2]
end Go.Proofs.Ytpfollpbkpgglaa.Sx.T
