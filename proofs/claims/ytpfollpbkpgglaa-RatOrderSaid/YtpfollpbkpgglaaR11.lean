/- Layer 1, part 11: how many bits a number has. -/
import Derived.Test.YtpfollpbkpgglaaR10
set_option linter.unusedVariables false
set_option linter.unusedSimpArgs false
namespace Go.Proofs.Ytpfollpbkpgglaa.Sx.T
open Go Go.Proofs.Ytpfollpbkpgglaa.Sx
set_option maxRecDepth 100000
set_option maxHeartbeats 4000000
theorem min_16 : min 16 64 = 16 := rfl
theorem min_8 : min 8 64 = 8 := rfl
def tab8 : List UInt8 := [0, 1, 2, 2, 3, 3, 3, 3, 4, 4, 4, 4, 4, 4, 4, 4, 5, 5, 5, 5, 5, 5, 5, 5, 5, 5, 5, 5, 5, 5, 5, 5, 6, 6, 6, 6, 6, 6, 6, 6, 6, 6, 6, 6, 6, 6, 6, 6, 6, 6, 6, 6, 6, 6, 6, 6, 6, 6, 6, 6, 6, 6, 6, 6, 7, 7, 7, 7, 7, 7, 7, 7, 7, 7, 7, 7, 7, 7, 7, 7, 7, 7, 7, 7, 7, 7, 7, 7, 7, 7, 7, 7, 7, 7, 7, 7, 7, 7, 7, 7, 7, 7, 7, 7, 7, 7, 7, 7, 7, 7, 7, 7, 7, 7, 7, 7, 7, 7, 7, 7, 7, 7, 7, 7, 7, 7, 7, 7, 8, 8, 8, 8, 8, 8, 8, 8, 8, 8, 8, 8, 8, 8, 8, 8, 8, 8, 8, 8, 8, 8, 8, 8, 8, 8, 8, 8, 8, 8, 8, 8, 8, 8, 8, 8, 8, 8, 8, 8, 8, 8, 8, 8, 8, 8, 8, 8, 8, 8, 8, 8, 8, 8, 8, 8, 8, 8, 8, 8, 8, 8, 8, 8, 8, 8, 8, 8, 8, 8, 8, 8, 8, 8, 8, 8, 8, 8, 8, 8, 8, 8, 8, 8, 8, 8, 8, 8, 8, 8, 8, 8, 8, 8, 8, 8, 8, 8, 8, 8, 8, 8, 8, 8, 8, 8, 8, 8, 8, 8, 8, 8, 8, 8, 8, 8, 8, 8, 8, 8, 8, 8, 8, 8, 8, 8, 8, 8]
theorem tab8_len : tab8.length = 256 := by decide
def okTab : Nat → Bool
  | 0 => true
  | i + 1 => (i == 0 || (decide (1 ≤ (tab8.getD i 0).toNat ∧ (tab8.getD i 0).toNat ≤ 8 ∧ 2 ^ ((tab8.getD i 0).toNat - 1) ≤ i ∧ i < 2 ^ (tab8.getD i 0).toNat))) && okTab i
theorem okTab_all : okTab 256 = true := by decide +kernel
theorem okTab_at : ∀ (n : Nat), okTab n = true → ∀ i, i < n → 0 < i → 1 ≤ (tab8.getD i 0).toNat ∧ (tab8.getD i 0).toNat ≤ 8 ∧ 2 ^ ((tab8.getD i 0).toNat - 1) ≤ i ∧ i < 2 ^ (tab8.getD i 0).toNat
  | 0, _, i, hi, _ => by omega
  | n + 1, h, i, hi, h0 => by
    simp only [okTab, Bool.and_eq_true, Bool.or_eq_true, beq_iff_eq, decide_eq_true_eq] at h
    by_cases e : i = n
    · subst e
      rcases h.1 with h1 | h1
      · omega
      · exact h1
    · exact okTab_at n h.2 i (by omega) h0
theorem len_sum (m s t : Nat) (h1 : 1 ≤ t) (h2 : 2 ^ (t - 1) ≤ m / 2 ^ s) (h3 : m / 2 ^ s < 2 ^ t) : 2 ^ (s + t - 1) ≤ m ∧ m < 2 ^ (s + t) := by
  constructor
  · rw [show s + t - 1 = t - 1 + s by omega, Nat.pow_add]
    exact (Nat.le_div_iff_mul_le (Nat.two_pow_pos s)).1 h2
  · rw [Nat.add_comm, Nat.pow_add]
    exact (Nat.div_lt_iff_lt_mul (Nat.two_pow_pos s)).1 h3
theorem r50a (n s : Nat) (h0 : 0 < n / 2 ^ s) (h : n / 2 ^ s < 256) (hs : s ≤ 56) (r : Option (AV × Heap)) (hp : Heap)
    (hr : r = some (.int .i64 (wr .i64 ((s : Int) + ((tab8.getD (n / 2 ^ s) 0).toNat : Nat))), hp)) : ∃ k, r = some (.int .i64 (k : Nat), hp) ∧ 1 ≤ k ∧ k ≤ 64 ∧ 2 ^ (k - 1) ≤ n ∧ n < 2 ^ k := by
  obtain ⟨h1, h2, h3, h4⟩ := okTab_at 256 okTab_all _ h h0
  obtain ⟨h5, h6⟩ := len_sum n s _ h1 h3 h4
  refine ⟨s + (tab8.getD (n / 2 ^ s) 0).toNat, ?_, by omega, by omega, h5, h6⟩
  rw [hr, wr_i64 _ (by omega)]
  rfl
theorem r50 (n : Nat) (h0 : 0 < n) (h : n < 18446744073709551616) (hp : Heap) : ∃ k, CL X G0 50 [.int .u64 n] hp = some (.int .i64 (k : Nat), hp) ∧ 1 ≤ k ∧ k ≤ 64 ∧ 2 ^ (k - 1) ≤ n ∧ n < 2 ^ k := by
  rw [CL_eq (fn := x50) rfl]
  have tt : ∀ i, wr .i64 (((tab8.getD i 0).toNat : Nat) : Int) = ((tab8.getD i 0).toNat : Nat) := fun i => wr_i64_nat _ (Nat.lt_of_lt_of_le (UInt8.toNat_lt _) (by omega))
  have t8 : tab8 = [0, 1, 2, 2, 3, 3, 3, 3, 4, 4, 4, 4, 4, 4, 4, 4, 5, 5, 5, 5, 5, 5, 5, 5, 5, 5, 5, 5, 5, 5, 5, 5, 6, 6, 6, 6, 6, 6, 6, 6, 6, 6, 6, 6, 6, 6, 6, 6, 6, 6, 6, 6, 6, 6, 6, 6, 6, 6, 6, 6, 6, 6, 6, 6, 7, 7, 7, 7, 7, 7, 7, 7, 7, 7, 7, 7, 7, 7, 7, 7, 7, 7, 7, 7, 7, 7, 7, 7, 7, 7, 7, 7, 7, 7, 7, 7, 7, 7, 7, 7, 7, 7, 7, 7, 7, 7, 7, 7, 7, 7, 7, 7, 7, 7, 7, 7, 7, 7, 7, 7, 7, 7, 7, 7, 7, 7, 7, 7, 8, 8, 8, 8, 8, 8, 8, 8, 8, 8, 8, 8, 8, 8, 8, 8, 8, 8, 8, 8, 8, 8, 8, 8, 8, 8, 8, 8, 8, 8, 8, 8, 8, 8, 8, 8, 8, 8, 8, 8, 8, 8, 8, 8, 8, 8, 8, 8, 8, 8, 8, 8, 8, 8, 8, 8, 8, 8, 8, 8, 8, 8, 8, 8, 8, 8, 8, 8, 8, 8, 8, 8, 8, 8, 8, 8, 8, 8, 8, 8, 8, 8, 8, 8, 8, 8, 8, 8, 8, 8, 8, 8, 8, 8, 8, 8, 8, 8, 8, 8, 8, 8, 8, 8, 8, 8, 8, 8, 8, 8, 8, 8, 8, 8, 8, 8, 8, 8, 8, 8, 8, 8, 8, 8, 8, 8, 8, 8] := rfl
  have ln : tab8.length = 256 := tab8_len
  by_cases c32 : 4294967296 ≤ n
  · have f32 : ((4294967296 : Int) ≤ ((n : Nat) : Int)) = True := eq_true (by omega)
    by_cases c16 : 65536 ≤ n / 4294967296
    · have f16 : ((65536 : Int) ≤ ((n / 4294967296 : Nat) : Int)) = True := eq_true (by omega)
      by_cases c8 : 256 ≤ n / 4294967296 / 65536
      · have f8 : ((256 : Int) ≤ ((n / 4294967296 / 65536 : Nat) : Int)) = True := eq_true (by omega)
        refine r50a n 56 (by simp only [Nat.reducePow] <;> omega) (by simp only [Nat.reducePow] <;> omega) (by omega) _ hp ?_
        have w8 : wr .u8 ((n / 4294967296 / 65536 / 256 : Nat) : Int) = ((n / 4294967296 / 65536 / 256 : Nat) : Int) := wr_u8_nat _ (by omega)
        have lt8 : (n / 4294967296 / 65536 / 256 < 256) = True := eq_true (by omega)
        have e8 : n / 2 ^ 56 = n / 4294967296 / 65536 / 256 := by simp only [Nat.reducePow] <;> omega
        rw [e8]
        simp (config := {contextual := true, maxSteps := 10000000, implicitDefEqProofs := false}) only [x50, ← t8, go_sem, ↓reduceIte, reduceCtorEq, Nat.reduceEqDiff, Nat.reduceAdd, Nat.reduceLeDiff, Nat.reduceMul, Int.reduceEq, Int.reduceLT, Int.reduceLE, Int.reduceAdd, Int.reduceSub, Int.reduceMul, Int.reduceNeg, Int.reduceToNat, Int.reduceNe, Int.reduceBEq, Int.reduceBNe, Nat.reduceLT, Nat.reduceSub, Nat.reduceDiv, Nat.reduceMod, Int.reduceTDiv, Int.reduceTMod, min_32, min_16, min_8, Nat.reducePow, f32, f16, f8, w8, lt8, ln, tt]
        try rfl
      · have f8 : ((256 : Int) ≤ ((n / 4294967296 / 65536 : Nat) : Int)) = False := eq_false (by omega)
        refine r50a n 48 (by simp only [Nat.reducePow] <;> omega) (by simp only [Nat.reducePow] <;> omega) (by omega) _ hp ?_
        have w8 : wr .u8 ((n / 4294967296 / 65536 : Nat) : Int) = ((n / 4294967296 / 65536 : Nat) : Int) := wr_u8_nat _ (by omega)
        have lt8 : (n / 4294967296 / 65536 < 256) = True := eq_true (by omega)
        have e8 : n / 2 ^ 48 = n / 4294967296 / 65536 := by simp only [Nat.reducePow] <;> omega
        rw [e8]
        simp (config := {contextual := true, maxSteps := 10000000, implicitDefEqProofs := false}) only [x50, ← t8, go_sem, ↓reduceIte, reduceCtorEq, Nat.reduceEqDiff, Nat.reduceAdd, Nat.reduceLeDiff, Nat.reduceMul, Int.reduceEq, Int.reduceLT, Int.reduceLE, Int.reduceAdd, Int.reduceSub, Int.reduceMul, Int.reduceNeg, Int.reduceToNat, Int.reduceNe, Int.reduceBEq, Int.reduceBNe, Nat.reduceLT, Nat.reduceSub, Nat.reduceDiv, Nat.reduceMod, Int.reduceTDiv, Int.reduceTMod, min_32, min_16, min_8, Nat.reducePow, f32, f16, f8, w8, lt8, ln, tt]
        try rfl
    · have f16 : ((65536 : Int) ≤ ((n / 4294967296 : Nat) : Int)) = False := eq_false (by omega)
      by_cases c8 : 256 ≤ n / 4294967296
      · have f8 : ((256 : Int) ≤ ((n / 4294967296 : Nat) : Int)) = True := eq_true (by omega)
        refine r50a n 40 (by simp only [Nat.reducePow] <;> omega) (by simp only [Nat.reducePow] <;> omega) (by omega) _ hp ?_
        have w8 : wr .u8 ((n / 4294967296 / 256 : Nat) : Int) = ((n / 4294967296 / 256 : Nat) : Int) := wr_u8_nat _ (by omega)
        have lt8 : (n / 4294967296 / 256 < 256) = True := eq_true (by omega)
        have e8 : n / 2 ^ 40 = n / 4294967296 / 256 := by simp only [Nat.reducePow] <;> omega
        rw [e8]
        simp (config := {contextual := true, maxSteps := 10000000, implicitDefEqProofs := false}) only [x50, ← t8, go_sem, ↓reduceIte, reduceCtorEq, Nat.reduceEqDiff, Nat.reduceAdd, Nat.reduceLeDiff, Nat.reduceMul, Int.reduceEq, Int.reduceLT, Int.reduceLE, Int.reduceAdd, Int.reduceSub, Int.reduceMul, Int.reduceNeg, Int.reduceToNat, Int.reduceNe, Int.reduceBEq, Int.reduceBNe, Nat.reduceLT, Nat.reduceSub, Nat.reduceDiv, Nat.reduceMod, Int.reduceTDiv, Int.reduceTMod, min_32, min_16, min_8, Nat.reducePow, f32, f16, f8, w8, lt8, ln, tt]
        try rfl
      · have f8 : ((256 : Int) ≤ ((n / 4294967296 : Nat) : Int)) = False := eq_false (by omega)
        refine r50a n 32 (by simp only [Nat.reducePow] <;> omega) (by simp only [Nat.reducePow] <;> omega) (by omega) _ hp ?_
        have w8 : wr .u8 ((n / 4294967296 : Nat) : Int) = ((n / 4294967296 : Nat) : Int) := wr_u8_nat _ (by omega)
        have lt8 : (n / 4294967296 < 256) = True := eq_true (by omega)
        have e8 : n / 2 ^ 32 = n / 4294967296 := by simp only [Nat.reducePow] <;> omega
        rw [e8]
        simp (config := {contextual := true, maxSteps := 10000000, implicitDefEqProofs := false}) only [x50, ← t8, go_sem, ↓reduceIte, reduceCtorEq, Nat.reduceEqDiff, Nat.reduceAdd, Nat.reduceLeDiff, Nat.reduceMul, Int.reduceEq, Int.reduceLT, Int.reduceLE, Int.reduceAdd, Int.reduceSub, Int.reduceMul, Int.reduceNeg, Int.reduceToNat, Int.reduceNe, Int.reduceBEq, Int.reduceBNe, Nat.reduceLT, Nat.reduceSub, Nat.reduceDiv, Nat.reduceMod, Int.reduceTDiv, Int.reduceTMod, min_32, min_16, min_8, Nat.reducePow, f32, f16, f8, w8, lt8, ln, tt]
        try rfl
  · have f32 : ((4294967296 : Int) ≤ ((n : Nat) : Int)) = False := eq_false (by omega)
    by_cases c16 : 65536 ≤ n
    · have f16 : ((65536 : Int) ≤ ((n : Nat) : Int)) = True := eq_true (by omega)
      by_cases c8 : 256 ≤ n / 65536
      · have f8 : ((256 : Int) ≤ ((n / 65536 : Nat) : Int)) = True := eq_true (by omega)
        refine r50a n 24 (by simp only [Nat.reducePow] <;> omega) (by simp only [Nat.reducePow] <;> omega) (by omega) _ hp ?_
        have w8 : wr .u8 ((n / 65536 / 256 : Nat) : Int) = ((n / 65536 / 256 : Nat) : Int) := wr_u8_nat _ (by omega)
        have lt8 : (n / 65536 / 256 < 256) = True := eq_true (by omega)
        have e8 : n / 2 ^ 24 = n / 65536 / 256 := by simp only [Nat.reducePow] <;> omega
        rw [e8]
        simp (config := {contextual := true, maxSteps := 10000000, implicitDefEqProofs := false}) only [x50, ← t8, go_sem, ↓reduceIte, reduceCtorEq, Nat.reduceEqDiff, Nat.reduceAdd, Nat.reduceLeDiff, Nat.reduceMul, Int.reduceEq, Int.reduceLT, Int.reduceLE, Int.reduceAdd, Int.reduceSub, Int.reduceMul, Int.reduceNeg, Int.reduceToNat, Int.reduceNe, Int.reduceBEq, Int.reduceBNe, Nat.reduceLT, Nat.reduceSub, Nat.reduceDiv, Nat.reduceMod, Int.reduceTDiv, Int.reduceTMod, min_32, min_16, min_8, Nat.reducePow, f32, f16, f8, w8, lt8, ln, tt]
        try rfl
      · have f8 : ((256 : Int) ≤ ((n / 65536 : Nat) : Int)) = False := eq_false (by omega)
        refine r50a n 16 (by simp only [Nat.reducePow] <;> omega) (by simp only [Nat.reducePow] <;> omega) (by omega) _ hp ?_
        have w8 : wr .u8 ((n / 65536 : Nat) : Int) = ((n / 65536 : Nat) : Int) := wr_u8_nat _ (by omega)
        have lt8 : (n / 65536 < 256) = True := eq_true (by omega)
        have e8 : n / 2 ^ 16 = n / 65536 := by simp only [Nat.reducePow] <;> omega
        rw [e8]
        simp (config := {contextual := true, maxSteps := 10000000, implicitDefEqProofs := false}) only [x50, ← t8, go_sem, ↓reduceIte, reduceCtorEq, Nat.reduceEqDiff, Nat.reduceAdd, Nat.reduceLeDiff, Nat.reduceMul, Int.reduceEq, Int.reduceLT, Int.reduceLE, Int.reduceAdd, Int.reduceSub, Int.reduceMul, Int.reduceNeg, Int.reduceToNat, Int.reduceNe, Int.reduceBEq, Int.reduceBNe, Nat.reduceLT, Nat.reduceSub, Nat.reduceDiv, Nat.reduceMod, Int.reduceTDiv, Int.reduceTMod, min_32, min_16, min_8, Nat.reducePow, f32, f16, f8, w8, lt8, ln, tt]
        try rfl
    · have f16 : ((65536 : Int) ≤ ((n : Nat) : Int)) = False := eq_false (by omega)
      by_cases c8 : 256 ≤ n
      · have f8 : ((256 : Int) ≤ ((n : Nat) : Int)) = True := eq_true (by omega)
        refine r50a n 8 (by simp only [Nat.reducePow] <;> omega) (by simp only [Nat.reducePow] <;> omega) (by omega) _ hp ?_
        have w8 : wr .u8 ((n / 256 : Nat) : Int) = ((n / 256 : Nat) : Int) := wr_u8_nat _ (by omega)
        have lt8 : (n / 256 < 256) = True := eq_true (by omega)
        have e8 : n / 2 ^ 8 = n / 256 := by simp only [Nat.reducePow] <;> omega
        rw [e8]
        simp (config := {contextual := true, maxSteps := 10000000, implicitDefEqProofs := false}) only [x50, ← t8, go_sem, ↓reduceIte, reduceCtorEq, Nat.reduceEqDiff, Nat.reduceAdd, Nat.reduceLeDiff, Nat.reduceMul, Int.reduceEq, Int.reduceLT, Int.reduceLE, Int.reduceAdd, Int.reduceSub, Int.reduceMul, Int.reduceNeg, Int.reduceToNat, Int.reduceNe, Int.reduceBEq, Int.reduceBNe, Nat.reduceLT, Nat.reduceSub, Nat.reduceDiv, Nat.reduceMod, Int.reduceTDiv, Int.reduceTMod, min_32, min_16, min_8, Nat.reducePow, f32, f16, f8, w8, lt8, ln, tt]
        try rfl
      · have f8 : ((256 : Int) ≤ ((n : Nat) : Int)) = False := eq_false (by omega)
        refine r50a n 0 (by simp only [Nat.reducePow] <;> omega) (by simp only [Nat.reducePow] <;> omega) (by omega) _ hp ?_
        have w8 : wr .u8 ((n : Nat) : Int) = ((n : Nat) : Int) := wr_u8_nat _ (by omega)
        have lt8 : (n < 256) = True := eq_true (by omega)
        have e8 : n / 2 ^ 0 = n := by rw [Nat.pow_zero, Nat.div_one]
        rw [e8]
        simp (config := {contextual := true, maxSteps := 10000000, implicitDefEqProofs := false}) only [x50, ← t8, go_sem, ↓reduceIte, reduceCtorEq, Nat.reduceEqDiff, Nat.reduceAdd, Nat.reduceLeDiff, Nat.reduceMul, Int.reduceEq, Int.reduceLT, Int.reduceLE, Int.reduceAdd, Int.reduceSub, Int.reduceMul, Int.reduceNeg, Int.reduceToNat, Int.reduceNe, Int.reduceBEq, Int.reduceBNe, Nat.reduceLT, Nat.reduceSub, Nat.reduceDiv, Nat.reduceMod, Int.reduceTDiv, Int.reduceTMod, min_32, min_16, min_8, Nat.reducePow, f32, f16, f8, w8, lt8, ln, tt]
        rw [Int.natCast_zero, Int.zero_add, tt]
end Go.Proofs.Ytpfollpbkpgglaa.Sx.T
