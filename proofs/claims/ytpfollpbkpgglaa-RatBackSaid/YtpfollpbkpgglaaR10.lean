/- Layer 1, part 10: the program's sums of numbers of 128 bits. -/
import Derived.Test.YtpfollpbkpgglaaR9
set_option linter.unusedVariables false
set_option linter.unusedSimpArgs false
namespace Go.Proofs.Ytpfollpbkpgglaa.Sx.T
open Go Go.Proofs.Ytpfollpbkpgglaa.Sx
set_option maxRecDepth 100000
set_option maxHeartbeats 4000000
def wd (a b : Nat) (m : Bool) : AV := .agg [.int .u64 a, .int .u64 b, .bool m]
theorem nn (x : Nat) : (0 ≤ (x : Int)) = True := by simp
theorem lt64 (x : Nat) (h : x < 18446744073709551616) : ((x : Int) < 18446744073709551616) = True := by simp; omega
theorem bit_ge (x y : Nat) : (0 ≤ if (x : Int) < y then (1 : Int) else 0) = True := eq_true (by split <;> omega)
theorem bit_le (x y : Nat) : ((if (x : Int) < y then (1 : Int) else 0) ≤ 1) = True := eq_true (by split <;> omega)
theorem prim_add (x y k : Int) (h : 0 ≤ x ∧ 0 ≤ y ∧ 0 ≤ k ∧ k ≤ 1) : primX 0 [.int .u64 x, .int .u64 y, .int .u64 k] = some (.tup [.int .u64 ((x + y + k) % 18446744073709551616), .int .u64 ((x + y + k) / 18446744073709551616)]) := if_pos h
theorem prim_sub (x y k : Int) (h : 0 ≤ x ∧ x < 18446744073709551616 ∧ 0 ≤ y ∧ y < 18446744073709551616 ∧ 0 ≤ k ∧ k ≤ 1) : primX 1 [.int .u64 x, .int .u64 y, .int .u64 k] = some (.tup [.int .u64 ((x - y - k) % 18446744073709551616), .int .u64 (if x < y + k then 1 else 0)]) := if_pos h
def W (n : Nat) (m : Bool) : AV := .agg [.int .u64 (n / 18446744073709551616 : Nat), .int .u64 (n % 18446744073709551616 : Nat), .bool m]
theorem r36 (a b : Int) (ha : I64 a) (hb : I64 b) (hp : Heap) : CL X G0 36 [.int .i64 a, .int .i64 b] hp = some (W (a.natAbs * b.natAbs) (decide (a < 0) != decide (b < 0)), hp) := by
  rw [CL_eq (fn := x36) rfl]
  have a1 := r27 a ha
  have a2 := r27 b hb
  have a3 := r42 a.natAbs b.natAbs (by unfold I64 at *; omega) (by unfold I64 at *; omega)
  simp (config := {contextual := true, maxSteps := 10000000, implicitDefEqProofs := false}) only [x36, go_sem, ↓reduceIte, reduceCtorEq, Nat.reduceEqDiff, Nat.reduceAdd, Nat.reduceLeDiff, Nat.reduceMul, Int.reduceEq, Int.reduceLT, Int.reduceLE, Int.reduceAdd, Int.reduceSub, Int.reduceMul, Int.reduceNeg, Int.reduceToNat, Int.reduceNe, Int.reduceBEq, Int.reduceBNe, Nat.reduceLT, Nat.reduceSub, Nat.reduceDiv, Nat.reduceMod, Int.reduceTDiv, Int.reduceTMod, a1, a2, a3]
  rfl
theorem wsplit (n : Nat) (hn : n < 170141183460469231731687303715884105728) : ∃ c d, n / 18446744073709551616 = c ∧ n % 18446744073709551616 = d ∧ d < 18446744073709551616 ∧ c < 18446744073709551616 ∧ n = d + 18446744073709551616 * c := ⟨_, _, rfl, rfl, Nat.mod_lt _ (by omega), by omega, by omega⟩
theorem r37 (n k : Nat) (m l : Bool) (hn : n < 170141183460469231731687303715884105728) (hk : k < 170141183460469231731687303715884105728) (hp : Heap) :
    CL X G0 37 [W n m, W k l] hp = some (if m = l then W (n + k) m else if n < k then W (k - n) l else W (n - k) m, hp) := by
  rw [CL_eq (fn := x37) rfl]
  obtain ⟨n1, n0, hn1, hn0, bn, b1, en⟩ := wsplit n hn
  obtain ⟨k1, k0, hk1, hk0, bk, b2, ek⟩ := wsplit k hk
  unfold W
  rw [hn1, hn0, hk1, hk0]
  by_cases hm : m = l
  · have g : (0 ≤ ((n0 : Int) + k0) / 18446744073709551616 ∧ ((n0 : Int) + k0) / 18446744073709551616 ≤ 1) = True := eq_true (by omega)
    rw [if_pos hm]
    simp (config := {contextual := true, maxSteps := 10000000, implicitDefEqProofs := false}) only [x37, go_sem, ↓reduceIte, reduceCtorEq, Nat.reduceEqDiff, Nat.reduceAdd, Nat.reduceLeDiff, Nat.reduceMul, Int.reduceEq, Int.reduceLT, Int.reduceLE, Int.reduceAdd, Int.reduceSub, Int.reduceMul, Int.reduceNeg, Int.reduceToNat, Int.reduceNe, Int.reduceBEq, Int.reduceBNe, Nat.reduceLT, Nat.reduceSub, Nat.reduceDiv, Nat.reduceMod, Int.reduceTDiv, Int.reduceTMod, prim_add, hm, nn, g]
    simp only [Option.some.injEq, Prod.mk.injEq, AV.agg.injEq, AV.tup.injEq, List.cons.injEq, AV.int.injEq, AV.bool.injEq, true_and, and_true, and_self, Int.natCast_inj]
    omega
  · rw [if_neg hm]
    rcases Nat.lt_trichotomy n1 k1 with h1 | h1 | h1
    · have l1 : ((n1 : Int) < k1) = True := eq_true (by omega)
      rw [if_pos (by omega)]
      simp (config := {contextual := true, maxSteps := 10000000, implicitDefEqProofs := false}) only [x37, go_sem, ↓reduceIte, reduceCtorEq, Nat.reduceEqDiff, Nat.reduceAdd, Nat.reduceLeDiff, Nat.reduceMul, Int.reduceEq, Int.reduceLT, Int.reduceLE, Int.reduceAdd, Int.reduceSub, Int.reduceMul, Int.reduceNeg, Int.reduceToNat, Int.reduceNe, Int.reduceBEq, Int.reduceBNe, Nat.reduceLT, Nat.reduceSub, Nat.reduceDiv, Nat.reduceMod, Int.reduceTDiv, Int.reduceTMod, prim_sub, hm, nn, l1, lt64 _ bn, lt64 _ bk, lt64 _ b1, lt64 _ b2, bit_ge, bit_le]
      simp only [Option.some.injEq, Prod.mk.injEq, AV.agg.injEq, AV.tup.injEq, List.cons.injEq, AV.int.injEq, AV.bool.injEq, true_and, and_true, and_self, Int.natCast_inj]
      split <;> omega
    · subst h1
      by_cases h2 : n0 < k0
      · have l1 : ((n0 : Int) < k0) = True := eq_true (by omega)
        rw [if_pos (by omega)]
        simp (config := {contextual := true, maxSteps := 10000000, implicitDefEqProofs := false}) only [x37, go_sem, ↓reduceIte, reduceCtorEq, Nat.reduceEqDiff, Nat.reduceAdd, Nat.reduceLeDiff, Nat.reduceMul, Int.reduceEq, Int.reduceLT, Int.reduceLE, Int.reduceAdd, Int.reduceSub, Int.reduceMul, Int.reduceNeg, Int.reduceToNat, Int.reduceNe, Int.reduceBEq, Int.reduceBNe, Nat.reduceLT, Nat.reduceSub, Nat.reduceDiv, Nat.reduceMod, Int.reduceTDiv, Int.reduceTMod, prim_sub, hm, nn, Int.lt_irrefl, l1, lt64 _ bn, lt64 _ bk, lt64 _ b1, lt64 _ b2, bit_ge, bit_le]
        simp only [Option.some.injEq, Prod.mk.injEq, AV.agg.injEq, AV.tup.injEq, List.cons.injEq, AV.int.injEq, AV.bool.injEq, true_and, and_true, and_self, Int.natCast_inj]
        try split
        all_goals omega
      · have l1 : ((n0 : Int) < k0) = False := eq_false (by omega)
        rw [if_neg (by omega)]
        simp (config := {contextual := true, maxSteps := 10000000, implicitDefEqProofs := false}) only [x37, go_sem, ↓reduceIte, reduceCtorEq, Nat.reduceEqDiff, Nat.reduceAdd, Nat.reduceLeDiff, Nat.reduceMul, Int.reduceEq, Int.reduceLT, Int.reduceLE, Int.reduceAdd, Int.reduceSub, Int.reduceMul, Int.reduceNeg, Int.reduceToNat, Int.reduceNe, Int.reduceBEq, Int.reduceBNe, Nat.reduceLT, Nat.reduceSub, Nat.reduceDiv, Nat.reduceMod, Int.reduceTDiv, Int.reduceTMod, prim_sub, hm, nn, Int.lt_irrefl, l1, lt64 _ bn, lt64 _ bk, lt64 _ b1, lt64 _ b2, bit_ge, bit_le]
        simp only [Option.some.injEq, Prod.mk.injEq, AV.agg.injEq, AV.tup.injEq, List.cons.injEq, AV.int.injEq, AV.bool.injEq, true_and, and_true, and_self, Int.natCast_inj]
        try split
        all_goals omega
    · have l1 : ((n1 : Int) < k1) = False := eq_false (by omega)
      have l2 : ((n1 : Int) = k1) = False := eq_false (by omega)
      rw [if_neg (by omega)]
      simp (config := {contextual := true, maxSteps := 10000000, implicitDefEqProofs := false}) only [x37, go_sem, ↓reduceIte, reduceCtorEq, Nat.reduceEqDiff, Nat.reduceAdd, Nat.reduceLeDiff, Nat.reduceMul, Int.reduceEq, Int.reduceLT, Int.reduceLE, Int.reduceAdd, Int.reduceSub, Int.reduceMul, Int.reduceNeg, Int.reduceToNat, Int.reduceNe, Int.reduceBEq, Int.reduceBNe, Nat.reduceLT, Nat.reduceSub, Nat.reduceDiv, Nat.reduceMod, Int.reduceTDiv, Int.reduceTMod, prim_sub, hm, nn, l1, l2, lt64 _ bn, lt64 _ bk, lt64 _ b1, lt64 _ b2, bit_ge, bit_le]
      simp only [Option.some.injEq, Prod.mk.injEq, AV.agg.injEq, AV.tup.injEq, List.cons.injEq, AV.int.injEq, AV.bool.injEq, true_and, and_true, and_self, Int.natCast_inj]
      split <;> omega
end Go.Proofs.Ytpfollpbkpgglaa.Sx.T
