/- Layer 1, part 1: what the functions of whole numbers answer. -/
import Derived.Test.YtpfollpbkpgglaaEvC
import Derived.Test.YtpfollpbkpgglaaSxRun
set_option linter.unusedVariables false
set_option linter.unusedSimpArgs false
namespace Go.Proofs.Ytpfollpbkpgglaa.Sx.T
open Go Go.Proofs.Ytpfollpbkpgglaa.Sx
set_option maxRecDepth 100000
set_option maxHeartbeats 4000000
theorem r27 (n : Int) (h : -9223372036854775808 ≤ n ∧ n < 9223372036854775808) (hp : Heap) : CL X G0 27 [.int .i64 n] hp = some (.int .u64 (n.natAbs : Int), hp) := by
  rw [CL_eq (fn := x27) rfl]
  simp (config := {contextual := true, maxSteps := 10000000, implicitDefEqProofs := false}) only [x27, go_sem, ↓reduceIte, reduceCtorEq, Nat.reduceEqDiff, Nat.reduceAdd, Nat.reduceLeDiff, Nat.reduceMul, Int.reduceEq, Int.reduceLT, Int.reduceLE, Int.reduceAdd, Int.reduceSub, Int.reduceMul, Int.reduceNeg, Int.reduceToNat, Int.reduceNe, Int.reduceBEq, Int.reduceBNe, Nat.reduceLT, Nat.reduceSub, Nat.reduceDiv, Nat.reduceMod, Int.reduceTDiv, Int.reduceTMod]
  split <;> simp only [Option.some.injEq, Prod.mk.injEq, AV.int.injEq, true_and, and_true] <;> simp only [u64] <;> omega
theorem l26 (a : Nat) : ∀ (b : Nat) (fr : List AV) (hp : Heap), fget fr 0 = .int .u64 a → fget fr 1 = .int .u64 b →
    ∃ fr', LC X G0 (.loop x26_l0) ⟨fr, hp⟩ = some (.exit 0, ⟨fr', hp⟩) ∧ fget fr' 0 = .int .u64 (Nat.gcd a b : Nat) := by
  intro b
  induction b using Nat.strongRecOn generalizing a with
  | ind b ih =>
    intro fr hp h0 h1
    rw [LC_loop]
    by_cases hb : b = 0
    · subst hb
      simp (config := {contextual := true, maxSteps := 10000000, implicitDefEqProofs := false}) only [x26_l0_run, go_sem, ↓reduceIte, reduceCtorEq, Nat.reduceEqDiff, Nat.reduceAdd, Nat.reduceLeDiff, Nat.reduceMul, Int.reduceEq, Int.reduceLT, Int.reduceLE, Int.reduceAdd, Int.reduceSub, Int.reduceMul, Int.reduceNeg, Int.reduceToNat, Int.reduceNe, Int.reduceBEq, Int.reduceBNe, Nat.reduceLT, Nat.reduceSub, Nat.reduceDiv, Nat.reduceMod, Int.reduceTDiv, Int.reduceTMod, h0, h1]
      exact ⟨_, rfl, by simp only [go_sem, ↓reduceIte, reduceCtorEq, Nat.reduceEqDiff, Nat.reduceAdd, Nat.reduceLeDiff, Nat.reduceMul, Int.reduceEq, Int.reduceLT, Int.reduceLE, Int.reduceAdd, Int.reduceSub, Int.reduceMul, Int.reduceNeg, Int.reduceToNat, Int.reduceNe, Int.reduceBEq, Int.reduceBNe, Nat.reduceLT, Nat.reduceSub, Nat.reduceDiv, Nat.reduceMod, Int.reduceTDiv, Int.reduceTMod, h0]; simp⟩
    · simp (config := {contextual := true, maxSteps := 10000000, implicitDefEqProofs := false}) only [x26_l0_run, go_sem, ↓reduceIte, reduceCtorEq, Nat.reduceEqDiff, Nat.reduceAdd, Nat.reduceLeDiff, Nat.reduceMul, Int.reduceEq, Int.reduceLT, Int.reduceLE, Int.reduceAdd, Int.reduceSub, Int.reduceMul, Int.reduceNeg, Int.reduceToNat, Int.reduceNe, Int.reduceBEq, Int.reduceBNe, Nat.reduceLT, Nat.reduceSub, Nat.reduceDiv, Nat.reduceMod, Int.reduceTDiv, Int.reduceTMod, h0, h1, hb]
      rw [show Nat.gcd a b = Nat.gcd b (a % b) by rw [Nat.gcd_comm b, ← Nat.gcd_rec, Nat.gcd_comm]]
      refine ih (a % b) (Nat.mod_lt _ (Nat.pos_of_ne_zero hb)) b _ hp ?_ ?_ <;> simp only [go_sem, ↓reduceIte, reduceCtorEq, Nat.reduceEqDiff, Nat.reduceAdd, Nat.reduceLeDiff, Nat.reduceMul, Int.reduceEq, Int.reduceLT, Int.reduceLE, Int.reduceAdd, Int.reduceSub, Int.reduceMul, Int.reduceNeg, Int.reduceToNat, Int.reduceNe, Int.reduceBEq, Int.reduceBNe, Nat.reduceLT, Nat.reduceSub, Nat.reduceDiv, Nat.reduceMod, Int.reduceTDiv, Int.reduceTMod]
theorem r26 (a b : Nat) (hp : Heap) : CL X G0 26 [.int .u64 a, .int .u64 b] hp = some (.int .u64 (Nat.gcd a b : Nat), hp) := by
  rw [CL_eq (fn := x26) rfl]
  simp (config := {contextual := true, maxSteps := 10000000, implicitDefEqProofs := false}) only [x26, go_sem, ↓reduceIte, reduceCtorEq, Nat.reduceEqDiff, Nat.reduceAdd, Nat.reduceLeDiff, Nat.reduceMul, Int.reduceEq, Int.reduceLT, Int.reduceLE, Int.reduceAdd, Int.reduceSub, Int.reduceMul, Int.reduceNeg, Int.reduceToNat, Int.reduceNe, Int.reduceBEq, Int.reduceBNe, Nat.reduceLT, Nat.reduceSub, Nat.reduceDiv, Nat.reduceMod, Int.reduceTDiv, Int.reduceTMod]
  obtain ⟨fr', h, h0⟩ := l26 a b (fput [.int .u64 a, .int .u64 b] 4 (.int .u64 0)) ([] :: hp) (by simp only [go_sem, ↓reduceIte, reduceCtorEq, Nat.reduceEqDiff, Nat.reduceAdd, Nat.reduceLeDiff, Nat.reduceMul, Int.reduceEq, Int.reduceLT, Int.reduceLE, Int.reduceAdd, Int.reduceSub, Int.reduceMul, Int.reduceNeg, Int.reduceToNat, Int.reduceNe, Int.reduceBEq, Int.reduceBNe, Nat.reduceLT, Nat.reduceSub, Nat.reduceDiv, Nat.reduceMod, Int.reduceTDiv, Int.reduceTMod]) (by simp only [go_sem, ↓reduceIte, reduceCtorEq, Nat.reduceEqDiff, Nat.reduceAdd, Nat.reduceLeDiff, Nat.reduceMul, Int.reduceEq, Int.reduceLT, Int.reduceLE, Int.reduceAdd, Int.reduceSub, Int.reduceMul, Int.reduceNeg, Int.reduceToNat, Int.reduceNe, Int.reduceBEq, Int.reduceBNe, Nat.reduceLT, Nat.reduceSub, Nat.reduceDiv, Nat.reduceMod, Int.reduceTDiv, Int.reduceTMod])
  simp (config := {contextual := true, maxSteps := 10000000, implicitDefEqProofs := false}) only [h, h0, go_sem, ↓reduceIte, reduceCtorEq, Nat.reduceEqDiff, Nat.reduceAdd, Nat.reduceLeDiff, Nat.reduceMul, Int.reduceEq, Int.reduceLT, Int.reduceLE, Int.reduceAdd, Int.reduceSub, Int.reduceMul, Int.reduceNeg, Int.reduceToNat, Int.reduceNe, Int.reduceBEq, Int.reduceBNe, Nat.reduceLT, Nat.reduceSub, Nat.reduceDiv, Nat.reduceMod, Int.reduceTDiv, Int.reduceTMod]
/-- A number of the document's, of four digits. -/
def dig (a b c d : Nat) : AV := .agg [.int .u64 a, .int .u64 b, .int .u64 c, .int .u64 d]
def big (n : Nat) : AV := dig (n % 4294967296) (n / 4294967296 % 4294967296) (n / 4294967296 / 4294967296 % 4294967296) (n / 4294967296 / 4294967296 / 4294967296 % 4294967296)
theorem big_dig (a b c d : Nat) (ha : a < 4294967296) (hb : b < 4294967296) (hc : c < 4294967296) (hd : d < 4294967296) :
    big (a + 4294967296 * (b + 4294967296 * (c + 4294967296 * d))) = dig a b c d := by
  have e1 : (a + 4294967296 * (b + 4294967296 * (c + 4294967296 * d))) / 4294967296 = b + 4294967296 * (c + 4294967296 * d) := by omega
  have e2 : (b + 4294967296 * (c + 4294967296 * d)) / 4294967296 = c + 4294967296 * d := by omega
  have e3 : (c + 4294967296 * d) / 4294967296 = d := by omega
  unfold big
  rw [e1, e2, e3]
  congr 1 <;> omega
theorem dig_big (n : Nat) : ∃ a b c d, a < 4294967296 ∧ b < 4294967296 ∧ c < 4294967296 ∧ d < 4294967296 ∧ big n = dig a b c d ∧
    n % 340282366920938463463374607431768211456 = a + 4294967296 * (b + 4294967296 * (c + 4294967296 * d)) :=
  ⟨_, _, _, _, Nat.mod_lt _ (by omega), Nat.mod_lt _ (by omega), Nat.mod_lt _ (by omega), Nat.mod_lt _ (by omega), rfl, by omega⟩
theorem big_mod (n : Nat) : big (n % 340282366920938463463374607431768211456) = big n := by
  obtain ⟨a, b, c, d, ha, hb, hc, hd, h, e⟩ := dig_big n
  rw [e, big_dig a b c d ha hb hc hd, h]
theorem r30 (n : Nat) (h : n < 18446744073709551616) (hp : Heap) : CL X G0 30 [.int .u64 n] hp = some (big n, hp) := by
  rw [CL_eq (fn := x30) rfl]
  simp (config := {contextual := true, maxSteps := 10000000, implicitDefEqProofs := false}) only [x30, big, dig, go_sem, ↓reduceIte, reduceCtorEq, Nat.reduceEqDiff, Nat.reduceAdd, Nat.reduceLeDiff, Nat.reduceMul, Int.reduceEq, Int.reduceLT, Int.reduceLE, Int.reduceAdd, Int.reduceSub, Int.reduceMul, Int.reduceNeg, Int.reduceToNat, Int.reduceNe, Int.reduceBEq, Int.reduceBNe, Nat.reduceLT, Nat.reduceSub, Nat.reduceDiv, Nat.reduceMod, Int.reduceTDiv, Int.reduceTMod]
  simp only [Option.some.injEq, Prod.mk.injEq, AV.agg.injEq, AV.tup.injEq, List.cons.injEq, AV.int.injEq, AV.bool.injEq, true_and, and_true, and_self, Int.natCast_inj]
  refine ⟨?_, ?_, ?_⟩ <;> omega
theorem r31 (n : Int) (h : -9223372036854775808 ≤ n ∧ n < 9223372036854775808) (hp : Heap) : CL X G0 31 [.int .i64 n] hp = some (.int .u64 (n.natAbs : Int), hp) := by
  rw [CL_eq (fn := x31) rfl]
  simp (config := {contextual := true, maxSteps := 10000000, implicitDefEqProofs := false}) only [x31, go_sem, ↓reduceIte, reduceCtorEq, Nat.reduceEqDiff, Nat.reduceAdd, Nat.reduceLeDiff, Nat.reduceMul, Int.reduceEq, Int.reduceLT, Int.reduceLE, Int.reduceAdd, Int.reduceSub, Int.reduceMul, Int.reduceNeg, Int.reduceToNat, Int.reduceNe, Int.reduceBEq, Int.reduceBNe, Nat.reduceLT, Nat.reduceSub, Nat.reduceDiv, Nat.reduceMod, Int.reduceTDiv, Int.reduceTMod]
  split
  · rw [wr_i64 (n + 1) (by omega), wr_i64 _ (by omega)]
    simp only [Option.some.injEq, Prod.mk.injEq, AV.agg.injEq, AV.tup.injEq, List.cons.injEq, AV.int.injEq, AV.bool.injEq, true_and, and_true, and_self, Int.natCast_inj, u64]
    omega
  · simp only [Option.some.injEq, Prod.mk.injEq, AV.agg.injEq, AV.tup.injEq, List.cons.injEq, AV.int.injEq, AV.bool.injEq, true_and, and_true, and_self, Int.natCast_inj, u64]
    omega
theorem r35d (a b c d x y z t : Nat) (hp : Heap) :
    CL X G0 35 [dig a b c d, dig x y z t] hp = some (.int .i64 (if d < t then -1 else if t < d then 1 else if c < z then -1 else if z < c then 1 else if b < y then -1 else if y < b then 1 else if a < x then -1 else if x < a then 1 else 0), hp) := by
  rw [CL_eq (fn := x35) rfl]
  simp (config := {contextual := true, maxSteps := 10000000, implicitDefEqProofs := false}) only [x35, x35_l0_run, LC_loop, dig, go_sem, ↓reduceIte, reduceCtorEq, Nat.reduceEqDiff, Nat.reduceAdd, Nat.reduceLeDiff, Nat.reduceMul, Int.reduceEq, Int.reduceLT, Int.reduceLE, Int.reduceAdd, Int.reduceSub, Int.reduceMul, Int.reduceNeg, Int.reduceToNat, Int.reduceNe, Int.reduceBEq, Int.reduceBNe, Nat.reduceLT, Nat.reduceSub, Nat.reduceDiv, Nat.reduceMod, Int.reduceTDiv, Int.reduceTMod]
  have e : ∀ (p q : Nat) (x y : Option (AV × Heap)), (if (p : Int) < q then x else y) = if p < q then x else y := by
    intro p q x y; by_cases h : p < q <;> simp [h, Int.ofNat_lt]
  simp only [e]
  repeat' split
  all_goals first | rfl | omega
theorem r35 (a b : Nat) (ha : a < 340282366920938463463374607431768211456) (hb : b < 340282366920938463463374607431768211456) (hp : Heap) :
    CL X G0 35 [big a, big b] hp = some (.int .i64 (if a < b then -1 else if b < a then 1 else 0), hp) := by
  obtain ⟨a0, a1, a2, a3, h0, h1, h2, h3, e, f⟩ := dig_big a
  obtain ⟨b0, b1, b2, b3, g0, g1, g2, g3, e', f'⟩ := dig_big b
  rw [e, e', r35d]
  rw [Nat.mod_eq_of_lt ha] at f
  rw [Nat.mod_eq_of_lt hb] at f'
  subst f f'
  congr 3
  repeat' split
  all_goals first | rfl | omega
end Go.Proofs.Ytpfollpbkpgglaa.Sx.T
