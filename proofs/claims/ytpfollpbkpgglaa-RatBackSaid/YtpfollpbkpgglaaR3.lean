/- Layer 1, part 3: the document's numbers as wholes. -/
import Derived.Test.YtpfollpbkpgglaaR2
set_option linter.unusedVariables false
set_option linter.unusedSimpArgs false
namespace Go.Proofs.Ytpfollpbkpgglaa.Sx.T
open Go Go.Proofs.Ytpfollpbkpgglaa.Sx
set_option maxRecDepth 100000
set_option maxHeartbeats 4000000
def dg (n k : Nat) : Nat := n / 4294967296 ^ k % 4294967296
def bigL (n : Nat) : List AV := [.int .u64 (dg n 0), .int .u64 (dg n 1), .int .u64 (dg n 2), .int .u64 (dg n 3)]
theorem big_eq (n : Nat) : big n = .agg (bigL n) := by
  simp only [big, dig, bigL, dg, Nat.div_div_eq_div_mul, Nat.pow_zero, Nat.div_one, Nat.reducePow, Nat.reduceMul]
theorem big_len (n : Nat) : (bigL n).length = 4 := rfl
theorem big_map (n : Nat) : List.map uf (bigL n) = bigL n := rfl
theorem big_all (n : Nat) : (bigL n).all plain1 = true := rfl
theorem big_cells (n : Nat) : cellsOf (big n) = bigL n := by rw [big_eq]; rfl
theorem big_load (n : Nat) : ldCells (bigL n) 4 true = some (big n) := by rw [big_eq]; rfl
theorem big_agg (n : Nat) : AV.agg (List.map uf (List.take 4 (bigL n))) = big n := by rw [big_eq]; rfl
theorem big_load0 (n : Nat) : ldCells (bigL n) 1 false = some (.int .u64 (dg n 0)) := rfl
theorem big_loadk (n k : Nat) (h : k < 4) : ldCells ((bigL n).drop k) 1 false = some (.int .u64 (dg n k)) := by
  match k, h with
  | 0, _ => rfl
  | 1, _ => rfl
  | 2, _ => rfl
  | 3, _ => rfl
theorem big_uf (n : Nat) : uf (big n) = big n := by rw [big_eq]; rfl
theorem big_free (n : Nat) : refFree (big n) = true := by rw [big_eq]; rfl
theorem big_drop1 (n : Nat) (fr : List AV) (t : Nat) : drop1K (big n) fr t = fr := by rw [big_eq]; rfl
theorem big_shut (hp : Heap) (lev k n : Nat) : shut hp lev (k + 2) (big n) = some (big n) := by rw [big_eq]; rfl
theorem big_solid (n : Nat) : solid (big n) = true := by rw [big_eq]; rfl
theorem big_put4 (a b c d : AV) (n : Nat) : splice [a, b, c, d] 0 (bigL n) = bigL n := rfl
theorem big_put (m n : Nat) : splice (bigL m) 0 (bigL n) = bigL n := rfl
theorem big_ret (hp : Heap) (lev n : Nat) : retOf hp lev [big n] = some (big n) := by rw [big_eq]; rfl
theorem big_digs (n : Nat) (h : n < 340282366920938463463374607431768211456) : n = dg n 0 + 4294967296 * (dg n 1 + 4294967296 * (dg n 2 + 4294967296 * dg n 3)) := by
  simp only [dg, Nat.pow_zero, Nat.div_one, Nat.reducePow]
  omega
theorem big_zero (n : Nat) (h : n < 340282366920938463463374607431768211456) (neg : Bool) : eqaK neg [1, 1, 1, 1] (big n) (.agg [.int .u64 0, .int .u64 0, .int .u64 0, .int .u64 0]) = some (.bool (decide (n = 0) != neg)) := by
  rw [big_eq]
  simp only [bigL, go_sem, ↓reduceIte, reduceCtorEq, Nat.reduceEqDiff, Nat.reduceAdd, Nat.reduceLeDiff, Nat.reduceMul, Int.reduceEq, Int.reduceLT, Int.reduceLE, Int.reduceAdd, Int.reduceSub, Int.reduceMul, Int.reduceNeg, Int.reduceToNat, Int.reduceNe, Int.reduceBEq, Int.reduceBNe, Nat.reduceLT, Nat.reduceSub, Nat.reduceDiv, Nat.reduceMod, Int.reduceTDiv, Int.reduceTMod]
  have e := big_digs n h
  congr 3
  by_cases hn : n = 0
  · subst hn
    rfl
  · have : ¬ (dg n 0 = 0 ∧ dg n 1 = 0 ∧ dg n 2 = 0 ∧ dg n 3 = 0) := by omega
    simp only [hn, decide_false]
    apply Bool.eq_false_iff.2
    intro hh
    simp only [Bool.and_eq_true, beq_iff_eq] at hh
    omega
end Go.Proofs.Ytpfollpbkpgglaa.Sx.T
