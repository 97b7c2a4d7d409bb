/- Layer 1, part 6: the document's least form. -/
import Derived.Test.YtpfollpbkpgglaaR5
set_option linter.unusedVariables false
set_option linter.unusedSimpArgs false
namespace Go.Proofs.Ytpfollpbkpgglaa.Sx.T
open Go Go.Proofs.Ytpfollpbkpgglaa.Sx
set_option maxRecDepth 100000
set_option maxHeartbeats 4000000
/-- A fraction and an error, as they come back. -/
def rt (x : Int × Int × Int) : AV := .tup [.agg [.int .i64 x.1, .int .i64 x.2.1], .int .i64 x.2.2]
/-- The least form of n over d, below 0 or not; or its error. -/
def mk (below : Bool) (n d : Nat) : Int × Int × Int :=
  let p := n / Nat.gcd n d
  let q := d / Nat.gcd n d
  if 9223372036854775808 ≤ q ∨ 9223372036854775808 < p ∨ p = 9223372036854775808 ∧ below = false then (0, 0, 10)
  else if below then (-p, q, 0) else (p, q, 0)
theorem valp (p : Nat) (h : p < 18446744073709551616) : (dg p 1 * 4294967296 % 18446744073709551616 + dg p 0) % 18446744073709551616 = p := by
  simp only [dg, Nat.pow_zero, Nat.div_one, Nat.pow_one]
  omega
theorem r32 (below : Bool) (n d : Nat) (hn : n < 340282366920938463463374607431768211456) (hd : 0 < d) (hd' : d ≤ 170141183460469231731687303715884105728) (hp : Heap) :
    CL X G0 32 [.bool below, big n, big d] hp = some (rt (mk below n d), hp) := by
  rw [CL_eq (fn := x32) rfl]
  have hg : 0 < Nat.gcd n d := Nat.gcd_pos_of_pos_right n hd
  have hg' : Nat.gcd n d ≤ d := Nat.gcd_le_right n hd
  have a1 := r43 n d hn hd'
  have a2 := r44 n (Nat.gcd n d) hn hg (by omega)
  have a3 := r44 d (Nat.gcd n d) (by omega) hg (by omega)
  have a4 : ∀ hp, CL X G0 30 [.int .u64 9223372036854775808] hp = some (big 9223372036854775808, hp) := r30 9223372036854775808 (by omega)
  have hp' : n / Nat.gcd n d < 340282366920938463463374607431768211456 := Nat.lt_of_le_of_lt (Nat.div_le_self _ _) hn
  have hq' : d / Nat.gcd n d < 340282366920938463463374607431768211456 := Nat.lt_of_le_of_lt (Nat.div_le_self _ _) (by omega)
  unfold mk
  generalize n / Nat.gcd n d = p at *
  generalize d / Nat.gcd n d = q at *
  have a5 := r35 p 9223372036854775808 hp' (by omega)
  have a6 := r35 q 9223372036854775808 hq' (by omega)
  have x1 : p < 9223372036854775808 ∨ p = 9223372036854775808 ∨ 9223372036854775808 < p := by omega
  have x2 : q < 9223372036854775808 ∨ q = 9223372036854775808 ∨ 9223372036854775808 < q := by omega
  have lt0 : ∀ p : Nat, p < 9223372036854775808 → ¬ 9223372036854775808 < p := fun p h => by omega
  have e (x : Nat) (h : x < 9223372036854775808) : wr .i64 (x : Int) = x := wr_i64 _ (by omega)
  rcases x2 with h2 | h2 | h2
  · have v2 := valp q (by omega)
    rcases x1 with h1 | h1 | h1
    · have v1 := valp p (by omega)
      simp (config := {contextual := true, maxSteps := 10000000, implicitDefEqProofs := false}) only [x32, go_sem, ↓reduceIte, reduceCtorEq, Nat.reduceEqDiff, Nat.reduceAdd, Nat.reduceLeDiff, Nat.reduceMul, Int.reduceEq, Int.reduceLT, Int.reduceLE, Int.reduceAdd, Int.reduceSub, Int.reduceMul, Int.reduceNeg, Int.reduceToNat, Int.reduceNe, Int.reduceBEq, Int.reduceBNe, Nat.reduceLT, Nat.reduceSub, Nat.reduceDiv, Nat.reduceMod, Int.reduceTDiv, Int.reduceTMod, big_map, big_len, big_all, big_cells, big_agg, big_load0, big_loadk, big_uf, big_free, big_drop1, big_shut, big_solid, big_put4, big_put, big_ret, ← big0, a1, a2, a3, a4, a5, a6, h1, h2, lt0, v1, v2, e, neg_back p (by omega)]
      cases below <;> simp [rt, show ¬ 9223372036854775808 ≤ q by omega, show ¬ p = 9223372036854775808 by omega]
    · subst h1
      simp (config := {contextual := true, maxSteps := 10000000, implicitDefEqProofs := false}) only [x32, go_sem, ↓reduceIte, reduceCtorEq, Nat.reduceEqDiff, Nat.reduceAdd, Nat.reduceLeDiff, Nat.reduceMul, Int.reduceEq, Int.reduceLT, Int.reduceLE, Int.reduceAdd, Int.reduceSub, Int.reduceMul, Int.reduceNeg, Int.reduceToNat, Int.reduceNe, Int.reduceBEq, Int.reduceBNe, Nat.reduceLT, Nat.reduceSub, Nat.reduceDiv, Nat.reduceMod, Int.reduceTDiv, Int.reduceTMod, big_map, big_len, big_all, big_cells, big_agg, big_load0, big_loadk, big_uf, big_free, big_drop1, big_shut, big_solid, big_put4, big_put, big_ret, ← big0, a1, a2, a3, a4, a5, a6, h2, Nat.lt_irrefl, lt0, v2, e, valp 9223372036854775808 (by omega), neg_back 9223372036854775808 (by omega)]
      cases below <;> simp [rt, show ¬ 9223372036854775808 ≤ q by omega]
    · have h1' : ¬ p < 9223372036854775808 := by omega
      simp (config := {contextual := true, maxSteps := 10000000, implicitDefEqProofs := false}) only [x32, go_sem, ↓reduceIte, reduceCtorEq, Nat.reduceEqDiff, Nat.reduceAdd, Nat.reduceLeDiff, Nat.reduceMul, Int.reduceEq, Int.reduceLT, Int.reduceLE, Int.reduceAdd, Int.reduceSub, Int.reduceMul, Int.reduceNeg, Int.reduceToNat, Int.reduceNe, Int.reduceBEq, Int.reduceBNe, Nat.reduceLT, Nat.reduceSub, Nat.reduceDiv, Nat.reduceMod, Int.reduceTDiv, Int.reduceTMod, big_map, big_len, big_all, big_cells, big_agg, big_load0, big_loadk, big_uf, big_free, big_drop1, big_shut, big_solid, big_put4, big_put, big_ret, ← big0, a1, a2, a3, a4, a5, a6, h1, h1', h2, lt0]
      rw [if_pos (by simp)]
      rfl
  · subst h2
    simp (config := {contextual := true, maxSteps := 10000000, implicitDefEqProofs := false}) only [x32, go_sem, ↓reduceIte, reduceCtorEq, Nat.reduceEqDiff, Nat.reduceAdd, Nat.reduceLeDiff, Nat.reduceMul, Int.reduceEq, Int.reduceLT, Int.reduceLE, Int.reduceAdd, Int.reduceSub, Int.reduceMul, Int.reduceNeg, Int.reduceToNat, Int.reduceNe, Int.reduceBEq, Int.reduceBNe, Nat.reduceLT, Nat.reduceSub, Nat.reduceDiv, Nat.reduceMod, Int.reduceTDiv, Int.reduceTMod, big_map, big_len, big_all, big_cells, big_agg, big_load0, big_loadk, big_uf, big_free, big_drop1, big_shut, big_solid, big_put4, big_put, big_ret, ← big0, a1, a2, a3, a4, a5, a6, Nat.lt_irrefl]
    rw [if_pos (by simp)]
    rfl
  · have h2' : ¬ q < 9223372036854775808 := by omega
    simp (config := {contextual := true, maxSteps := 10000000, implicitDefEqProofs := false}) only [x32, go_sem, ↓reduceIte, reduceCtorEq, Nat.reduceEqDiff, Nat.reduceAdd, Nat.reduceLeDiff, Nat.reduceMul, Int.reduceEq, Int.reduceLT, Int.reduceLE, Int.reduceAdd, Int.reduceSub, Int.reduceMul, Int.reduceNeg, Int.reduceToNat, Int.reduceNe, Int.reduceBEq, Int.reduceBNe, Nat.reduceLT, Nat.reduceSub, Nat.reduceDiv, Nat.reduceMod, Int.reduceTDiv, Int.reduceTMod, big_map, big_len, big_all, big_cells, big_agg, big_load0, big_loadk, big_uf, big_free, big_drop1, big_shut, big_solid, big_put4, big_put, big_ret, ← big0, a1, a2, a3, a4, a5, a6, h2, h2']
    rw [if_pos (by omega)]
    rfl
end Go.Proofs.Ytpfollpbkpgglaa.Sx.T
