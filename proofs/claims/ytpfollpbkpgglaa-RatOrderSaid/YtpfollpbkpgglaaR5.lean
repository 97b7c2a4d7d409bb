/- Layer 1, part 5: the greatest common divisor of the document's numbers, and the document's least form. -/
import Derived.Test.YtpfollpbkpgglaaR4
set_option linter.unusedVariables false
set_option linter.unusedSimpArgs false
namespace Go.Proofs.Ytpfollpbkpgglaa.Sx.T
open Go Go.Proofs.Ytpfollpbkpgglaa.Sx
set_option maxRecDepth 100000
set_option maxHeartbeats 4000000
theorem big0 : bigL 0 = [.int .u64 0, .int .u64 0, .int .u64 0, .int .u64 0] := rfl
theorem r44 (a b : Nat) (ha : a < 340282366920938463463374607431768211456) (hb : 0 < b) (hb' : b ≤ 170141183460469231731687303715884105728) (hp : Heap) :
    CL X G0 44 [big a, big b] hp = some (.tup [big (a / b), big (a % b)], hp) := by
  rw [CL_eq (fn := x44) rfl]
  simp (config := {contextual := true, maxSteps := 10000000, implicitDefEqProofs := false}) only [x44, go_sem, ↓reduceIte, reduceCtorEq, Nat.reduceEqDiff, Nat.reduceAdd, Nat.reduceLeDiff, Nat.reduceMul, Int.reduceEq, Int.reduceLT, Int.reduceLE, Int.reduceAdd, Int.reduceSub, Int.reduceMul, Int.reduceNeg, Int.reduceToNat, Int.reduceNe, Int.reduceBEq, Int.reduceBNe, Nat.reduceLT, Nat.reduceSub, Nat.reduceDiv, Nat.reduceMod, Int.reduceTDiv, Int.reduceTMod, big_map, big_len, big_all, big_cells, big_agg, big_load0, big_loadk, big_uf, big_free, big_drop1, big_shut, big_solid, big_put4, big_put, big_ret, ← big0]
  have hz : a / 2 ^ 128 = 0 := Nat.div_eq_of_lt ha
  have hz' : a / 2 ^ 128 / b * 2 ^ 128 = 0 := by rw [hz, Nat.zero_div, Nat.zero_mul]
  have hz'' : a / 2 ^ 128 % b = 0 := by rw [hz, Nat.zero_mod]
  refine elimL (fun r => finK _ (seqK (blockK 0 r) _) = _) (l44 a b ha hb hb' _ _ _ _ _ 128 (by omega) 127 (by omega) _ _ ?_ ?_ ?_ ?_ rfl rfl rfl rfl ?_ ?_ ?_ ?_ ?_) ?_
  all_goals try simp only [go_sem, ↓reduceIte, reduceCtorEq, Nat.reduceEqDiff, Nat.reduceAdd, Nat.reduceLeDiff, Nat.reduceMul, Int.reduceEq, Int.reduceLT, Int.reduceLE, Int.reduceAdd, Int.reduceSub, Int.reduceMul, Int.reduceNeg, Int.reduceToNat, Int.reduceNe, Int.reduceBEq, Int.reduceBNe, Nat.reduceLT, Nat.reduceSub, Nat.reduceDiv, Nat.reduceMod, Int.reduceTDiv, Int.reduceTMod, hz', hz'']
  rintro r ⟨fr', l', rfl, f4, f5, f6, f7, g4, g5, g6, g7⟩
  simp (config := {contextual := true, maxSteps := 10000000, implicitDefEqProofs := false}) only [go_sem, ↓reduceIte, reduceCtorEq, Nat.reduceEqDiff, Nat.reduceAdd, Nat.reduceLeDiff, Nat.reduceMul, Int.reduceEq, Int.reduceLT, Int.reduceLE, Int.reduceAdd, Int.reduceSub, Int.reduceMul, Int.reduceNeg, Int.reduceToNat, Int.reduceNe, Int.reduceBEq, Int.reduceBNe, Nat.reduceLT, Nat.reduceSub, Nat.reduceDiv, Nat.reduceMod, Int.reduceTDiv, Int.reduceTMod, f4, f5, f6, f7, g4, g5, g6, g7, big_map, big_len, big_all, big_cells, big_agg, big_load0, big_loadk, big_uf, big_free, big_drop1, big_shut, big_solid, big_put4, big_put, big_ret]
def O43 (a b : Nat) (v4 : AV) (q4 : Option (List AV)) (h : Heap) (r : Option (XExit × St)) : Prop :=
    ∃ fr' l', r = some (.exit 0, ⟨fr', l' :: h⟩) ∧ fget fr' 2 = .ptr ⟨h.length, 2, 0⟩ 0 ∧ fget fr' 4 = v4 ∧ lcells l' 4 0 = q4 ∧ lcells l' 2 0 = some (bigL (Nat.gcd a b))
theorem l43 (v4 : AV) (q4 : Option (List AV)) (h : Heap) : ∀ (b a : Nat) (_ : a < 340282366920938463463374607431768211456) (_ : b ≤ 170141183460469231731687303715884105728) (fr : List AV) (l : Level),
    fget fr 2 = .ptr ⟨h.length, 2, 0⟩ 0 → fget fr 3 = .ptr ⟨h.length, 3, 0⟩ 0 → fget fr 5 = .ptr ⟨h.length, 5, 0⟩ 0 → fget fr 4 = v4 → lcells l 4 0 = q4 →
    lcells l 2 0 = some (bigL a) → lcells l 3 0 = some (bigL b) → lcells l 5 0 = some (bigL 0) → O43 a b v4 q4 h (LC X G0 (.loop x43_l0) ⟨fr, l :: h⟩) := by
  intro b
  induction b using Nat.strongRecOn with
  | ind b ih =>
    intro a ha hb fr l h2 h3 h5 h4 k4 k2 k3 k5
    rw [LC_loop]
    have z := big_zero b (by omega) true
    have z0 : AV.agg [.int .u64 0, .int .u64 0, .int .u64 0, .int .u64 0] = big 0 := rfl
    rw [z0] at z
    by_cases h0 : b = 0
    · subst h0
      simp (config := {contextual := true, maxSteps := 10000000, implicitDefEqProofs := false}) only [x43_l0_run, go_sem, ↓reduceIte, reduceCtorEq, Nat.reduceEqDiff, Nat.reduceAdd, Nat.reduceLeDiff, Nat.reduceMul, Int.reduceEq, Int.reduceLT, Int.reduceLE, Int.reduceAdd, Int.reduceSub, Int.reduceMul, Int.reduceNeg, Int.reduceToNat, Int.reduceNe, Int.reduceBEq, Int.reduceBNe, Nat.reduceLT, Nat.reduceSub, Nat.reduceDiv, Nat.reduceMod, Int.reduceTDiv, Int.reduceTMod, big_map, big_len, big_all, big_cells, big_agg, big_load0, big_loadk, big_uf, big_free, big_drop1, big_shut, big_solid, big_put4, big_put, big_ret, h2, h3, h5, k2, k3, k5, z]
      exact ⟨_, _, rfl, by simp only [go_sem, ↓reduceIte, reduceCtorEq, Nat.reduceEqDiff, Nat.reduceAdd, Nat.reduceLeDiff, Nat.reduceMul, Int.reduceEq, Int.reduceLT, Int.reduceLE, Int.reduceAdd, Int.reduceSub, Int.reduceMul, Int.reduceNeg, Int.reduceToNat, Int.reduceNe, Int.reduceBEq, Int.reduceBNe, Nat.reduceLT, Nat.reduceSub, Nat.reduceDiv, Nat.reduceMod, Int.reduceTDiv, Int.reduceTMod, h2], by simp only [go_sem, ↓reduceIte, reduceCtorEq, Nat.reduceEqDiff, Nat.reduceAdd, Nat.reduceLeDiff, Nat.reduceMul, Int.reduceEq, Int.reduceLT, Int.reduceLE, Int.reduceAdd, Int.reduceSub, Int.reduceMul, Int.reduceNeg, Int.reduceToNat, Int.reduceNe, Int.reduceBEq, Int.reduceBNe, Nat.reduceLT, Nat.reduceSub, Nat.reduceDiv, Nat.reduceMod, Int.reduceTDiv, Int.reduceTMod, h4], by simp only [go_sem, ↓reduceIte, reduceCtorEq, Nat.reduceEqDiff, Nat.reduceAdd, Nat.reduceLeDiff, Nat.reduceMul, Int.reduceEq, Int.reduceLT, Int.reduceLE, Int.reduceAdd, Int.reduceSub, Int.reduceMul, Int.reduceNeg, Int.reduceToNat, Int.reduceNe, Int.reduceBEq, Int.reduceBNe, Nat.reduceLT, Nat.reduceSub, Nat.reduceDiv, Nat.reduceMod, Int.reduceTDiv, Int.reduceTMod, k4], by simp only [go_sem, ↓reduceIte, reduceCtorEq, Nat.reduceEqDiff, Nat.reduceAdd, Nat.reduceLeDiff, Nat.reduceMul, Int.reduceEq, Int.reduceLT, Int.reduceLE, Int.reduceAdd, Int.reduceSub, Int.reduceMul, Int.reduceNeg, Int.reduceToNat, Int.reduceNe, Int.reduceBEq, Int.reduceBNe, Nat.reduceLT, Nat.reduceSub, Nat.reduceDiv, Nat.reduceMod, Int.reduceTDiv, Int.reduceTMod, k2, Nat.gcd_zero_right]⟩
    · have r44' := r44 a b ha (Nat.pos_of_ne_zero h0) hb
      simp (config := {contextual := true, maxSteps := 10000000, implicitDefEqProofs := false}) only [x43_l0_run, go_sem, ↓reduceIte, reduceCtorEq, Nat.reduceEqDiff, Nat.reduceAdd, Nat.reduceLeDiff, Nat.reduceMul, Int.reduceEq, Int.reduceLT, Int.reduceLE, Int.reduceAdd, Int.reduceSub, Int.reduceMul, Int.reduceNeg, Int.reduceToNat, Int.reduceNe, Int.reduceBEq, Int.reduceBNe, Nat.reduceLT, Nat.reduceSub, Nat.reduceDiv, Nat.reduceMod, Int.reduceTDiv, Int.reduceTMod, big_map, big_len, big_all, big_cells, big_agg, big_load0, big_loadk, big_uf, big_free, big_drop1, big_shut, big_solid, big_put4, big_put, big_ret, h2, h3, h5, k2, k3, k5, z, h0, r44', ← big0]
      unfold O43
      rw [show Nat.gcd a b = Nat.gcd b (a % b) by rw [Nat.gcd_comm b, ← Nat.gcd_rec, Nat.gcd_comm]]
      have lt := Nat.mod_lt a (Nat.pos_of_ne_zero h0)
      refine ih (a % b) lt b (by omega) (by omega) _ _ ?_ ?_ ?_ ?_ ?_ ?_ ?_ ?_ <;> simp only [go_sem, ↓reduceIte, reduceCtorEq, Nat.reduceEqDiff, Nat.reduceAdd, Nat.reduceLeDiff, Nat.reduceMul, Int.reduceEq, Int.reduceLT, Int.reduceLE, Int.reduceAdd, Int.reduceSub, Int.reduceMul, Int.reduceNeg, Int.reduceToNat, Int.reduceNe, Int.reduceBEq, Int.reduceBNe, Nat.reduceLT, Nat.reduceSub, Nat.reduceDiv, Nat.reduceMod, Int.reduceTDiv, Int.reduceTMod, h2, h3, h5, h4, k4, k2, k3, k5]
theorem r43 (a b : Nat) (ha : a < 340282366920938463463374607431768211456) (hb : b ≤ 170141183460469231731687303715884105728) (hp : Heap) :
    CL X G0 43 [big a, big b] hp = some (big (Nat.gcd a b), hp) := by
  rw [CL_eq (fn := x43) rfl]
  simp (config := {contextual := true, maxSteps := 10000000, implicitDefEqProofs := false}) only [x43, go_sem, ↓reduceIte, reduceCtorEq, Nat.reduceEqDiff, Nat.reduceAdd, Nat.reduceLeDiff, Nat.reduceMul, Int.reduceEq, Int.reduceLT, Int.reduceLE, Int.reduceAdd, Int.reduceSub, Int.reduceMul, Int.reduceNeg, Int.reduceToNat, Int.reduceNe, Int.reduceBEq, Int.reduceBNe, Nat.reduceLT, Nat.reduceSub, Nat.reduceDiv, Nat.reduceMod, Int.reduceTDiv, Int.reduceTMod, big_map, big_len, big_all, big_cells, big_agg, big_load0, big_loadk, big_uf, big_free, big_drop1, big_shut, big_solid, big_put4, big_put, big_ret, ← big0]
  refine elimL (fun r => finK _ (seqK (blockK 0 r) _) = _) (l43 _ _ _ b a ha hb _ _ ?_ ?_ ?_ rfl rfl ?_ ?_ ?_) ?_
  all_goals try simp only [go_sem, ↓reduceIte, reduceCtorEq, Nat.reduceEqDiff, Nat.reduceAdd, Nat.reduceLeDiff, Nat.reduceMul, Int.reduceEq, Int.reduceLT, Int.reduceLE, Int.reduceAdd, Int.reduceSub, Int.reduceMul, Int.reduceNeg, Int.reduceToNat, Int.reduceNe, Int.reduceBEq, Int.reduceBNe, Nat.reduceLT, Nat.reduceSub, Nat.reduceDiv, Nat.reduceMod, Int.reduceTDiv, Int.reduceTMod]
  rintro r ⟨fr', l', rfl, f2, f4, g4, g2⟩
  simp (config := {contextual := true, maxSteps := 10000000, implicitDefEqProofs := false}) only [go_sem, ↓reduceIte, reduceCtorEq, Nat.reduceEqDiff, Nat.reduceAdd, Nat.reduceLeDiff, Nat.reduceMul, Int.reduceEq, Int.reduceLT, Int.reduceLE, Int.reduceAdd, Int.reduceSub, Int.reduceMul, Int.reduceNeg, Int.reduceToNat, Int.reduceNe, Int.reduceBEq, Int.reduceBNe, Nat.reduceLT, Nat.reduceSub, Nat.reduceDiv, Nat.reduceMod, Int.reduceTDiv, Int.reduceTMod, f2, f4, g4, g2, big_map, big_len, big_all, big_cells, big_agg, big_load0, big_loadk, big_uf, big_free, big_drop1, big_shut, big_solid, big_put4, big_put, big_ret]
end Go.Proofs.Ytpfollpbkpgglaa.Sx.T
