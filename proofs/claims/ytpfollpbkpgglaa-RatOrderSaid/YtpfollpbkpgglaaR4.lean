/- Layer 1, part 4: division of the document's numbers. -/
import Derived.Test.YtpfollpbkpgglaaR3
set_option linter.unusedVariables false
set_option linter.unusedSimpArgs false
namespace Go.Proofs.Ytpfollpbkpgglaa.Sx.T
open Go Go.Proofs.Ytpfollpbkpgglaa.Sx
set_option maxRecDepth 100000
set_option maxHeartbeats 4000000
theorem put0 (R D : Nat) (hD : D < 2) : splice (bigL (R + R)) 0 [.int .u64 ((dg (R + R) 0 + D) % 18446744073709551616 : Nat)] = bigL (R + R + D) := by
  have e : (R + R + D) / 4294967296 = (R + R) / 4294967296 := by omega
  have f : dg (R + R + D) 0 = (dg (R + R) 0 + D) % 18446744073709551616 := by simp only [dg, Nat.pow_zero, Nat.div_one]; omega
  have g : ∀ k, dg (R + R + D) (k + 1) = dg (R + R) (k + 1) := by
    intro k
    simp only [dg, Nat.pow_succ, Nat.mul_comm (4294967296 ^ k) 4294967296, ← Nat.div_div_eq_div_mul, e]
  simp only [bigL, splice_zero, splice_nil, f, show dg (R + R + D) 1 = dg (R + R) 1 from g 0, show dg (R + R + D) 2 = dg (R + R) 2 from g 1, show dg (R + R + D) 3 = dg (R + R) 3 from g 2]
theorem bigL_dig (a b c d : Nat) (ha : a < 4294967296) (hb : b < 4294967296) (hc : c < 4294967296) (hd : d < 4294967296) :
    bigL (a + 4294967296 * (b + 4294967296 * (c + 4294967296 * d))) = [.int .u64 a, .int .u64 b, .int .u64 c, .int .u64 d] := by
  have h := big_dig a b c d ha hb hc hd
  rw [big_eq] at h
  exact AV.agg.inj h
theorem bound_bit (Q s : Nat) (hs : s < 32) : Q * 2 ^ (s + 1) % 4294967296 + 2 ^ s < 4294967296 := by
  have e : 4294967296 = 2 ^ (s + 1) * 2 ^ (31 - s) := by
    rw [← Nat.pow_add, show s + 1 + (31 - s) = 32 by omega]
  rw [e, Nat.mul_comm Q, Nat.mul_mod_mul_left]
  have h1 : Q % 2 ^ (31 - s) + 1 ≤ 2 ^ (31 - s) := Nat.mod_lt _ (Nat.two_pow_pos _)
  have h2 := Nat.mul_le_mul_left (2 ^ (s + 1)) h1
  rw [Nat.mul_add] at h2
  have h3 := Nat.two_pow_pos s
  rw [Nat.pow_succ] at *
  omega
theorem putbit (Q i : Nat) (hi : i < 128) (hT : Q * 2 ^ (i + 1) < 340282366920938463463374607431768211456) :
    splice (bigL (Q * 2 ^ (i + 1))) (i / 32) [.int .u64 ((dg (Q * 2 ^ (i + 1)) (i / 32) + 2 ^ (i % 32)) % 18446744073709551616 : Nat)] = bigL (Q * 2 ^ (i + 1) + 2 ^ i) := by
  have hb := bound_bit Q (i % 32) (Nat.mod_lt _ (by omega))
  have hd : dg (Q * 2 ^ (i + 1)) (i / 32) = Q * 2 ^ (i % 32 + 1) % 4294967296 := by
    unfold dg
    rw [show 2 ^ (i + 1) = 2 ^ (i % 32 + 1) * 4294967296 ^ (i / 32) by
      rw [show (4294967296 : Nat) = 2 ^ 32 by rfl, ← Nat.pow_mul, ← Nat.pow_add]; congr 1; omega, ← Nat.mul_assoc, Nat.mul_div_cancel _ (Nat.pow_pos (by omega))]
  have hp : 2 ^ i = 4294967296 ^ (i / 32) * 2 ^ (i % 32) := by
    rw [show (4294967296 : Nat) = 2 ^ 32 by rfl, ← Nat.pow_mul, ← Nat.pow_add]; congr 1; omega
  rw [← hd] at hb
  rw [hp]
  have hk : i / 32 < 4 := by omega
  generalize Q * 2 ^ (i + 1) = T at *
  generalize 2 ^ (i % 32) = w at *
  generalize i / 32 = k at *
  clear hd hp hi
  have e := big_digs T hT
  have b0 : dg T 0 < 4294967296 := Nat.mod_lt _ (by omega)
  have b1 : dg T 1 < 4294967296 := Nat.mod_lt _ (by omega)
  have b2 : dg T 2 < 4294967296 := Nat.mod_lt _ (by omega)
  have b3 : dg T 3 < 4294967296 := Nat.mod_lt _ (by omega)
  rw [Nat.mod_eq_of_lt (show dg T k + w < 18446744073709551616 by omega)]
  match k, hk with
  | 0, _ =>
    rw [show T + 4294967296 ^ 0 * w = (dg T 0 + w) + 4294967296 * (dg T 1 + 4294967296 * (dg T 2 + 4294967296 * dg T 3)) by simp only [Nat.reducePow]; omega, bigL_dig _ _ _ _ hb b1 b2 b3]
    rfl
  | 1, _ =>
    rw [show T + 4294967296 ^ 1 * w = dg T 0 + 4294967296 * ((dg T 1 + w) + 4294967296 * (dg T 2 + 4294967296 * dg T 3)) by simp only [Nat.reducePow]; omega, bigL_dig _ _ _ _ b0 hb b2 b3]
    rfl
  | 2, _ =>
    rw [show T + 4294967296 ^ 2 * w = dg T 0 + 4294967296 * (dg T 1 + 4294967296 * ((dg T 2 + w) + 4294967296 * dg T 3)) by simp only [Nat.reducePow]; omega, bigL_dig _ _ _ _ b0 b1 hb b3]
    rfl
  | 3, _ =>
    rw [show T + 4294967296 ^ 3 * w = dg T 0 + 4294967296 * (dg T 1 + 4294967296 * (dg T 2 + 4294967296 * (dg T 3 + w))) by simp only [Nat.reducePow]; omega, bigL_dig _ _ _ _ b0 b1 b2 hb]
    rfl
theorem bit_of (a i : Nat) : dg a (i / 32) / 2 ^ (i % 32) % 2 = a / 2 ^ i % 2 := by
  unfold dg
  have hs : i % 32 < 32 := Nat.mod_lt _ (by omega)
  have e : 4294967296 = 2 ^ (i % 32) * 2 ^ (32 - i % 32) := by
    rw [← Nat.pow_add, show i % 32 + (32 - i % 32) = 32 by omega]
  have hp : 2 ^ i = 4294967296 ^ (i / 32) * 2 ^ (i % 32) := by
    rw [show (4294967296 : Nat) = 2 ^ 32 by rfl, ← Nat.pow_mul, ← Nat.pow_add]; congr 1; omega
  rw [hp, ← Nat.div_div_eq_div_mul]
  generalize a / 4294967296 ^ (i / 32) = x
  conv => lhs; rw [e]
  rw [Nat.mod_mul_right_div_self, Nat.mod_mod_of_dvd]
  exact ⟨2 ^ (31 - i % 32), by rw [Nat.mul_comm, ← Nat.pow_succ]; congr 1; omega⟩
theorem div_step (p b D x : Nat) (hb : 0 < b) (hx : x = 2 * p + D) :
    (p % b + p % b + D < b → x / b = 2 * (p / b) ∧ x % b = p % b + p % b + D) ∧ (p % b + p % b + D < b + b → b ≤ p % b + p % b + D → x / b = 2 * (p / b) + 1 ∧ x % b = p % b + p % b + D - b) := by
  have dm := Nat.mod_add_div p b
  constructor
  · intro h
    refine (Nat.div_mod_unique hb).2 ⟨?_, h⟩
    rw [Nat.mul_left_comm b 2]
    omega
  · intro h h'
    refine (Nat.div_mod_unique hb).2 ⟨?_, by omega⟩
    rw [Nat.mul_add b, Nat.mul_left_comm b 2]
    omega
def O44 (a b : Nat) (v4 v5 : AV) (q4 q5 : Option (List AV)) (h : Heap) (r : Option (XExit × St)) : Prop :=
    ∃ fr' l', r = some (.exit 0, ⟨fr', l' :: h⟩) ∧ fget fr' 4 = v4 ∧ fget fr' 5 = v5 ∧ fget fr' 6 = .ptr ⟨h.length, 6, 0⟩ 0 ∧ fget fr' 7 = .ptr ⟨h.length, 7, 0⟩ 0 ∧
      lcells l' 4 0 = q4 ∧ lcells l' 5 0 = q5 ∧ lcells l' 6 0 = some (bigL (a / b)) ∧ lcells l' 7 0 = some (bigL (a % b))
theorem l44 (a b : Nat) (ha : a < 340282366920938463463374607431768211456) (hb : 0 < b) (hb' : b ≤ 170141183460469231731687303715884105728) (v4 v5 : AV) (q4 q5 : Option (List AV)) (h : Heap) :
    ∀ (i : Nat) (_ : i ≤ 128) (c : Int) (_ : c = (i : Int) - 1) (fr : List AV) (l : Level), fget fr 2 = .ptr ⟨h.length, 2, 0⟩ 0 → fget fr 3 = .ptr ⟨h.length, 3, 0⟩ 0 → fget fr 6 = .ptr ⟨h.length, 6, 0⟩ 0 → fget fr 7 = .ptr ⟨h.length, 7, 0⟩ 0 →
    fget fr 4 = v4 → fget fr 5 = v5 → lcells l 4 0 = q4 → lcells l 5 0 = q5 →
    fget fr 8 = .int .i64 c → lcells l 2 0 = some (bigL a) → lcells l 3 0 = some (bigL b) → lcells l 6 0 = some (bigL (a / 2 ^ i / b * 2 ^ i)) → lcells l 7 0 = some (bigL (a / 2 ^ i % b)) →
    O44 a b v4 v5 q4 q5 h (LC X G0 (.loop x44_l0) ⟨fr, l :: h⟩) := by
  intro i
  induction i with
  | zero =>
    intro _ c hc fr l h2 h3 h6 h7 h4 h5 k4 k5 h8 k2 k3 k6 k7
    rw [LC_loop]
    have hc' : c = -1 := by omega
    subst hc'
    simp (config := {contextual := true, maxSteps := 10000000, implicitDefEqProofs := false}) only [x44_l0_run, go_sem, ↓reduceIte, reduceCtorEq, Nat.reduceEqDiff, Nat.reduceAdd, Nat.reduceLeDiff, Nat.reduceMul, Int.reduceEq, Int.reduceLT, Int.reduceLE, Int.reduceAdd, Int.reduceSub, Int.reduceMul, Int.reduceNeg, Int.reduceToNat, Int.reduceNe, Int.reduceBEq, Int.reduceBNe, Nat.reduceLT, Nat.reduceSub, Nat.reduceDiv, Nat.reduceMod, Int.reduceTDiv, Int.reduceTMod, h2, h3, h6, h7, h8]
    refine ⟨_, _, rfl, ?_⟩
    simp only [Nat.pow_zero, Nat.div_one, Nat.mul_one] at k6 k7
    simp only [go_sem, ↓reduceIte, reduceCtorEq, Nat.reduceEqDiff, Nat.reduceAdd, Nat.reduceLeDiff, Nat.reduceMul, Int.reduceEq, Int.reduceLT, Int.reduceLE, Int.reduceAdd, Int.reduceSub, Int.reduceMul, Int.reduceNeg, Int.reduceToNat, Int.reduceNe, Int.reduceBEq, Int.reduceBNe, Nat.reduceLT, Nat.reduceSub, Nat.reduceDiv, Nat.reduceMod, Int.reduceTDiv, Int.reduceTMod, h2, h3, h6, h7, h8, h4, h5, k2, k3, k4, k5, k6, k7, Nat.pow_zero, Nat.div_one]
  | succ i ih =>
    intro hi c hc fr l h2 h3 h6 h7 h4 h5 k4 k5 h8 k2 k3 k6 k7
    rw [LC_loop]
    have hc' : c = (i : Int) := by omega
    clear hc
    subst hc'
    have n32 : i / 32 < 4 := by omega
    have w32 : i / 32 < 9223372036854775808 := by omega
    have m32 : i % 32 % 18446744073709551616 = i % 32 := by omega
    have m64 : min (i % 32) 64 = i % 32 := by omega
    have wi : wr .i64 ((i : Int) - 1) = (i : Int) - 1 := wr_i64 _ (by omega)
    have wm : wr .i64 ((i % 32 : Nat) : Int) = ((i % 32 : Nat) : Int) := wr_i64 _ (by omega)
    have n3 : i / 32 ≤ 3 := by omega
    have hTb : a / 2 ^ (i + 1) / b * 2 ^ (i + 1) ≤ a := Nat.le_trans (Nat.mul_le_mul_right _ (Nat.div_le_self _ _)) (Nat.div_mul_le_self _ _)
    have hs2 := putbit (a / 2 ^ (i + 1) / b) i (by omega) (by omega)
    have hE := bit_of a i
    have e2 : a / 2 ^ i = 2 * (a / 2 ^ (i + 1)) + a / 2 ^ i % 2 := by rw [Nat.pow_succ, ← Nat.div_div_eq_div_mul]; omega
    have ds := div_step (a / 2 ^ (i + 1)) b (a / 2 ^ i % 2) (a / 2 ^ i) hb e2
    have hpw : a / 2 ^ (i + 1) / b * 2 ^ (i + 1) = 2 * (a / 2 ^ (i + 1) / b) * 2 ^ i := by
      rw [Nat.mul_right_comm, ← Nat.pow_succ', Nat.mul_comm]
    rw [← hE] at ds
    clear e2
    generalize hR : a / 2 ^ (i + 1) % b = R at *
    generalize hT : a / 2 ^ (i + 1) / b * 2 ^ (i + 1) = T at *
    generalize hD : dg a (i / 32) / 2 ^ (i % 32) % 2 = D at *
    have hR' : R < b := by rw [← hR]; exact Nat.mod_lt _ hb
    have hD' : D < 2 := by omega
    have hs1 := put0 R D hD'
    have p1 : u64 (1 * 2 ^ (i % 32)) = 2 ^ (i % 32) := by
      have hs : 2 ^ (i % 32) < 2 ^ 32 := Nat.pow_lt_pow_right (by omega) (Nat.mod_lt _ (by omega))
      rw [Int.one_mul, show (2 : Int) ^ (i % 32) = ((2 ^ (i % 32) : Nat) : Int) by simp, u64_nat, Nat.mod_eq_of_lt (by omega)]
    have r35' := r35 (R + R + D) b (by omega) (by omega)
    have h0 : (0 : Int) ≤ i := by omega
    by_cases hX : R + R + D < b
    · simp (config := {contextual := true, maxSteps := 10000000, implicitDefEqProofs := false}) only [x44_l0_run, go_sem, ↓reduceIte, reduceCtorEq, Nat.reduceEqDiff, Nat.reduceAdd, Nat.reduceLeDiff, Nat.reduceMul, Int.reduceEq, Int.reduceLT, Int.reduceLE, Int.reduceAdd, Int.reduceSub, Int.reduceMul, Int.reduceNeg, Int.reduceToNat, Int.reduceNe, Int.reduceBEq, Int.reduceBNe, Nat.reduceLT, Nat.reduceSub, Nat.reduceDiv, Nat.reduceMod, Int.reduceTDiv, Int.reduceTMod, big_map, big_len, big_all, big_cells, big_agg, big_load0, big_loadk, big_uf, big_free, big_drop1, big_shut, big_solid, big_put4, big_put, big_ret, h0, h2, h3, h6, h7, h8, k2, k3, k6, k7, n32, w32, n3, m32, m64, wi, wm, hD, hs1, r47, r35', hX]
      refine ih (by omega) _ rfl _ _ ?_ ?_ ?_ ?_ ?_ ?_ ?_ ?_ ?_ ?_ ?_ ?_ ?_
      all_goals try simp only [go_sem, ↓reduceIte, reduceCtorEq, Nat.reduceEqDiff, Nat.reduceAdd, Nat.reduceLeDiff, Nat.reduceMul, Int.reduceEq, Int.reduceLT, Int.reduceLE, Int.reduceAdd, Int.reduceSub, Int.reduceMul, Int.reduceNeg, Int.reduceToNat, Int.reduceNe, Int.reduceBEq, Int.reduceBNe, Nat.reduceLT, Nat.reduceSub, Nat.reduceDiv, Nat.reduceMod, Int.reduceTDiv, Int.reduceTMod, h2, h3, h6, h7, h8, h4, h5, k2, k3, k4, k5, k6, k7]
      · rw [(ds.1 hX).1, hpw]
      · rw [(ds.1 hX).2]
    · have r48' := r48 (R + R + D) b (by omega) (by omega)
      have hX' : (0 : Int) ≤ (if b < R + R + D then 1 else 0) := by split <;> omega
      simp (config := {contextual := true, maxSteps := 10000000, implicitDefEqProofs := false}) only [x44_l0_run, go_sem, ↓reduceIte, reduceCtorEq, Nat.reduceEqDiff, Nat.reduceAdd, Nat.reduceLeDiff, Nat.reduceMul, Int.reduceEq, Int.reduceLT, Int.reduceLE, Int.reduceAdd, Int.reduceSub, Int.reduceMul, Int.reduceNeg, Int.reduceToNat, Int.reduceNe, Int.reduceBEq, Int.reduceBNe, Nat.reduceLT, Nat.reduceSub, Nat.reduceDiv, Nat.reduceMod, Int.reduceTDiv, Int.reduceTMod, big_map, big_len, big_all, big_cells, big_agg, big_load0, big_loadk, big_uf, big_free, big_drop1, big_shut, big_solid, big_put4, big_put, big_ret, h0, h2, h3, h6, h7, h8, k2, k3, k6, k7, n32, w32, n3, m32, m64, wi, wm, hD, hs1, r47, r35', r48', hX, hX', p1, hs2]
      refine ih (by omega) _ rfl _ _ ?_ ?_ ?_ ?_ ?_ ?_ ?_ ?_ ?_ ?_ ?_ ?_ ?_
      all_goals try simp only [go_sem, ↓reduceIte, reduceCtorEq, Nat.reduceEqDiff, Nat.reduceAdd, Nat.reduceLeDiff, Nat.reduceMul, Int.reduceEq, Int.reduceLT, Int.reduceLE, Int.reduceAdd, Int.reduceSub, Int.reduceMul, Int.reduceNeg, Int.reduceToNat, Int.reduceNe, Int.reduceBEq, Int.reduceBNe, Nat.reduceLT, Nat.reduceSub, Nat.reduceDiv, Nat.reduceMod, Int.reduceTDiv, Int.reduceTMod, h2, h3, h6, h7, h8, h4, h5, k2, k3, k4, k5, k6, k7]
      · rw [(ds.2 (by omega) (by omega)).1, hpw, Nat.add_mul, Nat.one_mul]
      · rw [(ds.2 (by omega) (by omega)).2]
end Go.Proofs.Ytpfollpbkpgglaa.Sx.T
