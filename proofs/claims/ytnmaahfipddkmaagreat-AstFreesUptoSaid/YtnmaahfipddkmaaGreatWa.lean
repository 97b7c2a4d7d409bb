/- Layer 1, part 1: what the functions of whole numbers answer. -/
import Derived.Test.YtnmaahfipddkmaaGreatEvB
import Derived.Test.YtnmaahfipddkmaaGreatEvR
import Derived.Test.YtnmaahfipddkmaaGreatEvP
import Derived.Test.YtnmaahfipddkmaaGreatEvS
import Derived.Test.YtnmaahfipddkmaaGreatSxRun
import Derived.Test.YtnmaahfipddkmaaGreatTold
set_option linter.unusedVariables false
set_option linter.unusedSimpArgs false
namespace Go.Proofs.YtnmaahfipddkmaaGreat.Sx.T
open Go Go.Proofs.YtnmaahfipddkmaaGreat.Sx
set_option maxRecDepth 100000
set_option maxHeartbeats 4000000
theorem r27 (n : Int) (h : -9223372036854775808 ≤ n ∧ n < 9223372036854775808) (hp : Heap) : CL X (fun _ => []) 129 [.int .i64 n] hp = some (.int .u64 (n.natAbs : Int), hp) := by
  rw [CL_eq (fn := x129) rfl]
  simp +contextual -implicitDefEqProofs (maxSteps := 10000000) only [x129, go_sem, ↓reduceIte, reduceCtorEq]
  split <;> simp only [Option.some.injEq, Prod.mk.injEq, AV.int.injEq, true_and, and_true] <;> simp only [u64] <;> omega
theorem l26 (a : Nat) : ∀ (b : Nat) (fr : List AV) (hp : Heap), fget fr 0 = .int .u64 a → fget fr 1 = .int .u64 b →
    ∃ fr', LC X (fun _ => []) (.loop x128_l0) ⟨fr, hp⟩ = some (.exit 0, ⟨fr', hp⟩) ∧ fget fr' 0 = .int .u64 (Nat.gcd a b : Nat) := by
  intro b
  induction b using Nat.strongRecOn generalizing a with
  | ind b ih =>
    intro fr hp h0 h1
    rw [LC_loop]
    by_cases hb : b = 0
    · subst hb
      simp +contextual -implicitDefEqProofs (maxSteps := 10000000) only [x128_l0_run, go_sem, ↓reduceIte, h1]
      exact ⟨_, rfl, by simp only [go_sem, ↓reduceIte, reduceCtorEq, h0]; simp⟩
    · simp +contextual -implicitDefEqProofs (maxSteps := 10000000) only [x128_l0_run, go_sem, ↓reduceIte, reduceCtorEq, Nat.reduceEqDiff, h0, h1, hb]
      rw [show Nat.gcd a b = Nat.gcd b (a % b) by rw [Nat.gcd_comm b, ← Nat.gcd_rec, Nat.gcd_comm]]
      refine ih (a % b) (Nat.mod_lt _ (Nat.pos_of_ne_zero hb)) b _ hp ?_ ?_ <;> simp only [go_sem, ↓reduceIte, reduceCtorEq]
theorem r26 (a b : Nat) (hp : Heap) : CL X (fun _ => []) 128 [.int .u64 a, .int .u64 b] hp = some (.int .u64 (Nat.gcd a b : Nat), hp) := by
  rw [CL_eq (fn := x128) rfl]
  simp +contextual -implicitDefEqProofs (maxSteps := 10000000) only [x128, go_sem, ↓reduceIte]
  obtain ⟨fr', h, h0⟩ := l26 a b (fput [.int .u64 a, .int .u64 b] 4 (.int .u64 0)) ([] :: hp) (by simp only [go_sem, ↓reduceIte, reduceCtorEq]) (by simp only [go_sem, ↓reduceIte, Nat.reduceEqDiff])
  simp +contextual -implicitDefEqProofs (maxSteps := 10000000) only [h, h0, go_sem, ↓reduceIte]
def dig (a b c d : Nat) : AV := .agg [.int .u64 a, .int .u64 b, .int .u64 c, .int .u64 d]
def big (n : Nat) : AV := dig (n % 4294967296) (n / 4294967296 % 4294967296) (n / 4294967296 / 4294967296 % 4294967296) (n / 4294967296 / 4294967296 / 4294967296 % 4294967296)
theorem big_dig (a b c d : Nat) (ha : a < 4294967296) (hb : b < 4294967296) (hc : c < 4294967296) (hd : d < 4294967296) :
    big (a + 4294967296 * (b + 4294967296 * (c + 4294967296 * d))) = dig a b c d := by
  have e1 : (a + 4294967296 * (b + 4294967296 * (c + 4294967296 * d))) / 4294967296 = b + 4294967296 * (c + 4294967296 * d) := by omega
  have e2 : (b + 4294967296 * (c + 4294967296 * d)) / 4294967296 = c + 4294967296 * d := by omega
  have e3 : (c + 4294967296 * d) / 4294967296 = d := by omega
  unfold big
  rw [e1, e2, e3]
  congr 1 <;> omega
theorem dig_big (n : Nat) : ∃ a b c d, a < 4294967296 ∧ b < 4294967296 ∧ c < 4294967296 ∧ d < 4294967296 ∧ big n = dig a b c d ∧
    n % 340282366920938463463374607431768211456 = a + 4294967296 * (b + 4294967296 * (c + 4294967296 * d)) :=
  ⟨_, _, _, _, Nat.mod_lt _ (by omega), Nat.mod_lt _ (by omega), Nat.mod_lt _ (by omega), Nat.mod_lt _ (by omega), rfl, by omega⟩
theorem big_mod (n : Nat) : big (n % 340282366920938463463374607431768211456) = big n := by
  obtain ⟨a, b, c, d, ha, hb, hc, hd, h, e⟩ := dig_big n
  rw [e, big_dig a b c d ha hb hc hd, h]
theorem r30 (n : Nat) (h : n < 18446744073709551616) (hp : Heap) : CL X (fun _ => []) 130 [.int .u64 n] hp = some (big n, hp) := by
  rw [CL_eq (fn := x130) rfl]
  simp +contextual -implicitDefEqProofs (maxSteps := 10000000) only [x130, big, dig, go_sem, ↓reduceIte, reduceCtorEq, Nat.reduceEqDiff, Nat.reduceAdd, Nat.reduceLeDiff, Int.reduceEq, Int.reduceLE, Int.reduceToNat, Nat.reduceLT]
  simp only [Option.some.injEq, Prod.mk.injEq, AV.agg.injEq, List.cons.injEq, AV.int.injEq, true_and, and_true, Int.natCast_inj]
  refine ⟨?_, ?_, ?_⟩ <;> omega
theorem r31 (n : Int) (h : -9223372036854775808 ≤ n ∧ n < 9223372036854775808) (hp : Heap) : CL X (fun _ => []) 131 [.int .i64 n] hp = some (.int .u64 (n.natAbs : Int), hp) := by
  rw [CL_eq (fn := x131) rfl]
  simp +contextual -implicitDefEqProofs (maxSteps := 10000000) only [x131, go_sem, ↓reduceIte, reduceCtorEq]
  split
  · rw [wr_i64 (n + 1) (by omega), wr_i64 _ (by omega)]
    simp only [Option.some.injEq, Prod.mk.injEq, AV.int.injEq, true_and, and_true, Int.natCast_inj, u64]
    omega
  · simp only [Option.some.injEq, Prod.mk.injEq, AV.int.injEq, true_and, and_true, Int.natCast_inj, u64]
    omega
theorem r35d (a b c d x y z t : Nat) (hp : Heap) :
    CL X (fun _ => []) 136 [dig a b c d, dig x y z t] hp = some (.int .i64 (if d < t then -1 else if t < d then 1 else if c < z then -1 else if z < c then 1 else if b < y then -1 else if y < b then 1 else if a < x then -1 else if x < a then 1 else 0), hp) := by
  rw [CL_eq (fn := x136) rfl]
  simp +contextual -implicitDefEqProofs (maxSteps := 10000000) only [x136, x136_l0_run, LC_loop, dig, go_sem, ↓reduceIte, Nat.reduceEqDiff, Nat.reduceAdd, Int.reduceLT, Int.reduceLE, Int.reduceSub, Int.reduceNeg, Int.reduceToNat, Nat.reduceLT]
  have e : ∀ (p q : Nat) (x y : Option (AV × Heap)), (if (p : Int) < q then x else y) = if p < q then x else y := by
    intro p q x y; by_cases h : p < q <;> simp [h, Int.ofNat_lt]
  simp only [e]
  repeat' split
  all_goals first | rfl | omega
theorem r35 (a b : Nat) (ha : a < 340282366920938463463374607431768211456) (hb : b < 340282366920938463463374607431768211456) (hp : Heap) :
    CL X (fun _ => []) 136 [big a, big b] hp = some (.int .i64 (if a < b then -1 else if b < a then 1 else 0), hp) := by
  obtain ⟨a0, a1, a2, a3, h0, h1, h2, h3, e, f⟩ := dig_big a
  obtain ⟨b0, b1, b2, b3, g0, g1, g2, g3, e', f'⟩ := dig_big b
  rw [e, e', r35d]
  rw [Nat.mod_eq_of_lt ha] at f
  rw [Nat.mod_eq_of_lt hb] at f'
  subst f f'
  congr 3
  repeat' split
  all_goals first | rfl | omega
theorem r47d (a b c d x y z t : Nat) (ha : a < 4294967296) (hb : b < 4294967296) (hc : c < 4294967296) (hd : d < 4294967296) (hx : x < 4294967296) (hy : y < 4294967296) (hz : z < 4294967296) (ht : t < 4294967296) (hp : Heap) :
    CL X (fun _ => []) 137 [dig a b c d, dig x y z t] hp = some (dig ((a + x) % 4294967296) ((b + y + (a + x) / 4294967296) % 4294967296) ((c + z + (b + y + (a + x) / 4294967296) / 4294967296) % 4294967296)
      ((d + t + (c + z + (b + y + (a + x) / 4294967296) / 4294967296) / 4294967296) % 4294967296), hp) := by
  rw [CL_eq (fn := x137) rfl]
  simp +contextual -implicitDefEqProofs (maxSteps := 10000000) only [x137, x137_l0_run, LC_loop, dig, go_sem, ↓reduceIte, Nat.reduceEqDiff, Nat.reduceAdd, Nat.reduceLeDiff, Int.reduceEq, Int.reduceLT, Int.reduceLE, Int.reduceAdd, Int.reduceNeg, Int.reduceToNat, Nat.reduceLT]
  simp (disch := omega) only [Nat.mod_eq_of_lt]
theorem r47 (a b : Nat) (hp : Heap) : CL X (fun _ => []) 137 [big a, big b] hp = some (big (a + b), hp) := by
  obtain ⟨a0, a1, a2, a3, h0, h1, h2, h3, e, f⟩ := dig_big a
  obtain ⟨b0, b1, b2, b3, g0, g1, g2, g3, e', f'⟩ := dig_big b
  rw [e, e', r47d _ _ _ _ _ _ _ _ h0 h1 h2 h3 g0 g1 g2 g3, ← big_mod (a + b), Nat.add_mod a b, f, f']
  have k1 := Nat.mod_add_div (a0 + b0) 4294967296
  generalize (a0 + b0) / 4294967296 = c1 at *
  have k2 := Nat.mod_add_div (a1 + b1 + c1) 4294967296
  generalize (a1 + b1 + c1) / 4294967296 = c2 at *
  have k3 := Nat.mod_add_div (a2 + b2 + c2) 4294967296
  generalize (a2 + b2 + c2) / 4294967296 = c3 at *
  have k4 := Nat.mod_add_div (a3 + b3 + c3) 4294967296
  have m1 := Nat.mod_lt (a0 + b0) (show 0 < 4294967296 by omega)
  have m2 := Nat.mod_lt (a1 + b1 + c1) (show 0 < 4294967296 by omega)
  have m3 := Nat.mod_lt (a2 + b2 + c2) (show 0 < 4294967296 by omega)
  have m4 := Nat.mod_lt (a3 + b3 + c3) (show 0 < 4294967296 by omega)
  generalize (a3 + b3 + c3) / 4294967296 = c4 at *
  generalize (a0 + b0) % 4294967296 = d0 at *
  generalize (a1 + b1 + c1) % 4294967296 = d1 at *
  generalize (a2 + b2 + c2) % 4294967296 = d2 at *
  generalize (a3 + b3 + c3) % 4294967296 = d3 at *
  rw [← big_dig _ _ _ _ m1 m2 m3 m4]
  have t : a0 + 4294967296 * (a1 + 4294967296 * (a2 + 4294967296 * a3)) + (b0 + 4294967296 * (b1 + 4294967296 * (b2 + 4294967296 * b3))) =
      d0 + 4294967296 * (d1 + 4294967296 * (d2 + 4294967296 * d3)) + 340282366920938463463374607431768211456 * c4 := by omega
  rw [t, Nat.add_mul_mod_self_left, Nat.mod_eq_of_lt (show d0 + 4294967296 * (d1 + 4294967296 * (d2 + 4294967296 * d3)) < 340282366920938463463374607431768211456 by omega)]
theorem r48d (a b c d x y z t : Nat) (ha : a < 4294967296) (hb : b < 4294967296) (hc : c < 4294967296) (hd : d < 4294967296) (hx : x < 4294967296) (hy : y < 4294967296) (hz : z < 4294967296) (ht : t < 4294967296) (hp : Heap) :
    CL X (fun _ => []) 138 [dig a b c d, dig x y z t] hp = some (dig ((a + 4294967296 - x) % 4294967296) ((b + 4294967296 - y - (1 - (a + 4294967296 - x) / 4294967296)) % 4294967296)
      ((c + 4294967296 - z - (1 - (b + 4294967296 - y - (1 - (a + 4294967296 - x) / 4294967296)) / 4294967296)) % 4294967296)
      ((d + 4294967296 - t - (1 - (c + 4294967296 - z - (1 - (b + 4294967296 - y - (1 - (a + 4294967296 - x) / 4294967296)) / 4294967296)) / 4294967296)) % 4294967296), hp) := by
  rw [CL_eq (fn := x138) rfl]
  simp +contextual -implicitDefEqProofs (maxSteps := 10000000) only [x138, x138_l0_run, LC_loop, dig, go_sem, ↓reduceIte, Nat.reduceEqDiff, Nat.reduceAdd, Nat.reduceLeDiff, Int.reduceEq, Int.reduceLT, Int.reduceLE, Int.reduceAdd, Int.reduceNeg, Int.reduceToNat, Nat.reduceLT]
  simp (disch := omega) only [Nat.mod_eq_of_lt, u64_sub]
theorem r48 (a b : Nat) (ha : a < 340282366920938463463374607431768211456) (hb : b ≤ a) (hp : Heap) : CL X (fun _ => []) 138 [big a, big b] hp = some (big (a - b), hp) := by
  obtain ⟨a0, a1, a2, a3, h0, h1, h2, h3, e, f⟩ := dig_big a
  obtain ⟨b0, b1, b2, b3, g0, g1, g2, g3, e', f'⟩ := dig_big b
  rw [e, e', r48d _ _ _ _ _ _ _ _ h0 h1 h2 h3 g0 g1 g2 g3]
  rw [Nat.mod_eq_of_lt ha] at f
  rw [Nat.mod_eq_of_lt (by omega)] at f'
  subst f f'
  have k1 := Nat.mod_add_div (a0 + 4294967296 - b0) 4294967296
  have m1 := Nat.mod_lt (a0 + 4294967296 - b0) (show 0 < 4294967296 by omega)
  have n1 : (a0 + 4294967296 - b0) / 4294967296 ≤ 1 := by omega
  generalize (a0 + 4294967296 - b0) / 4294967296 = c1 at *
  have k2 := Nat.mod_add_div (a1 + 4294967296 - b1 - (1 - c1)) 4294967296
  have m2 := Nat.mod_lt (a1 + 4294967296 - b1 - (1 - c1)) (show 0 < 4294967296 by omega)
  have n2 : (a1 + 4294967296 - b1 - (1 - c1)) / 4294967296 ≤ 1 := by omega
  generalize (a1 + 4294967296 - b1 - (1 - c1)) / 4294967296 = c2 at *
  have k3 := Nat.mod_add_div (a2 + 4294967296 - b2 - (1 - c2)) 4294967296
  have m3 := Nat.mod_lt (a2 + 4294967296 - b2 - (1 - c2)) (show 0 < 4294967296 by omega)
  have n3 : (a2 + 4294967296 - b2 - (1 - c2)) / 4294967296 ≤ 1 := by omega
  generalize (a2 + 4294967296 - b2 - (1 - c2)) / 4294967296 = c3 at *
  have k4 := Nat.mod_add_div (a3 + 4294967296 - b3 - (1 - c3)) 4294967296
  have m4 := Nat.mod_lt (a3 + 4294967296 - b3 - (1 - c3)) (show 0 < 4294967296 by omega)
  have n4 : (a3 + 4294967296 - b3 - (1 - c3)) / 4294967296 ≤ 1 := by omega
  generalize (a3 + 4294967296 - b3 - (1 - c3)) / 4294967296 = c4 at *
  generalize (a0 + 4294967296 - b0) % 4294967296 = d0 at *
  generalize (a1 + 4294967296 - b1 - (1 - c1)) % 4294967296 = d1 at *
  generalize (a2 + 4294967296 - b2 - (1 - c2)) % 4294967296 = d2 at *
  generalize (a3 + 4294967296 - b3 - (1 - c3)) % 4294967296 = d3 at *
  rw [← big_dig _ _ _ _ m1 m2 m3 m4]
  congr 3
  omega
def dg (n k : Nat) : Nat := n / 4294967296 ^ k % 4294967296
def bigL (n : Nat) : List AV := [.int .u64 (dg n 0), .int .u64 (dg n 1), .int .u64 (dg n 2), .int .u64 (dg n 3)]
theorem big_eq (n : Nat) : big n = .agg (bigL n) := by
  simp only [big, dig, bigL, dg, Nat.div_div_eq_div_mul, Nat.pow_zero, Nat.div_one, Nat.reducePow, Nat.reduceMul]
theorem big_len (n : Nat) : (bigL n).length = 4 := rfl
theorem big_map (n : Nat) : List.map uf (bigL n) = bigL n := rfl
theorem big_all (n : Nat) : (bigL n).all plain1 = true := rfl
theorem big_cells (n : Nat) : cellsOf (big n) = bigL n := by rw [big_eq]; rfl
theorem big_agg (n : Nat) : AV.agg (List.map uf (List.take 4 (bigL n))) = big n := by rw [big_eq]; rfl
theorem big_load0 (n : Nat) : ldCells (bigL n) 1 false = some (.int .u64 (dg n 0)) := rfl
theorem big_loadk (n k : Nat) (h : k < 4) : ldCells ((bigL n).drop k) 1 false = some (.int .u64 (dg n k)) := by
  match k, h with
  | 0, _ => rfl
  | 1, _ => rfl
  | 2, _ => rfl
  | 3, _ => rfl
theorem big_uf (n : Nat) : uf (big n) = big n := by rw [big_eq]; rfl
theorem isU_big (n : Nat) : isU (big n) = false := by rw [big_eq]; rfl
theorem big_free (n : Nat) : refFree (big n) = true := by rw [big_eq]; rfl
theorem big_drop1 (n : Nat) (fr : List AV) (t : Nat) : drop1K (big n) fr t = fr := by rw [big_eq]; rfl
theorem big_shut (hp : Heap) (lev k n : Nat) : shut hp lev (k + 2) (big n) = some (big n) := by rw [big_eq]; rfl
theorem big_put (m n : Nat) : splice (bigL m) 0 (bigL n) = bigL n := rfl
theorem big_ret (hp : Heap) (lev n : Nat) : retOf hp lev [big n] = some (big n) := by rw [big_eq]; rfl
theorem big_digs (n : Nat) (h : n < 340282366920938463463374607431768211456) : n = dg n 0 + 4294967296 * (dg n 1 + 4294967296 * (dg n 2 + 4294967296 * dg n 3)) := by
  simp only [dg, Nat.pow_zero, Nat.div_one, Nat.reducePow]
  omega
theorem big_zero (n : Nat) (h : n < 340282366920938463463374607431768211456) (neg : Bool) : eqaK neg [1, 1, 1, 1] (big n) (.agg [.int .u64 0, .int .u64 0, .int .u64 0, .int .u64 0]) = some (.bool (decide (n = 0) != neg)) := by
  rw [big_eq]
  simp only [bigL, go_sem]
  have e := big_digs n h
  congr 3
  by_cases hn : n = 0
  · subst hn
    rfl
  · have : ¬ (dg n 0 = 0 ∧ dg n 1 = 0 ∧ dg n 2 = 0 ∧ dg n 3 = 0) := by omega
    simp only [hn, decide_false]
    apply Bool.eq_false_iff.2
    intro hh
    simp only [Bool.and_eq_true, beq_iff_eq] at hh
    omega
theorem put0 (R D : Nat) (hD : D < 2) : splice (bigL (R + R)) 0 [.int .u64 ((dg (R + R) 0 + D) % 18446744073709551616 : Nat)] = bigL (R + R + D) := by
  have e : (R + R + D) / 4294967296 = (R + R) / 4294967296 := by omega
  have f : dg (R + R + D) 0 = (dg (R + R) 0 + D) % 18446744073709551616 := by simp only [dg, Nat.pow_zero, Nat.div_one]; omega
  have g : ∀ k, dg (R + R + D) (k + 1) = dg (R + R) (k + 1) := by
    intro k
    simp only [dg, Nat.pow_succ, Nat.mul_comm (4294967296 ^ k) 4294967296, ← Nat.div_div_eq_div_mul, e]
  simp only [bigL, splice_zero, splice_nil, f, show dg (R + R + D) 1 = dg (R + R) 1 from g 0, show dg (R + R + D) 2 = dg (R + R) 2 from g 1, show dg (R + R + D) 3 = dg (R + R) 3 from g 2]
theorem bigL_dig (a b c d : Nat) (ha : a < 4294967296) (hb : b < 4294967296) (hc : c < 4294967296) (hd : d < 4294967296) :
    bigL (a + 4294967296 * (b + 4294967296 * (c + 4294967296 * d))) = [.int .u64 a, .int .u64 b, .int .u64 c, .int .u64 d] := by
  have h := big_dig a b c d ha hb hc hd
  rw [big_eq] at h
  exact AV.agg.inj h
theorem bound_bit (Q s : Nat) (hs : s < 32) : Q * 2 ^ (s + 1) % 4294967296 + 2 ^ s < 4294967296 := by
  have e : 4294967296 = 2 ^ (s + 1) * 2 ^ (31 - s) := by
    rw [← Nat.pow_add, show s + 1 + (31 - s) = 32 by omega]
  rw [e, Nat.mul_comm Q, Nat.mul_mod_mul_left]
  have h1 : Q % 2 ^ (31 - s) + 1 ≤ 2 ^ (31 - s) := Nat.mod_lt _ (Nat.two_pow_pos _)
  have h2 := Nat.mul_le_mul_left (2 ^ (s + 1)) h1
  rw [Nat.mul_add] at h2
  have h3 := Nat.two_pow_pos s
  rw [Nat.pow_succ] at *
  omega
theorem putbit (Q i : Nat) (hi : i < 128) (hT : Q * 2 ^ (i + 1) < 340282366920938463463374607431768211456) :
    splice (bigL (Q * 2 ^ (i + 1))) (i / 32) [.int .u64 ((dg (Q * 2 ^ (i + 1)) (i / 32) + 2 ^ (i % 32)) % 18446744073709551616 : Nat)] = bigL (Q * 2 ^ (i + 1) + 2 ^ i) := by
  have hb := bound_bit Q (i % 32) (Nat.mod_lt _ (by omega))
  have hd : dg (Q * 2 ^ (i + 1)) (i / 32) = Q * 2 ^ (i % 32 + 1) % 4294967296 := by
    unfold dg
    rw [show 2 ^ (i + 1) = 2 ^ (i % 32 + 1) * 4294967296 ^ (i / 32) by
      rw [show (4294967296 : Nat) = 2 ^ 32 by rfl, ← Nat.pow_mul, ← Nat.pow_add]; congr 1; omega, ← Nat.mul_assoc, Nat.mul_div_cancel _ (Nat.pow_pos (by omega))]
  have hp : 2 ^ i = 4294967296 ^ (i / 32) * 2 ^ (i % 32) := by
    rw [show (4294967296 : Nat) = 2 ^ 32 by rfl, ← Nat.pow_mul, ← Nat.pow_add]; congr 1; omega
  rw [← hd] at hb
  rw [hp]
  have hk : i / 32 < 4 := by omega
  generalize Q * 2 ^ (i + 1) = T at *
  generalize 2 ^ (i % 32) = w at *
  generalize i / 32 = k at *
  clear hd hp hi
  have e := big_digs T hT
  have b0 : dg T 0 < 4294967296 := Nat.mod_lt _ (by omega)
  have b1 : dg T 1 < 4294967296 := Nat.mod_lt _ (by omega)
  have b2 : dg T 2 < 4294967296 := Nat.mod_lt _ (by omega)
  have b3 : dg T 3 < 4294967296 := Nat.mod_lt _ (by omega)
  rw [Nat.mod_eq_of_lt (show dg T k + w < 18446744073709551616 by omega)]
  match k, hk with
  | 0, _ =>
    rw [show T + 4294967296 ^ 0 * w = (dg T 0 + w) + 4294967296 * (dg T 1 + 4294967296 * (dg T 2 + 4294967296 * dg T 3)) by simp only [Nat.reducePow]; omega, bigL_dig _ _ _ _ hb b1 b2 b3]
    rfl
  | 1, _ =>
    rw [show T + 4294967296 ^ 1 * w = dg T 0 + 4294967296 * ((dg T 1 + w) + 4294967296 * (dg T 2 + 4294967296 * dg T 3)) by simp only [Nat.reducePow]; omega, bigL_dig _ _ _ _ b0 hb b2 b3]
    rfl
  | 2, _ =>
    rw [show T + 4294967296 ^ 2 * w = dg T 0 + 4294967296 * (dg T 1 + 4294967296 * ((dg T 2 + w) + 4294967296 * dg T 3)) by simp only [Nat.reducePow]; omega, bigL_dig _ _ _ _ b0 b1 hb b3]
    rfl
  | 3, _ =>
    rw [show T + 4294967296 ^ 3 * w = dg T 0 + 4294967296 * (dg T 1 + 4294967296 * (dg T 2 + 4294967296 * (dg T 3 + w))) by simp only [Nat.reducePow]; omega, bigL_dig _ _ _ _ b0 b1 b2 hb]
    rfl
theorem bit_of (a i : Nat) : dg a (i / 32) / 2 ^ (i % 32) % 2 = a / 2 ^ i % 2 := by
  unfold dg
  have hs : i % 32 < 32 := Nat.mod_lt _ (by omega)
  have e : 4294967296 = 2 ^ (i % 32) * 2 ^ (32 - i % 32) := by
    rw [← Nat.pow_add, show i % 32 + (32 - i % 32) = 32 by omega]
  have hp : 2 ^ i = 4294967296 ^ (i / 32) * 2 ^ (i % 32) := by
    rw [show (4294967296 : Nat) = 2 ^ 32 by rfl, ← Nat.pow_mul, ← Nat.pow_add]; congr 1; omega
  rw [hp, ← Nat.div_div_eq_div_mul]
  generalize a / 4294967296 ^ (i / 32) = x
  conv => lhs; rw [e]
  rw [Nat.mod_mul_right_div_self, Nat.mod_mod_of_dvd]
  exact ⟨2 ^ (31 - i % 32), by rw [Nat.mul_comm, ← Nat.pow_succ]; congr 1; omega⟩
theorem div_step (p b D x : Nat) (hb : 0 < b) (hx : x = 2 * p + D) :
    (p % b + p % b + D < b → x / b = 2 * (p / b) ∧ x % b = p % b + p % b + D) ∧ (p % b + p % b + D < b + b → b ≤ p % b + p % b + D → x / b = 2 * (p / b) + 1 ∧ x % b = p % b + p % b + D - b) := by
  have dm := Nat.mod_add_div p b
  constructor
  · intro h
    refine (Nat.div_mod_unique hb).2 ⟨?_, h⟩
    rw [Nat.mul_left_comm b 2]
    omega
  · intro h h'
    refine (Nat.div_mod_unique hb).2 ⟨?_, by omega⟩
    rw [Nat.mul_add b, Nat.mul_left_comm b 2]
    omega
def O44 (a b : Nat) (v4 v5 : AV) (q4 q5 : Option (List AV)) (h : Heap) (r : Option (XExit × St)) : Prop :=
    ∃ fr' l', r = some (.exit 0, ⟨fr', l' :: h⟩) ∧ fget fr' 4 = v4 ∧ fget fr' 5 = v5 ∧ fget fr' 6 = .ptr ⟨h.length, 6, 0⟩ 0 ∧ fget fr' 7 = .ptr ⟨h.length, 7, 0⟩ 0 ∧
      lcells l' 4 0 = q4 ∧ lcells l' 5 0 = q5 ∧ lcells l' 6 0 = some (bigL (a / b)) ∧ lcells l' 7 0 = some (bigL (a % b))
theorem l44 (a b : Nat) (ha : a < 340282366920938463463374607431768211456) (hb : 0 < b) (hb' : b ≤ 170141183460469231731687303715884105728) (v4 v5 : AV) (q4 q5 : Option (List AV)) (h : Heap) :
    ∀ (i : Nat) (_ : i ≤ 128) (c : Int) (_ : c = (i : Int) - 1) (fr : List AV) (l : Level), fget fr 2 = .ptr ⟨h.length, 2, 0⟩ 0 → fget fr 3 = .ptr ⟨h.length, 3, 0⟩ 0 → fget fr 6 = .ptr ⟨h.length, 6, 0⟩ 0 → fget fr 7 = .ptr ⟨h.length, 7, 0⟩ 0 →
    fget fr 4 = v4 → fget fr 5 = v5 → lcells l 4 0 = q4 → lcells l 5 0 = q5 →
    fget fr 8 = .int .i64 c → lcells l 2 0 = some (bigL a) → lcells l 3 0 = some (bigL b) → lcells l 6 0 = some (bigL (a / 2 ^ i / b * 2 ^ i)) → lcells l 7 0 = some (bigL (a / 2 ^ i % b)) →
    O44 a b v4 v5 q4 q5 h (LC X (fun _ => []) (.loop x135_l0) ⟨fr, l :: h⟩) := by
  intro i
  induction i with
  | zero =>
    intro _ c hc fr l h2 h3 h6 h7 h4 h5 k4 k5 h8 k2 k3 k6 k7
    rw [LC_loop]
    have hc' : c = -1 := by omega
    subst hc'
    simp +contextual -implicitDefEqProofs (maxSteps := 10000000) only [x135_l0_run, go_sem, ↓reduceIte, Int.reduceLE, Int.reduceNeg, h8]
    refine ⟨_, _, rfl, ?_⟩
    simp only [Nat.pow_zero, Nat.div_one, Nat.mul_one] at k6 k7
    simp only [go_sem, ↓reduceIte, Nat.reduceEqDiff, Int.reduceNeg, h6, h7, h4, h5, k4, k5, k6, k7]
  | succ i ih =>
    intro hi c hc fr l h2 h3 h6 h7 h4 h5 k4 k5 h8 k2 k3 k6 k7
    rw [LC_loop]
    have hc' : c = (i : Int) := by omega
    clear hc
    subst hc'
    have n32 : i / 32 < 4 := by omega
    have w32 : i / 32 < 9223372036854775808 := by omega
    have m32 : i % 32 % 18446744073709551616 = i % 32 := by omega
    have m64 : min (i % 32) 64 = i % 32 := by omega
    have wi : wr .i64 ((i : Int) - 1) = (i : Int) - 1 := wr_i64 _ (by omega)
    have wm : wr .i64 ((i % 32 : Nat) : Int) = ((i % 32 : Nat) : Int) := wr_i64 _ (by omega)
    have n3 : i / 32 ≤ 3 := by omega
    have hTb : a / 2 ^ (i + 1) / b * 2 ^ (i + 1) ≤ a := Nat.le_trans (Nat.mul_le_mul_right _ (Nat.div_le_self _ _)) (Nat.div_mul_le_self _ _)
    have hs2 := putbit (a / 2 ^ (i + 1) / b) i (by omega) (by omega)
    have hE := bit_of a i
    have e2 : a / 2 ^ i = 2 * (a / 2 ^ (i + 1)) + a / 2 ^ i % 2 := by rw [Nat.pow_succ, ← Nat.div_div_eq_div_mul]; omega
    have ds := div_step (a / 2 ^ (i + 1)) b (a / 2 ^ i % 2) (a / 2 ^ i) hb e2
    have hpw : a / 2 ^ (i + 1) / b * 2 ^ (i + 1) = 2 * (a / 2 ^ (i + 1) / b) * 2 ^ i := by
      rw [Nat.mul_right_comm, ← Nat.pow_succ', Nat.mul_comm]
    rw [← hE] at ds
    clear e2
    generalize hR : a / 2 ^ (i + 1) % b = R at *
    generalize hT : a / 2 ^ (i + 1) / b * 2 ^ (i + 1) = T at *
    generalize hD : dg a (i / 32) / 2 ^ (i % 32) % 2 = D at *
    have hR' : R < b := by rw [← hR]; exact Nat.mod_lt _ hb
    have hD' : D < 2 := by omega
    have hs1 := put0 R D hD'
    have p1 : u64 (1 * 2 ^ (i % 32)) = 2 ^ (i % 32) := by
      have hs : 2 ^ (i % 32) < 2 ^ 32 := Nat.pow_lt_pow_right (by omega) (Nat.mod_lt _ (by omega))
      rw [Int.one_mul, show (2 : Int) ^ (i % 32) = ((2 ^ (i % 32) : Nat) : Int) by simp, u64_nat, Nat.mod_eq_of_lt (by omega)]
    have r35' := r35 (R + R + D) b (by omega) (by omega)
    have h0 : (0 : Int) ≤ i := by omega
    by_cases hX : R + R + D < b
    · simp +contextual -implicitDefEqProofs (maxSteps := 10000000) only [x135_l0_run, go_sem, ↓reduceIte, Nat.reduceEqDiff, Nat.reduceLeDiff, Int.reduceEq, Int.reduceLE, Int.reduceNeg, Int.reduceToNat, Nat.reduceLT, big_len, big_all, big_cells, big_agg, big_load0, big_loadk, big_uf, big_free, big_drop1, big_put, h0, h2, h3, h7, h8, k2, k3, k7, n32, w32, m32, m64, wi, hD, hs1, r47, r35', hX]
      refine ih (by omega) _ rfl _ _ ?_ ?_ ?_ ?_ ?_ ?_ ?_ ?_ ?_ ?_ ?_ ?_ ?_
      all_goals try simp only [go_sem, ↓reduceIte, Nat.reduceEqDiff, Int.reduceNeg, h2, h3, h6, h7, h4, h5, k2, k3, k4, k5, k6]
      · rw [(ds.1 hX).1, hpw]
      · rw [(ds.1 hX).2]
    · have r48' := r48 (R + R + D) b (by omega) (by omega)
      have hX' : (0 : Int) ≤ (if b < R + R + D then 1 else 0) := by split <;> omega
      simp +contextual -implicitDefEqProofs (maxSteps := 10000000) only [x135_l0_run, go_sem, ↓reduceIte, Nat.reduceEqDiff, Nat.reduceLeDiff, Int.reduceEq, Int.reduceLE, Int.reduceToNat, Nat.reduceLT, big_len, big_all, big_cells, big_agg, big_load0, big_loadk, big_uf, big_free, big_drop1, big_put, h0, h2, h3, h6, h7, h8, k2, k3, k6, k7, n32, w32, n3, m32, m64, wi, hD, hs1, r47, r35', r48', hX, hX', p1, hs2]
      refine ih (by omega) _ rfl _ _ ?_ ?_ ?_ ?_ ?_ ?_ ?_ ?_ ?_ ?_ ?_ ?_ ?_
      all_goals try simp only [go_sem, ↓reduceIte, Nat.reduceEqDiff, h2, h3, h6, h7, h4, h5, k2, k3, k4, k5]
      · rw [(ds.2 (by omega) (by omega)).1, hpw, Nat.add_mul, Nat.one_mul]
      · rw [(ds.2 (by omega) (by omega)).2]
theorem big0 : bigL 0 = [.int .u64 0, .int .u64 0, .int .u64 0, .int .u64 0] := rfl
theorem r44 (a b : Nat) (ha : a < 340282366920938463463374607431768211456) (hb : 0 < b) (hb' : b ≤ 170141183460469231731687303715884105728) (hp : Heap) :
    CL X (fun _ => []) 135 [big a, big b] hp = some (.tup [big (a / b), big (a % b)], hp) := by
  rw [CL_eq (fn := x135) rfl]
  simp +contextual -implicitDefEqProofs (maxSteps := 10000000) only [x135, go_sem, ↓reduceIte, Nat.reduceEqDiff, big_len, big_all, big_cells, big_uf, ← big0]
  have hz : a / 2 ^ 128 = 0 := Nat.div_eq_of_lt ha
  have hz' : a / 2 ^ 128 / b * 2 ^ 128 = 0 := by rw [hz, Nat.zero_div, Nat.zero_mul]
  have hz'' : a / 2 ^ 128 % b = 0 := by rw [hz, Nat.zero_mod]
  refine elimL (fun r => finK _ (seqK (blockK 0 r) _) = _) (l44 a b ha hb hb' _ _ _ _ _ 128 (by omega) 127 (by omega) _ _ ?_ ?_ ?_ ?_ rfl rfl rfl rfl ?_ ?_ ?_ ?_ ?_) ?_
  all_goals try simp only [go_sem, ↓reduceIte, Nat.reduceEqDiff, hz', hz'']
  rintro r ⟨fr', l', rfl, f4, f5, f6, f7, g4, g5, g6, g7⟩
  simp +contextual -implicitDefEqProofs (maxSteps := 10000000) only [go_sem, ↓reduceIte, Nat.reduceEqDiff, Nat.reduceAdd, f4, f5, f6, f7, g4, g5, g6, g7, big_len, big_all, big_cells, big_agg, big_drop1, big_shut, isU_big, big_put]
def O43 (a b : Nat) (v4 : AV) (q4 : Option (List AV)) (h : Heap) (r : Option (XExit × St)) : Prop :=
    ∃ fr' l', r = some (.exit 0, ⟨fr', l' :: h⟩) ∧ fget fr' 2 = .ptr ⟨h.length, 2, 0⟩ 0 ∧ fget fr' 4 = v4 ∧ lcells l' 4 0 = q4 ∧ lcells l' 2 0 = some (bigL (Nat.gcd a b))
theorem l43 (v4 : AV) (q4 : Option (List AV)) (h : Heap) : ∀ (b a : Nat) (_ : a < 340282366920938463463374607431768211456) (_ : b ≤ 170141183460469231731687303715884105728) (fr : List AV) (l : Level),
    fget fr 2 = .ptr ⟨h.length, 2, 0⟩ 0 → fget fr 3 = .ptr ⟨h.length, 3, 0⟩ 0 → fget fr 5 = .ptr ⟨h.length, 5, 0⟩ 0 → fget fr 4 = v4 → lcells l 4 0 = q4 →
    lcells l 2 0 = some (bigL a) → lcells l 3 0 = some (bigL b) → lcells l 5 0 = some (bigL 0) → O43 a b v4 q4 h (LC X (fun _ => []) (.loop x134_l0) ⟨fr, l :: h⟩) := by
  intro b
  induction b using Nat.strongRecOn with
  | ind b ih =>
    intro a ha hb fr l h2 h3 h5 h4 k4 k2 k3 k5
    rw [LC_loop]
    have z := big_zero b (by omega) true
    have z0 : AV.agg [.int .u64 0, .int .u64 0, .int .u64 0, .int .u64 0] = big 0 := rfl
    rw [z0] at z
    by_cases h0 : b = 0
    · subst h0
      simp +contextual -implicitDefEqProofs (maxSteps := 10000000) only [x134_l0_run, go_sem, ↓reduceIte, Nat.reduceEqDiff, big_len, big_agg, big_uf, h3, h5, k3, k5, z]
      exact ⟨_, _, rfl, by simp only [go_sem, ↓reduceIte, Nat.reduceEqDiff, h2], by simp only [go_sem, ↓reduceIte, Nat.reduceEqDiff, h4], by simp only [go_sem, k4], by simp only [go_sem, k2, Nat.gcd_zero_right]⟩
    · have r44' := r44 a b ha (Nat.pos_of_ne_zero h0) hb
      simp +contextual -implicitDefEqProofs (maxSteps := 10000000) only [x134_l0_run, go_sem, ↓reduceIte, Nat.reduceEqDiff, big_len, big_all, big_cells, big_agg, big_uf, big_free, big_drop1, big_put, h2, h3, h5, k2, k3, k5, z, h0, r44', ← big0]
      unfold O43
      rw [show Nat.gcd a b = Nat.gcd b (a % b) by rw [Nat.gcd_comm b, ← Nat.gcd_rec, Nat.gcd_comm]]
      have lt := Nat.mod_lt a (Nat.pos_of_ne_zero h0)
      refine ih (a % b) lt b (by omega) (by omega) _ _ ?_ ?_ ?_ ?_ ?_ ?_ ?_ ?_ <;> simp only [go_sem, ↓reduceIte, Nat.reduceEqDiff, h2, h3, h5, h4, k4, k5]
theorem r43 (a b : Nat) (ha : a < 340282366920938463463374607431768211456) (hb : b ≤ 170141183460469231731687303715884105728) (hp : Heap) :
    CL X (fun _ => []) 134 [big a, big b] hp = some (big (Nat.gcd a b), hp) := by
  rw [CL_eq (fn := x134) rfl]
  simp +contextual -implicitDefEqProofs (maxSteps := 10000000) only [x134, go_sem, ↓reduceIte, Nat.reduceEqDiff, big_map, big_len, big_all, big_cells, big_uf, big_put, ← big0]
  refine elimL (fun r => finK _ (seqK (blockK 0 r) _) = _) (l43 _ _ _ b a ha hb _ _ ?_ ?_ ?_ rfl rfl ?_ ?_ ?_) ?_
  all_goals try simp only [go_sem, ↓reduceIte, Nat.reduceEqDiff]
  rintro r ⟨fr', l', rfl, f2, f4, g4, g2⟩
  simp +contextual -implicitDefEqProofs (maxSteps := 10000000) only [go_sem, ↓reduceIte, Nat.reduceEqDiff, f2, f4, g4, g2, big_len, big_all, big_cells, big_agg, big_drop1, big_put, big_ret]
def rt (x : Int × Int × Int) : AV := .tup [.agg [.int .i64 x.1, .int .i64 x.2.1], .int .i64 x.2.2]
def mk (below : Bool) (n d : Nat) : Int × Int × Int :=
  let p := n / Nat.gcd n d
  let q := d / Nat.gcd n d
  if 9223372036854775808 ≤ q ∨ 9223372036854775808 < p ∨ p = 9223372036854775808 ∧ below = false then (0, 0, 10)
  else if below then (-p, q, 0) else (p, q, 0)
theorem valp (p : Nat) (h : p < 18446744073709551616) : (dg p 1 * 4294967296 % 18446744073709551616 + dg p 0) % 18446744073709551616 = p := by
  simp only [dg, Nat.pow_zero, Nat.div_one, Nat.pow_one]
  omega
theorem r32 (below : Bool) (n d : Nat) (hn : n < 340282366920938463463374607431768211456) (hd : 0 < d) (hd' : d ≤ 170141183460469231731687303715884105728) (hp : Heap) :
    CL X (fun _ => []) 132 [.bool below, big n, big d] hp = some (rt (mk below n d), hp) := by
  rw [CL_eq (fn := x132) rfl]
  have hg : 0 < Nat.gcd n d := Nat.gcd_pos_of_pos_right n hd
  have hg' : Nat.gcd n d ≤ d := Nat.gcd_le_right n hd
  have a1 := r43 n d hn hd'
  have a2 := r44 n (Nat.gcd n d) hn hg (by omega)
  have a3 := r44 d (Nat.gcd n d) (by omega) hg (by omega)
  have a4 : ∀ hp, CL X (fun _ => []) 130 [.int .u64 9223372036854775808] hp = some (big 9223372036854775808, hp) := r30 9223372036854775808 (by omega)
  have hp' : n / Nat.gcd n d < 340282366920938463463374607431768211456 := Nat.lt_of_le_of_lt (Nat.div_le_self _ _) hn
  have hq' : d / Nat.gcd n d < 340282366920938463463374607431768211456 := Nat.lt_of_le_of_lt (Nat.div_le_self _ _) (by omega)
  unfold mk
  generalize n / Nat.gcd n d = p at *
  generalize d / Nat.gcd n d = q at *
  have a5 := r35 p 9223372036854775808 hp' (by omega)
  have a6 := r35 q 9223372036854775808 hq' (by omega)
  have x1 : p < 9223372036854775808 ∨ p = 9223372036854775808 ∨ 9223372036854775808 < p := by omega
  have x2 : q < 9223372036854775808 ∨ q = 9223372036854775808 ∨ 9223372036854775808 < q := by omega
  have lt0 : ∀ p : Nat, p < 9223372036854775808 → ¬ 9223372036854775808 < p := fun p h => by omega
  have e (x : Nat) (h : x < 9223372036854775808) : wr .i64 (x : Int) = x := wr_i64 _ (by omega)
  rcases x2 with h2 | h2 | h2
  · have v2 := valp q (by omega)
    rcases x1 with h1 | h1 | h1
    · have v1 := valp p (by omega)
      simp +contextual -implicitDefEqProofs (maxSteps := 10000000) only [x132, go_sem, ↓reduceIte, reduceCtorEq, Nat.reduceEqDiff, Nat.reduceAdd, Nat.reduceLeDiff, Int.reduceLT, Int.reduceLE, Int.reduceNeg, Int.reduceToNat, Int.reduceBEq, Nat.reduceLT, big_len, big_all, big_cells, big_agg, big_load0, big_loadk, big_uf, big_free, big_drop1, big_put, ← big0, a1, a2, a3, a4, a5, a6, h1, h2, lt0, v1, v2, e, neg_back p (by omega)]
      cases below <;> simp [rt, show ¬ 9223372036854775808 ≤ q by omega, show ¬ p = 9223372036854775808 by omega]
    · subst h1
      simp +contextual -implicitDefEqProofs (maxSteps := 10000000) only [x132, go_sem, ↓reduceIte, reduceCtorEq, Nat.reduceEqDiff, Nat.reduceAdd, Nat.reduceLeDiff, Int.reduceLT, Int.reduceLE, Int.reduceNeg, Int.reduceToNat, Nat.reduceLT, big_len, big_all, big_cells, big_agg, big_load0, big_loadk, big_uf, big_free, big_drop1, big_put, ← big0, a1, a2, a3, a4, a5, a6, h2, Nat.lt_irrefl, v2, e, valp 9223372036854775808 (by omega), neg_back 9223372036854775808 (by omega)]
      cases below <;> simp [rt, show ¬ 9223372036854775808 ≤ q by omega]
    · have h1' : ¬ p < 9223372036854775808 := by omega
      simp +contextual -implicitDefEqProofs (maxSteps := 10000000) only [x132, go_sem, ↓reduceIte, reduceCtorEq, Nat.reduceEqDiff, Nat.reduceAdd, Int.reduceLT, Int.reduceLE, Int.reduceNeg, big_len, big_all, big_cells, big_agg, big_uf, big_free, big_drop1, big_put, ← big0, a1, a2, a3, a4, a5, a6, h1, h1', h2]
      rw [if_pos (by simp)]
      rfl
  · subst h2
    simp +contextual -implicitDefEqProofs (maxSteps := 10000000) only [x132, go_sem, ↓reduceIte, reduceCtorEq, Nat.reduceEqDiff, Nat.reduceAdd, Int.reduceLE, Int.reduceNeg, big_len, big_all, big_cells, big_agg, big_uf, big_free, big_drop1, big_put, ← big0, a1, a2, a3, a4, a5, a6, Nat.lt_irrefl]
    rw [if_pos (by simp)]
    rfl
  · have h2' : ¬ q < 9223372036854775808 := by omega
    simp +contextual -implicitDefEqProofs (maxSteps := 10000000) only [x132, go_sem, ↓reduceIte, reduceCtorEq, Nat.reduceEqDiff, Nat.reduceAdd, Int.reduceLE, Int.reduceNeg, big_len, big_all, big_cells, big_agg, big_uf, big_free, big_drop1, big_put, ← big0, a1, a2, a3, a4, a5, a6, h2, h2']
    rw [if_pos (by omega)]
    rfl
def I64 (n : Int) : Prop := -9223372036854775808 ≤ n ∧ n < 9223372036854775808
def frc (t : Int) (d : Nat) : Int × Int × Int := mk (decide (t < 0)) t.natAbs d
def ofR (n d : Int) : Int × Int × Int := if d = 0 then (0, 0, 11) else frc (n * d.sign) d.natAbs
def mayR (n d : Int) : Bool := decide (0 < d ∧ Nat.gcd n.natAbs d.natAbs = 1)
theorem rt_eq (x : Int × Int × Int) : rt x = .tup [.agg [.int .i64 x.1, .int .i64 x.2.1], .int .i64 x.2.2] := rfl
theorem ofR_mk (n d : Int) (h0 : ¬ d = 0) : mk (if ¬n = 0 then !decide (n < 0) == decide (d < 0) else false) n.natAbs d.natAbs = ofR n d := by
  unfold ofR frc
  rw [if_neg h0, Int.natAbs_mul, Int.natAbs_sign_of_ne_zero h0, Nat.mul_one]
  congr 1
  rcases Int.lt_trichotomy d 0 with h | h | h
  · rw [Int.sign_eq_neg_one_of_neg h]
    by_cases h1 : n = 0
    · subst h1; rfl
    · by_cases h2 : n < 0 <;> simp [h1, h2, h] <;> omega
  · omega
  · rw [Int.sign_eq_one_of_pos h]
    by_cases h1 : n = 0
    · subst h1; rfl
    · by_cases h2 : n < 0 <;> simp [h1, h2, show ¬ d < 0 by omega]
theorem r13 (n d : Int) (hn : I64 n) (hd : I64 d) (hp : Heap) : CL X (fun _ => []) 121 [.int .i64 n, .int .i64 d] hp = some (rt (ofR n d), hp) := by
  rw [CL_eq (fn := x121) rfl]
  have a1 := r31 n hn
  have a2 := r31 d hd
  have a3 := r30 n.natAbs (by unfold I64 at hn; omega)
  have a4 := r30 d.natAbs (by unfold I64 at hd; omega)
  by_cases h0 : d = 0
  · subst h0
    simp +contextual -implicitDefEqProofs (maxSteps := 10000000) only [x121, go_sem, ↓reduceIte, Nat.reduceEqDiff, Nat.reduceAdd, ← big0]
    rfl
  · have a5 := fun b => r32 b n.natAbs d.natAbs (by unfold I64 at hn; omega) (by omega) (by unfold I64 at hd; omega)
    rw [← ofR_mk n d h0]
    by_cases h1 : n = 0
    · subst h1
      simp +contextual -implicitDefEqProofs (maxSteps := 10000000) only [x121, go_sem, ↓reduceIte, reduceCtorEq, Nat.reduceEqDiff, Nat.reduceAdd, Int.reduceBNe, big_len, big_all, big_cells, big_agg, big_uf, big_free, big_drop1, big_put, ← big0, a1, a2, a3, a4, a5, h0, rt_eq]
    · simp +contextual -implicitDefEqProofs (maxSteps := 10000000) only [x121, go_sem, ↓reduceIte, reduceCtorEq, Nat.reduceEqDiff, Nat.reduceAdd, big_len, big_all, big_cells, big_agg, big_uf, big_free, big_drop1, big_put, ← big0, a1, a2, a3, a4, a5, h0, h1, rt_eq]
theorem may_eq (n d : Int) (hn : I64 n) (hd : I64 d) (h : 0 < d) : (decide ((ofR n d).2.2 = 0) && ((ofR n d).1 == n && (ofR n d).2.1 == d)) = mayR n d := by
  unfold ofR mayR frc mk
  unfold I64 at *
  rw [if_neg (by omega), Int.sign_eq_one_of_pos h, Int.mul_one]
  have hg : 0 < Nat.gcd n.natAbs d.natAbs := Nat.gcd_pos_of_pos_right _ (by omega)
  by_cases h1 : Nat.gcd n.natAbs d.natAbs = 1
  · simp only [h1, Nat.div_one, and_true]
    rw [if_neg (by simp only [decide_eq_false_iff_not]; omega)]
    by_cases h2 : n < 0
    · simp [h2, h]
      omega
    · simp [h2, h]
      omega
  · have h3 : d.natAbs / Nat.gcd n.natAbs d.natAbs < d.natAbs := Nat.div_lt_self (by omega) (by omega)
    generalize d.natAbs / Nat.gcd n.natAbs d.natAbs = q at *
    generalize n.natAbs / Nat.gcd n.natAbs d.natAbs = p at *
    simp only [h1, and_false, decide_false]
    split
    · rfl
    · have : ((q : Int) == d) = false := by simp; omega
      split <;> simp [this]
theorem r33 (n d : Int) (hn : I64 n) (hd : I64 d) (hp : Heap) : CL X (fun _ => []) 106 [.agg [.int .i64 n, .int .i64 d]] hp = some (.bool (mayR n d), hp) := by
  rw [CL_eq (fn := x106) rfl]
  have a1 := r13 n d hn hd
  simp +contextual -implicitDefEqProofs (maxSteps := 10000000) only [x106, go_sem, ↓reduceIte, Nat.reduceEqDiff, Nat.reduceAdd, a1, rt_eq]
  by_cases h : d ≤ 0
  · rw [if_pos h]
    simp only [mayR, show ¬ 0 < d by omega, false_and, decide_false]
  · rw [if_neg h, may_eq n d hn hd (by omega)]
theorem r10 (n d : Int) (hn : I64 n) (hd : I64 d) (hp : Heap) : CL X (fun _ => []) 119 [.int .i64 n, .int .i64 d] hp = some (rt (ofR n d), hp) := by
  rw [CL_eq (fn := x119) rfl]
  have a1 := r27 n hn
  have a2 := r27 d hd
  by_cases h0 : d = 0
  · subst h0
    simp +contextual -implicitDefEqProofs (maxSteps := 10000000) only [x119, go_sem, ↓reduceIte, Nat.reduceEqDiff, Nat.reduceAdd]
    rfl
  · have hg : Nat.gcd n.natAbs d.natAbs ≠ 0 := Nat.ne_of_gt (Nat.gcd_pos_of_pos_right _ (by omega))
    rw [← ofR_mk n d h0]
    obtain ⟨P, hP⟩ : ∃ P, n.natAbs / Nat.gcd n.natAbs d.natAbs = P := ⟨_, rfl⟩
    obtain ⟨Q, hQ⟩ : ∃ Q, d.natAbs / Nat.gcd n.natAbs d.natAbs = Q := ⟨_, rfl⟩
    have lP : P ≤ 9223372036854775808 := by rw [← hP]; exact Nat.le_trans (Nat.div_le_self _ _) (by unfold I64 at hn; omega)
    have lQ : Q ≤ 9223372036854775808 := by rw [← hQ]; exact Nat.le_trans (Nat.div_le_self _ _) (by unfold I64 at hd; omega)
    have mP : P % 18446744073709551616 = P := by omega
    have mQ : Q % 18446744073709551616 = Q := by omega
    unfold mk
    generalize hb : (if ¬n = 0 then !decide (n < 0) == decide (d < 0) else false) = b
    rw [bite_f] at hb
    simp only [decide_not] at hb
    have t0 : ((9223372036854775808 : Int) < (P : Int)) = False := by simp; omega
    have t0' : ¬ 9223372036854775808 < P := by omega
    by_cases h1 : 9223372036854775808 ≤ Q
    · have t1 : ((9223372036854775807 : Int) < (Q : Int)) = True := by simp; omega
      simp +contextual -implicitDefEqProofs (maxSteps := 10000000) only [x119, go_sem, ↓reduceIte, reduceCtorEq, Nat.reduceEqDiff, Nat.reduceAdd, Int.reduceBNe, a1, a2, r26, h0, hg, hP, hQ, mP, mQ, t1, h1, true_or, hb]
      rfl
    · have t1 : ((9223372036854775807 : Int) < (Q : Int)) = False := by simp; omega
      have e2 : wr .i64 (Q : Int) = (Q : Int) := wr_i64 _ (by omega)
      have e3 := neg_back P (by omega)
      by_cases h2 : P = 9223372036854775808
      · have t2 : ((P : Int) = (9223372036854775808 : Int)) = True := by simp; omega
        have t2' : (P = 9223372036854775808) = True := by simp [h2]
        simp +contextual -implicitDefEqProofs (maxSteps := 10000000) only [x119, go_sem, ↓reduceIte, reduceCtorEq, Nat.reduceEqDiff, Nat.reduceAdd, Nat.reduceLeDiff, Int.reduceBNe, a1, a2, r26, h0, hg, hP, hQ, mP, mQ, t0, t0', t1, t2, t2', h1, false_or, hb, e2, e3]
        cases b <;> simp_all [rt]
      · have t2 : ((P : Int) = (9223372036854775808 : Int)) = False := by simp; omega
        have e4 : wr .i64 (P : Int) = (P : Int) := wr_i64 _ (by omega)
        simp +contextual -implicitDefEqProofs (maxSteps := 10000000) only [x119, go_sem, ↓reduceIte, reduceCtorEq, Nat.reduceEqDiff, Nat.reduceAdd, Nat.reduceLeDiff, Int.reduceBNe, a1, a2, r26, h0, hg, hP, hQ, mP, mQ, t0, t0', t1, t2, h1, h2, false_or, false_and, hb, e2, e3, e4]
        cases b <;> simp_all [rt]
def wd (a b : Nat) (m : Bool) : AV := .agg [.int .u64 a, .int .u64 b, .bool m]
theorem nn (x : Nat) : (0 ≤ (x : Int)) = True := by simp
def W (n : Nat) (m : Bool) : AV := .agg [.int .u64 (n / 18446744073709551616 : Nat), .int .u64 (n % 18446744073709551616 : Nat), .bool m]
def sv (m : Bool) (n : Nat) : Int := if m = true then -(n : Int) else n
def vA (k n d : Int) (s : List UInt8) : AV := .agg [.int .i64 k, .int .i64 n, .int .i64 d, .str s]
def chk (k n d : Int) (s : List UInt8) : Int :=
  if k = 1 then (if d = 0 ∧ s = [] then 0 else 20) else if k = 2 then (if s = [] ∧ mayR n d = true then 0 else 20) else if k = 3 then (if n = 0 ∧ d = 0 then (if s.length ≤ 64 then 0 else 2) else 20) else 20
theorem v_frac (k n d : Int) (s : List UInt8) (hp : Heap) : CL X (fun _ => []) 120 [vA k n d s] hp = some (.agg [.int .i64 n, .int .i64 d], hp) := by
  rw [CL_eq (fn := x120) rfl]
  simp +contextual -implicitDefEqProofs (maxSteps := 10000000) only [x120, vA, go_sem, ↓reduceIte, Nat.reduceEqDiff, Nat.reduceAdd, Nat.reduceLeDiff]
theorem v_rfrac (k n d : Int) (s : List UInt8) (hp : Heap) : CL X (fun _ => []) 107 [vA k n d s] hp = some (.agg [.int .i64 n, .int .i64 d], hp) := by
  rw [CL_eq (fn := x107) rfl]
  simp +contextual -implicitDefEqProofs (maxSteps := 10000000) only [x107, vA, go_sem, ↓reduceIte, Nat.reduceEqDiff, Nat.reduceAdd, Nat.reduceLeDiff]
theorem may_eq' (n d : Int) (hn : I64 n) (hd : I64 d) : ((ofR n d).2.2 = 0 ∧ (ofR n d).1 = n ∧ (ofR n d).2.1 = d) ↔ mayR n d = true := by
  by_cases h : 0 < d
  · have := may_eq n d hn hd h
    rw [← this]
    simp
  · have hm : mayR n d = false := by simp [mayR, h]
    rw [hm]
    constructor
    · rintro ⟨h1, _, h3⟩
      exfalso
      unfold ofR at h1 h3
      by_cases h0 : d = 0
      · rw [if_pos h0] at h1; simp at h1
      · rw [if_neg h0] at h3 h1
        unfold frc mk at h3 h1
        generalize d.natAbs / Nat.gcd (n * d.sign).natAbs d.natAbs = q at h3 h1
        generalize (n * d.sign).natAbs / Nat.gcd (n * d.sign).natAbs d.natAbs = p at h3 h1
        simp only at h3 h1
        split at h3
        · rename_i hc; rw [if_pos hc] at h1; simp at h1
        · split at h3 <;> simp at h3 <;> omega
    · intro h; cases h
theorem v_check (k n d : Int) (s : List UInt8) (hn : I64 n) (hd : I64 d) (hp : Heap) : CL X (fun _ => []) 104 [vA k n d s] hp = some (.int .i64 (chk k n d s), hp) := by
  have h1 := r10 n d hn hd
  have h2 := fun s => v_frac 2 n d s
  have h3 := may_eq' n d hn hd
  simp only [rt_eq, vA] at h1 h2
  rw [CL_eq (fn := x104) rfl]
  by_cases k1 : k = 1
  · subst k1
    simp +contextual -implicitDefEqProofs (maxSteps := 10000000) only [x104, vA, chk, go_sem, ↓reduceIte, Nat.reduceEqDiff, Nat.reduceAdd, Int.reduceBEq, Int.reduceBNe, h1]
    by_cases hd0 : d = 0 <;> by_cases hs : s = [] <;> simp [hd0, hs]
  · by_cases k2 : k = 2
    · subst k2
      simp +contextual -implicitDefEqProofs (maxSteps := 10000000) only [x104, vA, chk, go_sem, ↓reduceIte, Nat.reduceEqDiff, Nat.reduceAdd, Int.reduceEq, Int.reduceBEq, Int.reduceBNe, h1, h2]
      by_cases hs : s = []
      · subst hs
        by_cases hm : mayR n d = true
        · obtain ⟨e1, e2, e3⟩ := h3.2 hm
          simp [e1, e2, e3, hm]
        · have hx : ¬ ((ofR n d).2.2 = 0 ∧ (ofR n d).1 = n ∧ (ofR n d).2.1 = d) := fun e => hm (h3.1 e)
          by_cases e1 : (ofR n d).2.2 = 0 <;> by_cases e2 : (ofR n d).1 = n <;> by_cases e3 : (ofR n d).2.1 = d <;> simp_all
      · simp [hs]
    · simp +contextual -implicitDefEqProofs (maxSteps := 10000000) only [x104, vA, chk, go_sem, ↓reduceIte, Nat.reduceEqDiff, Nat.reduceAdd, Int.reduceBEq, Int.reduceBNe, h1, k1, k2]
      by_cases k3 : k = 3 <;> by_cases hn0 : n = 0 <;> by_cases hd0 : d = 0 <;> by_cases hl : s.length ≤ 64 <;> simp [k3, hn0, hd0, hl] <;> omega
theorem v_rcheck (k n d : Int) (s : List UInt8) (hn : I64 n) (hd : I64 d) (hp : Heap) : CL X (fun _ => []) 90 [vA k n d s] hp = some (.int .i64 (chk k n d s), hp) := by
  have h1 := r33 n d hn hd
  have h2 := fun s => v_rfrac 2 n d s
  simp only [vA] at h1 h2
  rw [CL_eq (fn := x90) rfl]
  by_cases k1 : k = 1
  · subst k1
    simp +contextual -implicitDefEqProofs (maxSteps := 10000000) only [x90, vA, chk, go_sem, ↓reduceIte, Nat.reduceEqDiff, Nat.reduceAdd, Int.reduceBEq, Int.reduceBNe]
    by_cases hd0 : d = 0 <;> by_cases hs : s = [] <;> simp [hd0, hs]
  · by_cases k2 : k = 2
    · subst k2
      simp +contextual -implicitDefEqProofs (maxSteps := 10000000) only [x90, vA, chk, go_sem, ↓reduceIte, Nat.reduceEqDiff, Nat.reduceAdd, Int.reduceEq, Int.reduceBEq, Int.reduceBNe, h1, h2]
      by_cases hs : s = [] <;> by_cases hm : mayR n d = true <;> simp [hs, hm]
    · simp +contextual -implicitDefEqProofs (maxSteps := 10000000) only [x90, vA, chk, go_sem, ↓reduceIte, Nat.reduceEqDiff, Nat.reduceAdd, Int.reduceBEq, Int.reduceBNe, k1, k2]
      by_cases k3 : k = 3 <;> by_cases hn0 : n = 0 <;> by_cases hd0 : d = 0 <;> by_cases hl : s.length ≤ 64 <;> simp [k3, hn0, hd0, hl] <;> omega
set_option maxHeartbeats 8000000
def chA (n : Nat) : Prop := 97 ≤ n ∧ n ≤ 122
def chB (n : Nat) : Prop := n = 95 ∨ (48 ≤ n ∧ n ≤ 57)
def restOk (s : List UInt8) (i : Nat) : Prop := ∀ j, i ≤ j → j < s.length → chA (s.getD j 0).toNat ∨ (j ≠ 0 ∧ chB (s.getD j 0).toNat)
theorem rest_end (s : List UInt8) (i : Nat) (h : s.length ≤ i) : restOk s i := fun j h1 h2 => by omega
theorem rest_step (s : List UInt8) (i : Nat) (h : i < s.length) (hc : chA (s.getD i 0).toNat ∨ (i ≠ 0 ∧ chB (s.getD i 0).toNat)) : restOk s i ↔ restOk s (i + 1) := by
  constructor
  · exact fun H j h1 h2 => H j (by omega) h2
  · intro H j h1 h2
    by_cases e : j = i
    · subst e; exact hc
    · exact H j (by omega) h2
theorem rest_bad (s : List UInt8) (i : Nat) (h : i < s.length) (hc : ¬ (chA (s.getD i 0).toNat ∨ (i ≠ 0 ∧ chB (s.getD i 0).toNat))) : ¬ restOk s i := fun H => hc (H i (Nat.le_refl _) h)
def ON (b : Prop) (h : Heap) (r : Option (XExit × St)) : Prop :=
  (b ∧ ∃ fr' L, r = some (.exit 0, ⟨fr', L :: h⟩)) ∨ (¬ b ∧ ∃ fr' L, r = some (.ret, ⟨fr', L :: h⟩) ∧ fget fr' 2 = .bool false)
theorem l_name (s : List UInt8) (hl : s.length < 9223372036854775807) (l : Level) (h : Heap) (v : Nat) : ∀ (m i : Nat) (_ : i + m = s.length) (fr : List AV), fget fr 18 = .ptr ⟨h.length, 18, v⟩ 0 →
    ON (restOk s i) h (LC X (fun _ => []) (.loop x41_l0) ⟨fr, lputi l 18 v s i :: h⟩) := by
  intro m
  induction m with
  | zero =>
    intro i hi fr h18
    rw [LC_loop]
    have hc : (i < s.length) = False := by simp; omega
    simp +contextual -implicitDefEqProofs (maxSteps := 10000000) only [x41_l0_run, go_sem, ↓reduceIte, h18, hc, o_nexts]
    exact .inl ⟨rest_end s i (by omega), _, _, rfl⟩
  | succ m ih =>
    intro i hi fr h18
    rw [LC_loop]
    have ki : i < s.length := by omega
    have hc : (i < s.length) = True := by simp; omega
    have hlo := dec_low s i ki
    have hhi := dec_high s i ki
    have hst := rest_step s i ki
    have hbd := rest_bad s i ki
    obtain ⟨c, hcc⟩ : ∃ c, (s.getD i 0).toNat = c := ⟨_, rfl⟩
    rw [hcc] at hlo hhi hst hbd
    obtain ⟨r, w, hd⟩ : ∃ r w, decodeAt s i = (r, w) := ⟨_, _, rfl⟩
    rw [hd] at hlo hhi
    simp only [Prod.mk.injEq] at hlo hhi
    have go : chA c ∨ (i ≠ 0 ∧ chB c) → w = 1 → ∀ fr', fget fr' 18 = .ptr ⟨h.length, 18, v⟩ 0 → ON (restOk s i) h (LC X (fun _ => []) (.loop x41_l0) ⟨fr', lputi l 18 v s (i + w) :: h⟩) := by
      intro hok hw fr' g18
      have := ih (i + 1) (by omega) fr' g18
      rw [hw]
      unfold ON at this ⊢
      rw [hst hok]
      exact this
    by_cases a1 : 97 ≤ r
    · have e1 : ((97 : Int) ≤ (r : Int)) = True := by simp; omega
      by_cases a2 : r ≤ 122
      · have e2 : ((r : Int) ≤ 122) = True := by simp; omega
        have hx := hlo (by omega)
        simp +contextual -implicitDefEqProofs (maxSteps := 10000000) only [x41_l0_run, go_sem, ↓reduceIte, Nat.reduceEqDiff, h18, hc, hd, o_nexts, e1, e2]
        refine go (.inl ⟨by omega, by omega⟩) hx.2 _ ?_
        simp only [go_sem, ↓reduceIte, Nat.reduceEqDiff, h18]
      · have e2 : ((r : Int) ≤ 122) = False := by simp; omega
        have hno : ¬ (chA c ∨ (i ≠ 0 ∧ chB c)) := by unfold chA chB; omega
        have e3 : ((r : Int) = 95) = False := by simp; omega
        have e4 : ((r : Int) < 48) = False := by simp; omega
        have e5 : ((57 : Int) < (r : Int)) = True := by simp; omega
        by_cases i0 : i = 0
        · have z0 : (i = 0) = True := by simp [i0]
          simp +contextual -implicitDefEqProofs (maxSteps := 10000000) only [x41_l0_run, go_sem, ↓reduceIte, Nat.reduceEqDiff, h18, hc, hd, o_nexts, e1, e2, z0]
          exact .inr ⟨hbd hno, _, _, rfl, by simp only [go_sem, ↓reduceIte]⟩
        · simp +contextual -implicitDefEqProofs (maxSteps := 10000000) only [x41_l0_run, go_sem, ↓reduceIte, Nat.reduceEqDiff, h18, hc, hd, o_nexts, e1, e2, i0, e3, e4, e5]
          exact .inr ⟨hbd hno, _, _, rfl, by simp only [go_sem, ↓reduceIte]⟩
    · have e1 : ((97 : Int) ≤ (r : Int)) = False := by simp; omega
      have hx := hlo (by omega)
      by_cases i0 : i = 0
      · have hno : ¬ (chA c ∨ (i ≠ 0 ∧ chB c)) := by unfold chA chB; omega
        have z0 : (i = 0) = True := by simp [i0]
        simp +contextual -implicitDefEqProofs (maxSteps := 10000000) only [x41_l0_run, go_sem, ↓reduceIte, Nat.reduceEqDiff, h18, hc, hd, o_nexts, e1, z0]
        exact .inr ⟨hbd hno, _, _, rfl, by simp only [go_sem, ↓reduceIte]⟩
      by_cases b1 : r = 95
      · have e3 : ((r : Int) = 95) = True := by simp; omega
        simp +contextual -implicitDefEqProofs (maxSteps := 10000000) only [x41_l0_run, go_sem, ↓reduceIte, Nat.reduceEqDiff, h18, hc, hd, o_nexts, e1, i0, e3]
        refine go (.inr ⟨i0, .inl (by omega)⟩) hx.2 _ ?_
        simp only [go_sem, ↓reduceIte, Nat.reduceEqDiff, h18]
      have e3 : ((r : Int) = 95) = False := by simp; omega
      by_cases b2 : r < 48
      · have e4 : ((r : Int) < 48) = True := by simp; omega
        have hno : ¬ (chA c ∨ (i ≠ 0 ∧ chB c)) := by unfold chA chB; omega
        simp +contextual -implicitDefEqProofs (maxSteps := 10000000) only [x41_l0_run, go_sem, ↓reduceIte, Nat.reduceEqDiff, h18, hc, hd, o_nexts, e1, i0, e3, e4]
        exact .inr ⟨hbd hno, _, _, rfl, by simp only [go_sem, ↓reduceIte]⟩
      have e4 : ((r : Int) < 48) = False := by simp; omega
      by_cases b3 : 57 < r
      · have e5 : ((57 : Int) < (r : Int)) = True := by simp; omega
        have hno : ¬ (chA c ∨ (i ≠ 0 ∧ chB c)) := by unfold chA chB; omega
        simp +contextual -implicitDefEqProofs (maxSteps := 10000000) only [x41_l0_run, go_sem, ↓reduceIte, Nat.reduceEqDiff, h18, hc, hd, o_nexts, e1, i0, e3, e4, e5]
        exact .inr ⟨hbd hno, _, _, rfl, by simp only [go_sem, ↓reduceIte]⟩
      · have e5 : ((57 : Int) < (r : Int)) = False := by simp; omega
        simp +contextual -implicitDefEqProofs (maxSteps := 10000000) only [x41_l0_run, go_sem, ↓reduceIte, Nat.reduceEqDiff, h18, hc, hd, o_nexts, e1, i0, e3, e4, e5]
        refine go (.inr ⟨i0, .inr (by omega)⟩) hx.2 _ ?_
        simp only [go_sem, ↓reduceIte, Nat.reduceEqDiff, h18]
def kws : List (List UInt8) := [[116, 114, 117, 101], [102, 97, 108, 115, 101], [110, 111, 116], [97, 110, 100], [111, 114], [101, 120, 105, 115, 116, 115], [112, 114, 101, 118], [110, 101, 120, 116], [111, 110, 99, 101], [115, 111, 111, 110], [115, 105, 110, 99, 101], [117, 110, 116, 105, 108], [98, 101, 102, 111, 114, 101], [97, 102, 116, 101, 114], [97, 103, 103], [108, 101, 116], [108, 101, 116, 112, 97, 115, 116], [106, 111, 105, 110], [97, 110, 121], [116, 101, 115, 116], [97, 108, 116], [115, 101, 113], [115, 116, 97, 114]]
def restR (s : List UInt8) (i : Nat) : Prop := ∀ j, i ≤ j → j < s.length → chA (s.getD j 0).toNat ∨ chB (s.getD j 0).toNat
theorem restR_step (s : List UInt8) (i : Nat) (h : i < s.length) (hc : chA (s.getD i 0).toNat ∨ chB (s.getD i 0).toNat) : restR s i ↔ restR s (i + 1) := by
  constructor
  · exact fun H j h1 h2 => H j (by omega) h2
  · intro H j h1 h2
    by_cases e : j = i
    · subst e; exact hc
    · exact H j (by omega) h2
def ONR (b : Prop) (s : List UInt8) (hp : Heap) (r : Option (XExit × St)) : Prop :=
  (b ∧ ∃ fr', r = some (.exit 0, ⟨fr', hp⟩) ∧ fget fr' 0 = .str s) ∨ (¬ b ∧ ∃ fr', r = some (.ret, ⟨fr', hp⟩) ∧ fget fr' 2 = .bool false)
theorem l_rname (s : List UInt8) (hl : s.length < 9223372036854775807) (hp : Heap) : ∀ (m i : Nat) (_ : i + m = s.length) (fr : List AV), fget fr 0 = .str s → fget fr 3 = .int .i64 i →
    ONR (restR s i) s hp (LC X (fun _ => []) (.loop x86_l0) ⟨fr, hp⟩) := by
  intro m
  induction m with
  | zero =>
    intro i hi fr h0 h3
    rw [LC_loop]
    have hc : ((i : Int) < (s.length : Int)) = False := by simp; omega
    simp +contextual -implicitDefEqProofs (maxSteps := 10000000) only [x86_l0_run, go_sem, ↓reduceIte, reduceCtorEq, Nat.reduceEqDiff, h0, h3, hc]
    exact .inl ⟨fun j h1 h2 => by omega, _, rfl, by simp only [go_sem, ↓reduceIte, reduceCtorEq, h0]⟩
  | succ m ih =>
    intro i hi fr h0 h3
    rw [LC_loop]
    have ki : i < s.length := by omega
    have hc : ((i : Int) < (s.length : Int)) = True := by simp; omega
    have wi : wr .i64 ((i : Int) + 1) = ((i + 1 : Nat) : Int) := by rw [wr_i64 _ (by omega)]; omega
    have hst := restR_step s i ki
    have hbd : ¬ (chA (s.getD i 0).toNat ∨ chB (s.getD i 0).toNat) → ¬ restR s i := fun h H => h (H i (Nat.le_refl _) ki)
    obtain ⟨c, hcc⟩ : ∃ c, (s.getD i 0).toNat = c := ⟨_, rfl⟩
    rw [hcc] at hst hbd
    have go : chA c ∨ chB c → ∀ fr', fget fr' 0 = .str s → fget fr' 3 = .int .i64 ((i + 1 : Nat) : Int) → ONR (restR s i) s hp (LC X (fun _ => []) (.loop x86_l0) ⟨fr', hp⟩) := by
      intro hok fr' g0 g3
      have := ih (i + 1) (by omega) fr' g0 g3
      unfold ONR at this ⊢
      rw [hst hok]
      exact this
    by_cases a1 : c < 97
    · have e1 : ((c : Int) < 97) = True := by simp; omega
      by_cases b2 : c < 48
      · have e4 : ((c : Int) < 48) = True := by simp; omega
        have e6 : ((c : Int) = 95) = False := by simp; omega
        simp +contextual -implicitDefEqProofs (maxSteps := 10000000) only [x86_l0_run, go_sem, ↓reduceIte, reduceCtorEq, Nat.reduceEqDiff, h0, h3, hc, ki, hcc, e1, e4, e6]
        exact .inr ⟨hbd (by unfold chA chB; omega), _, rfl, by simp only [go_sem, ↓reduceIte]⟩
      have e4 : ((c : Int) < 48) = False := by simp; omega
      by_cases b3 : 57 < c
      · have e5 : ((57 : Int) < (c : Int)) = True := by simp; omega
        by_cases b4 : c = 95
        · have e6 : ((c : Int) = 95) = True := by simp; omega
          simp +contextual -implicitDefEqProofs (maxSteps := 10000000) only [x86_l0_run, go_sem, ↓reduceIte, reduceCtorEq, Nat.reduceEqDiff, h0, h3, hc, ki, hcc, wi, e1, e4, e5, e6]
          refine go (.inr (.inl b4)) _ ?_ ?_ <;> simp only [go_sem, ↓reduceIte, reduceCtorEq, h0]
        · have e6 : ((c : Int) = 95) = False := by simp; omega
          simp +contextual -implicitDefEqProofs (maxSteps := 10000000) only [x86_l0_run, go_sem, ↓reduceIte, reduceCtorEq, Nat.reduceEqDiff, h0, h3, hc, ki, hcc, e1, e4, e5, e6]
          exact .inr ⟨hbd (by unfold chA chB; omega), _, rfl, by simp only [go_sem, ↓reduceIte]⟩
      · have e5 : ((57 : Int) < (c : Int)) = False := by simp; omega
        simp +contextual -implicitDefEqProofs (maxSteps := 10000000) only [x86_l0_run, go_sem, ↓reduceIte, reduceCtorEq, Nat.reduceEqDiff, h0, h3, hc, ki, hcc, wi, e1, e4, e5]
        refine go (.inr (.inr (by omega))) _ ?_ ?_ <;> simp only [go_sem, ↓reduceIte, reduceCtorEq, h0]
    · have e1 : ((c : Int) < 97) = False := by simp; omega
      by_cases a2 : 122 < c
      · have e2 : ((122 : Int) < (c : Int)) = True := by simp; omega
        have e4 : ((c : Int) < 48) = False := by simp; omega
        have e5 : ((57 : Int) < (c : Int)) = True := by simp; omega
        have e6 : ((c : Int) = 95) = False := by simp; omega
        simp +contextual -implicitDefEqProofs (maxSteps := 10000000) only [x86_l0_run, go_sem, ↓reduceIte, reduceCtorEq, Nat.reduceEqDiff, h0, h3, hc, ki, hcc, e1, e2, e4, e5, e6]
        exact .inr ⟨hbd (by unfold chA chB; omega), _, rfl, by simp only [go_sem, ↓reduceIte]⟩
      · have e2 : ((122 : Int) < (c : Int)) = False := by simp; omega
        simp +contextual -implicitDefEqProofs (maxSteps := 10000000) only [x86_l0_run, go_sem, ↓reduceIte, reduceCtorEq, Nat.reduceEqDiff, h0, h3, hc, ki, hcc, wi, e1, e2]
        refine go (.inl ⟨by omega, by omega⟩) _ ?_ ?_ <;> simp only [go_sem, ↓reduceIte, reduceCtorEq, h0]
def OHas (b : Prop) (hp : Heap) (r : Option (XExit × St)) : Prop := (b ∧ ∃ fr', r = some (.ret, ⟨fr', hp⟩) ∧ fget fr' 4 = .bool true) ∨ (¬ b ∧ ∃ fr', r = some (.exit 0, ⟨fr', hp⟩))
theorem l_has (x : List UInt8) (ls : List (List UInt8)) (hl : ls.length < 9223372036854775807) (hp : Heap) : ∀ (m i : Nat) (_ : i + m = ls.length) (fr : List AV), fget fr 0 = .lst .tight 1 (ls.map fun w => [.str w]) → fget fr 1 = .str x → fget fr 5 = .int .i64 i →
    OHas (x ∈ ls.drop i) hp (LC X (fun _ => []) (.loop x57_l0) ⟨fr, hp⟩) := by
  intro m
  have ln : (ls.map fun w => ([.str w] : List AV)).length = ls.length := by simp
  induction m with
  | zero =>
    intro i hi fr h0 h1 h5
    rw [LC_loop]
    have hc : ((i : Int) < (ls.length : Int)) = False := by simp; omega
    simp +contextual -implicitDefEqProofs (maxSteps := 10000000) only [x57_l0_run, go_sem, ↓reduceIte, reduceCtorEq, Nat.reduceEqDiff, h0, h5, ln, hc]
    exact .inr ⟨by rw [List.drop_of_length_le (by omega)]; simp, _, rfl⟩
  | succ m ih =>
    intro i hi fr h0 h1 h5
    rw [LC_loop]
    have ki : i < ls.length := by omega
    have hc : ((i : Int) < (ls.length : Int)) = True := by simp; omega
    have wi : wr .i64 ((i : Int) + 1) = ((i + 1 : Nat) : Int) := by rw [wr_i64 _ (by omega)]; omega
    have hg : (ls.map fun w => ([.str w] : List AV)).getD i [] = [.str (ls.getD i [])] := by simp [List.getD, ki]
    have hd : x ∈ ls.drop i ↔ (ls.getD i [] = x ∨ x ∈ ls.drop (i + 1)) := by
      rw [List.drop_eq_getElem_cons ki, List.mem_cons]
      simp [List.getD, ki]
      constructor
      · rintro (h | h)
        · exact .inl h.symm
        · exact .inr h
      · rintro (h | h)
        · exact .inl h.symm
        · exact .inr h
    obtain ⟨y, hy⟩ : ∃ y, ls.getD i [] = y := ⟨_, rfl⟩
    rw [hy] at hg hd
    by_cases e : y = x
    · have e1 : (y = x) = True := by simp [e]
      simp +contextual -implicitDefEqProofs (maxSteps := 10000000) only [x57_l0_run, go_sem, ↓reduceIte, reduceCtorEq, Nat.reduceEqDiff, h0, h1, h5, ln, hc, hg, ki, e1]
      exact .inl ⟨hd.2 (.inl e), _, rfl, by simp only [go_sem, ↓reduceIte]⟩
    · have e1 : (y = x) = False := by simp [e]
      simp +contextual -implicitDefEqProofs (maxSteps := 10000000) only [x57_l0_run, go_sem, ↓reduceIte, reduceCtorEq, Nat.reduceEqDiff, h0, h1, h5, ln, hc, hg, ki, wi, e1]
      have h' : (x ∈ ls.drop i) = (x ∈ ls.drop (i + 1)) := by rw [eq_iff_iff, hd]; simp [e]
      rw [h']
      refine ih (i + 1) (by omega) _ ?_ ?_ ?_ <;> simp only [go_sem, ↓reduceIte, reduceCtorEq, Nat.reduceEqDiff, h0, h1]
theorem v_has (x : List UInt8) (ls : List (List UInt8)) (hl : ls.length < 9223372036854775807) (hp : Heap) : CL X (fun _ => []) 57 [.lst .tight 1 (ls.map fun w => [.str w]), .str x] hp = some (.bool (decide (x ∈ ls)), hp) := by
  rw [CL_eq (fn := x57) rfl]
  simp +contextual -implicitDefEqProofs (maxSteps := 10000000) only [x57, go_sem, ↓reduceIte]
  refine elimL (fun r => finK _ (seqK (blockK 0 r) _) = _) (l_has x ls hl ([] :: hp) ls.length 0 (by omega) _ ?_ ?_ ?_) ?_
  all_goals try simp only [go_sem, ↓reduceIte, reduceCtorEq, Nat.reduceEqDiff]
  · rfl
  · rintro r (⟨hb, fr', rfl, h4⟩ | ⟨hb, fr', rfl⟩)
    · simp +contextual -implicitDefEqProofs (maxSteps := 10000000) only [go_sem, h4, hb]
    · simp +contextual -implicitDefEqProofs (maxSteps := 10000000) only [go_sem, ↓reduceIte, hb]
theorem v_words : CL X (fun _ => []) 105 [] [] = some (.lst .tight 1 (kws.map fun w => [.str w]), []) := CL_iff.2 ⟨5, by kernel_rfl⟩
def isT (r : Option (AV × Heap)) : Bool := match r with | some (.bool true, []) => true | _ => false
theorem of_isT {r : Option (AV × Heap)} (h : isT r = true) : r = some (.bool true, []) := by
  unfold isT at h
  split at h
  · rfl
  · cases h
theorem kw_true : (kws.all fun w => isT (evCall X (fun _ => []) 5 67 [.str w] [])) = true := by kernel_rfl
theorem v_kw (s : List UInt8) : CL X (fun _ => []) 67 [.str s] [] = some (.bool (decide (s ∈ kws)), []) := by
  by_cases h : s ∈ kws
  · have := List.all_eq_true.1 kw_true s h
    rw [decide_eq_true h]
    exact CL_iff.2 ⟨5, of_isT this⟩
  · rw [decide_eq_false h]
    simp only [kws, List.mem_cons, List.not_mem_nil, or_false, not_or] at h
    obtain ⟨n1, n2, n3, n4, n5, n6, n7, n8, n9, n10, n11, n12, n13, n14, n15, n16, n17, n18, n19, n20, n21, n22, n23⟩ := h
    rw [CL_eq (fn := x67) rfl]
    simp +contextual -implicitDefEqProofs (maxSteps := 10000000) only [x67, go_sem, ↓reduceIte, reduceCtorEq, Nat.reduceEqDiff, n1, n2, n3, n4, n5, n6, n7, n8, n9, n10, n11, n12, n13, n14, n15, n16, n17, n18, n19, n20, n21, n22, n23]
def nameP (s : List UInt8) : Prop := s ≠ [] ∧ s.length ≤ 16 ∧ s ∉ kws ∧ restOk s 0
theorem rest_R (s : List UInt8) (h : s ≠ []) : restOk s 0 ↔ (chA (s.getD 0 0).toNat ∧ restR s 0) := by
  have hl : 0 < s.length := List.length_pos_iff.2 h
  constructor
  · intro H
    refine ⟨?_, fun j h1 h2 => ?_⟩
    · rcases H 0 (Nat.le_refl _) hl with h | ⟨h, _⟩
      · exact h
      · exact absurd rfl h
    · rcases H j h1 h2 with h | ⟨_, h⟩
      · exact .inl h
      · exact .inr h
  · rintro ⟨h0, H⟩ j h1 h2
    by_cases e : j = 0
    · subst e; exact .inl h0
    · rcases H j h1 h2 with h | h
      · exact .inl h
      · exact .inr ⟨e, h⟩
open Classical in
theorem v_name (s : List UInt8) : CL X (fun _ => []) 41 [.str s] [] = some (.bool (decide (nameP s)), []) := by
  have hk := v_kw s
  rw [CL_eq (fn := x41) rfl]
  by_cases h1 : s = []
  · have hn : decide (nameP s) = false := decide_eq_false (fun h => h.1 h1)
    rw [hn]
    simp +contextual -implicitDefEqProofs (maxSteps := 10000000) only [x41, go_sem, ↓reduceIte, reduceCtorEq, Nat.reduceEqDiff, h1]
  by_cases h2 : 16 < s.length
  · have hn : decide (nameP s) = false := decide_eq_false (fun h => by have := h.2.1; omega)
    have e2 : ((16 : Int) < (s.length : Int)) = True := by simp; omega
    rw [hn]
    simp +contextual -implicitDefEqProofs (maxSteps := 10000000) only [x41, go_sem, ↓reduceIte, reduceCtorEq, Nat.reduceEqDiff, h1, e2]
  have e2 : ((16 : Int) < (s.length : Int)) = False := by simp; omega
  by_cases h3 : s ∈ kws
  · have hn : decide (nameP s) = false := decide_eq_false (fun h => h.2.2.1 h3)
    rw [hn]
    simp +contextual -implicitDefEqProofs (maxSteps := 10000000) only [x41, go_sem, ↓reduceIte, reduceCtorEq, Nat.reduceEqDiff, h1, e2, hk, h3]
  simp +contextual -implicitDefEqProofs (maxSteps := 10000000) only [x41, go_sem, ↓reduceIte, reduceCtorEq, Nat.reduceEqDiff, h1, e2, hk, h3, o_rngs, rngK_str, rngP_some]
  refine elimL (fun r => finK _ (seqK (blockK 0 r) _) = _) (l_name s (by omega) [] [] _ s.length 0 (by omega) _ ?_) ?_
  · simp only [go_sem, ↓reduceIte]
  · rintro r (⟨hb, fr', L, rfl⟩ | ⟨hb, fr', L, rfl, g2⟩)
    · have hn : decide (nameP s) = true := decide_eq_true ⟨h1, by omega, h3, hb⟩
      rw [hn]
      simp +contextual -implicitDefEqProofs (maxSteps := 10000000) only [go_sem, ↓reduceIte]
    · have hn : decide (nameP s) = false := decide_eq_false (fun h => hb h.2.2.2)
      rw [hn]
      simp +contextual -implicitDefEqProofs (maxSteps := 10000000) only [go_sem, g2]
open Classical in
theorem v_rname (s : List UInt8) : CL X (fun _ => []) 86 [.str s] [] = some (.bool (decide (nameP s)), []) := by
  have hw := v_words
  have hh := fun hp => v_has s kws (by decide) hp
  rw [CL_eq (fn := x86) rfl]
  by_cases h1 : s = []
  · have hn : decide (nameP s) = false := decide_eq_false (fun h => h.1 h1)
    rw [hn]
    simp +contextual -implicitDefEqProofs (maxSteps := 10000000) only [x86, go_sem, ↓reduceIte, reduceCtorEq, Nat.reduceEqDiff, Int.reduceLE, Int.reduceToNat, h1, Int.natCast_zero, Int.zero_lt_one]
  have hl : 0 < s.length := List.length_pos_iff.2 h1
  have k0 : ((s.length : Int) < 1) = False := by simp; omega
  by_cases h2 : 16 < s.length
  · have hn : decide (nameP s) = false := decide_eq_false (fun h => by have := h.2.1; omega)
    have e2 : ((16 : Int) < (s.length : Int)) = True := by simp; omega
    rw [hn]
    simp +contextual -implicitDefEqProofs (maxSteps := 10000000) only [x86, go_sem, ↓reduceIte, reduceCtorEq, Nat.reduceEqDiff, Int.reduceLE, Int.reduceToNat, k0, e2]
  have e2 : ((16 : Int) < (s.length : Int)) = False := by simp; omega
  have hR := rest_R s h1
  obtain ⟨c, hc⟩ : ∃ c, (s.getD 0 0).toNat = c := ⟨_, rfl⟩
  rw [hc] at hR
  by_cases a1 : c < 97
  · have hn : decide (nameP s) = false := decide_eq_false (fun h => by have := (hR.1 h.2.2.2).1; unfold chA at this; omega)
    have e1 : ((c : Int) < 97) = True := by simp; omega
    rw [hn]
    simp +contextual -implicitDefEqProofs (maxSteps := 10000000) only [x86, go_sem, ↓reduceIte, reduceCtorEq, Nat.reduceEqDiff, Int.reduceLE, Int.reduceToNat, k0, e2, hl, hc, e1]
  have e1 : ((c : Int) < 97) = False := by simp; omega
  by_cases a2 : 122 < c
  · have hn : decide (nameP s) = false := decide_eq_false (fun h => by have := (hR.1 h.2.2.2).1; unfold chA at this; omega)
    have e3 : ((122 : Int) < (c : Int)) = True := by simp; omega
    rw [hn]
    simp +contextual -implicitDefEqProofs (maxSteps := 10000000) only [x86, go_sem, ↓reduceIte, reduceCtorEq, Nat.reduceEqDiff, Int.reduceLE, Int.reduceToNat, k0, e2, hl, hc, e1, e3]
  have e3 : ((122 : Int) < (c : Int)) = False := by simp; omega
  simp +contextual -implicitDefEqProofs (maxSteps := 10000000) only [x86, go_sem, ↓reduceIte, reduceCtorEq, Nat.reduceEqDiff, Int.reduceLE, Int.reduceToNat, k0, e2, hl, hc, e1, e3]
  refine elimL (fun r => finK _ (seqK (blockK 0 r) _) = _) (l_rname s (by omega) _ s.length 0 (by omega) _ ?_ ?_) ?_
  all_goals try simp only [go_sem, ↓reduceIte, reduceCtorEq]
  · rfl
  · rintro r (⟨hb, fr', rfl, g0⟩ | ⟨hb, fr', rfl, g2⟩)
    · by_cases h3 : s ∈ kws
      · have hn : decide (nameP s) = false := decide_eq_false (fun h => h.2.2.1 h3)
        rw [hn]
        simp +contextual -implicitDefEqProofs (maxSteps := 10000000) only [go_sem, ↓reduceIte, reduceCtorEq, Nat.reduceEqDiff, g0, hw, hh, h3]
      · have hn : decide (nameP s) = true := decide_eq_true ⟨h1, by omega, h3, hR.2 ⟨⟨by omega, by omega⟩, hb⟩⟩
        rw [hn]
        simp +contextual -implicitDefEqProofs (maxSteps := 10000000) only [go_sem, ↓reduceIte, reduceCtorEq, Nat.reduceEqDiff, g0, hw, hh, h3]
    · have hn : decide (nameP s) = false := decide_eq_false (fun h => hb (hR.1 h.2.2.2).2)
      rw [hn]
      simp +contextual -implicitDefEqProofs (maxSteps := 10000000) only [go_sem, g2]
end Go.Proofs.YtnmaahfipddkmaaGreat.Sx.T
