/- Layer 1, part 1: what the functions of whole numbers answer. -/
import Derived.Test.YtafeikbbjhmlaaaGreatDoorEvB
import Derived.Test.YtafeikbbjhmlaaaGreatDoorEvR
import Derived.Test.YtafeikbbjhmlaaaGreatDoorEvP
import Derived.Test.YtafeikbbjhmlaaaGreatDoorEvS
import Derived.Test.YtafeikbbjhmlaaaGreatDoorEvL
import Derived.Test.YtafeikbbjhmlaaaGreatDoorEvQ
import Derived.Test.YtafeikbbjhmlaaaGreatDoorGV
import Derived.Test.YtafeikbbjhmlaaaGreatDoorSxRun
set_option linter.unusedVariables false
set_option linter.unusedSimpArgs false
namespace Go.Proofs.YtafeikbbjhmlaaaGreatDoor.Sx.T
open Go Go.Proofs.YtafeikbbjhmlaaaGreatDoor.Sx
set_option maxRecDepth 100000
set_option maxHeartbeats 4000000
theorem r27 (n : Int) (h : -9223372036854775808 ≤ n ∧ n < 9223372036854775808) (hp : Heap) : CL X GV 107 [.int .i64 n] hp = some (.int .u64 (n.natAbs : Int), hp) := by
  rw [CL_eq (fn := x107) rfl]
  simp +contextual -implicitDefEqProofs (maxSteps := 10000000) only [x107, go_sem, ↓reduceIte, reduceCtorEq]
  split <;> simp only [Option.some.injEq, Prod.mk.injEq, AV.int.injEq, true_and, and_true] <;> simp only [u64] <;> omega
theorem l26 (a : Nat) : ∀ (b : Nat) (fr : List AV) (hp : Heap), fget fr 0 = .int .u64 a → fget fr 1 = .int .u64 b →
    ∃ fr', LC X GV (.loop x106_l0) ⟨fr, hp⟩ = some (.exit 0, ⟨fr', hp⟩) ∧ fget fr' 0 = .int .u64 (Nat.gcd a b : Nat) := by
  intro b
  induction b using Nat.strongRecOn generalizing a with
  | ind b ih =>
    intro fr hp h0 h1
    rw [LC_loop]
    by_cases hb : b = 0
    · subst hb
      simp +contextual -implicitDefEqProofs (maxSteps := 10000000) only [x106_l0_run, go_sem, ↓reduceIte, h1]
      exact ⟨_, rfl, by simp only [go_sem, ↓reduceIte, reduceCtorEq, h0]; simp⟩
    · simp +contextual -implicitDefEqProofs (maxSteps := 10000000) only [x106_l0_run, go_sem, ↓reduceIte, reduceCtorEq, Nat.reduceEqDiff, h0, h1, hb]
      rw [show Nat.gcd a b = Nat.gcd b (a % b) by rw [Nat.gcd_comm b, ← Nat.gcd_rec, Nat.gcd_comm]]
      refine ih (a % b) (Nat.mod_lt _ (Nat.pos_of_ne_zero hb)) b _ hp ?_ ?_ <;> simp only [go_sem, ↓reduceIte, reduceCtorEq]
theorem r26 (a b : Nat) (hp : Heap) : CL X GV 106 [.int .u64 a, .int .u64 b] hp = some (.int .u64 (Nat.gcd a b : Nat), hp) := by
  rw [CL_eq (fn := x106) rfl]
  simp +contextual -implicitDefEqProofs (maxSteps := 10000000) only [x106, go_sem, ↓reduceIte]
  obtain ⟨fr', h, h0⟩ := l26 a b (fput [.int .u64 a, .int .u64 b] 4 (.int .u64 0)) ([] :: hp) (by simp only [go_sem, ↓reduceIte, reduceCtorEq]) (by simp only [go_sem, ↓reduceIte, Nat.reduceEqDiff])
  simp +contextual -implicitDefEqProofs (maxSteps := 10000000) only [h, h0, go_sem, ↓reduceIte]
def dig (a b c d : Nat) : AV := .agg [.int .u64 a, .int .u64 b, .int .u64 c, .int .u64 d]
def big (n : Nat) : AV := dig (n % 4294967296) (n / 4294967296 % 4294967296) (n / 4294967296 / 4294967296 % 4294967296) (n / 4294967296 / 4294967296 / 4294967296 % 4294967296)
theorem big_dig (a b c d : Nat) (ha : a < 4294967296) (hb : b < 4294967296) (hc : c < 4294967296) (hd : d < 4294967296) :
    big (a + 4294967296 * (b + 4294967296 * (c + 4294967296 * d))) = dig a b c d := by
  have e1 : (a + 4294967296 * (b + 4294967296 * (c + 4294967296 * d))) / 4294967296 = b + 4294967296 * (c + 4294967296 * d) := by omega
  have e2 : (b + 4294967296 * (c + 4294967296 * d)) / 4294967296 = c + 4294967296 * d := by omega
  have e3 : (c + 4294967296 * d) / 4294967296 = d := by omega
  unfold big
  rw [e1, e2, e3]
  congr 1 <;> omega
theorem dig_big (n : Nat) : ∃ a b c d, a < 4294967296 ∧ b < 4294967296 ∧ c < 4294967296 ∧ d < 4294967296 ∧ big n = dig a b c d ∧
    n % 340282366920938463463374607431768211456 = a + 4294967296 * (b + 4294967296 * (c + 4294967296 * d)) :=
  ⟨_, _, _, _, Nat.mod_lt _ (by omega), Nat.mod_lt _ (by omega), Nat.mod_lt _ (by omega), Nat.mod_lt _ (by omega), rfl, by omega⟩
theorem big_mod (n : Nat) : big (n % 340282366920938463463374607431768211456) = big n := by
  obtain ⟨a, b, c, d, ha, hb, hc, hd, h, e⟩ := dig_big n
  rw [e, big_dig a b c d ha hb hc hd, h]
theorem r30 (n : Nat) (h : n < 18446744073709551616) (hp : Heap) : CL X GV 138 [.int .u64 n] hp = some (big n, hp) := by
  rw [CL_eq (fn := x138) rfl]
  simp +contextual -implicitDefEqProofs (maxSteps := 10000000) only [x138, big, dig, go_sem, ↓reduceIte, reduceCtorEq, Nat.reduceEqDiff, Nat.reduceAdd, Nat.reduceLeDiff, Int.reduceEq, Int.reduceLE, Int.reduceToNat, Nat.reduceLT]
  simp only [Option.some.injEq, Prod.mk.injEq, AV.agg.injEq, List.cons.injEq, AV.int.injEq, true_and, and_true, Int.natCast_inj]
  refine ⟨?_, ?_, ?_⟩ <;> omega
theorem r31 (n : Int) (h : -9223372036854775808 ≤ n ∧ n < 9223372036854775808) (hp : Heap) : CL X GV 136 [.int .i64 n] hp = some (.int .u64 (n.natAbs : Int), hp) := by
  rw [CL_eq (fn := x136) rfl]
  simp +contextual -implicitDefEqProofs (maxSteps := 10000000) only [x136, go_sem, ↓reduceIte, reduceCtorEq]
  split
  · rw [wr_i64 (n + 1) (by omega), wr_i64 _ (by omega)]
    simp only [Option.some.injEq, Prod.mk.injEq, AV.int.injEq, true_and, and_true, Int.natCast_inj, u64]
    omega
  · simp only [Option.some.injEq, Prod.mk.injEq, AV.int.injEq, true_and, and_true, Int.natCast_inj, u64]
    omega
theorem r35d (a b c d x y z t : Nat) (hp : Heap) :
    CL X GV 137 [dig a b c d, dig x y z t] hp = some (.int .i64 (if d < t then -1 else if t < d then 1 else if c < z then -1 else if z < c then 1 else if b < y then -1 else if y < b then 1 else if a < x then -1 else if x < a then 1 else 0), hp) := by
  rw [CL_eq (fn := x137) rfl]
  simp +contextual -implicitDefEqProofs (maxSteps := 10000000) only [x137, x137_l0_run, LC_loop, dig, go_sem, ↓reduceIte, Nat.reduceEqDiff, Nat.reduceAdd, Int.reduceLT, Int.reduceLE, Int.reduceSub, Int.reduceNeg, Int.reduceToNat, Nat.reduceLT]
  have e : ∀ (p q : Nat) (x y : Option (AV × Heap)), (if (p : Int) < q then x else y) = if p < q then x else y := by
    intro p q x y; by_cases h : p < q <;> simp [h, Int.ofNat_lt]
  simp only [e]
  repeat' split
  all_goals first | rfl | omega
theorem r35 (a b : Nat) (ha : a < 340282366920938463463374607431768211456) (hb : b < 340282366920938463463374607431768211456) (hp : Heap) :
    CL X GV 137 [big a, big b] hp = some (.int .i64 (if a < b then -1 else if b < a then 1 else 0), hp) := by
  obtain ⟨a0, a1, a2, a3, h0, h1, h2, h3, e, f⟩ := dig_big a
  obtain ⟨b0, b1, b2, b3, g0, g1, g2, g3, e', f'⟩ := dig_big b
  rw [e, e', r35d]
  rw [Nat.mod_eq_of_lt ha] at f
  rw [Nat.mod_eq_of_lt hb] at f'
  subst f f'
  congr 3
  repeat' split
  all_goals first | rfl | omega
end Go.Proofs.YtafeikbbjhmlaaaGreatDoor.Sx.T
namespace Go.Proofs.YtafeikbbjhmlaaaGreatDoor.Sx.T
open Go Go.Proofs.YtafeikbbjhmlaaaGreatDoor.Sx
set_option maxRecDepth 100000
set_option maxHeartbeats 4000000
theorem r47d (a b c d x y z t : Nat) (ha : a < 4294967296) (hb : b < 4294967296) (hc : c < 4294967296) (hd : d < 4294967296) (hx : x < 4294967296) (hy : y < 4294967296) (hz : z < 4294967296) (ht : t < 4294967296) (hp : Heap) :
    CL X GV 159 [dig a b c d, dig x y z t] hp = some (dig ((a + x) % 4294967296) ((b + y + (a + x) / 4294967296) % 4294967296) ((c + z + (b + y + (a + x) / 4294967296) / 4294967296) % 4294967296)
      ((d + t + (c + z + (b + y + (a + x) / 4294967296) / 4294967296) / 4294967296) % 4294967296), hp) := by
  rw [CL_eq (fn := x159) rfl]
  simp +contextual -implicitDefEqProofs (maxSteps := 10000000) only [x159, x159_l0_run, LC_loop, dig, go_sem, ↓reduceIte, Nat.reduceEqDiff, Nat.reduceAdd, Nat.reduceLeDiff, Int.reduceEq, Int.reduceLT, Int.reduceLE, Int.reduceAdd, Int.reduceNeg, Int.reduceToNat, Nat.reduceLT]
  simp (disch := omega) only [Nat.mod_eq_of_lt]
theorem r47 (a b : Nat) (hp : Heap) : CL X GV 159 [big a, big b] hp = some (big (a + b), hp) := by
  obtain ⟨a0, a1, a2, a3, h0, h1, h2, h3, e, f⟩ := dig_big a
  obtain ⟨b0, b1, b2, b3, g0, g1, g2, g3, e', f'⟩ := dig_big b
  rw [e, e', r47d _ _ _ _ _ _ _ _ h0 h1 h2 h3 g0 g1 g2 g3, ← big_mod (a + b), Nat.add_mod a b, f, f']
  have k1 := Nat.mod_add_div (a0 + b0) 4294967296
  generalize (a0 + b0) / 4294967296 = c1 at *
  have k2 := Nat.mod_add_div (a1 + b1 + c1) 4294967296
  generalize (a1 + b1 + c1) / 4294967296 = c2 at *
  have k3 := Nat.mod_add_div (a2 + b2 + c2) 4294967296
  generalize (a2 + b2 + c2) / 4294967296 = c3 at *
  have k4 := Nat.mod_add_div (a3 + b3 + c3) 4294967296
  have m1 := Nat.mod_lt (a0 + b0) (show 0 < 4294967296 by omega)
  have m2 := Nat.mod_lt (a1 + b1 + c1) (show 0 < 4294967296 by omega)
  have m3 := Nat.mod_lt (a2 + b2 + c2) (show 0 < 4294967296 by omega)
  have m4 := Nat.mod_lt (a3 + b3 + c3) (show 0 < 4294967296 by omega)
  generalize (a3 + b3 + c3) / 4294967296 = c4 at *
  generalize (a0 + b0) % 4294967296 = d0 at *
  generalize (a1 + b1 + c1) % 4294967296 = d1 at *
  generalize (a2 + b2 + c2) % 4294967296 = d2 at *
  generalize (a3 + b3 + c3) % 4294967296 = d3 at *
  rw [← big_dig _ _ _ _ m1 m2 m3 m4]
  have t : a0 + 4294967296 * (a1 + 4294967296 * (a2 + 4294967296 * a3)) + (b0 + 4294967296 * (b1 + 4294967296 * (b2 + 4294967296 * b3))) =
      d0 + 4294967296 * (d1 + 4294967296 * (d2 + 4294967296 * d3)) + 340282366920938463463374607431768211456 * c4 := by omega
  rw [t, Nat.add_mul_mod_self_left, Nat.mod_eq_of_lt (show d0 + 4294967296 * (d1 + 4294967296 * (d2 + 4294967296 * d3)) < 340282366920938463463374607431768211456 by omega)]
theorem r48d (a b c d x y z t : Nat) (ha : a < 4294967296) (hb : b < 4294967296) (hc : c < 4294967296) (hd : d < 4294967296) (hx : x < 4294967296) (hy : y < 4294967296) (hz : z < 4294967296) (ht : t < 4294967296) (hp : Heap) :
    CL X GV 160 [dig a b c d, dig x y z t] hp = some (dig ((a + 4294967296 - x) % 4294967296) ((b + 4294967296 - y - (1 - (a + 4294967296 - x) / 4294967296)) % 4294967296)
      ((c + 4294967296 - z - (1 - (b + 4294967296 - y - (1 - (a + 4294967296 - x) / 4294967296)) / 4294967296)) % 4294967296)
      ((d + 4294967296 - t - (1 - (c + 4294967296 - z - (1 - (b + 4294967296 - y - (1 - (a + 4294967296 - x) / 4294967296)) / 4294967296)) / 4294967296)) % 4294967296), hp) := by
  rw [CL_eq (fn := x160) rfl]
  simp +contextual -implicitDefEqProofs (maxSteps := 10000000) only [x160, x160_l0_run, LC_loop, dig, go_sem, ↓reduceIte, Nat.reduceEqDiff, Nat.reduceAdd, Nat.reduceLeDiff, Int.reduceEq, Int.reduceLT, Int.reduceLE, Int.reduceAdd, Int.reduceNeg, Int.reduceToNat, Nat.reduceLT]
  simp (disch := omega) only [Nat.mod_eq_of_lt, u64_sub]
theorem r48 (a b : Nat) (ha : a < 340282366920938463463374607431768211456) (hb : b ≤ a) (hp : Heap) : CL X GV 160 [big a, big b] hp = some (big (a - b), hp) := by
  obtain ⟨a0, a1, a2, a3, h0, h1, h2, h3, e, f⟩ := dig_big a
  obtain ⟨b0, b1, b2, b3, g0, g1, g2, g3, e', f'⟩ := dig_big b
  rw [e, e', r48d _ _ _ _ _ _ _ _ h0 h1 h2 h3 g0 g1 g2 g3]
  rw [Nat.mod_eq_of_lt ha] at f
  rw [Nat.mod_eq_of_lt (by omega)] at f'
  subst f f'
  have k1 := Nat.mod_add_div (a0 + 4294967296 - b0) 4294967296
  have m1 := Nat.mod_lt (a0 + 4294967296 - b0) (show 0 < 4294967296 by omega)
  have n1 : (a0 + 4294967296 - b0) / 4294967296 ≤ 1 := by omega
  generalize (a0 + 4294967296 - b0) / 4294967296 = c1 at *
  have k2 := Nat.mod_add_div (a1 + 4294967296 - b1 - (1 - c1)) 4294967296
  have m2 := Nat.mod_lt (a1 + 4294967296 - b1 - (1 - c1)) (show 0 < 4294967296 by omega)
  have n2 : (a1 + 4294967296 - b1 - (1 - c1)) / 4294967296 ≤ 1 := by omega
  generalize (a1 + 4294967296 - b1 - (1 - c1)) / 4294967296 = c2 at *
  have k3 := Nat.mod_add_div (a2 + 4294967296 - b2 - (1 - c2)) 4294967296
  have m3 := Nat.mod_lt (a2 + 4294967296 - b2 - (1 - c2)) (show 0 < 4294967296 by omega)
  have n3 : (a2 + 4294967296 - b2 - (1 - c2)) / 4294967296 ≤ 1 := by omega
  generalize (a2 + 4294967296 - b2 - (1 - c2)) / 4294967296 = c3 at *
  have k4 := Nat.mod_add_div (a3 + 4294967296 - b3 - (1 - c3)) 4294967296
  have m4 := Nat.mod_lt (a3 + 4294967296 - b3 - (1 - c3)) (show 0 < 4294967296 by omega)
  have n4 : (a3 + 4294967296 - b3 - (1 - c3)) / 4294967296 ≤ 1 := by omega
  generalize (a3 + 4294967296 - b3 - (1 - c3)) / 4294967296 = c4 at *
  generalize (a0 + 4294967296 - b0) % 4294967296 = d0 at *
  generalize (a1 + 4294967296 - b1 - (1 - c1)) % 4294967296 = d1 at *
  generalize (a2 + 4294967296 - b2 - (1 - c2)) % 4294967296 = d2 at *
  generalize (a3 + 4294967296 - b3 - (1 - c3)) % 4294967296 = d3 at *
  rw [← big_dig _ _ _ _ m1 m2 m3 m4]
  congr 3
  omega
theorem mul_bound (a b : Nat) (ha : a < 4294967296) (hb : b < 4294967296) : a * b ≤ 18446744065119617025 := Nat.mul_le_mul (Nat.le_of_lt_succ ha : a ≤ 4294967295) (Nat.le_of_lt_succ hb : b ≤ 4294967295)
theorem r34 (x y : Nat) (hx : x < 18446744073709551616) (hy : y < 18446744073709551616) (hp : Heap) : CL X GV 135 [.int .u64 x, .int .u64 y] hp = some (big (x * y), hp) := by
  rw [CL_eq (fn := x135) rfl]
  have h0 := r30 x hx
  have h1 := r30 y hy
  have kx := Nat.mod_add_div x 4294967296
  have ky := Nat.mod_add_div y 4294967296
  have mx := Nat.mod_lt x (show 0 < 4294967296 by omega)
  have my := Nat.mod_lt y (show 0 < 4294967296 by omega)
  simp only [big, Nat.div_div_eq_div_mul, Nat.reduceMul, Nat.div_eq_of_lt hx, Nat.div_eq_of_lt hy, Nat.zero_div, Nat.zero_mod] at h0 h1
  rw [Nat.mod_eq_of_lt (by omega : x / 4294967296 < 4294967296)] at h0
  rw [Nat.mod_eq_of_lt (by omega : y / 4294967296 < 4294967296)] at h1
  have bx : x / 4294967296 < 4294967296 := by omega
  have bY : y / 4294967296 < 4294967296 := by omega
  simp +contextual -implicitDefEqProofs (maxSteps := 10000000) only [x135, x135_l0_run, x135_l1_run, LC_loop, h0, h1, dig, go_sem, ↓reduceIte, reduceCtorEq, Nat.reduceEqDiff, Nat.reduceAdd, Nat.reduceLeDiff, Int.reduceEq, Int.reduceLT, Int.reduceLE, Int.reduceAdd, Int.reduceNeg, Int.reduceToNat, Nat.reduceLT]
  generalize x % 4294967296 = x0 at *
  generalize y % 4294967296 = y0 at *
  generalize x / 4294967296 = x1 at *
  generalize y / 4294967296 = y1 at *
  have e : x * y = x0 * y0 + 4294967296 * (x0 * y1 + x1 * y0) + 18446744073709551616 * (x1 * y1) := by
    rw [← kx, ← ky, Nat.add_mul, Nat.mul_add, Nat.mul_add]
    have p1 : x0 * (4294967296 * y1) = 4294967296 * (x0 * y1) := Nat.mul_left_comm _ _ _
    have p2 : 4294967296 * x1 * y0 = 4294967296 * (x1 * y0) := Nat.mul_assoc _ _ _
    have p3 : 4294967296 * x1 * (4294967296 * y1) = 18446744073709551616 * (x1 * y1) := by
      rw [Nat.mul_assoc, Nat.mul_left_comm x1, ← Nat.mul_assoc]
    rw [p1, p2, p3, Nat.mul_add]
    omega
  have q00 := mul_bound x0 y0 mx my
  have q01 := mul_bound x0 y1 mx bY
  have q10 := mul_bound x1 y0 bx my
  have q11 := mul_bound x1 y1 bx bY
  rw [e]
  clear e h0 h1 kx ky
  generalize x0 * y0 = p00 at *
  generalize x0 * y1 = p01 at *
  generalize x1 * y0 = p10 at *
  generalize x1 * y1 = p11 at *
  simp only [Nat.mod_mod]
  have step : ∀ s, s ≤ 18446744073709551615 → ∃ c d, s / 4294967296 = c ∧ s % 4294967296 = d ∧ d < 4294967296 ∧ s = d + 4294967296 * c ∧ c ≤ 4294967295 ∧ c % 18446744073709551616 = c ∧ d % 18446744073709551616 = d ∧ s % 18446744073709551616 = s := fun s hs =>
    ⟨_, _, rfl, rfl, Nat.mod_lt _ (by omega), by omega, by omega, by omega, by omega, by omega⟩
  obtain ⟨c1, d0, u1, u2, b1, e1, g1, m1, m2, m3⟩ := step p00 (by omega)
  simp only [u1, u2, m1, m3, Nat.mod_eq_of_lt (show p01 < 18446744073709551616 by omega), Nat.mod_eq_of_lt (show p10 < 18446744073709551616 by omega), Nat.mod_eq_of_lt (show p11 < 18446744073709551616 by omega)]
  obtain ⟨c2, d1, u1, u2, b2, e2, g2, m1, m2, m3⟩ := step (p01 + c1) (by omega)
  simp only [u1, u2, m1, m3]
  obtain ⟨c3, d2, u1, u2, b3, e3, g3, m1, m2, m3⟩ := step (d1 + p10) (by omega)
  simp only [u1, u2, m1, m3, Nat.mod_eq_of_lt (show c2 + p11 < 18446744073709551616 by omega)]
  obtain ⟨c4, d3, u1, u2, b4, e4, g4, m1, m2, m3⟩ := step (c2 + p11 + c3) (by omega)
  simp only [u1, u2, m1, m3]
  have z : c4 < 4294967296 := by omega
  rw [show p00 + 4294967296 * (p01 + p10) + 18446744073709551616 * p11 = d0 + 4294967296 * (d2 + 4294967296 * (d3 + 4294967296 * c4)) by omega, big_dig _ _ _ _ b1 b3 b4 z]
  rfl
end Go.Proofs.YtafeikbbjhmlaaaGreatDoor.Sx.T
namespace Go.Proofs.YtafeikbbjhmlaaaGreatDoor.Sx.T
open Go Go.Proofs.YtafeikbbjhmlaaaGreatDoor.Sx
set_option maxRecDepth 100000
set_option maxHeartbeats 4000000
def dg (n k : Nat) : Nat := n / 4294967296 ^ k % 4294967296
def bigL (n : Nat) : List AV := [.int .u64 (dg n 0), .int .u64 (dg n 1), .int .u64 (dg n 2), .int .u64 (dg n 3)]
theorem big_eq (n : Nat) : big n = .agg (bigL n) := by
  simp only [big, dig, bigL, dg, Nat.div_div_eq_div_mul, Nat.pow_zero, Nat.div_one, Nat.reducePow, Nat.reduceMul]
theorem big_len (n : Nat) : (bigL n).length = 4 := rfl
theorem big_map (n : Nat) : List.map uf (bigL n) = bigL n := rfl
theorem big_all (n : Nat) : (bigL n).all plain1 = true := rfl
theorem big_cells (n : Nat) : cellsOf (big n) = bigL n := by rw [big_eq]; rfl
theorem big_agg (n : Nat) : AV.agg (List.map uf (List.take 4 (bigL n))) = big n := by rw [big_eq]; rfl
theorem big_load0 (n : Nat) : ldCells (bigL n) 1 false = some (.int .u64 (dg n 0)) := rfl
theorem big_loadk (n k : Nat) (h : k < 4) : ldCells ((bigL n).drop k) 1 false = some (.int .u64 (dg n k)) := by
  match k, h with
  | 0, _ => rfl
  | 1, _ => rfl
  | 2, _ => rfl
  | 3, _ => rfl
theorem big_uf (n : Nat) : uf (big n) = big n := by rw [big_eq]; rfl
theorem isU_big (n : Nat) : isU (big n) = false := by rw [big_eq]; rfl
theorem big_free (n : Nat) : refFree (big n) = true := by rw [big_eq]; rfl
theorem big_drop1 (n : Nat) (fr : List AV) (t : Nat) : drop1K (big n) fr t = fr := by rw [big_eq]; rfl
theorem big_shut (hp : Heap) (lev k n : Nat) : shut hp lev (k + 2) (big n) = some (big n) := by rw [big_eq]; rfl
theorem big_put (m n : Nat) : splice (bigL m) 0 (bigL n) = bigL n := rfl
theorem big_ret (hp : Heap) (lev n : Nat) : retOf hp lev [big n] = some (big n) := by rw [big_eq]; rfl
theorem big_digs (n : Nat) (h : n < 340282366920938463463374607431768211456) : n = dg n 0 + 4294967296 * (dg n 1 + 4294967296 * (dg n 2 + 4294967296 * dg n 3)) := by
  simp only [dg, Nat.pow_zero, Nat.div_one, Nat.reducePow]
  omega
theorem big_zero (n : Nat) (h : n < 340282366920938463463374607431768211456) (neg : Bool) : eqaK neg [1, 1, 1, 1] (big n) (.agg [.int .u64 0, .int .u64 0, .int .u64 0, .int .u64 0]) = some (.bool (decide (n = 0) != neg)) := by
  rw [big_eq]
  simp only [bigL, go_sem]
  have e := big_digs n h
  congr 3
  by_cases hn : n = 0
  · subst hn
    rfl
  · have : ¬ (dg n 0 = 0 ∧ dg n 1 = 0 ∧ dg n 2 = 0 ∧ dg n 3 = 0) := by omega
    simp only [hn, decide_false]
    apply Bool.eq_false_iff.2
    intro hh
    simp only [Bool.and_eq_true, beq_iff_eq] at hh
    omega
end Go.Proofs.YtafeikbbjhmlaaaGreatDoor.Sx.T
namespace Go.Proofs.YtafeikbbjhmlaaaGreatDoor.Sx.T
open Go Go.Proofs.YtafeikbbjhmlaaaGreatDoor.Sx
set_option maxRecDepth 100000
set_option maxHeartbeats 4000000
theorem put0 (R D : Nat) (hD : D < 2) : splice (bigL (R + R)) 0 [.int .u64 ((dg (R + R) 0 + D) % 18446744073709551616 : Nat)] = bigL (R + R + D) := by
  have e : (R + R + D) / 4294967296 = (R + R) / 4294967296 := by omega
  have f : dg (R + R + D) 0 = (dg (R + R) 0 + D) % 18446744073709551616 := by simp only [dg, Nat.pow_zero, Nat.div_one]; omega
  have g : ∀ k, dg (R + R + D) (k + 1) = dg (R + R) (k + 1) := by
    intro k
    simp only [dg, Nat.pow_succ, Nat.mul_comm (4294967296 ^ k) 4294967296, ← Nat.div_div_eq_div_mul, e]
  simp only [bigL, splice_zero, splice_nil, f, show dg (R + R + D) 1 = dg (R + R) 1 from g 0, show dg (R + R + D) 2 = dg (R + R) 2 from g 1, show dg (R + R + D) 3 = dg (R + R) 3 from g 2]
theorem bigL_dig (a b c d : Nat) (ha : a < 4294967296) (hb : b < 4294967296) (hc : c < 4294967296) (hd : d < 4294967296) :
    bigL (a + 4294967296 * (b + 4294967296 * (c + 4294967296 * d))) = [.int .u64 a, .int .u64 b, .int .u64 c, .int .u64 d] := by
  have h := big_dig a b c d ha hb hc hd
  rw [big_eq] at h
  exact AV.agg.inj h
theorem bound_bit (Q s : Nat) (hs : s < 32) : Q * 2 ^ (s + 1) % 4294967296 + 2 ^ s < 4294967296 := by
  have e : 4294967296 = 2 ^ (s + 1) * 2 ^ (31 - s) := by
    rw [← Nat.pow_add, show s + 1 + (31 - s) = 32 by omega]
  rw [e, Nat.mul_comm Q, Nat.mul_mod_mul_left]
  have h1 : Q % 2 ^ (31 - s) + 1 ≤ 2 ^ (31 - s) := Nat.mod_lt _ (Nat.two_pow_pos _)
  have h2 := Nat.mul_le_mul_left (2 ^ (s + 1)) h1
  rw [Nat.mul_add] at h2
  have h3 := Nat.two_pow_pos s
  rw [Nat.pow_succ] at *
  omega
theorem putbit (Q i : Nat) (hi : i < 128) (hT : Q * 2 ^ (i + 1) < 340282366920938463463374607431768211456) :
    splice (bigL (Q * 2 ^ (i + 1))) (i / 32) [.int .u64 ((dg (Q * 2 ^ (i + 1)) (i / 32) + 2 ^ (i % 32)) % 18446744073709551616 : Nat)] = bigL (Q * 2 ^ (i + 1) + 2 ^ i) := by
  have hb := bound_bit Q (i % 32) (Nat.mod_lt _ (by omega))
  have hd : dg (Q * 2 ^ (i + 1)) (i / 32) = Q * 2 ^ (i % 32 + 1) % 4294967296 := by
    unfold dg
    rw [show 2 ^ (i + 1) = 2 ^ (i % 32 + 1) * 4294967296 ^ (i / 32) by
      rw [show (4294967296 : Nat) = 2 ^ 32 by rfl, ← Nat.pow_mul, ← Nat.pow_add]; congr 1; omega, ← Nat.mul_assoc, Nat.mul_div_cancel _ (Nat.pow_pos (by omega))]
  have hp : 2 ^ i = 4294967296 ^ (i / 32) * 2 ^ (i % 32) := by
    rw [show (4294967296 : Nat) = 2 ^ 32 by rfl, ← Nat.pow_mul, ← Nat.pow_add]; congr 1; omega
  rw [← hd] at hb
  rw [hp]
  have hk : i / 32 < 4 := by omega
  generalize Q * 2 ^ (i + 1) = T at *
  generalize 2 ^ (i % 32) = w at *
  generalize i / 32 = k at *
  clear hd hp hi
  have e := big_digs T hT
  have b0 : dg T 0 < 4294967296 := Nat.mod_lt _ (by omega)
  have b1 : dg T 1 < 4294967296 := Nat.mod_lt _ (by omega)
  have b2 : dg T 2 < 4294967296 := Nat.mod_lt _ (by omega)
  have b3 : dg T 3 < 4294967296 := Nat.mod_lt _ (by omega)
  rw [Nat.mod_eq_of_lt (show dg T k + w < 18446744073709551616 by omega)]
  match k, hk with
  | 0, _ =>
    rw [show T + 4294967296 ^ 0 * w = (dg T 0 + w) + 4294967296 * (dg T 1 + 4294967296 * (dg T 2 + 4294967296 * dg T 3)) by simp only [Nat.reducePow]; omega, bigL_dig _ _ _ _ hb b1 b2 b3]
    rfl
  | 1, _ =>
    rw [show T + 4294967296 ^ 1 * w = dg T 0 + 4294967296 * ((dg T 1 + w) + 4294967296 * (dg T 2 + 4294967296 * dg T 3)) by simp only [Nat.reducePow]; omega, bigL_dig _ _ _ _ b0 hb b2 b3]
    rfl
  | 2, _ =>
    rw [show T + 4294967296 ^ 2 * w = dg T 0 + 4294967296 * (dg T 1 + 4294967296 * ((dg T 2 + w) + 4294967296 * dg T 3)) by simp only [Nat.reducePow]; omega, bigL_dig _ _ _ _ b0 b1 hb b3]
    rfl
  | 3, _ =>
    rw [show T + 4294967296 ^ 3 * w = dg T 0 + 4294967296 * (dg T 1 + 4294967296 * (dg T 2 + 4294967296 * (dg T 3 + w))) by simp only [Nat.reducePow]; omega, bigL_dig _ _ _ _ b0 b1 b2 hb]
    rfl
theorem bit_of (a i : Nat) : dg a (i / 32) / 2 ^ (i % 32) % 2 = a / 2 ^ i % 2 := by
  unfold dg
  have hs : i % 32 < 32 := Nat.mod_lt _ (by omega)
  have e : 4294967296 = 2 ^ (i % 32) * 2 ^ (32 - i % 32) := by
    rw [← Nat.pow_add, show i % 32 + (32 - i % 32) = 32 by omega]
  have hp : 2 ^ i = 4294967296 ^ (i / 32) * 2 ^ (i % 32) := by
    rw [show (4294967296 : Nat) = 2 ^ 32 by rfl, ← Nat.pow_mul, ← Nat.pow_add]; congr 1; omega
  rw [hp, ← Nat.div_div_eq_div_mul]
  generalize a / 4294967296 ^ (i / 32) = x
  conv => lhs; rw [e]
  rw [Nat.mod_mul_right_div_self, Nat.mod_mod_of_dvd]
  exact ⟨2 ^ (31 - i % 32), by rw [Nat.mul_comm, ← Nat.pow_succ]; congr 1; omega⟩
theorem div_step (p b D x : Nat) (hb : 0 < b) (hx : x = 2 * p + D) :
    (p % b + p % b + D < b → x / b = 2 * (p / b) ∧ x % b = p % b + p % b + D) ∧ (p % b + p % b + D < b + b → b ≤ p % b + p % b + D → x / b = 2 * (p / b) + 1 ∧ x % b = p % b + p % b + D - b) := by
  have dm := Nat.mod_add_div p b
  constructor
  · intro h
    refine (Nat.div_mod_unique hb).2 ⟨?_, h⟩
    rw [Nat.mul_left_comm b 2]
    omega
  · intro h h'
    refine (Nat.div_mod_unique hb).2 ⟨?_, by omega⟩
    rw [Nat.mul_add b, Nat.mul_left_comm b 2]
    omega
def O44 (a b : Nat) (v4 v5 : AV) (q4 q5 : Option (List AV)) (h : Heap) (r : Option (XExit × St)) : Prop :=
    ∃ fr' l', r = some (.exit 0, ⟨fr', l' :: h⟩) ∧ fget fr' 4 = v4 ∧ fget fr' 5 = v5 ∧ fget fr' 6 = .ptr ⟨h.length, 6, 0⟩ 0 ∧ fget fr' 7 = .ptr ⟨h.length, 7, 0⟩ 0 ∧
      lcells l' 4 0 = q4 ∧ lcells l' 5 0 = q5 ∧ lcells l' 6 0 = some (bigL (a / b)) ∧ lcells l' 7 0 = some (bigL (a % b))
theorem l44 (a b : Nat) (ha : a < 340282366920938463463374607431768211456) (hb : 0 < b) (hb' : b ≤ 170141183460469231731687303715884105728) (v4 v5 : AV) (q4 q5 : Option (List AV)) (h : Heap) :
    ∀ (i : Nat) (_ : i ≤ 128) (c : Int) (_ : c = (i : Int) - 1) (fr : List AV) (l : Level), fget fr 2 = .ptr ⟨h.length, 2, 0⟩ 0 → fget fr 3 = .ptr ⟨h.length, 3, 0⟩ 0 → fget fr 6 = .ptr ⟨h.length, 6, 0⟩ 0 → fget fr 7 = .ptr ⟨h.length, 7, 0⟩ 0 →
    fget fr 4 = v4 → fget fr 5 = v5 → lcells l 4 0 = q4 → lcells l 5 0 = q5 →
    fget fr 8 = .int .i64 c → lcells l 2 0 = some (bigL a) → lcells l 3 0 = some (bigL b) → lcells l 6 0 = some (bigL (a / 2 ^ i / b * 2 ^ i)) → lcells l 7 0 = some (bigL (a / 2 ^ i % b)) →
    O44 a b v4 v5 q4 q5 h (LC X GV (.loop x155_l0) ⟨fr, l :: h⟩) := by
  intro i
  induction i with
  | zero =>
    intro _ c hc fr l h2 h3 h6 h7 h4 h5 k4 k5 h8 k2 k3 k6 k7
    rw [LC_loop]
    have hc' : c = -1 := by omega
    subst hc'
    simp +contextual -implicitDefEqProofs (maxSteps := 10000000) only [x155_l0_run, go_sem, ↓reduceIte, Int.reduceLE, Int.reduceNeg, h8]
    refine ⟨_, _, rfl, ?_⟩
    simp only [Nat.pow_zero, Nat.div_one, Nat.mul_one] at k6 k7
    simp only [go_sem, ↓reduceIte, Nat.reduceEqDiff, Int.reduceNeg, h6, h7, h4, h5, k4, k5, k6, k7]
  | succ i ih =>
    intro hi c hc fr l h2 h3 h6 h7 h4 h5 k4 k5 h8 k2 k3 k6 k7
    rw [LC_loop]
    have hc' : c = (i : Int) := by omega
    clear hc
    subst hc'
    have n32 : i / 32 < 4 := by omega
    have w32 : i / 32 < 9223372036854775808 := by omega
    have m32 : i % 32 % 18446744073709551616 = i % 32 := by omega
    have m64 : min (i % 32) 64 = i % 32 := by omega
    have wi : wr .i64 ((i : Int) - 1) = (i : Int) - 1 := wr_i64 _ (by omega)
    have wm : wr .i64 ((i % 32 : Nat) : Int) = ((i % 32 : Nat) : Int) := wr_i64 _ (by omega)
    have n3 : i / 32 ≤ 3 := by omega
    have hTb : a / 2 ^ (i + 1) / b * 2 ^ (i + 1) ≤ a := Nat.le_trans (Nat.mul_le_mul_right _ (Nat.div_le_self _ _)) (Nat.div_mul_le_self _ _)
    have hs2 := putbit (a / 2 ^ (i + 1) / b) i (by omega) (by omega)
    have hE := bit_of a i
    have e2 : a / 2 ^ i = 2 * (a / 2 ^ (i + 1)) + a / 2 ^ i % 2 := by rw [Nat.pow_succ, ← Nat.div_div_eq_div_mul]; omega
    have ds := div_step (a / 2 ^ (i + 1)) b (a / 2 ^ i % 2) (a / 2 ^ i) hb e2
    have hpw : a / 2 ^ (i + 1) / b * 2 ^ (i + 1) = 2 * (a / 2 ^ (i + 1) / b) * 2 ^ i := by
      rw [Nat.mul_right_comm, ← Nat.pow_succ', Nat.mul_comm]
    rw [← hE] at ds
    clear e2
    generalize hR : a / 2 ^ (i + 1) % b = R at *
    generalize hT : a / 2 ^ (i + 1) / b * 2 ^ (i + 1) = T at *
    generalize hD : dg a (i / 32) / 2 ^ (i % 32) % 2 = D at *
    have hR' : R < b := by rw [← hR]; exact Nat.mod_lt _ hb
    have hD' : D < 2 := by omega
    have hs1 := put0 R D hD'
    have p1 : u64 (1 * 2 ^ (i % 32)) = 2 ^ (i % 32) := by
      have hs : 2 ^ (i % 32) < 2 ^ 32 := Nat.pow_lt_pow_right (by omega) (Nat.mod_lt _ (by omega))
      rw [Int.one_mul, show (2 : Int) ^ (i % 32) = ((2 ^ (i % 32) : Nat) : Int) by simp, u64_nat, Nat.mod_eq_of_lt (by omega)]
    have r35' := r35 (R + R + D) b (by omega) (by omega)
    have h0 : (0 : Int) ≤ i := by omega
    by_cases hX : R + R + D < b
    · simp +contextual -implicitDefEqProofs (maxSteps := 10000000) only [x155_l0_run, go_sem, ↓reduceIte, Nat.reduceEqDiff, Nat.reduceLeDiff, Int.reduceEq, Int.reduceLE, Int.reduceNeg, Int.reduceToNat, Nat.reduceLT, big_len, big_all, big_cells, big_agg, big_load0, big_loadk, big_uf, big_free, big_drop1, big_put, h0, h2, h3, h7, h8, k2, k3, k7, n32, w32, m32, m64, wi, hD, hs1, r47, r35', hX]
      refine ih (by omega) _ rfl _ _ ?_ ?_ ?_ ?_ ?_ ?_ ?_ ?_ ?_ ?_ ?_ ?_ ?_
      all_goals try simp only [go_sem, ↓reduceIte, Nat.reduceEqDiff, Int.reduceNeg, h2, h3, h6, h7, h4, h5, k2, k3, k4, k5, k6]
      · rw [(ds.1 hX).1, hpw]
      · rw [(ds.1 hX).2]
    · have r48' := r48 (R + R + D) b (by omega) (by omega)
      have hX' : (0 : Int) ≤ (if b < R + R + D then 1 else 0) := by split <;> omega
      simp +contextual -implicitDefEqProofs (maxSteps := 10000000) only [x155_l0_run, go_sem, ↓reduceIte, Nat.reduceEqDiff, Nat.reduceLeDiff, Int.reduceEq, Int.reduceLE, Int.reduceToNat, Nat.reduceLT, big_len, big_all, big_cells, big_agg, big_load0, big_loadk, big_uf, big_free, big_drop1, big_put, h0, h2, h3, h6, h7, h8, k2, k3, k6, k7, n32, w32, n3, m32, m64, wi, hD, hs1, r47, r35', r48', hX, hX', p1, hs2]
      refine ih (by omega) _ rfl _ _ ?_ ?_ ?_ ?_ ?_ ?_ ?_ ?_ ?_ ?_ ?_ ?_ ?_
      all_goals try simp only [go_sem, ↓reduceIte, Nat.reduceEqDiff, h2, h3, h6, h7, h4, h5, k2, k3, k4, k5]
      · rw [(ds.2 (by omega) (by omega)).1, hpw, Nat.add_mul, Nat.one_mul]
      · rw [(ds.2 (by omega) (by omega)).2]
end Go.Proofs.YtafeikbbjhmlaaaGreatDoor.Sx.T
namespace Go.Proofs.YtafeikbbjhmlaaaGreatDoor.Sx.T
open Go Go.Proofs.YtafeikbbjhmlaaaGreatDoor.Sx
set_option maxRecDepth 100000
set_option maxHeartbeats 4000000
theorem big0 : bigL 0 = [.int .u64 0, .int .u64 0, .int .u64 0, .int .u64 0] := rfl
theorem r44 (a b : Nat) (ha : a < 340282366920938463463374607431768211456) (hb : 0 < b) (hb' : b ≤ 170141183460469231731687303715884105728) (hp : Heap) :
    CL X GV 155 [big a, big b] hp = some (.tup [big (a / b), big (a % b)], hp) := by
  rw [CL_eq (fn := x155) rfl]
  simp +contextual -implicitDefEqProofs (maxSteps := 10000000) only [x155, go_sem, ↓reduceIte, Nat.reduceEqDiff, big_len, big_all, big_cells, big_uf, ← big0]
  have hz : a / 2 ^ 128 = 0 := Nat.div_eq_of_lt ha
  have hz' : a / 2 ^ 128 / b * 2 ^ 128 = 0 := by rw [hz, Nat.zero_div, Nat.zero_mul]
  have hz'' : a / 2 ^ 128 % b = 0 := by rw [hz, Nat.zero_mod]
  refine elimL (fun r => finK _ (seqK (blockK 0 r) _) = _) (l44 a b ha hb hb' _ _ _ _ _ 128 (by omega) 127 (by omega) _ _ ?_ ?_ ?_ ?_ rfl rfl rfl rfl ?_ ?_ ?_ ?_ ?_) ?_
  all_goals try simp only [go_sem, ↓reduceIte, Nat.reduceEqDiff, hz', hz'']
  rintro r ⟨fr', l', rfl, f4, f5, f6, f7, g4, g5, g6, g7⟩
  simp +contextual -implicitDefEqProofs (maxSteps := 10000000) only [go_sem, ↓reduceIte, Nat.reduceEqDiff, Nat.reduceAdd, f4, f5, f6, f7, g4, g5, g6, g7, big_len, big_all, big_cells, big_agg, big_drop1, big_shut, isU_big, big_put]
def O43 (a b : Nat) (v4 : AV) (q4 : Option (List AV)) (h : Heap) (r : Option (XExit × St)) : Prop :=
    ∃ fr' l', r = some (.exit 0, ⟨fr', l' :: h⟩) ∧ fget fr' 2 = .ptr ⟨h.length, 2, 0⟩ 0 ∧ fget fr' 4 = v4 ∧ lcells l' 4 0 = q4 ∧ lcells l' 2 0 = some (bigL (Nat.gcd a b))
theorem l43 (v4 : AV) (q4 : Option (List AV)) (h : Heap) : ∀ (b a : Nat) (_ : a < 340282366920938463463374607431768211456) (_ : b ≤ 170141183460469231731687303715884105728) (fr : List AV) (l : Level),
    fget fr 2 = .ptr ⟨h.length, 2, 0⟩ 0 → fget fr 3 = .ptr ⟨h.length, 3, 0⟩ 0 → fget fr 5 = .ptr ⟨h.length, 5, 0⟩ 0 → fget fr 4 = v4 → lcells l 4 0 = q4 →
    lcells l 2 0 = some (bigL a) → lcells l 3 0 = some (bigL b) → lcells l 5 0 = some (bigL 0) → O43 a b v4 q4 h (LC X GV (.loop x154_l0) ⟨fr, l :: h⟩) := by
  intro b
  induction b using Nat.strongRecOn with
  | ind b ih =>
    intro a ha hb fr l h2 h3 h5 h4 k4 k2 k3 k5
    rw [LC_loop]
    have z := big_zero b (by omega) true
    have z0 : AV.agg [.int .u64 0, .int .u64 0, .int .u64 0, .int .u64 0] = big 0 := rfl
    rw [z0] at z
    by_cases h0 : b = 0
    · subst h0
      simp +contextual -implicitDefEqProofs (maxSteps := 10000000) only [x154_l0_run, go_sem, ↓reduceIte, Nat.reduceEqDiff, big_len, big_agg, big_uf, h3, h5, k3, k5, z]
      exact ⟨_, _, rfl, by simp only [go_sem, ↓reduceIte, Nat.reduceEqDiff, h2], by simp only [go_sem, ↓reduceIte, Nat.reduceEqDiff, h4], by simp only [go_sem, k4], by simp only [go_sem, k2, Nat.gcd_zero_right]⟩
    · have r44' := r44 a b ha (Nat.pos_of_ne_zero h0) hb
      simp +contextual -implicitDefEqProofs (maxSteps := 10000000) only [x154_l0_run, go_sem, ↓reduceIte, Nat.reduceEqDiff, big_len, big_all, big_cells, big_agg, big_uf, big_free, big_drop1, big_put, h2, h3, h5, k2, k3, k5, z, h0, r44', ← big0]
      unfold O43
      rw [show Nat.gcd a b = Nat.gcd b (a % b) by rw [Nat.gcd_comm b, ← Nat.gcd_rec, Nat.gcd_comm]]
      have lt := Nat.mod_lt a (Nat.pos_of_ne_zero h0)
      refine ih (a % b) lt b (by omega) (by omega) _ _ ?_ ?_ ?_ ?_ ?_ ?_ ?_ ?_ <;> simp only [go_sem, ↓reduceIte, Nat.reduceEqDiff, h2, h3, h5, h4, k4, k5]
theorem r43 (a b : Nat) (ha : a < 340282366920938463463374607431768211456) (hb : b ≤ 170141183460469231731687303715884105728) (hp : Heap) :
    CL X GV 154 [big a, big b] hp = some (big (Nat.gcd a b), hp) := by
  rw [CL_eq (fn := x154) rfl]
  simp +contextual -implicitDefEqProofs (maxSteps := 10000000) only [x154, go_sem, ↓reduceIte, Nat.reduceEqDiff, big_map, big_len, big_all, big_cells, big_uf, big_put, ← big0]
  refine elimL (fun r => finK _ (seqK (blockK 0 r) _) = _) (l43 _ _ _ b a ha hb _ _ ?_ ?_ ?_ rfl rfl ?_ ?_ ?_) ?_
  all_goals try simp only [go_sem, ↓reduceIte, Nat.reduceEqDiff]
  rintro r ⟨fr', l', rfl, f2, f4, g4, g2⟩
  simp +contextual -implicitDefEqProofs (maxSteps := 10000000) only [go_sem, ↓reduceIte, Nat.reduceEqDiff, f2, f4, g4, g2, big_len, big_all, big_cells, big_agg, big_drop1, big_put, big_ret]
end Go.Proofs.YtafeikbbjhmlaaaGreatDoor.Sx.T
namespace Go.Proofs.YtafeikbbjhmlaaaGreatDoor.Sx.T
open Go Go.Proofs.YtafeikbbjhmlaaaGreatDoor.Sx
set_option maxRecDepth 100000
set_option maxHeartbeats 4000000
def rt (x : Int × Int × Int) : AV := .tup [.agg [.int .i64 x.1, .int .i64 x.2.1], .int .i64 x.2.2]
def mk (below : Bool) (n d : Nat) : Int × Int × Int :=
  let p := n / Nat.gcd n d
  let q := d / Nat.gcd n d
  if 9223372036854775808 ≤ q ∨ 9223372036854775808 < p ∨ p = 9223372036854775808 ∧ below = false then (0, 0, 10)
  else if below then (-p, q, 0) else (p, q, 0)
theorem valp (p : Nat) (h : p < 18446744073709551616) : (dg p 1 * 4294967296 % 18446744073709551616 + dg p 0) % 18446744073709551616 = p := by
  simp only [dg, Nat.pow_zero, Nat.div_one, Nat.pow_one]
  omega
theorem r32 (below : Bool) (n d : Nat) (hn : n < 340282366920938463463374607431768211456) (hd : 0 < d) (hd' : d ≤ 170141183460469231731687303715884105728) (hp : Heap) :
    CL X GV 139 [.bool below, big n, big d] hp = some (rt (mk below n d), hp) := by
  rw [CL_eq (fn := x139) rfl]
  have hg : 0 < Nat.gcd n d := Nat.gcd_pos_of_pos_right n hd
  have hg' : Nat.gcd n d ≤ d := Nat.gcd_le_right n hd
  have a1 := r43 n d hn hd'
  have a2 := r44 n (Nat.gcd n d) hn hg (by omega)
  have a3 := r44 d (Nat.gcd n d) (by omega) hg (by omega)
  have a4 : ∀ hp, CL X GV 138 [.int .u64 9223372036854775808] hp = some (big 9223372036854775808, hp) := r30 9223372036854775808 (by omega)
  have hp' : n / Nat.gcd n d < 340282366920938463463374607431768211456 := Nat.lt_of_le_of_lt (Nat.div_le_self _ _) hn
  have hq' : d / Nat.gcd n d < 340282366920938463463374607431768211456 := Nat.lt_of_le_of_lt (Nat.div_le_self _ _) (by omega)
  unfold mk
  generalize n / Nat.gcd n d = p at *
  generalize d / Nat.gcd n d = q at *
  have a5 := r35 p 9223372036854775808 hp' (by omega)
  have a6 := r35 q 9223372036854775808 hq' (by omega)
  have x1 : p < 9223372036854775808 ∨ p = 9223372036854775808 ∨ 9223372036854775808 < p := by omega
  have x2 : q < 9223372036854775808 ∨ q = 9223372036854775808 ∨ 9223372036854775808 < q := by omega
  have lt0 : ∀ p : Nat, p < 9223372036854775808 → ¬ 9223372036854775808 < p := fun p h => by omega
  have e (x : Nat) (h : x < 9223372036854775808) : wr .i64 (x : Int) = x := wr_i64 _ (by omega)
  rcases x2 with h2 | h2 | h2
  · have v2 := valp q (by omega)
    rcases x1 with h1 | h1 | h1
    · have v1 := valp p (by omega)
      simp +contextual -implicitDefEqProofs (maxSteps := 10000000) only [x139, go_sem, ↓reduceIte, reduceCtorEq, Nat.reduceEqDiff, Nat.reduceAdd, Nat.reduceLeDiff, Int.reduceLT, Int.reduceLE, Int.reduceNeg, Int.reduceToNat, Int.reduceBEq, Nat.reduceLT, big_len, big_all, big_cells, big_agg, big_load0, big_loadk, big_uf, big_free, big_drop1, big_put, ← big0, a1, a2, a3, a4, a5, a6, h1, h2, lt0, v1, v2, e, neg_back p (by omega)]
      cases below <;> simp [rt, show ¬ 9223372036854775808 ≤ q by omega, show ¬ p = 9223372036854775808 by omega]
    · subst h1
      simp +contextual -implicitDefEqProofs (maxSteps := 10000000) only [x139, go_sem, ↓reduceIte, reduceCtorEq, Nat.reduceEqDiff, Nat.reduceAdd, Nat.reduceLeDiff, Int.reduceLT, Int.reduceLE, Int.reduceNeg, Int.reduceToNat, Nat.reduceLT, big_len, big_all, big_cells, big_agg, big_load0, big_loadk, big_uf, big_free, big_drop1, big_put, ← big0, a1, a2, a3, a4, a5, a6, h2, Nat.lt_irrefl, v2, e, valp 9223372036854775808 (by omega), neg_back 9223372036854775808 (by omega)]
      cases below <;> simp [rt, show ¬ 9223372036854775808 ≤ q by omega]
    · have h1' : ¬ p < 9223372036854775808 := by omega
      simp +contextual -implicitDefEqProofs (maxSteps := 10000000) only [x139, go_sem, ↓reduceIte, reduceCtorEq, Nat.reduceEqDiff, Nat.reduceAdd, Int.reduceLT, Int.reduceLE, Int.reduceNeg, big_len, big_all, big_cells, big_agg, big_uf, big_free, big_drop1, big_put, ← big0, a1, a2, a3, a4, a5, a6, h1, h1', h2]
      rw [if_pos (by simp)]
      rfl
  · subst h2
    simp +contextual -implicitDefEqProofs (maxSteps := 10000000) only [x139, go_sem, ↓reduceIte, reduceCtorEq, Nat.reduceEqDiff, Nat.reduceAdd, Int.reduceLE, Int.reduceNeg, big_len, big_all, big_cells, big_agg, big_uf, big_free, big_drop1, big_put, ← big0, a1, a2, a3, a4, a5, a6, Nat.lt_irrefl]
    rw [if_pos (by simp)]
    rfl
  · have h2' : ¬ q < 9223372036854775808 := by omega
    simp +contextual -implicitDefEqProofs (maxSteps := 10000000) only [x139, go_sem, ↓reduceIte, reduceCtorEq, Nat.reduceEqDiff, Nat.reduceAdd, Int.reduceLE, Int.reduceNeg, big_len, big_all, big_cells, big_agg, big_uf, big_free, big_drop1, big_put, ← big0, a1, a2, a3, a4, a5, a6, h2, h2']
    rw [if_pos (by omega)]
    rfl
end Go.Proofs.YtafeikbbjhmlaaaGreatDoor.Sx.T
namespace Go.Proofs.YtafeikbbjhmlaaaGreatDoor.Sx.T
open Go Go.Proofs.YtafeikbbjhmlaaaGreatDoor.Sx
set_option maxRecDepth 100000
set_option maxHeartbeats 4000000
def I64 (n : Int) : Prop := -9223372036854775808 ≤ n ∧ n < 9223372036854775808
def frc (t : Int) (d : Nat) : Int × Int × Int := mk (decide (t < 0)) t.natAbs d
def ofR (n d : Int) : Int × Int × Int := if d = 0 then (0, 0, 11) else frc (n * d.sign) d.natAbs
def mayR (n d : Int) : Bool := decide (0 < d ∧ Nat.gcd n.natAbs d.natAbs = 1)
theorem rt_eq (x : Int × Int × Int) : rt x = .tup [.agg [.int .i64 x.1, .int .i64 x.2.1], .int .i64 x.2.2] := rfl
theorem ofR_mk (n d : Int) (h0 : ¬ d = 0) : mk (if ¬n = 0 then !decide (n < 0) == decide (d < 0) else false) n.natAbs d.natAbs = ofR n d := by
  unfold ofR frc
  rw [if_neg h0, Int.natAbs_mul, Int.natAbs_sign_of_ne_zero h0, Nat.mul_one]
  congr 1
  rcases Int.lt_trichotomy d 0 with h | h | h
  · rw [Int.sign_eq_neg_one_of_neg h]
    by_cases h1 : n = 0
    · subst h1; rfl
    · by_cases h2 : n < 0 <;> simp [h1, h2, h] <;> omega
  · omega
  · rw [Int.sign_eq_one_of_pos h]
    by_cases h1 : n = 0
    · subst h1; rfl
    · by_cases h2 : n < 0 <;> simp [h1, h2, show ¬ d < 0 by omega]
theorem r13 (n d : Int) (hn : I64 n) (hd : I64 d) (hp : Heap) : CL X GV 110 [.int .i64 n, .int .i64 d] hp = some (rt (ofR n d), hp) := by
  rw [CL_eq (fn := x110) rfl]
  have a1 := r31 n hn
  have a2 := r31 d hd
  have a3 := r30 n.natAbs (by unfold I64 at hn; omega)
  have a4 := r30 d.natAbs (by unfold I64 at hd; omega)
  by_cases h0 : d = 0
  · subst h0
    simp +contextual -implicitDefEqProofs (maxSteps := 10000000) only [x110, go_sem, ↓reduceIte, Nat.reduceEqDiff, Nat.reduceAdd, ← big0]
    rfl
  · have a5 := fun b => r32 b n.natAbs d.natAbs (by unfold I64 at hn; omega) (by omega) (by unfold I64 at hd; omega)
    rw [← ofR_mk n d h0]
    by_cases h1 : n = 0
    · subst h1
      simp +contextual -implicitDefEqProofs (maxSteps := 10000000) only [x110, go_sem, ↓reduceIte, reduceCtorEq, Nat.reduceEqDiff, Nat.reduceAdd, Int.reduceBNe, big_len, big_all, big_cells, big_agg, big_uf, big_free, big_drop1, big_put, ← big0, a1, a2, a3, a4, a5, h0, rt_eq]
    · simp +contextual -implicitDefEqProofs (maxSteps := 10000000) only [x110, go_sem, ↓reduceIte, reduceCtorEq, Nat.reduceEqDiff, Nat.reduceAdd, big_len, big_all, big_cells, big_agg, big_uf, big_free, big_drop1, big_put, ← big0, a1, a2, a3, a4, a5, h0, h1, rt_eq]
theorem may_eq (n d : Int) (hn : I64 n) (hd : I64 d) (h : 0 < d) : (decide ((ofR n d).2.2 = 0) && ((ofR n d).1 == n && (ofR n d).2.1 == d)) = mayR n d := by
  unfold ofR mayR frc mk
  unfold I64 at *
  rw [if_neg (by omega), Int.sign_eq_one_of_pos h, Int.mul_one]
  have hg : 0 < Nat.gcd n.natAbs d.natAbs := Nat.gcd_pos_of_pos_right _ (by omega)
  by_cases h1 : Nat.gcd n.natAbs d.natAbs = 1
  · simp only [h1, Nat.div_one, and_true]
    rw [if_neg (by simp only [decide_eq_false_iff_not]; omega)]
    by_cases h2 : n < 0
    · simp [h2, h]
      omega
    · simp [h2, h]
      omega
  · have h3 : d.natAbs / Nat.gcd n.natAbs d.natAbs < d.natAbs := Nat.div_lt_self (by omega) (by omega)
    generalize d.natAbs / Nat.gcd n.natAbs d.natAbs = q at *
    generalize n.natAbs / Nat.gcd n.natAbs d.natAbs = p at *
    simp only [h1, and_false, decide_false]
    split
    · rfl
    · have : ((q : Int) == d) = false := by simp; omega
      split <;> simp [this]
theorem r33 (n d : Int) (hn : I64 n) (hd : I64 d) (hp : Heap) : CL X GV 84 [.agg [.int .i64 n, .int .i64 d]] hp = some (.bool (mayR n d), hp) := by
  rw [CL_eq (fn := x84) rfl]
  have a1 := r13 n d hn hd
  simp +contextual -implicitDefEqProofs (maxSteps := 10000000) only [x84, go_sem, ↓reduceIte, Nat.reduceEqDiff, Nat.reduceAdd, a1, rt_eq]
  by_cases h : d ≤ 0
  · rw [if_pos h]
    simp only [mayR, show ¬ 0 < d by omega, false_and, decide_false]
  · rw [if_neg h, may_eq n d hn hd (by omega)]
theorem mul_sgn (a d : Int) (hd : 0 < d) : a * d = if a < 0 then -((a.natAbs * d.natAbs : Nat) : Int) else ((a.natAbs * d.natAbs : Nat) : Int) := by
  obtain ⟨k, rfl⟩ := Int.eq_ofNat_of_zero_le (Int.le_of_lt hd)
  rw [Int.natAbs_natCast, Int.natCast_mul]
  split
  · rw [← Int.neg_mul, show -(a.natAbs : Int) = a by omega]
  · rw [show (a.natAbs : Int) = a by omega]
end Go.Proofs.YtafeikbbjhmlaaaGreatDoor.Sx.T
namespace Go.Proofs.YtafeikbbjhmlaaaGreatDoor.Sx.T
open Go Go.Proofs.YtafeikbbjhmlaaaGreatDoor.Sx
set_option maxRecDepth 100000
set_option maxHeartbeats 4000000
def both (a b c d : Int) : Bool := mayR a b && mayR c d
def cmpR (a b c d : Int) : Int := if both a b c d = true then (if a * d < c * b then -1 else if c * b < a * d then 1 else 0) else 0
theorem may_pos {a b : Int} (h : mayR a b = true) : 0 < b := by
  simp only [mayR, decide_eq_true_eq] at h
  exact h.1
theorem may_gcd {a b : Int} (h : mayR a b = true) : Nat.gcd a.natAbs b.natAbs = 1 := by
  simp only [mayR, decide_eq_true_eq] at h
  exact h.2
theorem r15 (a b c d : Int) (ha : I64 a) (hb : I64 b) (hc : I64 c) (hd : I64 d) (hp : Heap) : CL X GV 108 [.agg [.int .i64 a, .int .i64 b], .agg [.int .i64 c, .int .i64 d]] hp = some (.int .i64 (cmpR a b c d), hp) := by
  rw [CL_eq (fn := x108) rfl]
  have a1 := r33 a b ha hb
  have a2 := r33 c d hc hd
  unfold cmpR both
  by_cases h1 : mayR a b = true
  · by_cases h2 : mayR c d = true
    · have hb0 := may_pos h1
      have hd0 := may_pos h2
      have s1 := r31 a ha
      have s2 := r31 c hc
      have ub : u64 b = b.natAbs := by simp only [u64]; unfold I64 at hb; omega
      have ud : u64 d = d.natAbs := by simp only [u64]; unfold I64 at hd; omega
      have a3 := r34 a.natAbs d.natAbs (by unfold I64 at *; omega) (by unfold I64 at *; omega)
      have a5 := r34 c.natAbs b.natAbs (by unfold I64 at *; omega) (by unfold I64 at *; omega)
      have m1 : a.natAbs * d.natAbs ≤ 9223372036854775808 * 9223372036854775808 := Nat.mul_le_mul (by unfold I64 at *; omega) (by unfold I64 at *; omega)
      have m3 : c.natAbs * b.natAbs ≤ 9223372036854775808 * 9223372036854775808 := Nat.mul_le_mul (by unfold I64 at *; omega) (by unfold I64 at *; omega)
      have a6 := r35 (a.natAbs * d.natAbs) (c.natAbs * b.natAbs) (by omega) (by omega)
      have a7 := r35 (c.natAbs * b.natAbs) (a.natAbs * d.natAbs) (by omega) (by omega)
      simp +contextual -implicitDefEqProofs (maxSteps := 10000000) only [x108, go_sem, ↓reduceIte, Nat.reduceEqDiff, Nat.reduceAdd, Int.reduceNeg, big_len, big_all, big_cells, big_agg, big_uf, big_free, big_drop1, big_put, ← big0, a1, a2, h1, h2, s1, s2, ub, ud, a3, a5, a6, a7]
      rw [mul_sgn a d hd0, mul_sgn c b hb0]
      have pa : a ≠ 0 → 0 < a.natAbs * d.natAbs := fun h => Nat.mul_pos (by omega) (by omega)
      have pc : c ≠ 0 → 0 < c.natAbs * b.natAbs := fun h => Nat.mul_pos (by omega) (by omega)
      have pa' : a = 0 → a.natAbs * d.natAbs = 0 := fun h => by subst h; simp
      have pc' : c = 0 → c.natAbs * b.natAbs = 0 := fun h => by subst h; simp
      generalize a.natAbs * d.natAbs = A at *
      generalize c.natAbs * b.natAbs = C at *
      repeat' split
      all_goals first | rfl | omega
    · simp +contextual -implicitDefEqProofs (maxSteps := 10000000) only [x108, go_sem, ↓reduceIte, Nat.reduceEqDiff, Nat.reduceAdd, Int.reduceNeg, a1, a2, h1, h2]
  · by_cases h2 : mayR c d = true
    · simp +contextual -implicitDefEqProofs (maxSteps := 10000000) only [x108, go_sem, ↓reduceIte, Nat.reduceEqDiff, Nat.reduceAdd, Int.reduceNeg, a1, a2, h1, h2]
    · simp +contextual -implicitDefEqProofs (maxSteps := 10000000) only [x108, go_sem, ↓reduceIte, Nat.reduceEqDiff, Nat.reduceAdd, Int.reduceNeg, a1, a2, h1, h2]
end Go.Proofs.YtafeikbbjhmlaaaGreatDoor.Sx.T
namespace Go.Proofs.YtafeikbbjhmlaaaGreatDoor.Sx.T
open Go Go.Proofs.YtafeikbbjhmlaaaGreatDoor.Sx
set_option maxRecDepth 100000
set_option maxHeartbeats 4000000
theorem r28 (n d : Int) (hn : I64 n) (hd : I64 d) (hp : Heap) : CL X GV 130 [.agg [.int .i64 n, .int .i64 d]] hp = some (.bool (mayR n d), hp) := by
  rw [CL_eq (fn := x130) rfl]
  have a1 := r27 n hn
  by_cases h : 0 < d
  · have ud : u64 d = d.natAbs := by simp only [u64]; unfold I64 at hd; omega
    simp +contextual -implicitDefEqProofs (maxSteps := 10000000) only [x130, go_sem, ↓reduceIte, Nat.reduceEqDiff, Nat.reduceAdd, a1, r26, h, ud]
    unfold mayR
    congr 3
    rw [Bool.eq_iff_iff]
    simp [h]
    omega
  · simp +contextual -implicitDefEqProofs (maxSteps := 10000000) only [x130, go_sem, ↓reduceIte, Nat.reduceEqDiff, Nat.reduceAdd, h, mayR, false_and]
theorem r10 (n d : Int) (hn : I64 n) (hd : I64 d) (hp : Heap) : CL X GV 80 [.int .i64 n, .int .i64 d] hp = some (rt (ofR n d), hp) := by
  rw [CL_eq (fn := x80) rfl]
  have a1 := r27 n hn
  have a2 := r27 d hd
  by_cases h0 : d = 0
  · subst h0
    simp +contextual -implicitDefEqProofs (maxSteps := 10000000) only [x80, go_sem, ↓reduceIte, Nat.reduceEqDiff, Nat.reduceAdd]
    rfl
  · have hg : Nat.gcd n.natAbs d.natAbs ≠ 0 := Nat.ne_of_gt (Nat.gcd_pos_of_pos_right _ (by omega))
    rw [← ofR_mk n d h0]
    obtain ⟨P, hP⟩ : ∃ P, n.natAbs / Nat.gcd n.natAbs d.natAbs = P := ⟨_, rfl⟩
    obtain ⟨Q, hQ⟩ : ∃ Q, d.natAbs / Nat.gcd n.natAbs d.natAbs = Q := ⟨_, rfl⟩
    have lP : P ≤ 9223372036854775808 := by rw [← hP]; exact Nat.le_trans (Nat.div_le_self _ _) (by unfold I64 at hn; omega)
    have lQ : Q ≤ 9223372036854775808 := by rw [← hQ]; exact Nat.le_trans (Nat.div_le_self _ _) (by unfold I64 at hd; omega)
    have mP : P % 18446744073709551616 = P := by omega
    have mQ : Q % 18446744073709551616 = Q := by omega
    unfold mk
    generalize hb : (if ¬n = 0 then !decide (n < 0) == decide (d < 0) else false) = b
    rw [bite_f] at hb
    simp only [decide_not] at hb
    have t0 : ((9223372036854775808 : Int) < (P : Int)) = False := by simp; omega
    have t0' : ¬ 9223372036854775808 < P := by omega
    by_cases h1 : 9223372036854775808 ≤ Q
    · have t1 : ((9223372036854775807 : Int) < (Q : Int)) = True := by simp; omega
      simp +contextual -implicitDefEqProofs (maxSteps := 10000000) only [x80, go_sem, ↓reduceIte, reduceCtorEq, Nat.reduceEqDiff, Nat.reduceAdd, Int.reduceBNe, a1, a2, r26, h0, hg, hP, hQ, mP, mQ, t1, h1, true_or, hb]
      rfl
    · have t1 : ((9223372036854775807 : Int) < (Q : Int)) = False := by simp; omega
      have e2 : wr .i64 (Q : Int) = (Q : Int) := wr_i64 _ (by omega)
      have e3 := neg_back P (by omega)
      by_cases h2 : P = 9223372036854775808
      · have t2 : ((P : Int) = (9223372036854775808 : Int)) = True := by simp; omega
        have t2' : (P = 9223372036854775808) = True := by simp [h2]
        simp +contextual -implicitDefEqProofs (maxSteps := 10000000) only [x80, go_sem, ↓reduceIte, reduceCtorEq, Nat.reduceEqDiff, Nat.reduceAdd, Nat.reduceLeDiff, Int.reduceBNe, a1, a2, r26, h0, hg, hP, hQ, mP, mQ, t0, t0', t1, t2, t2', h1, false_or, hb, e2, e3]
        cases b <;> simp_all [rt]
      · have t2 : ((P : Int) = (9223372036854775808 : Int)) = False := by simp; omega
        have e4 : wr .i64 (P : Int) = (P : Int) := wr_i64 _ (by omega)
        simp +contextual -implicitDefEqProofs (maxSteps := 10000000) only [x80, go_sem, ↓reduceIte, reduceCtorEq, Nat.reduceEqDiff, Nat.reduceAdd, Nat.reduceLeDiff, Int.reduceBNe, a1, a2, r26, h0, hg, hP, hQ, mP, mQ, t0, t0', t1, t2, h1, h2, false_or, false_and, hb, e2, e3, e4]
        cases b <;> simp_all [rt]
theorem min_32 : min 32 64 = 32 := rfl
theorem stepB (s : Nat) (hs : s ≤ 18446744073709551615) : ∃ c d, s / 4294967296 = c ∧ s % 4294967296 = d ∧ d < 4294967296 ∧ s = d + 4294967296 * c ∧ c ≤ 4294967295 ∧ c % 18446744073709551616 = c ∧ d % 18446744073709551616 = d ∧ s % 18446744073709551616 = s :=
  ⟨_, _, rfl, rfl, Nat.mod_lt _ (by omega), by omega, by omega, by omega, by omega, by omega⟩
theorem mul_digs (x0 x1 y0 y1 : Nat) : (x0 + 4294967296 * x1) * (y0 + 4294967296 * y1) = x0 * y0 + 4294967296 * (x0 * y1 + x1 * y0) + 18446744073709551616 * (x1 * y1) := by
  rw [Nat.add_mul, Nat.mul_add, Nat.mul_add]
  have p1 : x0 * (4294967296 * y1) = 4294967296 * (x0 * y1) := Nat.mul_left_comm _ _ _
  have p2 : 4294967296 * x1 * y0 = 4294967296 * (x1 * y0) := Nat.mul_assoc _ _ _
  have p3 : 4294967296 * x1 * (4294967296 * y1) = 18446744073709551616 * (x1 * y1) := by
    rw [Nat.mul_assoc, Nat.mul_left_comm x1, ← Nat.mul_assoc]
  rw [p1, p2, p3, Nat.mul_add]
  omega
theorem r42 (a b : Nat) (ha : a < 18446744073709551616) (hb : b < 18446744073709551616) (hp : Heap) : CL X GV 150 [.int .u64 a, .int .u64 b] hp = some (.tup [.int .u64 (a * b / 18446744073709551616 : Nat), .int .u64 (a * b % 18446744073709551616 : Nat)], hp) := by
  rw [CL_eq (fn := x150) rfl]
  simp +contextual -implicitDefEqProofs (maxSteps := 10000000) only [x150, go_sem, ↓reduceIte, reduceCtorEq, Nat.reduceEqDiff, Nat.reduceAdd, Int.reduceLT, Int.reduceToNat, min_32, Nat.reducePow]
  obtain ⟨x1, x0, u1, u2, bx, ex, gx, mx1, mx2, mx3⟩ := stepB a (by omega)
  obtain ⟨y1, y0, v1, v2, bY, ey, gy, my1, my2, my3⟩ := stepB b (by omega)
  simp only [u1, u2, v1, v2, mx2, my2]
  rw [ex, ey, mul_digs]
  have q00 := mul_bound x0 y0 bx bY
  have q01 := mul_bound x0 y1 bx (by omega)
  have q10 := mul_bound x1 y0 (by omega) bY
  have q11 := mul_bound x1 y1 (by omega) (by omega)
  generalize x0 * y0 = p00 at *
  generalize x0 * y1 = p01 at *
  generalize x1 * y0 = p10 at *
  generalize x1 * y1 = p11 at *
  clear ex ey u1 u2 v1 v2 mx1 mx2 my1 my2 mx3 my3
  simp only [Nat.mod_eq_of_lt (show p00 < 18446744073709551616 by omega), Nat.mod_eq_of_lt (show p01 < 18446744073709551616 by omega), Nat.mod_eq_of_lt (show p10 < 18446744073709551616 by omega), Nat.mod_eq_of_lt (show p11 < 18446744073709551616 by omega)]
  obtain ⟨c1, d1, u1, u2, b1, e1, g1, m1, m2, m3⟩ := stepB p00 (by omega)
  simp only [u1]
  obtain ⟨c2, d2, u1, u2, b2, e2, g2, m1, m2, m3⟩ := stepB (p10 + c1) (by omega)
  simp only [u1, u2, m2, m3]
  obtain ⟨c3, d3, u1, u2, b3, e3, g3, m1, m2, m3⟩ := stepB (d2 + p01) (by omega)
  simp only [u1, m3, Nat.mod_eq_of_lt (show p11 + c2 < 18446744073709551616 by omega)]
  have t : p00 + 4294967296 * (p01 + p10) + 18446744073709551616 * p11 = (d1 + 4294967296 * d3) + 18446744073709551616 * (p11 + c2 + c3) := by omega
  rw [t, Nat.add_mul_div_left _ _ (by omega), Nat.div_eq_of_lt (show d1 + 4294967296 * d3 < 18446744073709551616 by omega), Nat.zero_add]
  have t2 : (p11 + c2 + c3) % 18446744073709551616 = p11 + c2 + c3 := Nat.mod_eq_of_lt (by omega)
  rw [t2]
end Go.Proofs.YtafeikbbjhmlaaaGreatDoor.Sx.T
namespace Go.Proofs.YtafeikbbjhmlaaaGreatDoor.Sx.T
open Go Go.Proofs.YtafeikbbjhmlaaaGreatDoor.Sx
set_option maxRecDepth 100000
set_option maxHeartbeats 4000000
def wd (a b : Nat) (m : Bool) : AV := .agg [.int .u64 a, .int .u64 b, .bool m]
theorem nn (x : Nat) : (0 ≤ (x : Int)) = True := by simp
theorem lt64 (x : Nat) (h : x < 18446744073709551616) : ((x : Int) < 18446744073709551616) = True := by simp; omega
theorem bit_ge (x y : Nat) : (0 ≤ if (x : Int) < y then (1 : Int) else 0) = True := eq_true (by split <;> omega)
theorem bit_le (x y : Nat) : ((if (x : Int) < y then (1 : Int) else 0) ≤ 1) = True := eq_true (by split <;> omega)
theorem prim_add (x y k : Int) (h : 0 ≤ x ∧ 0 ≤ y ∧ 0 ≤ k ∧ k ≤ 1) : primX 0 [.int .u64 x, .int .u64 y, .int .u64 k] = some (.tup [.int .u64 ((x + y + k) % 18446744073709551616), .int .u64 ((x + y + k) / 18446744073709551616)]) := if_pos h
theorem prim_sub (x y k : Int) (h : 0 ≤ x ∧ x < 18446744073709551616 ∧ 0 ≤ y ∧ y < 18446744073709551616 ∧ 0 ≤ k ∧ k ≤ 1) : primX 1 [.int .u64 x, .int .u64 y, .int .u64 k] = some (.tup [.int .u64 ((x - y - k) % 18446744073709551616), .int .u64 (if x < y + k then 1 else 0)]) := if_pos h
def W (n : Nat) (m : Bool) : AV := .agg [.int .u64 (n / 18446744073709551616 : Nat), .int .u64 (n % 18446744073709551616 : Nat), .bool m]
theorem r36 (a b : Int) (ha : I64 a) (hb : I64 b) (hp : Heap) : CL X GV 131 [.int .i64 a, .int .i64 b] hp = some (W (a.natAbs * b.natAbs) (decide (a < 0) != decide (b < 0)), hp) := by
  rw [CL_eq (fn := x131) rfl]
  have a1 := r27 a ha
  have a2 := r27 b hb
  have a3 := r42 a.natAbs b.natAbs (by unfold I64 at *; omega) (by unfold I64 at *; omega)
  simp +contextual -implicitDefEqProofs (maxSteps := 10000000) only [x131, go_sem, ↓reduceIte, reduceCtorEq, Nat.reduceEqDiff, Nat.reduceAdd, Nat.reduceLeDiff, a1, a2, a3]
  rfl
theorem wsplit (n : Nat) (hn : n < 170141183460469231731687303715884105728) : ∃ c d, n / 18446744073709551616 = c ∧ n % 18446744073709551616 = d ∧ d < 18446744073709551616 ∧ c < 18446744073709551616 ∧ n = d + 18446744073709551616 * c := ⟨_, _, rfl, rfl, Nat.mod_lt _ (by omega), by omega, by omega⟩
theorem r37 (n k : Nat) (m l : Bool) (hn : n < 170141183460469231731687303715884105728) (hk : k < 170141183460469231731687303715884105728) (hp : Heap) :
    CL X GV 132 [W n m, W k l] hp = some (if m = l then W (n + k) m else if n < k then W (k - n) l else W (n - k) m, hp) := by
  rw [CL_eq (fn := x132) rfl]
  obtain ⟨n1, n0, hn1, hn0, bn, b1, en⟩ := wsplit n hn
  obtain ⟨k1, k0, hk1, hk0, bk, b2, ek⟩ := wsplit k hk
  unfold W
  rw [hn1, hn0, hk1, hk0]
  by_cases hm : m = l
  · have g : (0 ≤ ((n0 : Int) + k0) / 18446744073709551616 ∧ ((n0 : Int) + k0) / 18446744073709551616 ≤ 1) = True := eq_true (by omega)
    rw [if_pos hm]
    simp +contextual -implicitDefEqProofs (maxSteps := 10000000) only [x132, go_sem, ↓reduceIte, Nat.reduceEqDiff, Nat.reduceAdd, Nat.reduceLeDiff, Int.reduceLE, prim_add, hm, nn, g]
    simp only [Option.some.injEq, Prod.mk.injEq, AV.agg.injEq, List.cons.injEq, AV.int.injEq, true_and, and_true]
    omega
  · rw [if_neg hm]
    rcases Nat.lt_trichotomy n1 k1 with h1 | h1 | h1
    · have l1 : ((n1 : Int) < k1) = True := eq_true (by omega)
      rw [if_pos (by omega)]
      simp +contextual -implicitDefEqProofs (maxSteps := 10000000) only [x132, go_sem, ↓reduceIte, Nat.reduceEqDiff, Nat.reduceAdd, Nat.reduceLeDiff, Int.reduceLE, prim_sub, hm, nn, l1, lt64 _ bn, lt64 _ bk, lt64 _ b1, lt64 _ b2, bit_ge, bit_le]
      simp only [Option.some.injEq, Prod.mk.injEq, AV.agg.injEq, List.cons.injEq, AV.int.injEq, true_and, and_true]
      split <;> omega
    · subst h1
      by_cases h2 : n0 < k0
      · have l1 : ((n0 : Int) < k0) = True := eq_true (by omega)
        rw [if_pos (by omega)]
        simp +contextual -implicitDefEqProofs (maxSteps := 10000000) only [x132, go_sem, ↓reduceIte, Nat.reduceEqDiff, Nat.reduceAdd, Nat.reduceLeDiff, Int.reduceLE, prim_sub, hm, nn, Int.lt_irrefl, l1, lt64 _ bn, lt64 _ bk, lt64 _ b1, bit_ge, bit_le]
        simp only [Option.some.injEq, Prod.mk.injEq, AV.agg.injEq, List.cons.injEq, AV.int.injEq, true_and, and_true]
        try split
        all_goals omega
      · have l1 : ((n0 : Int) < k0) = False := eq_false (by omega)
        rw [if_neg (by omega)]
        simp +contextual -implicitDefEqProofs (maxSteps := 10000000) only [x132, go_sem, ↓reduceIte, Nat.reduceEqDiff, Nat.reduceAdd, Nat.reduceLeDiff, Int.reduceLE, prim_sub, hm, nn, Int.lt_irrefl, l1, lt64 _ bn, lt64 _ bk, lt64 _ b1]
        simp only [Option.some.injEq, Prod.mk.injEq, AV.agg.injEq, List.cons.injEq, AV.int.injEq, true_and, and_true]
        try split
        all_goals omega
    · have l1 : ((n1 : Int) < k1) = False := eq_false (by omega)
      have l2 : ((n1 : Int) = k1) = False := eq_false (by omega)
      rw [if_neg (by omega)]
      simp +contextual -implicitDefEqProofs (maxSteps := 10000000) only [x132, go_sem, ↓reduceIte, Nat.reduceEqDiff, Nat.reduceAdd, Nat.reduceLeDiff, Int.reduceLE, prim_sub, hm, nn, l1, l2, lt64 _ bn, lt64 _ bk, lt64 _ b1, lt64 _ b2, bit_ge, bit_le]
      simp only [Option.some.injEq, Prod.mk.injEq, AV.agg.injEq, List.cons.injEq, AV.int.injEq, true_and, and_true]
      split <;> omega
end Go.Proofs.YtafeikbbjhmlaaaGreatDoor.Sx.T
namespace Go.Proofs.YtafeikbbjhmlaaaGreatDoor.Sx.T
open Go Go.Proofs.YtafeikbbjhmlaaaGreatDoor.Sx
set_option maxRecDepth 100000
set_option maxHeartbeats 4000000
end Go.Proofs.YtafeikbbjhmlaaaGreatDoor.Sx.T
namespace Go.Proofs.YtafeikbbjhmlaaaGreatDoor.Sx.T
open Go Go.Proofs.YtafeikbbjhmlaaaGreatDoor.Sx
set_option maxRecDepth 100000
set_option maxHeartbeats 4000000
end Go.Proofs.YtafeikbbjhmlaaaGreatDoor.Sx.T
namespace Go.Proofs.YtafeikbbjhmlaaaGreatDoor.Sx.T
open Go Go.Proofs.YtafeikbbjhmlaaaGreatDoor.Sx
set_option maxRecDepth 100000
set_option maxHeartbeats 4000000
end Go.Proofs.YtafeikbbjhmlaaaGreatDoor.Sx.T
namespace Go.Proofs.YtafeikbbjhmlaaaGreatDoor.Sx.T
open Go Go.Proofs.YtafeikbbjhmlaaaGreatDoor.Sx
set_option maxRecDepth 100000
set_option maxHeartbeats 4000000
def sv (m : Bool) (n : Nat) : Int := if m = true then -(n : Int) else n
theorem sum_w (A C : Nat) (m k : Bool) (hA : A < 170141183460469231731687303715884105728) (hC : C < 170141183460469231731687303715884105728) :
    ∃ tn tf, (∀ hp, CL X GV 132 [W A m, W C k] hp = some (W tn tf, hp)) ∧ tn ≤ A + C ∧ sv tf tn = sv m A + sv k C := by
  by_cases h : m = k
  · refine ⟨A + C, m, fun hp => by rw [r37 A C m k hA hC, if_pos h], by omega, ?_⟩
    subst h
    cases m <;> simp [sv] <;> omega
  · by_cases h2 : A < C
    · refine ⟨C - A, k, fun hp => by rw [r37 A C m k hA hC, if_neg h, if_pos h2], by omega, ?_⟩
      cases m <;> cases k <;> simp [sv] at h ⊢ <;> omega
    · refine ⟨A - C, m, fun hp => by rw [r37 A C m k hA hC, if_neg h, if_neg h2], by omega, ?_⟩
      cases m <;> cases k <;> simp [sv] at h ⊢ <;> omega
end Go.Proofs.YtafeikbbjhmlaaaGreatDoor.Sx.T
namespace Go.Proofs.YtafeikbbjhmlaaaGreatDoor.Sx.T
open Go Go.Proofs.YtafeikbbjhmlaaaGreatDoor.Sx
set_option maxRecDepth 100000
set_option maxHeartbeats 4000000
end Go.Proofs.YtafeikbbjhmlaaaGreatDoor.Sx.T
namespace Go.Proofs.YtafeikbbjhmlaaaGreatDoor.Sx.T
open Go Go.Proofs.YtafeikbbjhmlaaaGreatDoor.Sx
set_option maxRecDepth 100000
set_option maxHeartbeats 4000000
end Go.Proofs.YtafeikbbjhmlaaaGreatDoor.Sx.T
namespace Go.Proofs.YtafeikbbjhmlaaaGreatDoor.Sx.T
open Go Go.Proofs.YtafeikbbjhmlaaaGreatDoor.Sx
set_option maxRecDepth 100000
set_option maxHeartbeats 4000000
theorem may_same {a b c d : Int} (h1 : mayR a b = true) (h2 : mayR c d = true) (h : a * d = c * b) : a = c ∧ b = d := by
  have p1 := may_pos h1
  have p2 := may_pos h2
  have g1 := may_gcd h1
  have g2 := may_gcd h2
  have e : a.natAbs * d.natAbs = c.natAbs * b.natAbs := by rw [← Int.natAbs_mul, ← Int.natAbs_mul, h]
  have d1 : b.natAbs ∣ d.natAbs := Nat.Coprime.dvd_of_dvd_mul_left (show Nat.Coprime b.natAbs a.natAbs from (Nat.gcd_comm _ _).trans g1) ⟨c.natAbs, by rw [e, Nat.mul_comm]⟩
  have d2 : d.natAbs ∣ b.natAbs := Nat.Coprime.dvd_of_dvd_mul_left (show Nat.Coprime d.natAbs c.natAbs from (Nat.gcd_comm _ _).trans g2) ⟨a.natAbs, by rw [← e, Nat.mul_comm]⟩
  have e2 : b.natAbs = d.natAbs := Nat.dvd_antisymm d1 d2
  have e3 : b = d := by omega
  subst e3
  exact ⟨Int.eq_of_mul_eq_mul_right (by omega) h, rfl⟩
theorem r17 (a b c d : Int) (ha : I64 a) (hb : I64 b) (hc : I64 c) (hd : I64 d) (hp : Heap) : CL X GV 102 [.agg [.int .i64 a, .int .i64 b], .agg [.int .i64 c, .int .i64 d]] hp = some (.int .i64 (cmpR a b c d), hp) := by
  rw [CL_eq (fn := x102) rfl]
  have a1 := r28 a b ha hb
  have a2 := r28 c d hc hd
  unfold cmpR both
  by_cases h1 : mayR a b = true
  · by_cases h2 : mayR c d = true
    · by_cases h3 : a = c ∧ b = d
      · obtain ⟨rfl, rfl⟩ := h3
        simp +contextual -implicitDefEqProofs (maxSteps := 10000000) only [x102, go_sem, ↓reduceIte, Nat.reduceEqDiff, Nat.reduceAdd, Int.reduceNeg, a1, h1, Int.lt_irrefl]
      · have p1 := may_pos h1
        have p2 := may_pos h2
        have nb : (b < 0) = False := eq_false (by omega)
        have nd : (d < 0) = False := eq_false (by omega)
        have h36a : ∀ hp, CL X GV 131 [.int .i64 a, .int .i64 d] hp = some (W (a.natAbs * d.natAbs) (decide (a < 0)), hp) := fun hp => by
          rw [r36 a d ha hd]; simp only [nd, decide_false, Bool.bne_false]
        have h36c : ∀ hp, CL X GV 131 [.int .i64 c, .int .i64 b] hp = some (W (c.natAbs * b.natAbs) (decide (c < 0)), hp) := fun hp => by
          rw [r36 c b hc hb]; simp only [nb, decide_false, Bool.bne_false]
        have m1 : a.natAbs * d.natAbs ≤ 9223372036854775808 * 9223372036854775807 := Nat.mul_le_mul (by unfold I64 at *; omega) (by unfold I64 at *; omega)
        have m2 : c.natAbs * b.natAbs ≤ 9223372036854775808 * 9223372036854775807 := Nat.mul_le_mul (by unfold I64 at *; omega) (by unfold I64 at *; omega)
        obtain ⟨tn, tf, h37, lt, hT⟩ := sum_w (a.natAbs * d.natAbs) (c.natAbs * b.natAbs) (decide (a < 0)) (!decide (c < 0)) (by omega) (by omega)
        have ne : a * d ≠ c * b := fun h => h3 (may_same h1 h2 h)
        have eT : sv tf tn = a * d - c * b := by
          rw [hT, mul_sgn a d p2, mul_sgn c b p1]
          by_cases q1 : a < 0 <;> by_cases q2 : c < 0 <;> simp [sv, q1, q2] <;> omega
        have h3' : ((a == c) && (b == d)) = false := by
          apply Bool.eq_false_iff.2
          intro h
          simp only [Bool.and_eq_true, beq_iff_eq] at h
          exact h3 h
        simp only [W] at h36a h36c h37
        cases tf
        · have l1 : ¬ a * d < c * b := by simp [sv] at eT; omega
          have l2 : c * b < a * d := by simp [sv] at eT; omega
          simp +contextual -implicitDefEqProofs (maxSteps := 10000000) only [x102, go_sem, ↓reduceIte, Nat.reduceEqDiff, Nat.reduceAdd, Int.reduceNeg, a1, a2, h1, h2, h3', h36a, h36c, h37, l1, l2]
        · have l1 : a * d < c * b := by simp [sv] at eT; omega
          simp +contextual -implicitDefEqProofs (maxSteps := 10000000) only [x102, go_sem, ↓reduceIte, Nat.reduceEqDiff, Nat.reduceAdd, Int.reduceNeg, a1, a2, h1, h2, h3', h36a, h36c, h37, l1]
    · simp +contextual -implicitDefEqProofs (maxSteps := 10000000) only [x102, go_sem, ↓reduceIte, Nat.reduceEqDiff, Nat.reduceAdd, Int.reduceNeg, a1, a2, h1, h2]
  · by_cases h2 : mayR c d = true
    · simp +contextual -implicitDefEqProofs (maxSteps := 10000000) only [x102, go_sem, ↓reduceIte, Nat.reduceEqDiff, Nat.reduceAdd, Int.reduceNeg, a1, h1, h2]
    · simp +contextual -implicitDefEqProofs (maxSteps := 10000000) only [x102, go_sem, ↓reduceIte, Nat.reduceEqDiff, Nat.reduceAdd, Int.reduceNeg, a1, h1, h2]
end Go.Proofs.YtafeikbbjhmlaaaGreatDoor.Sx.T
namespace Go.Proofs.YtafeikbbjhmlaaaGreatDoor.Sx.T
open Go Go.Proofs.YtafeikbbjhmlaaaGreatDoor.Sx
set_option maxRecDepth 100000
set_option maxHeartbeats 4000000
end Go.Proofs.YtafeikbbjhmlaaaGreatDoor.Sx.T
