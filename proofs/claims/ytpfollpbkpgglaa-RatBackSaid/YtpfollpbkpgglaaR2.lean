/- Layer 1, part 2: numbers of four digits. -/
import Derived.Test.YtpfollpbkpgglaaR1
set_option linter.unusedVariables false
set_option linter.unusedSimpArgs false
namespace Go.Proofs.Ytpfollpbkpgglaa.Sx.T
open Go Go.Proofs.Ytpfollpbkpgglaa.Sx
set_option maxRecDepth 100000
set_option maxHeartbeats 4000000
theorem r47d (a b c d x y z t : Nat) (ha : a < 4294967296) (hb : b < 4294967296) (hc : c < 4294967296) (hd : d < 4294967296) (hx : x < 4294967296) (hy : y < 4294967296) (hz : z < 4294967296) (ht : t < 4294967296) (hp : Heap) :
    CL X G0 47 [dig a b c d, dig x y z t] hp = some (dig ((a + x) % 4294967296) ((b + y + (a + x) / 4294967296) % 4294967296) ((c + z + (b + y + (a + x) / 4294967296) / 4294967296) % 4294967296)
      ((d + t + (c + z + (b + y + (a + x) / 4294967296) / 4294967296) / 4294967296) % 4294967296), hp) := by
  rw [CL_eq (fn := x47) rfl]
  simp (config := {contextual := true, maxSteps := 10000000, implicitDefEqProofs := false}) only [x47, x47_l0_run, LC_loop, dig, go_sem, ↓reduceIte, reduceCtorEq, Nat.reduceEqDiff, Nat.reduceAdd, Nat.reduceLeDiff, Nat.reduceMul, Int.reduceEq, Int.reduceLT, Int.reduceLE, Int.reduceAdd, Int.reduceSub, Int.reduceMul, Int.reduceNeg, Int.reduceToNat, Int.reduceNe, Int.reduceBEq, Int.reduceBNe, Nat.reduceLT, Nat.reduceSub, Nat.reduceDiv, Nat.reduceMod, Int.reduceTDiv, Int.reduceTMod]
  simp (disch := omega) only [Nat.mod_eq_of_lt]
theorem r47 (a b : Nat) (hp : Heap) : CL X G0 47 [big a, big b] hp = some (big (a + b), hp) := by
  obtain ⟨a0, a1, a2, a3, h0, h1, h2, h3, e, f⟩ := dig_big a
  obtain ⟨b0, b1, b2, b3, g0, g1, g2, g3, e', f'⟩ := dig_big b
  rw [e, e', r47d _ _ _ _ _ _ _ _ h0 h1 h2 h3 g0 g1 g2 g3, ← big_mod (a + b), Nat.add_mod a b, f, f']
  have k1 := Nat.mod_add_div (a0 + b0) 4294967296
  generalize (a0 + b0) / 4294967296 = c1 at *
  have k2 := Nat.mod_add_div (a1 + b1 + c1) 4294967296
  generalize (a1 + b1 + c1) / 4294967296 = c2 at *
  have k3 := Nat.mod_add_div (a2 + b2 + c2) 4294967296
  generalize (a2 + b2 + c2) / 4294967296 = c3 at *
  have k4 := Nat.mod_add_div (a3 + b3 + c3) 4294967296
  have m1 := Nat.mod_lt (a0 + b0) (show 0 < 4294967296 by omega)
  have m2 := Nat.mod_lt (a1 + b1 + c1) (show 0 < 4294967296 by omega)
  have m3 := Nat.mod_lt (a2 + b2 + c2) (show 0 < 4294967296 by omega)
  have m4 := Nat.mod_lt (a3 + b3 + c3) (show 0 < 4294967296 by omega)
  generalize (a3 + b3 + c3) / 4294967296 = c4 at *
  generalize (a0 + b0) % 4294967296 = d0 at *
  generalize (a1 + b1 + c1) % 4294967296 = d1 at *
  generalize (a2 + b2 + c2) % 4294967296 = d2 at *
  generalize (a3 + b3 + c3) % 4294967296 = d3 at *
  rw [← big_dig _ _ _ _ m1 m2 m3 m4]
  have t : a0 + 4294967296 * (a1 + 4294967296 * (a2 + 4294967296 * a3)) + (b0 + 4294967296 * (b1 + 4294967296 * (b2 + 4294967296 * b3))) =
      d0 + 4294967296 * (d1 + 4294967296 * (d2 + 4294967296 * d3)) + 340282366920938463463374607431768211456 * c4 := by omega
  rw [t, Nat.add_mul_mod_self_left, Nat.mod_eq_of_lt (show d0 + 4294967296 * (d1 + 4294967296 * (d2 + 4294967296 * d3)) < 340282366920938463463374607431768211456 by omega)]
theorem r48d (a b c d x y z t : Nat) (ha : a < 4294967296) (hb : b < 4294967296) (hc : c < 4294967296) (hd : d < 4294967296) (hx : x < 4294967296) (hy : y < 4294967296) (hz : z < 4294967296) (ht : t < 4294967296) (hp : Heap) :
    CL X G0 48 [dig a b c d, dig x y z t] hp = some (dig ((a + 4294967296 - x) % 4294967296) ((b + 4294967296 - y - (1 - (a + 4294967296 - x) / 4294967296)) % 4294967296)
      ((c + 4294967296 - z - (1 - (b + 4294967296 - y - (1 - (a + 4294967296 - x) / 4294967296)) / 4294967296)) % 4294967296)
      ((d + 4294967296 - t - (1 - (c + 4294967296 - z - (1 - (b + 4294967296 - y - (1 - (a + 4294967296 - x) / 4294967296)) / 4294967296)) / 4294967296)) % 4294967296), hp) := by
  rw [CL_eq (fn := x48) rfl]
  simp (config := {contextual := true, maxSteps := 10000000, implicitDefEqProofs := false}) only [x48, x48_l0_run, LC_loop, dig, go_sem, ↓reduceIte, reduceCtorEq, Nat.reduceEqDiff, Nat.reduceAdd, Nat.reduceLeDiff, Nat.reduceMul, Int.reduceEq, Int.reduceLT, Int.reduceLE, Int.reduceAdd, Int.reduceSub, Int.reduceMul, Int.reduceNeg, Int.reduceToNat, Int.reduceNe, Int.reduceBEq, Int.reduceBNe, Nat.reduceLT, Nat.reduceSub, Nat.reduceDiv, Nat.reduceMod, Int.reduceTDiv, Int.reduceTMod]
  simp (disch := omega) only [Nat.mod_eq_of_lt, u64_sub]
theorem r48 (a b : Nat) (ha : a < 340282366920938463463374607431768211456) (hb : b ≤ a) (hp : Heap) : CL X G0 48 [big a, big b] hp = some (big (a - b), hp) := by
  obtain ⟨a0, a1, a2, a3, h0, h1, h2, h3, e, f⟩ := dig_big a
  obtain ⟨b0, b1, b2, b3, g0, g1, g2, g3, e', f'⟩ := dig_big b
  rw [e, e', r48d _ _ _ _ _ _ _ _ h0 h1 h2 h3 g0 g1 g2 g3]
  rw [Nat.mod_eq_of_lt ha] at f
  rw [Nat.mod_eq_of_lt (by omega)] at f'
  subst f f'
  have k1 := Nat.mod_add_div (a0 + 4294967296 - b0) 4294967296
  have m1 := Nat.mod_lt (a0 + 4294967296 - b0) (show 0 < 4294967296 by omega)
  have n1 : (a0 + 4294967296 - b0) / 4294967296 ≤ 1 := by omega
  generalize (a0 + 4294967296 - b0) / 4294967296 = c1 at *
  have k2 := Nat.mod_add_div (a1 + 4294967296 - b1 - (1 - c1)) 4294967296
  have m2 := Nat.mod_lt (a1 + 4294967296 - b1 - (1 - c1)) (show 0 < 4294967296 by omega)
  have n2 : (a1 + 4294967296 - b1 - (1 - c1)) / 4294967296 ≤ 1 := by omega
  generalize (a1 + 4294967296 - b1 - (1 - c1)) / 4294967296 = c2 at *
  have k3 := Nat.mod_add_div (a2 + 4294967296 - b2 - (1 - c2)) 4294967296
  have m3 := Nat.mod_lt (a2 + 4294967296 - b2 - (1 - c2)) (show 0 < 4294967296 by omega)
  have n3 : (a2 + 4294967296 - b2 - (1 - c2)) / 4294967296 ≤ 1 := by omega
  generalize (a2 + 4294967296 - b2 - (1 - c2)) / 4294967296 = c3 at *
  have k4 := Nat.mod_add_div (a3 + 4294967296 - b3 - (1 - c3)) 4294967296
  have m4 := Nat.mod_lt (a3 + 4294967296 - b3 - (1 - c3)) (show 0 < 4294967296 by omega)
  have n4 : (a3 + 4294967296 - b3 - (1 - c3)) / 4294967296 ≤ 1 := by omega
  generalize (a3 + 4294967296 - b3 - (1 - c3)) / 4294967296 = c4 at *
  generalize (a0 + 4294967296 - b0) % 4294967296 = d0 at *
  generalize (a1 + 4294967296 - b1 - (1 - c1)) % 4294967296 = d1 at *
  generalize (a2 + 4294967296 - b2 - (1 - c2)) % 4294967296 = d2 at *
  generalize (a3 + 4294967296 - b3 - (1 - c3)) % 4294967296 = d3 at *
  rw [← big_dig _ _ _ _ m1 m2 m3 m4]
  congr 3
  omega
theorem mul_bound (a b : Nat) (ha : a < 4294967296) (hb : b < 4294967296) : a * b ≤ 18446744065119617025 := Nat.mul_le_mul (Nat.le_of_lt_succ ha : a ≤ 4294967295) (Nat.le_of_lt_succ hb : b ≤ 4294967295)
theorem r34 (x y : Nat) (hx : x < 18446744073709551616) (hy : y < 18446744073709551616) (hp : Heap) : CL X G0 34 [.int .u64 x, .int .u64 y] hp = some (big (x * y), hp) := by
  rw [CL_eq (fn := x34) rfl]
  have h0 := r30 x hx
  have h1 := r30 y hy
  have kx := Nat.mod_add_div x 4294967296
  have ky := Nat.mod_add_div y 4294967296
  have mx := Nat.mod_lt x (show 0 < 4294967296 by omega)
  have my := Nat.mod_lt y (show 0 < 4294967296 by omega)
  simp only [big, Nat.div_div_eq_div_mul, Nat.reduceMul, Nat.div_eq_of_lt hx, Nat.div_eq_of_lt hy, Nat.zero_div, Nat.zero_mod] at h0 h1
  rw [Nat.mod_eq_of_lt (by omega : x / 4294967296 < 4294967296)] at h0
  rw [Nat.mod_eq_of_lt (by omega : y / 4294967296 < 4294967296)] at h1
  have bx : x / 4294967296 < 4294967296 := by omega
  have bY : y / 4294967296 < 4294967296 := by omega
  simp (config := {contextual := true, maxSteps := 10000000, implicitDefEqProofs := false}) only [x34, x34_l0_run, x34_l1_run, LC_loop, h0, h1, dig, go_sem, ↓reduceIte, reduceCtorEq, Nat.reduceEqDiff, Nat.reduceAdd, Nat.reduceLeDiff, Nat.reduceMul, Int.reduceEq, Int.reduceLT, Int.reduceLE, Int.reduceAdd, Int.reduceSub, Int.reduceMul, Int.reduceNeg, Int.reduceToNat, Int.reduceNe, Int.reduceBEq, Int.reduceBNe, Nat.reduceLT, Nat.reduceSub, Nat.reduceDiv, Nat.reduceMod, Int.reduceTDiv, Int.reduceTMod]
  generalize x % 4294967296 = x0 at *
  generalize y % 4294967296 = y0 at *
  generalize x / 4294967296 = x1 at *
  generalize y / 4294967296 = y1 at *
  have e : x * y = x0 * y0 + 4294967296 * (x0 * y1 + x1 * y0) + 18446744073709551616 * (x1 * y1) := by
    rw [← kx, ← ky, Nat.add_mul, Nat.mul_add, Nat.mul_add]
    have p1 : x0 * (4294967296 * y1) = 4294967296 * (x0 * y1) := Nat.mul_left_comm _ _ _
    have p2 : 4294967296 * x1 * y0 = 4294967296 * (x1 * y0) := Nat.mul_assoc _ _ _
    have p3 : 4294967296 * x1 * (4294967296 * y1) = 18446744073709551616 * (x1 * y1) := by
      rw [Nat.mul_assoc, Nat.mul_left_comm x1, ← Nat.mul_assoc]
    rw [p1, p2, p3, Nat.mul_add]
    omega
  have q00 := mul_bound x0 y0 mx my
  have q01 := mul_bound x0 y1 mx bY
  have q10 := mul_bound x1 y0 bx my
  have q11 := mul_bound x1 y1 bx bY
  rw [e]
  clear e h0 h1 kx ky
  generalize x0 * y0 = p00 at *
  generalize x0 * y1 = p01 at *
  generalize x1 * y0 = p10 at *
  generalize x1 * y1 = p11 at *
  simp only [Nat.mod_mod]
  have step : ∀ s, s ≤ 18446744073709551615 → ∃ c d, s / 4294967296 = c ∧ s % 4294967296 = d ∧ d < 4294967296 ∧ s = d + 4294967296 * c ∧ c ≤ 4294967295 ∧ c % 18446744073709551616 = c ∧ d % 18446744073709551616 = d ∧ s % 18446744073709551616 = s := fun s hs =>
    ⟨_, _, rfl, rfl, Nat.mod_lt _ (by omega), by omega, by omega, by omega, by omega, by omega⟩
  obtain ⟨c1, d0, u1, u2, b1, e1, g1, m1, m2, m3⟩ := step p00 (by omega)
  simp only [u1, u2, m1, m2, m3, Nat.mod_eq_of_lt (show p01 < 18446744073709551616 by omega), Nat.mod_eq_of_lt (show p10 < 18446744073709551616 by omega), Nat.mod_eq_of_lt (show p11 < 18446744073709551616 by omega)]
  obtain ⟨c2, d1, u1, u2, b2, e2, g2, m1, m2, m3⟩ := step (p01 + c1) (by omega)
  simp only [u1, u2, m1, m2, m3]
  obtain ⟨c3, d2, u1, u2, b3, e3, g3, m1, m2, m3⟩ := step (d1 + p10) (by omega)
  simp only [u1, u2, m1, m2, m3, Nat.mod_eq_of_lt (show c2 + p11 < 18446744073709551616 by omega)]
  obtain ⟨c4, d3, u1, u2, b4, e4, g4, m1, m2, m3⟩ := step (c2 + p11 + c3) (by omega)
  simp only [u1, u2, m1, m2, m3]
  have z : c4 < 4294967296 := by omega
  rw [show p00 + 4294967296 * (p01 + p10) + 18446744073709551616 * p11 = d0 + 4294967296 * (d2 + 4294967296 * (d3 + 4294967296 * c4)) by omega, big_dig _ _ _ _ b1 b3 b4 z]
  rfl
end Go.Proofs.Ytpfollpbkpgglaa.Sx.T
