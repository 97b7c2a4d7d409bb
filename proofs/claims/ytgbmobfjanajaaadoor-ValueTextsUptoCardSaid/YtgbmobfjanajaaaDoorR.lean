/- Layer 1, part 1: what the functions of whole numbers answer. -/
import Derived.Test.YtgbmobfjanajaaaDoorEvB
import Derived.Test.YtgbmobfjanajaaaDoorGV
import Derived.Test.YtgbmobfjanajaaaDoorSxRun
set_option linter.unusedVariables false
set_option linter.unusedSimpArgs false
namespace Go.Proofs.YtgbmobfjanajaaaDoor.Sx.T
open Go Go.Proofs.YtgbmobfjanajaaaDoor.Sx
set_option maxRecDepth 100000
set_option maxHeartbeats 4000000
theorem r27 (n : Int) (h : -9223372036854775808 ≤ n ∧ n < 9223372036854775808) (hp : Heap) : CL X GV 40 [.int .i64 n] hp = some (.int .u64 (n.natAbs : Int), hp) := by
  rw [CL_eq (fn := x40) rfl]
  simp (config := {contextual := true, maxSteps := 10000000, implicitDefEqProofs := false}) only [x40, go_sem, ↓reduceIte, reduceCtorEq, Nat.reduceEqDiff, Nat.reduceAdd, Nat.reduceLeDiff, Nat.reduceMul, Int.reduceEq, Int.reduceLT, Int.reduceLE, Int.reduceAdd, Int.reduceSub, Int.reduceMul, Int.reduceNeg, Int.reduceToNat, Int.reduceNe, Int.reduceBEq, Int.reduceBNe, Nat.reduceLT, Nat.reduceSub, Nat.reduceDiv, Nat.reduceMod, Int.reduceTDiv, Int.reduceTMod]
  split <;> simp only [Option.some.injEq, Prod.mk.injEq, AV.int.injEq, true_and, and_true] <;> simp only [u64] <;> omega
theorem l26 (a : Nat) : ∀ (b : Nat) (fr : List AV) (hp : Heap), fget fr 0 = .int .u64 a → fget fr 1 = .int .u64 b →
    ∃ fr', LC X GV (.loop x39_l0) ⟨fr, hp⟩ = some (.exit 0, ⟨fr', hp⟩) ∧ fget fr' 0 = .int .u64 (Nat.gcd a b : Nat) := by
  intro b
  induction b using Nat.strongRecOn generalizing a with
  | ind b ih =>
    intro fr hp h0 h1
    rw [LC_loop]
    by_cases hb : b = 0
    · subst hb
      simp (config := {contextual := true, maxSteps := 10000000, implicitDefEqProofs := false}) only [x39_l0_run, go_sem, ↓reduceIte, reduceCtorEq, Nat.reduceEqDiff, Nat.reduceAdd, Nat.reduceLeDiff, Nat.reduceMul, Int.reduceEq, Int.reduceLT, Int.reduceLE, Int.reduceAdd, Int.reduceSub, Int.reduceMul, Int.reduceNeg, Int.reduceToNat, Int.reduceNe, Int.reduceBEq, Int.reduceBNe, Nat.reduceLT, Nat.reduceSub, Nat.reduceDiv, Nat.reduceMod, Int.reduceTDiv, Int.reduceTMod, h0, h1]
      exact ⟨_, rfl, by simp only [go_sem, ↓reduceIte, reduceCtorEq, Nat.reduceEqDiff, Nat.reduceAdd, Nat.reduceLeDiff, Nat.reduceMul, Int.reduceEq, Int.reduceLT, Int.reduceLE, Int.reduceAdd, Int.reduceSub, Int.reduceMul, Int.reduceNeg, Int.reduceToNat, Int.reduceNe, Int.reduceBEq, Int.reduceBNe, Nat.reduceLT, Nat.reduceSub, Nat.reduceDiv, Nat.reduceMod, Int.reduceTDiv, Int.reduceTMod, h0]; simp⟩
    · simp (config := {contextual := true, maxSteps := 10000000, implicitDefEqProofs := false}) only [x39_l0_run, go_sem, ↓reduceIte, reduceCtorEq, Nat.reduceEqDiff, Nat.reduceAdd, Nat.reduceLeDiff, Nat.reduceMul, Int.reduceEq, Int.reduceLT, Int.reduceLE, Int.reduceAdd, Int.reduceSub, Int.reduceMul, Int.reduceNeg, Int.reduceToNat, Int.reduceNe, Int.reduceBEq, Int.reduceBNe, Nat.reduceLT, Nat.reduceSub, Nat.reduceDiv, Nat.reduceMod, Int.reduceTDiv, Int.reduceTMod, h0, h1, hb]
      rw [show Nat.gcd a b = Nat.gcd b (a % b) by rw [Nat.gcd_comm b, ← Nat.gcd_rec, Nat.gcd_comm]]
      refine ih (a % b) (Nat.mod_lt _ (Nat.pos_of_ne_zero hb)) b _ hp ?_ ?_ <;> simp only [go_sem, ↓reduceIte, reduceCtorEq, Nat.reduceEqDiff, Nat.reduceAdd, Nat.reduceLeDiff, Nat.reduceMul, Int.reduceEq, Int.reduceLT, Int.reduceLE, Int.reduceAdd, Int.reduceSub, Int.reduceMul, Int.reduceNeg, Int.reduceToNat, Int.reduceNe, Int.reduceBEq, Int.reduceBNe, Nat.reduceLT, Nat.reduceSub, Nat.reduceDiv, Nat.reduceMod, Int.reduceTDiv, Int.reduceTMod]
theorem r26 (a b : Nat) (hp : Heap) : CL X GV 39 [.int .u64 a, .int .u64 b] hp = some (.int .u64 (Nat.gcd a b : Nat), hp) := by
  rw [CL_eq (fn := x39) rfl]
  simp (config := {contextual := true, maxSteps := 10000000, implicitDefEqProofs := false}) only [x39, go_sem, ↓reduceIte, reduceCtorEq, Nat.reduceEqDiff, Nat.reduceAdd, Nat.reduceLeDiff, Nat.reduceMul, Int.reduceEq, Int.reduceLT, Int.reduceLE, Int.reduceAdd, Int.reduceSub, Int.reduceMul, Int.reduceNeg, Int.reduceToNat, Int.reduceNe, Int.reduceBEq, Int.reduceBNe, Nat.reduceLT, Nat.reduceSub, Nat.reduceDiv, Nat.reduceMod, Int.reduceTDiv, Int.reduceTMod]
  obtain ⟨fr', h, h0⟩ := l26 a b (fput [.int .u64 a, .int .u64 b] 4 (.int .u64 0)) ([] :: hp) (by simp only [go_sem, ↓reduceIte, reduceCtorEq, Nat.reduceEqDiff, Nat.reduceAdd, Nat.reduceLeDiff, Nat.reduceMul, Int.reduceEq, Int.reduceLT, Int.reduceLE, Int.reduceAdd, Int.reduceSub, Int.reduceMul, Int.reduceNeg, Int.reduceToNat, Int.reduceNe, Int.reduceBEq, Int.reduceBNe, Nat.reduceLT, Nat.reduceSub, Nat.reduceDiv, Nat.reduceMod, Int.reduceTDiv, Int.reduceTMod]) (by simp only [go_sem, ↓reduceIte, reduceCtorEq, Nat.reduceEqDiff, Nat.reduceAdd, Nat.reduceLeDiff, Nat.reduceMul, Int.reduceEq, Int.reduceLT, Int.reduceLE, Int.reduceAdd, Int.reduceSub, Int.reduceMul, Int.reduceNeg, Int.reduceToNat, Int.reduceNe, Int.reduceBEq, Int.reduceBNe, Nat.reduceLT, Nat.reduceSub, Nat.reduceDiv, Nat.reduceMod, Int.reduceTDiv, Int.reduceTMod])
  simp (config := {contextual := true, maxSteps := 10000000, implicitDefEqProofs := false}) only [h, h0, go_sem, ↓reduceIte, reduceCtorEq, Nat.reduceEqDiff, Nat.reduceAdd, Nat.reduceLeDiff, Nat.reduceMul, Int.reduceEq, Int.reduceLT, Int.reduceLE, Int.reduceAdd, Int.reduceSub, Int.reduceMul, Int.reduceNeg, Int.reduceToNat, Int.reduceNe, Int.reduceBEq, Int.reduceBNe, Nat.reduceLT, Nat.reduceSub, Nat.reduceDiv, Nat.reduceMod, Int.reduceTDiv, Int.reduceTMod]
/-- A number of the document's, of four digits. -/
def dig (a b c d : Nat) : AV := .agg [.int .u64 a, .int .u64 b, .int .u64 c, .int .u64 d]
def big (n : Nat) : AV := dig (n % 4294967296) (n / 4294967296 % 4294967296) (n / 4294967296 / 4294967296 % 4294967296) (n / 4294967296 / 4294967296 / 4294967296 % 4294967296)
theorem big_dig (a b c d : Nat) (ha : a < 4294967296) (hb : b < 4294967296) (hc : c < 4294967296) (hd : d < 4294967296) :
    big (a + 4294967296 * (b + 4294967296 * (c + 4294967296 * d))) = dig a b c d := by
  have e1 : (a + 4294967296 * (b + 4294967296 * (c + 4294967296 * d))) / 4294967296 = b + 4294967296 * (c + 4294967296 * d) := by omega
  have e2 : (b + 4294967296 * (c + 4294967296 * d)) / 4294967296 = c + 4294967296 * d := by omega
  have e3 : (c + 4294967296 * d) / 4294967296 = d := by omega
  unfold big
  rw [e1, e2, e3]
  congr 1 <;> omega
theorem dig_big (n : Nat) : ∃ a b c d, a < 4294967296 ∧ b < 4294967296 ∧ c < 4294967296 ∧ d < 4294967296 ∧ big n = dig a b c d ∧
    n % 340282366920938463463374607431768211456 = a + 4294967296 * (b + 4294967296 * (c + 4294967296 * d)) :=
  ⟨_, _, _, _, Nat.mod_lt _ (by omega), Nat.mod_lt _ (by omega), Nat.mod_lt _ (by omega), Nat.mod_lt _ (by omega), rfl, by omega⟩
theorem big_mod (n : Nat) : big (n % 340282366920938463463374607431768211456) = big n := by
  obtain ⟨a, b, c, d, ha, hb, hc, hd, h, e⟩ := dig_big n
  rw [e, big_dig a b c d ha hb hc hd, h]
theorem r30 (n : Nat) (h : n < 18446744073709551616) (hp : Heap) : CL X GV 58 [.int .u64 n] hp = some (big n, hp) := by
  rw [CL_eq (fn := x58) rfl]
  simp (config := {contextual := true, maxSteps := 10000000, implicitDefEqProofs := false}) only [x58, big, dig, go_sem, ↓reduceIte, reduceCtorEq, Nat.reduceEqDiff, Nat.reduceAdd, Nat.reduceLeDiff, Nat.reduceMul, Int.reduceEq, Int.reduceLT, Int.reduceLE, Int.reduceAdd, Int.reduceSub, Int.reduceMul, Int.reduceNeg, Int.reduceToNat, Int.reduceNe, Int.reduceBEq, Int.reduceBNe, Nat.reduceLT, Nat.reduceSub, Nat.reduceDiv, Nat.reduceMod, Int.reduceTDiv, Int.reduceTMod]
  simp only [Option.some.injEq, Prod.mk.injEq, AV.agg.injEq, AV.tup.injEq, List.cons.injEq, AV.int.injEq, AV.bool.injEq, true_and, and_true, and_self, Int.natCast_inj]
  refine ⟨?_, ?_, ?_⟩ <;> omega
theorem r31 (n : Int) (h : -9223372036854775808 ≤ n ∧ n < 9223372036854775808) (hp : Heap) : CL X GV 59 [.int .i64 n] hp = some (.int .u64 (n.natAbs : Int), hp) := by
  rw [CL_eq (fn := x59) rfl]
  simp (config := {contextual := true, maxSteps := 10000000, implicitDefEqProofs := false}) only [x59, go_sem, ↓reduceIte, reduceCtorEq, Nat.reduceEqDiff, Nat.reduceAdd, Nat.reduceLeDiff, Nat.reduceMul, Int.reduceEq, Int.reduceLT, Int.reduceLE, Int.reduceAdd, Int.reduceSub, Int.reduceMul, Int.reduceNeg, Int.reduceToNat, Int.reduceNe, Int.reduceBEq, Int.reduceBNe, Nat.reduceLT, Nat.reduceSub, Nat.reduceDiv, Nat.reduceMod, Int.reduceTDiv, Int.reduceTMod]
  split
  · rw [wr_i64 (n + 1) (by omega), wr_i64 _ (by omega)]
    simp only [Option.some.injEq, Prod.mk.injEq, AV.agg.injEq, AV.tup.injEq, List.cons.injEq, AV.int.injEq, AV.bool.injEq, true_and, and_true, and_self, Int.natCast_inj, u64]
    omega
  · simp only [Option.some.injEq, Prod.mk.injEq, AV.agg.injEq, AV.tup.injEq, List.cons.injEq, AV.int.injEq, AV.bool.injEq, true_and, and_true, and_self, Int.natCast_inj, u64]
    omega
theorem r35d (a b c d x y z t : Nat) (hp : Heap) :
    CL X GV 80 [dig a b c d, dig x y z t] hp = some (.int .i64 (if d < t then -1 else if t < d then 1 else if c < z then -1 else if z < c then 1 else if b < y then -1 else if y < b then 1 else if a < x then -1 else if x < a then 1 else 0), hp) := by
  rw [CL_eq (fn := x80) rfl]
  simp (config := {contextual := true, maxSteps := 10000000, implicitDefEqProofs := false}) only [x80, x80_l0_run, LC_loop, dig, go_sem, ↓reduceIte, reduceCtorEq, Nat.reduceEqDiff, Nat.reduceAdd, Nat.reduceLeDiff, Nat.reduceMul, Int.reduceEq, Int.reduceLT, Int.reduceLE, Int.reduceAdd, Int.reduceSub, Int.reduceMul, Int.reduceNeg, Int.reduceToNat, Int.reduceNe, Int.reduceBEq, Int.reduceBNe, Nat.reduceLT, Nat.reduceSub, Nat.reduceDiv, Nat.reduceMod, Int.reduceTDiv, Int.reduceTMod]
  have e : ∀ (p q : Nat) (x y : Option (AV × Heap)), (if (p : Int) < q then x else y) = if p < q then x else y := by
    intro p q x y; by_cases h : p < q <;> simp [h, Int.ofNat_lt]
  simp only [e]
  repeat' split
  all_goals first | rfl | omega
theorem r35 (a b : Nat) (ha : a < 340282366920938463463374607431768211456) (hb : b < 340282366920938463463374607431768211456) (hp : Heap) :
    CL X GV 80 [big a, big b] hp = some (.int .i64 (if a < b then -1 else if b < a then 1 else 0), hp) := by
  obtain ⟨a0, a1, a2, a3, h0, h1, h2, h3, e, f⟩ := dig_big a
  obtain ⟨b0, b1, b2, b3, g0, g1, g2, g3, e', f'⟩ := dig_big b
  rw [e, e', r35d]
  rw [Nat.mod_eq_of_lt ha] at f
  rw [Nat.mod_eq_of_lt hb] at f'
  subst f f'
  congr 3
  repeat' split
  all_goals first | rfl | omega
end Go.Proofs.YtgbmobfjanajaaaDoor.Sx.T
namespace Go.Proofs.YtgbmobfjanajaaaDoor.Sx.T
open Go Go.Proofs.YtgbmobfjanajaaaDoor.Sx
set_option maxRecDepth 100000
set_option maxHeartbeats 4000000
theorem r47d (a b c d x y z t : Nat) (ha : a < 4294967296) (hb : b < 4294967296) (hc : c < 4294967296) (hd : d < 4294967296) (hx : x < 4294967296) (hy : y < 4294967296) (hz : z < 4294967296) (ht : t < 4294967296) (hp : Heap) :
    CL X GV 98 [dig a b c d, dig x y z t] hp = some (dig ((a + x) % 4294967296) ((b + y + (a + x) / 4294967296) % 4294967296) ((c + z + (b + y + (a + x) / 4294967296) / 4294967296) % 4294967296)
      ((d + t + (c + z + (b + y + (a + x) / 4294967296) / 4294967296) / 4294967296) % 4294967296), hp) := by
  rw [CL_eq (fn := x98) rfl]
  simp (config := {contextual := true, maxSteps := 10000000, implicitDefEqProofs := false}) only [x98, x98_l0_run, LC_loop, dig, go_sem, ↓reduceIte, reduceCtorEq, Nat.reduceEqDiff, Nat.reduceAdd, Nat.reduceLeDiff, Nat.reduceMul, Int.reduceEq, Int.reduceLT, Int.reduceLE, Int.reduceAdd, Int.reduceSub, Int.reduceMul, Int.reduceNeg, Int.reduceToNat, Int.reduceNe, Int.reduceBEq, Int.reduceBNe, Nat.reduceLT, Nat.reduceSub, Nat.reduceDiv, Nat.reduceMod, Int.reduceTDiv, Int.reduceTMod]
  simp (disch := omega) only [Nat.mod_eq_of_lt]
theorem r47 (a b : Nat) (hp : Heap) : CL X GV 98 [big a, big b] hp = some (big (a + b), hp) := by
  obtain ⟨a0, a1, a2, a3, h0, h1, h2, h3, e, f⟩ := dig_big a
  obtain ⟨b0, b1, b2, b3, g0, g1, g2, g3, e', f'⟩ := dig_big b
  rw [e, e', r47d _ _ _ _ _ _ _ _ h0 h1 h2 h3 g0 g1 g2 g3, ← big_mod (a + b), Nat.add_mod a b, f, f']
  have k1 := Nat.mod_add_div (a0 + b0) 4294967296
  generalize (a0 + b0) / 4294967296 = c1 at *
  have k2 := Nat.mod_add_div (a1 + b1 + c1) 4294967296
  generalize (a1 + b1 + c1) / 4294967296 = c2 at *
  have k3 := Nat.mod_add_div (a2 + b2 + c2) 4294967296
  generalize (a2 + b2 + c2) / 4294967296 = c3 at *
  have k4 := Nat.mod_add_div (a3 + b3 + c3) 4294967296
  have m1 := Nat.mod_lt (a0 + b0) (show 0 < 4294967296 by omega)
  have m2 := Nat.mod_lt (a1 + b1 + c1) (show 0 < 4294967296 by omega)
  have m3 := Nat.mod_lt (a2 + b2 + c2) (show 0 < 4294967296 by omega)
  have m4 := Nat.mod_lt (a3 + b3 + c3) (show 0 < 4294967296 by omega)
  generalize (a3 + b3 + c3) / 4294967296 = c4 at *
  generalize (a0 + b0) % 4294967296 = d0 at *
  generalize (a1 + b1 + c1) % 4294967296 = d1 at *
  generalize (a2 + b2 + c2) % 4294967296 = d2 at *
  generalize (a3 + b3 + c3) % 4294967296 = d3 at *
  rw [← big_dig _ _ _ _ m1 m2 m3 m4]
  have t : a0 + 4294967296 * (a1 + 4294967296 * (a2 + 4294967296 * a3)) + (b0 + 4294967296 * (b1 + 4294967296 * (b2 + 4294967296 * b3))) =
      d0 + 4294967296 * (d1 + 4294967296 * (d2 + 4294967296 * d3)) + 340282366920938463463374607431768211456 * c4 := by omega
  rw [t, Nat.add_mul_mod_self_left, Nat.mod_eq_of_lt (show d0 + 4294967296 * (d1 + 4294967296 * (d2 + 4294967296 * d3)) < 340282366920938463463374607431768211456 by omega)]
theorem r48d (a b c d x y z t : Nat) (ha : a < 4294967296) (hb : b < 4294967296) (hc : c < 4294967296) (hd : d < 4294967296) (hx : x < 4294967296) (hy : y < 4294967296) (hz : z < 4294967296) (ht : t < 4294967296) (hp : Heap) :
    CL X GV 99 [dig a b c d, dig x y z t] hp = some (dig ((a + 4294967296 - x) % 4294967296) ((b + 4294967296 - y - (1 - (a + 4294967296 - x) / 4294967296)) % 4294967296)
      ((c + 4294967296 - z - (1 - (b + 4294967296 - y - (1 - (a + 4294967296 - x) / 4294967296)) / 4294967296)) % 4294967296)
      ((d + 4294967296 - t - (1 - (c + 4294967296 - z - (1 - (b + 4294967296 - y - (1 - (a + 4294967296 - x) / 4294967296)) / 4294967296)) / 4294967296)) % 4294967296), hp) := by
  rw [CL_eq (fn := x99) rfl]
  simp (config := {contextual := true, maxSteps := 10000000, implicitDefEqProofs := false}) only [x99, x99_l0_run, LC_loop, dig, go_sem, ↓reduceIte, reduceCtorEq, Nat.reduceEqDiff, Nat.reduceAdd, Nat.reduceLeDiff, Nat.reduceMul, Int.reduceEq, Int.reduceLT, Int.reduceLE, Int.reduceAdd, Int.reduceSub, Int.reduceMul, Int.reduceNeg, Int.reduceToNat, Int.reduceNe, Int.reduceBEq, Int.reduceBNe, Nat.reduceLT, Nat.reduceSub, Nat.reduceDiv, Nat.reduceMod, Int.reduceTDiv, Int.reduceTMod]
  simp (disch := omega) only [Nat.mod_eq_of_lt, u64_sub]
theorem r48 (a b : Nat) (ha : a < 340282366920938463463374607431768211456) (hb : b ≤ a) (hp : Heap) : CL X GV 99 [big a, big b] hp = some (big (a - b), hp) := by
  obtain ⟨a0, a1, a2, a3, h0, h1, h2, h3, e, f⟩ := dig_big a
  obtain ⟨b0, b1, b2, b3, g0, g1, g2, g3, e', f'⟩ := dig_big b
  rw [e, e', r48d _ _ _ _ _ _ _ _ h0 h1 h2 h3 g0 g1 g2 g3]
  rw [Nat.mod_eq_of_lt ha] at f
  rw [Nat.mod_eq_of_lt (by omega)] at f'
  subst f f'
  have k1 := Nat.mod_add_div (a0 + 4294967296 - b0) 4294967296
  have m1 := Nat.mod_lt (a0 + 4294967296 - b0) (show 0 < 4294967296 by omega)
  have n1 : (a0 + 4294967296 - b0) / 4294967296 ≤ 1 := by omega
  generalize (a0 + 4294967296 - b0) / 4294967296 = c1 at *
  have k2 := Nat.mod_add_div (a1 + 4294967296 - b1 - (1 - c1)) 4294967296
  have m2 := Nat.mod_lt (a1 + 4294967296 - b1 - (1 - c1)) (show 0 < 4294967296 by omega)
  have n2 : (a1 + 4294967296 - b1 - (1 - c1)) / 4294967296 ≤ 1 := by omega
  generalize (a1 + 4294967296 - b1 - (1 - c1)) / 4294967296 = c2 at *
  have k3 := Nat.mod_add_div (a2 + 4294967296 - b2 - (1 - c2)) 4294967296
  have m3 := Nat.mod_lt (a2 + 4294967296 - b2 - (1 - c2)) (show 0 < 4294967296 by omega)
  have n3 : (a2 + 4294967296 - b2 - (1 - c2)) / 4294967296 ≤ 1 := by omega
  generalize (a2 + 4294967296 - b2 - (1 - c2)) / 4294967296 = c3 at *
  have k4 := Nat.mod_add_div (a3 + 4294967296 - b3 - (1 - c3)) 4294967296
  have m4 := Nat.mod_lt (a3 + 4294967296 - b3 - (1 - c3)) (show 0 < 4294967296 by omega)
  have n4 : (a3 + 4294967296 - b3 - (1 - c3)) / 4294967296 ≤ 1 := by omega
  generalize (a3 + 4294967296 - b3 - (1 - c3)) / 4294967296 = c4 at *
  generalize (a0 + 4294967296 - b0) % 4294967296 = d0 at *
  generalize (a1 + 4294967296 - b1 - (1 - c1)) % 4294967296 = d1 at *
  generalize (a2 + 4294967296 - b2 - (1 - c2)) % 4294967296 = d2 at *
  generalize (a3 + 4294967296 - b3 - (1 - c3)) % 4294967296 = d3 at *
  rw [← big_dig _ _ _ _ m1 m2 m3 m4]
  congr 3
  omega
theorem mul_bound (a b : Nat) (ha : a < 4294967296) (hb : b < 4294967296) : a * b ≤ 18446744065119617025 := Nat.mul_le_mul (Nat.le_of_lt_succ ha : a ≤ 4294967295) (Nat.le_of_lt_succ hb : b ≤ 4294967295)
end Go.Proofs.YtgbmobfjanajaaaDoor.Sx.T
namespace Go.Proofs.YtgbmobfjanajaaaDoor.Sx.T
open Go Go.Proofs.YtgbmobfjanajaaaDoor.Sx
set_option maxRecDepth 100000
set_option maxHeartbeats 4000000
def dg (n k : Nat) : Nat := n / 4294967296 ^ k % 4294967296
def bigL (n : Nat) : List AV := [.int .u64 (dg n 0), .int .u64 (dg n 1), .int .u64 (dg n 2), .int .u64 (dg n 3)]
theorem big_eq (n : Nat) : big n = .agg (bigL n) := by
  simp only [big, dig, bigL, dg, Nat.div_div_eq_div_mul, Nat.pow_zero, Nat.div_one, Nat.reducePow, Nat.reduceMul]
theorem big_len (n : Nat) : (bigL n).length = 4 := rfl
theorem big_map (n : Nat) : List.map uf (bigL n) = bigL n := rfl
theorem big_all (n : Nat) : (bigL n).all plain1 = true := rfl
theorem big_cells (n : Nat) : cellsOf (big n) = bigL n := by rw [big_eq]; rfl
theorem big_load (n : Nat) : ldCells (bigL n) 4 true = some (big n) := by rw [big_eq]; rfl
theorem big_agg (n : Nat) : AV.agg (List.map uf (List.take 4 (bigL n))) = big n := by rw [big_eq]; rfl
theorem big_load0 (n : Nat) : ldCells (bigL n) 1 false = some (.int .u64 (dg n 0)) := rfl
theorem big_loadk (n k : Nat) (h : k < 4) : ldCells ((bigL n).drop k) 1 false = some (.int .u64 (dg n k)) := by
  match k, h with
  | 0, _ => rfl
  | 1, _ => rfl
  | 2, _ => rfl
  | 3, _ => rfl
theorem big_uf (n : Nat) : uf (big n) = big n := by rw [big_eq]; rfl
theorem big_free (n : Nat) : refFree (big n) = true := by rw [big_eq]; rfl
theorem big_drop1 (n : Nat) (fr : List AV) (t : Nat) : drop1K (big n) fr t = fr := by rw [big_eq]; rfl
theorem big_shut (hp : Heap) (lev k n : Nat) : shut hp lev (k + 2) (big n) = some (big n) := by rw [big_eq]; rfl
theorem big_solid (n : Nat) : solid (big n) = true := by rw [big_eq]; rfl
theorem big_put4 (a b c d : AV) (n : Nat) : splice [a, b, c, d] 0 (bigL n) = bigL n := rfl
theorem big_put (m n : Nat) : splice (bigL m) 0 (bigL n) = bigL n := rfl
theorem big_ret (hp : Heap) (lev n : Nat) : retOf hp lev [big n] = some (big n) := by rw [big_eq]; rfl
theorem big_digs (n : Nat) (h : n < 340282366920938463463374607431768211456) : n = dg n 0 + 4294967296 * (dg n 1 + 4294967296 * (dg n 2 + 4294967296 * dg n 3)) := by
  simp only [dg, Nat.pow_zero, Nat.div_one, Nat.reducePow]
  omega
theorem big_zero (n : Nat) (h : n < 340282366920938463463374607431768211456) (neg : Bool) : eqaK neg [1, 1, 1, 1] (big n) (.agg [.int .u64 0, .int .u64 0, .int .u64 0, .int .u64 0]) = some (.bool (decide (n = 0) != neg)) := by
  rw [big_eq]
  simp only [bigL, go_sem, ↓reduceIte, reduceCtorEq, Nat.reduceEqDiff, Nat.reduceAdd, Nat.reduceLeDiff, Nat.reduceMul, Int.reduceEq, Int.reduceLT, Int.reduceLE, Int.reduceAdd, Int.reduceSub, Int.reduceMul, Int.reduceNeg, Int.reduceToNat, Int.reduceNe, Int.reduceBEq, Int.reduceBNe, Nat.reduceLT, Nat.reduceSub, Nat.reduceDiv, Nat.reduceMod, Int.reduceTDiv, Int.reduceTMod]
  have e := big_digs n h
  congr 3
  by_cases hn : n = 0
  · subst hn
    rfl
  · have : ¬ (dg n 0 = 0 ∧ dg n 1 = 0 ∧ dg n 2 = 0 ∧ dg n 3 = 0) := by omega
    simp only [hn, decide_false]
    apply Bool.eq_false_iff.2
    intro hh
    simp only [Bool.and_eq_true, beq_iff_eq] at hh
    omega
end Go.Proofs.YtgbmobfjanajaaaDoor.Sx.T
namespace Go.Proofs.YtgbmobfjanajaaaDoor.Sx.T
open Go Go.Proofs.YtgbmobfjanajaaaDoor.Sx
set_option maxRecDepth 100000
set_option maxHeartbeats 4000000
theorem put0 (R D : Nat) (hD : D < 2) : splice (bigL (R + R)) 0 [.int .u64 ((dg (R + R) 0 + D) % 18446744073709551616 : Nat)] = bigL (R + R + D) := by
  have e : (R + R + D) / 4294967296 = (R + R) / 4294967296 := by omega
  have f : dg (R + R + D) 0 = (dg (R + R) 0 + D) % 18446744073709551616 := by simp only [dg, Nat.pow_zero, Nat.div_one]; omega
  have g : ∀ k, dg (R + R + D) (k + 1) = dg (R + R) (k + 1) := by
    intro k
    simp only [dg, Nat.pow_succ, Nat.mul_comm (4294967296 ^ k) 4294967296, ← Nat.div_div_eq_div_mul, e]
  simp only [bigL, splice_zero, splice_nil, f, show dg (R + R + D) 1 = dg (R + R) 1 from g 0, show dg (R + R + D) 2 = dg (R + R) 2 from g 1, show dg (R + R + D) 3 = dg (R + R) 3 from g 2]
theorem bigL_dig (a b c d : Nat) (ha : a < 4294967296) (hb : b < 4294967296) (hc : c < 4294967296) (hd : d < 4294967296) :
    bigL (a + 4294967296 * (b + 4294967296 * (c + 4294967296 * d))) = [.int .u64 a, .int .u64 b, .int .u64 c, .int .u64 d] := by
  have h := big_dig a b c d ha hb hc hd
  rw [big_eq] at h
  exact AV.agg.inj h
theorem bound_bit (Q s : Nat) (hs : s < 32) : Q * 2 ^ (s + 1) % 4294967296 + 2 ^ s < 4294967296 := by
  have e : 4294967296 = 2 ^ (s + 1) * 2 ^ (31 - s) := by
    rw [← Nat.pow_add, show s + 1 + (31 - s) = 32 by omega]
  rw [e, Nat.mul_comm Q, Nat.mul_mod_mul_left]
  have h1 : Q % 2 ^ (31 - s) + 1 ≤ 2 ^ (31 - s) := Nat.mod_lt _ (Nat.two_pow_pos _)
  have h2 := Nat.mul_le_mul_left (2 ^ (s + 1)) h1
  rw [Nat.mul_add] at h2
  have h3 := Nat.two_pow_pos s
  rw [Nat.pow_succ] at *
  omega
theorem putbit (Q i : Nat) (hi : i < 128) (hT : Q * 2 ^ (i + 1) < 340282366920938463463374607431768211456) :
    splice (bigL (Q * 2 ^ (i + 1))) (i / 32) [.int .u64 ((dg (Q * 2 ^ (i + 1)) (i / 32) + 2 ^ (i % 32)) % 18446744073709551616 : Nat)] = bigL (Q * 2 ^ (i + 1) + 2 ^ i) := by
  have hb := bound_bit Q (i % 32) (Nat.mod_lt _ (by omega))
  have hd : dg (Q * 2 ^ (i + 1)) (i / 32) = Q * 2 ^ (i % 32 + 1) % 4294967296 := by
    unfold dg
    rw [show 2 ^ (i + 1) = 2 ^ (i % 32 + 1) * 4294967296 ^ (i / 32) by
      rw [show (4294967296 : Nat) = 2 ^ 32 by rfl, ← Nat.pow_mul, ← Nat.pow_add]; congr 1; omega, ← Nat.mul_assoc, Nat.mul_div_cancel _ (Nat.pow_pos (by omega))]
  have hp : 2 ^ i = 4294967296 ^ (i / 32) * 2 ^ (i % 32) := by
    rw [show (4294967296 : Nat) = 2 ^ 32 by rfl, ← Nat.pow_mul, ← Nat.pow_add]; congr 1; omega
  rw [← hd] at hb
  rw [hp]
  have hk : i / 32 < 4 := by omega
  generalize Q * 2 ^ (i + 1) = T at *
  generalize 2 ^ (i % 32) = w at *
  generalize i / 32 = k at *
  clear hd hp hi
  have e := big_digs T hT
  have b0 : dg T 0 < 4294967296 := Nat.mod_lt _ (by omega)
  have b1 : dg T 1 < 4294967296 := Nat.mod_lt _ (by omega)
  have b2 : dg T 2 < 4294967296 := Nat.mod_lt _ (by omega)
  have b3 : dg T 3 < 4294967296 := Nat.mod_lt _ (by omega)
  rw [Nat.mod_eq_of_lt (show dg T k + w < 18446744073709551616 by omega)]
  match k, hk with
  | 0, _ =>
    rw [show T + 4294967296 ^ 0 * w = (dg T 0 + w) + 4294967296 * (dg T 1 + 4294967296 * (dg T 2 + 4294967296 * dg T 3)) by simp only [Nat.reducePow]; omega, bigL_dig _ _ _ _ hb b1 b2 b3]
    rfl
  | 1, _ =>
    rw [show T + 4294967296 ^ 1 * w = dg T 0 + 4294967296 * ((dg T 1 + w) + 4294967296 * (dg T 2 + 4294967296 * dg T 3)) by simp only [Nat.reducePow]; omega, bigL_dig _ _ _ _ b0 hb b2 b3]
    rfl
  | 2, _ =>
    rw [show T + 4294967296 ^ 2 * w = dg T 0 + 4294967296 * (dg T 1 + 4294967296 * ((dg T 2 + w) + 4294967296 * dg T 3)) by simp only [Nat.reducePow]; omega, bigL_dig _ _ _ _ b0 b1 hb b3]
    rfl
  | 3, _ =>
    rw [show T + 4294967296 ^ 3 * w = dg T 0 + 4294967296 * (dg T 1 + 4294967296 * (dg T 2 + 4294967296 * (dg T 3 + w))) by simp only [Nat.reducePow]; omega, bigL_dig _ _ _ _ b0 b1 b2 hb]
    rfl
theorem bit_of (a i : Nat) : dg a (i / 32) / 2 ^ (i % 32) % 2 = a / 2 ^ i % 2 := by
  unfold dg
  have hs : i % 32 < 32 := Nat.mod_lt _ (by omega)
  have e : 4294967296 = 2 ^ (i % 32) * 2 ^ (32 - i % 32) := by
    rw [← Nat.pow_add, show i % 32 + (32 - i % 32) = 32 by omega]
  have hp : 2 ^ i = 4294967296 ^ (i / 32) * 2 ^ (i % 32) := by
    rw [show (4294967296 : Nat) = 2 ^ 32 by rfl, ← Nat.pow_mul, ← Nat.pow_add]; congr 1; omega
  rw [hp, ← Nat.div_div_eq_div_mul]
  generalize a / 4294967296 ^ (i / 32) = x
  conv => lhs; rw [e]
  rw [Nat.mod_mul_right_div_self, Nat.mod_mod_of_dvd]
  exact ⟨2 ^ (31 - i % 32), by rw [Nat.mul_comm, ← Nat.pow_succ]; congr 1; omega⟩
theorem div_step (p b D x : Nat) (hb : 0 < b) (hx : x = 2 * p + D) :
    (p % b + p % b + D < b → x / b = 2 * (p / b) ∧ x % b = p % b + p % b + D) ∧ (p % b + p % b + D < b + b → b ≤ p % b + p % b + D → x / b = 2 * (p / b) + 1 ∧ x % b = p % b + p % b + D - b) := by
  have dm := Nat.mod_add_div p b
  constructor
  · intro h
    refine (Nat.div_mod_unique hb).2 ⟨?_, h⟩
    rw [Nat.mul_left_comm b 2]
    omega
  · intro h h'
    refine (Nat.div_mod_unique hb).2 ⟨?_, by omega⟩
    rw [Nat.mul_add b, Nat.mul_left_comm b 2]
    omega
def O44 (a b : Nat) (v4 v5 : AV) (q4 q5 : Option (List AV)) (h : Heap) (r : Option (XExit × St)) : Prop :=
    ∃ fr' l', r = some (.exit 0, ⟨fr', l' :: h⟩) ∧ fget fr' 4 = v4 ∧ fget fr' 5 = v5 ∧ fget fr' 6 = .ptr ⟨h.length, 6, 0⟩ 0 ∧ fget fr' 7 = .ptr ⟨h.length, 7, 0⟩ 0 ∧
      lcells l' 4 0 = q4 ∧ lcells l' 5 0 = q5 ∧ lcells l' 6 0 = some (bigL (a / b)) ∧ lcells l' 7 0 = some (bigL (a % b))
theorem l44 (a b : Nat) (ha : a < 340282366920938463463374607431768211456) (hb : 0 < b) (hb' : b ≤ 170141183460469231731687303715884105728) (v4 v5 : AV) (q4 q5 : Option (List AV)) (h : Heap) :
    ∀ (i : Nat) (_ : i ≤ 128) (c : Int) (_ : c = (i : Int) - 1) (fr : List AV) (l : Level), fget fr 2 = .ptr ⟨h.length, 2, 0⟩ 0 → fget fr 3 = .ptr ⟨h.length, 3, 0⟩ 0 → fget fr 6 = .ptr ⟨h.length, 6, 0⟩ 0 → fget fr 7 = .ptr ⟨h.length, 7, 0⟩ 0 →
    fget fr 4 = v4 → fget fr 5 = v5 → lcells l 4 0 = q4 → lcells l 5 0 = q5 →
    fget fr 8 = .int .i64 c → lcells l 2 0 = some (bigL a) → lcells l 3 0 = some (bigL b) → lcells l 6 0 = some (bigL (a / 2 ^ i / b * 2 ^ i)) → lcells l 7 0 = some (bigL (a / 2 ^ i % b)) →
    O44 a b v4 v5 q4 q5 h (LC X GV (.loop x79_l0) ⟨fr, l :: h⟩) := by
  intro i
  induction i with
  | zero =>
    intro _ c hc fr l h2 h3 h6 h7 h4 h5 k4 k5 h8 k2 k3 k6 k7
    rw [LC_loop]
    have hc' : c = -1 := by omega
    subst hc'
    simp (config := {contextual := true, maxSteps := 10000000, implicitDefEqProofs := false}) only [x79_l0_run, go_sem, ↓reduceIte, reduceCtorEq, Nat.reduceEqDiff, Nat.reduceAdd, Nat.reduceLeDiff, Nat.reduceMul, Int.reduceEq, Int.reduceLT, Int.reduceLE, Int.reduceAdd, Int.reduceSub, Int.reduceMul, Int.reduceNeg, Int.reduceToNat, Int.reduceNe, Int.reduceBEq, Int.reduceBNe, Nat.reduceLT, Nat.reduceSub, Nat.reduceDiv, Nat.reduceMod, Int.reduceTDiv, Int.reduceTMod, h2, h3, h6, h7, h8]
    refine ⟨_, _, rfl, ?_⟩
    simp only [Nat.pow_zero, Nat.div_one, Nat.mul_one] at k6 k7
    simp only [go_sem, ↓reduceIte, reduceCtorEq, Nat.reduceEqDiff, Nat.reduceAdd, Nat.reduceLeDiff, Nat.reduceMul, Int.reduceEq, Int.reduceLT, Int.reduceLE, Int.reduceAdd, Int.reduceSub, Int.reduceMul, Int.reduceNeg, Int.reduceToNat, Int.reduceNe, Int.reduceBEq, Int.reduceBNe, Nat.reduceLT, Nat.reduceSub, Nat.reduceDiv, Nat.reduceMod, Int.reduceTDiv, Int.reduceTMod, h2, h3, h6, h7, h8, h4, h5, k2, k3, k4, k5, k6, k7, Nat.pow_zero, Nat.div_one]
  | succ i ih =>
    intro hi c hc fr l h2 h3 h6 h7 h4 h5 k4 k5 h8 k2 k3 k6 k7
    rw [LC_loop]
    have hc' : c = (i : Int) := by omega
    clear hc
    subst hc'
    have n32 : i / 32 < 4 := by omega
    have w32 : i / 32 < 9223372036854775808 := by omega
    have m32 : i % 32 % 18446744073709551616 = i % 32 := by omega
    have m64 : min (i % 32) 64 = i % 32 := by omega
    have wi : wr .i64 ((i : Int) - 1) = (i : Int) - 1 := wr_i64 _ (by omega)
    have wm : wr .i64 ((i % 32 : Nat) : Int) = ((i % 32 : Nat) : Int) := wr_i64 _ (by omega)
    have n3 : i / 32 ≤ 3 := by omega
    have hTb : a / 2 ^ (i + 1) / b * 2 ^ (i + 1) ≤ a := Nat.le_trans (Nat.mul_le_mul_right _ (Nat.div_le_self _ _)) (Nat.div_mul_le_self _ _)
    have hs2 := putbit (a / 2 ^ (i + 1) / b) i (by omega) (by omega)
    have hE := bit_of a i
    have e2 : a / 2 ^ i = 2 * (a / 2 ^ (i + 1)) + a / 2 ^ i % 2 := by rw [Nat.pow_succ, ← Nat.div_div_eq_div_mul]; omega
    have ds := div_step (a / 2 ^ (i + 1)) b (a / 2 ^ i % 2) (a / 2 ^ i) hb e2
    have hpw : a / 2 ^ (i + 1) / b * 2 ^ (i + 1) = 2 * (a / 2 ^ (i + 1) / b) * 2 ^ i := by
      rw [Nat.mul_right_comm, ← Nat.pow_succ', Nat.mul_comm]
    rw [← hE] at ds
    clear e2
    generalize hR : a / 2 ^ (i + 1) % b = R at *
    generalize hT : a / 2 ^ (i + 1) / b * 2 ^ (i + 1) = T at *
    generalize hD : dg a (i / 32) / 2 ^ (i % 32) % 2 = D at *
    have hR' : R < b := by rw [← hR]; exact Nat.mod_lt _ hb
    have hD' : D < 2 := by omega
    have hs1 := put0 R D hD'
    have p1 : u64 (1 * 2 ^ (i % 32)) = 2 ^ (i % 32) := by
      have hs : 2 ^ (i % 32) < 2 ^ 32 := Nat.pow_lt_pow_right (by omega) (Nat.mod_lt _ (by omega))
      rw [Int.one_mul, show (2 : Int) ^ (i % 32) = ((2 ^ (i % 32) : Nat) : Int) by simp, u64_nat, Nat.mod_eq_of_lt (by omega)]
    have r35' := r35 (R + R + D) b (by omega) (by omega)
    have h0 : (0 : Int) ≤ i := by omega
    by_cases hX : R + R + D < b
    · simp (config := {contextual := true, maxSteps := 10000000, implicitDefEqProofs := false}) only [x79_l0_run, go_sem, ↓reduceIte, reduceCtorEq, Nat.reduceEqDiff, Nat.reduceAdd, Nat.reduceLeDiff, Nat.reduceMul, Int.reduceEq, Int.reduceLT, Int.reduceLE, Int.reduceAdd, Int.reduceSub, Int.reduceMul, Int.reduceNeg, Int.reduceToNat, Int.reduceNe, Int.reduceBEq, Int.reduceBNe, Nat.reduceLT, Nat.reduceSub, Nat.reduceDiv, Nat.reduceMod, Int.reduceTDiv, Int.reduceTMod, big_map, big_len, big_all, big_cells, big_agg, big_load0, big_loadk, big_uf, big_free, big_drop1, big_shut, big_solid, big_put4, big_put, big_ret, h0, h2, h3, h6, h7, h8, k2, k3, k6, k7, n32, w32, n3, m32, m64, wi, wm, hD, hs1, r47, r35', hX]
      refine ih (by omega) _ rfl _ _ ?_ ?_ ?_ ?_ ?_ ?_ ?_ ?_ ?_ ?_ ?_ ?_ ?_
      all_goals try simp only [go_sem, ↓reduceIte, reduceCtorEq, Nat.reduceEqDiff, Nat.reduceAdd, Nat.reduceLeDiff, Nat.reduceMul, Int.reduceEq, Int.reduceLT, Int.reduceLE, Int.reduceAdd, Int.reduceSub, Int.reduceMul, Int.reduceNeg, Int.reduceToNat, Int.reduceNe, Int.reduceBEq, Int.reduceBNe, Nat.reduceLT, Nat.reduceSub, Nat.reduceDiv, Nat.reduceMod, Int.reduceTDiv, Int.reduceTMod, h2, h3, h6, h7, h8, h4, h5, k2, k3, k4, k5, k6, k7]
      · rw [(ds.1 hX).1, hpw]
      · rw [(ds.1 hX).2]
    · have r48' := r48 (R + R + D) b (by omega) (by omega)
      have hX' : (0 : Int) ≤ (if b < R + R + D then 1 else 0) := by split <;> omega
      simp (config := {contextual := true, maxSteps := 10000000, implicitDefEqProofs := false}) only [x79_l0_run, go_sem, ↓reduceIte, reduceCtorEq, Nat.reduceEqDiff, Nat.reduceAdd, Nat.reduceLeDiff, Nat.reduceMul, Int.reduceEq, Int.reduceLT, Int.reduceLE, Int.reduceAdd, Int.reduceSub, Int.reduceMul, Int.reduceNeg, Int.reduceToNat, Int.reduceNe, Int.reduceBEq, Int.reduceBNe, Nat.reduceLT, Nat.reduceSub, Nat.reduceDiv, Nat.reduceMod, Int.reduceTDiv, Int.reduceTMod, big_map, big_len, big_all, big_cells, big_agg, big_load0, big_loadk, big_uf, big_free, big_drop1, big_shut, big_solid, big_put4, big_put, big_ret, h0, h2, h3, h6, h7, h8, k2, k3, k6, k7, n32, w32, n3, m32, m64, wi, wm, hD, hs1, r47, r35', r48', hX, hX', p1, hs2]
      refine ih (by omega) _ rfl _ _ ?_ ?_ ?_ ?_ ?_ ?_ ?_ ?_ ?_ ?_ ?_ ?_ ?_
      all_goals try simp only [go_sem, ↓reduceIte, reduceCtorEq, Nat.reduceEqDiff, Nat.reduceAdd, Nat.reduceLeDiff, Nat.reduceMul, Int.reduceEq, Int.reduceLT, Int.reduceLE, Int.reduceAdd, Int.reduceSub, Int.reduceMul, Int.reduceNeg, Int.reduceToNat, Int.reduceNe, Int.reduceBEq, Int.reduceBNe, Nat.reduceLT, Nat.reduceSub, Nat.reduceDiv, Nat.reduceMod, Int.reduceTDiv, Int.reduceTMod, h2, h3, h6, h7, h8, h4, h5, k2, k3, k4, k5, k6, k7]
      · rw [(ds.2 (by omega) (by omega)).1, hpw, Nat.add_mul, Nat.one_mul]
      · rw [(ds.2 (by omega) (by omega)).2]
end Go.Proofs.YtgbmobfjanajaaaDoor.Sx.T
namespace Go.Proofs.YtgbmobfjanajaaaDoor.Sx.T
open Go Go.Proofs.YtgbmobfjanajaaaDoor.Sx
set_option maxRecDepth 100000
set_option maxHeartbeats 4000000
theorem big0 : bigL 0 = [.int .u64 0, .int .u64 0, .int .u64 0, .int .u64 0] := rfl
theorem r44 (a b : Nat) (ha : a < 340282366920938463463374607431768211456) (hb : 0 < b) (hb' : b ≤ 170141183460469231731687303715884105728) (hp : Heap) :
    CL X GV 79 [big a, big b] hp = some (.tup [big (a / b), big (a % b)], hp) := by
  rw [CL_eq (fn := x79) rfl]
  simp (config := {contextual := true, maxSteps := 10000000, implicitDefEqProofs := false}) only [x79, go_sem, ↓reduceIte, reduceCtorEq, Nat.reduceEqDiff, Nat.reduceAdd, Nat.reduceLeDiff, Nat.reduceMul, Int.reduceEq, Int.reduceLT, Int.reduceLE, Int.reduceAdd, Int.reduceSub, Int.reduceMul, Int.reduceNeg, Int.reduceToNat, Int.reduceNe, Int.reduceBEq, Int.reduceBNe, Nat.reduceLT, Nat.reduceSub, Nat.reduceDiv, Nat.reduceMod, Int.reduceTDiv, Int.reduceTMod, big_map, big_len, big_all, big_cells, big_agg, big_load0, big_loadk, big_uf, big_free, big_drop1, big_shut, big_solid, big_put4, big_put, big_ret, ← big0]
  have hz : a / 2 ^ 128 = 0 := Nat.div_eq_of_lt ha
  have hz' : a / 2 ^ 128 / b * 2 ^ 128 = 0 := by rw [hz, Nat.zero_div, Nat.zero_mul]
  have hz'' : a / 2 ^ 128 % b = 0 := by rw [hz, Nat.zero_mod]
  refine elimL (fun r => finK _ (seqK (blockK 0 r) _) = _) (l44 a b ha hb hb' _ _ _ _ _ 128 (by omega) 127 (by omega) _ _ ?_ ?_ ?_ ?_ rfl rfl rfl rfl ?_ ?_ ?_ ?_ ?_) ?_
  all_goals try simp only [go_sem, ↓reduceIte, reduceCtorEq, Nat.reduceEqDiff, Nat.reduceAdd, Nat.reduceLeDiff, Nat.reduceMul, Int.reduceEq, Int.reduceLT, Int.reduceLE, Int.reduceAdd, Int.reduceSub, Int.reduceMul, Int.reduceNeg, Int.reduceToNat, Int.reduceNe, Int.reduceBEq, Int.reduceBNe, Nat.reduceLT, Nat.reduceSub, Nat.reduceDiv, Nat.reduceMod, Int.reduceTDiv, Int.reduceTMod, hz', hz'']
  rintro r ⟨fr', l', rfl, f4, f5, f6, f7, g4, g5, g6, g7⟩
  simp (config := {contextual := true, maxSteps := 10000000, implicitDefEqProofs := false}) only [go_sem, ↓reduceIte, reduceCtorEq, Nat.reduceEqDiff, Nat.reduceAdd, Nat.reduceLeDiff, Nat.reduceMul, Int.reduceEq, Int.reduceLT, Int.reduceLE, Int.reduceAdd, Int.reduceSub, Int.reduceMul, Int.reduceNeg, Int.reduceToNat, Int.reduceNe, Int.reduceBEq, Int.reduceBNe, Nat.reduceLT, Nat.reduceSub, Nat.reduceDiv, Nat.reduceMod, Int.reduceTDiv, Int.reduceTMod, f4, f5, f6, f7, g4, g5, g6, g7, big_map, big_len, big_all, big_cells, big_agg, big_load0, big_loadk, big_uf, big_free, big_drop1, big_shut, big_solid, big_put4, big_put, big_ret]
def O43 (a b : Nat) (v4 : AV) (q4 : Option (List AV)) (h : Heap) (r : Option (XExit × St)) : Prop :=
    ∃ fr' l', r = some (.exit 0, ⟨fr', l' :: h⟩) ∧ fget fr' 2 = .ptr ⟨h.length, 2, 0⟩ 0 ∧ fget fr' 4 = v4 ∧ lcells l' 4 0 = q4 ∧ lcells l' 2 0 = some (bigL (Nat.gcd a b))
theorem l43 (v4 : AV) (q4 : Option (List AV)) (h : Heap) : ∀ (b a : Nat) (_ : a < 340282366920938463463374607431768211456) (_ : b ≤ 170141183460469231731687303715884105728) (fr : List AV) (l : Level),
    fget fr 2 = .ptr ⟨h.length, 2, 0⟩ 0 → fget fr 3 = .ptr ⟨h.length, 3, 0⟩ 0 → fget fr 5 = .ptr ⟨h.length, 5, 0⟩ 0 → fget fr 4 = v4 → lcells l 4 0 = q4 →
    lcells l 2 0 = some (bigL a) → lcells l 3 0 = some (bigL b) → lcells l 5 0 = some (bigL 0) → O43 a b v4 q4 h (LC X GV (.loop x78_l0) ⟨fr, l :: h⟩) := by
  intro b
  induction b using Nat.strongRecOn with
  | ind b ih =>
    intro a ha hb fr l h2 h3 h5 h4 k4 k2 k3 k5
    rw [LC_loop]
    have z := big_zero b (by omega) true
    have z0 : AV.agg [.int .u64 0, .int .u64 0, .int .u64 0, .int .u64 0] = big 0 := rfl
    rw [z0] at z
    by_cases h0 : b = 0
    · subst h0
      simp (config := {contextual := true, maxSteps := 10000000, implicitDefEqProofs := false}) only [x78_l0_run, go_sem, ↓reduceIte, reduceCtorEq, Nat.reduceEqDiff, Nat.reduceAdd, Nat.reduceLeDiff, Nat.reduceMul, Int.reduceEq, Int.reduceLT, Int.reduceLE, Int.reduceAdd, Int.reduceSub, Int.reduceMul, Int.reduceNeg, Int.reduceToNat, Int.reduceNe, Int.reduceBEq, Int.reduceBNe, Nat.reduceLT, Nat.reduceSub, Nat.reduceDiv, Nat.reduceMod, Int.reduceTDiv, Int.reduceTMod, big_map, big_len, big_all, big_cells, big_agg, big_load0, big_loadk, big_uf, big_free, big_drop1, big_shut, big_solid, big_put4, big_put, big_ret, h2, h3, h5, k2, k3, k5, z]
      exact ⟨_, _, rfl, by simp only [go_sem, ↓reduceIte, reduceCtorEq, Nat.reduceEqDiff, Nat.reduceAdd, Nat.reduceLeDiff, Nat.reduceMul, Int.reduceEq, Int.reduceLT, Int.reduceLE, Int.reduceAdd, Int.reduceSub, Int.reduceMul, Int.reduceNeg, Int.reduceToNat, Int.reduceNe, Int.reduceBEq, Int.reduceBNe, Nat.reduceLT, Nat.reduceSub, Nat.reduceDiv, Nat.reduceMod, Int.reduceTDiv, Int.reduceTMod, h2], by simp only [go_sem, ↓reduceIte, reduceCtorEq, Nat.reduceEqDiff, Nat.reduceAdd, Nat.reduceLeDiff, Nat.reduceMul, Int.reduceEq, Int.reduceLT, Int.reduceLE, Int.reduceAdd, Int.reduceSub, Int.reduceMul, Int.reduceNeg, Int.reduceToNat, Int.reduceNe, Int.reduceBEq, Int.reduceBNe, Nat.reduceLT, Nat.reduceSub, Nat.reduceDiv, Nat.reduceMod, Int.reduceTDiv, Int.reduceTMod, h4], by simp only [go_sem, ↓reduceIte, reduceCtorEq, Nat.reduceEqDiff, Nat.reduceAdd, Nat.reduceLeDiff, Nat.reduceMul, Int.reduceEq, Int.reduceLT, Int.reduceLE, Int.reduceAdd, Int.reduceSub, Int.reduceMul, Int.reduceNeg, Int.reduceToNat, Int.reduceNe, Int.reduceBEq, Int.reduceBNe, Nat.reduceLT, Nat.reduceSub, Nat.reduceDiv, Nat.reduceMod, Int.reduceTDiv, Int.reduceTMod, k4], by simp only [go_sem, ↓reduceIte, reduceCtorEq, Nat.reduceEqDiff, Nat.reduceAdd, Nat.reduceLeDiff, Nat.reduceMul, Int.reduceEq, Int.reduceLT, Int.reduceLE, Int.reduceAdd, Int.reduceSub, Int.reduceMul, Int.reduceNeg, Int.reduceToNat, Int.reduceNe, Int.reduceBEq, Int.reduceBNe, Nat.reduceLT, Nat.reduceSub, Nat.reduceDiv, Nat.reduceMod, Int.reduceTDiv, Int.reduceTMod, k2, Nat.gcd_zero_right]⟩
    · have r44' := r44 a b ha (Nat.pos_of_ne_zero h0) hb
      simp (config := {contextual := true, maxSteps := 10000000, implicitDefEqProofs := false}) only [x78_l0_run, go_sem, ↓reduceIte, reduceCtorEq, Nat.reduceEqDiff, Nat.reduceAdd, Nat.reduceLeDiff, Nat.reduceMul, Int.reduceEq, Int.reduceLT, Int.reduceLE, Int.reduceAdd, Int.reduceSub, Int.reduceMul, Int.reduceNeg, Int.reduceToNat, Int.reduceNe, Int.reduceBEq, Int.reduceBNe, Nat.reduceLT, Nat.reduceSub, Nat.reduceDiv, Nat.reduceMod, Int.reduceTDiv, Int.reduceTMod, big_map, big_len, big_all, big_cells, big_agg, big_load0, big_loadk, big_uf, big_free, big_drop1, big_shut, big_solid, big_put4, big_put, big_ret, h2, h3, h5, k2, k3, k5, z, h0, r44', ← big0]
      unfold O43
      rw [show Nat.gcd a b = Nat.gcd b (a % b) by rw [Nat.gcd_comm b, ← Nat.gcd_rec, Nat.gcd_comm]]
      have lt := Nat.mod_lt a (Nat.pos_of_ne_zero h0)
      refine ih (a % b) lt b (by omega) (by omega) _ _ ?_ ?_ ?_ ?_ ?_ ?_ ?_ ?_ <;> simp only [go_sem, ↓reduceIte, reduceCtorEq, Nat.reduceEqDiff, Nat.reduceAdd, Nat.reduceLeDiff, Nat.reduceMul, Int.reduceEq, Int.reduceLT, Int.reduceLE, Int.reduceAdd, Int.reduceSub, Int.reduceMul, Int.reduceNeg, Int.reduceToNat, Int.reduceNe, Int.reduceBEq, Int.reduceBNe, Nat.reduceLT, Nat.reduceSub, Nat.reduceDiv, Nat.reduceMod, Int.reduceTDiv, Int.reduceTMod, h2, h3, h5, h4, k4, k2, k3, k5]
theorem r43 (a b : Nat) (ha : a < 340282366920938463463374607431768211456) (hb : b ≤ 170141183460469231731687303715884105728) (hp : Heap) :
    CL X GV 78 [big a, big b] hp = some (big (Nat.gcd a b), hp) := by
  rw [CL_eq (fn := x78) rfl]
  simp (config := {contextual := true, maxSteps := 10000000, implicitDefEqProofs := false}) only [x78, go_sem, ↓reduceIte, reduceCtorEq, Nat.reduceEqDiff, Nat.reduceAdd, Nat.reduceLeDiff, Nat.reduceMul, Int.reduceEq, Int.reduceLT, Int.reduceLE, Int.reduceAdd, Int.reduceSub, Int.reduceMul, Int.reduceNeg, Int.reduceToNat, Int.reduceNe, Int.reduceBEq, Int.reduceBNe, Nat.reduceLT, Nat.reduceSub, Nat.reduceDiv, Nat.reduceMod, Int.reduceTDiv, Int.reduceTMod, big_map, big_len, big_all, big_cells, big_agg, big_load0, big_loadk, big_uf, big_free, big_drop1, big_shut, big_solid, big_put4, big_put, big_ret, ← big0]
  refine elimL (fun r => finK _ (seqK (blockK 0 r) _) = _) (l43 _ _ _ b a ha hb _ _ ?_ ?_ ?_ rfl rfl ?_ ?_ ?_) ?_
  all_goals try simp only [go_sem, ↓reduceIte, reduceCtorEq, Nat.reduceEqDiff, Nat.reduceAdd, Nat.reduceLeDiff, Nat.reduceMul, Int.reduceEq, Int.reduceLT, Int.reduceLE, Int.reduceAdd, Int.reduceSub, Int.reduceMul, Int.reduceNeg, Int.reduceToNat, Int.reduceNe, Int.reduceBEq, Int.reduceBNe, Nat.reduceLT, Nat.reduceSub, Nat.reduceDiv, Nat.reduceMod, Int.reduceTDiv, Int.reduceTMod]
  rintro r ⟨fr', l', rfl, f2, f4, g4, g2⟩
  simp (config := {contextual := true, maxSteps := 10000000, implicitDefEqProofs := false}) only [go_sem, ↓reduceIte, reduceCtorEq, Nat.reduceEqDiff, Nat.reduceAdd, Nat.reduceLeDiff, Nat.reduceMul, Int.reduceEq, Int.reduceLT, Int.reduceLE, Int.reduceAdd, Int.reduceSub, Int.reduceMul, Int.reduceNeg, Int.reduceToNat, Int.reduceNe, Int.reduceBEq, Int.reduceBNe, Nat.reduceLT, Nat.reduceSub, Nat.reduceDiv, Nat.reduceMod, Int.reduceTDiv, Int.reduceTMod, f2, f4, g4, g2, big_map, big_len, big_all, big_cells, big_agg, big_load0, big_loadk, big_uf, big_free, big_drop1, big_shut, big_solid, big_put4, big_put, big_ret]
end Go.Proofs.YtgbmobfjanajaaaDoor.Sx.T
namespace Go.Proofs.YtgbmobfjanajaaaDoor.Sx.T
open Go Go.Proofs.YtgbmobfjanajaaaDoor.Sx
set_option maxRecDepth 100000
set_option maxHeartbeats 4000000
/-- A fraction and an error, as they come back. -/
def rt (x : Int × Int × Int) : AV := .tup [.agg [.int .i64 x.1, .int .i64 x.2.1], .int .i64 x.2.2]
/-- The least form of n over d, below 0 or not; or its error. -/
def mk (below : Bool) (n d : Nat) : Int × Int × Int :=
  let p := n / Nat.gcd n d
  let q := d / Nat.gcd n d
  if 9223372036854775808 ≤ q ∨ 9223372036854775808 < p ∨ p = 9223372036854775808 ∧ below = false then (0, 0, 10)
  else if below then (-p, q, 0) else (p, q, 0)
theorem valp (p : Nat) (h : p < 18446744073709551616) : (dg p 1 * 4294967296 % 18446744073709551616 + dg p 0) % 18446744073709551616 = p := by
  simp only [dg, Nat.pow_zero, Nat.div_one, Nat.pow_one]
  omega
theorem r32 (below : Bool) (n d : Nat) (hn : n < 340282366920938463463374607431768211456) (hd : 0 < d) (hd' : d ≤ 170141183460469231731687303715884105728) (hp : Heap) :
    CL X GV 60 [.bool below, big n, big d] hp = some (rt (mk below n d), hp) := by
  rw [CL_eq (fn := x60) rfl]
  have hg : 0 < Nat.gcd n d := Nat.gcd_pos_of_pos_right n hd
  have hg' : Nat.gcd n d ≤ d := Nat.gcd_le_right n hd
  have a1 := r43 n d hn hd'
  have a2 := r44 n (Nat.gcd n d) hn hg (by omega)
  have a3 := r44 d (Nat.gcd n d) (by omega) hg (by omega)
  have a4 : ∀ hp, CL X GV 58 [.int .u64 9223372036854775808] hp = some (big 9223372036854775808, hp) := r30 9223372036854775808 (by omega)
  have hp' : n / Nat.gcd n d < 340282366920938463463374607431768211456 := Nat.lt_of_le_of_lt (Nat.div_le_self _ _) hn
  have hq' : d / Nat.gcd n d < 340282366920938463463374607431768211456 := Nat.lt_of_le_of_lt (Nat.div_le_self _ _) (by omega)
  unfold mk
  generalize n / Nat.gcd n d = p at *
  generalize d / Nat.gcd n d = q at *
  have a5 := r35 p 9223372036854775808 hp' (by omega)
  have a6 := r35 q 9223372036854775808 hq' (by omega)
  have x1 : p < 9223372036854775808 ∨ p = 9223372036854775808 ∨ 9223372036854775808 < p := by omega
  have x2 : q < 9223372036854775808 ∨ q = 9223372036854775808 ∨ 9223372036854775808 < q := by omega
  have lt0 : ∀ p : Nat, p < 9223372036854775808 → ¬ 9223372036854775808 < p := fun p h => by omega
  have e (x : Nat) (h : x < 9223372036854775808) : wr .i64 (x : Int) = x := wr_i64 _ (by omega)
  rcases x2 with h2 | h2 | h2
  · have v2 := valp q (by omega)
    rcases x1 with h1 | h1 | h1
    · have v1 := valp p (by omega)
      simp (config := {contextual := true, maxSteps := 10000000, implicitDefEqProofs := false}) only [x60, go_sem, ↓reduceIte, reduceCtorEq, Nat.reduceEqDiff, Nat.reduceAdd, Nat.reduceLeDiff, Nat.reduceMul, Int.reduceEq, Int.reduceLT, Int.reduceLE, Int.reduceAdd, Int.reduceSub, Int.reduceMul, Int.reduceNeg, Int.reduceToNat, Int.reduceNe, Int.reduceBEq, Int.reduceBNe, Nat.reduceLT, Nat.reduceSub, Nat.reduceDiv, Nat.reduceMod, Int.reduceTDiv, Int.reduceTMod, big_map, big_len, big_all, big_cells, big_agg, big_load0, big_loadk, big_uf, big_free, big_drop1, big_shut, big_solid, big_put4, big_put, big_ret, ← big0, a1, a2, a3, a4, a5, a6, h1, h2, lt0, v1, v2, e, neg_back p (by omega)]
      cases below <;> simp [rt, show ¬ 9223372036854775808 ≤ q by omega, show ¬ p = 9223372036854775808 by omega]
    · subst h1
      simp (config := {contextual := true, maxSteps := 10000000, implicitDefEqProofs := false}) only [x60, go_sem, ↓reduceIte, reduceCtorEq, Nat.reduceEqDiff, Nat.reduceAdd, Nat.reduceLeDiff, Nat.reduceMul, Int.reduceEq, Int.reduceLT, Int.reduceLE, Int.reduceAdd, Int.reduceSub, Int.reduceMul, Int.reduceNeg, Int.reduceToNat, Int.reduceNe, Int.reduceBEq, Int.reduceBNe, Nat.reduceLT, Nat.reduceSub, Nat.reduceDiv, Nat.reduceMod, Int.reduceTDiv, Int.reduceTMod, big_map, big_len, big_all, big_cells, big_agg, big_load0, big_loadk, big_uf, big_free, big_drop1, big_shut, big_solid, big_put4, big_put, big_ret, ← big0, a1, a2, a3, a4, a5, a6, h2, Nat.lt_irrefl, lt0, v2, e, valp 9223372036854775808 (by omega), neg_back 9223372036854775808 (by omega)]
      cases below <;> simp [rt, show ¬ 9223372036854775808 ≤ q by omega]
    · have h1' : ¬ p < 9223372036854775808 := by omega
      simp (config := {contextual := true, maxSteps := 10000000, implicitDefEqProofs := false}) only [x60, go_sem, ↓reduceIte, reduceCtorEq, Nat.reduceEqDiff, Nat.reduceAdd, Nat.reduceLeDiff, Nat.reduceMul, Int.reduceEq, Int.reduceLT, Int.reduceLE, Int.reduceAdd, Int.reduceSub, Int.reduceMul, Int.reduceNeg, Int.reduceToNat, Int.reduceNe, Int.reduceBEq, Int.reduceBNe, Nat.reduceLT, Nat.reduceSub, Nat.reduceDiv, Nat.reduceMod, Int.reduceTDiv, Int.reduceTMod, big_map, big_len, big_all, big_cells, big_agg, big_load0, big_loadk, big_uf, big_free, big_drop1, big_shut, big_solid, big_put4, big_put, big_ret, ← big0, a1, a2, a3, a4, a5, a6, h1, h1', h2, lt0]
      rw [if_pos (by simp)]
      rfl
  · subst h2
    simp (config := {contextual := true, maxSteps := 10000000, implicitDefEqProofs := false}) only [x60, go_sem, ↓reduceIte, reduceCtorEq, Nat.reduceEqDiff, Nat.reduceAdd, Nat.reduceLeDiff, Nat.reduceMul, Int.reduceEq, Int.reduceLT, Int.reduceLE, Int.reduceAdd, Int.reduceSub, Int.reduceMul, Int.reduceNeg, Int.reduceToNat, Int.reduceNe, Int.reduceBEq, Int.reduceBNe, Nat.reduceLT, Nat.reduceSub, Nat.reduceDiv, Nat.reduceMod, Int.reduceTDiv, Int.reduceTMod, big_map, big_len, big_all, big_cells, big_agg, big_load0, big_loadk, big_uf, big_free, big_drop1, big_shut, big_solid, big_put4, big_put, big_ret, ← big0, a1, a2, a3, a4, a5, a6, Nat.lt_irrefl]
    rw [if_pos (by simp)]
    rfl
  · have h2' : ¬ q < 9223372036854775808 := by omega
    simp (config := {contextual := true, maxSteps := 10000000, implicitDefEqProofs := false}) only [x60, go_sem, ↓reduceIte, reduceCtorEq, Nat.reduceEqDiff, Nat.reduceAdd, Nat.reduceLeDiff, Nat.reduceMul, Int.reduceEq, Int.reduceLT, Int.reduceLE, Int.reduceAdd, Int.reduceSub, Int.reduceMul, Int.reduceNeg, Int.reduceToNat, Int.reduceNe, Int.reduceBEq, Int.reduceBNe, Nat.reduceLT, Nat.reduceSub, Nat.reduceDiv, Nat.reduceMod, Int.reduceTDiv, Int.reduceTMod, big_map, big_len, big_all, big_cells, big_agg, big_load0, big_loadk, big_uf, big_free, big_drop1, big_shut, big_solid, big_put4, big_put, big_ret, ← big0, a1, a2, a3, a4, a5, a6, h2, h2']
    rw [if_pos (by omega)]
    rfl
end Go.Proofs.YtgbmobfjanajaaaDoor.Sx.T
namespace Go.Proofs.YtgbmobfjanajaaaDoor.Sx.T
open Go Go.Proofs.YtgbmobfjanajaaaDoor.Sx
set_option maxRecDepth 100000
set_option maxHeartbeats 4000000
def I64 (n : Int) : Prop := -9223372036854775808 ≤ n ∧ n < 9223372036854775808
/-- The least form of t over d. -/
def frc (t : Int) (d : Nat) : Int × Int × Int := mk (decide (t < 0)) t.natAbs d
def ofR (n d : Int) : Int × Int × Int := if d = 0 then (0, 0, 11) else frc (n * d.sign) d.natAbs
def mayR (n d : Int) : Bool := decide (0 < d ∧ Nat.gcd n.natAbs d.natAbs = 1)
theorem rt_eq (x : Int × Int × Int) : rt x = .tup [.agg [.int .i64 x.1, .int .i64 x.2.1], .int .i64 x.2.2] := rfl
theorem ofR_mk (n d : Int) (h0 : ¬ d = 0) : mk (if ¬n = 0 then !decide (n < 0) == decide (d < 0) else false) n.natAbs d.natAbs = ofR n d := by
  unfold ofR frc
  rw [if_neg h0, Int.natAbs_mul, Int.natAbs_sign_of_ne_zero h0, Nat.mul_one]
  congr 1
  rcases Int.lt_trichotomy d 0 with h | h | h
  · rw [Int.sign_eq_neg_one_of_neg h]
    by_cases h1 : n = 0
    · subst h1; rfl
    · by_cases h2 : n < 0 <;> simp [h1, h2, h] <;> omega
  · omega
  · rw [Int.sign_eq_one_of_pos h]
    by_cases h1 : n = 0
    · subst h1; rfl
    · by_cases h2 : n < 0 <;> simp [h1, h2, show ¬ d < 0 by omega]
theorem r13 (n d : Int) (hn : I64 n) (hd : I64 d) (hp : Heap) : CL X GV 41 [.int .i64 n, .int .i64 d] hp = some (rt (ofR n d), hp) := by
  rw [CL_eq (fn := x41) rfl]
  have a1 := r31 n hn
  have a2 := r31 d hd
  have a3 := r30 n.natAbs (by unfold I64 at hn; omega)
  have a4 := r30 d.natAbs (by unfold I64 at hd; omega)
  by_cases h0 : d = 0
  · subst h0
    simp (config := {contextual := true, maxSteps := 10000000, implicitDefEqProofs := false}) only [x41, go_sem, ↓reduceIte, reduceCtorEq, Nat.reduceEqDiff, Nat.reduceAdd, Nat.reduceLeDiff, Nat.reduceMul, Int.reduceEq, Int.reduceLT, Int.reduceLE, Int.reduceAdd, Int.reduceSub, Int.reduceMul, Int.reduceNeg, Int.reduceToNat, Int.reduceNe, Int.reduceBEq, Int.reduceBNe, Nat.reduceLT, Nat.reduceSub, Nat.reduceDiv, Nat.reduceMod, Int.reduceTDiv, Int.reduceTMod, big_map, big_len, big_all, big_cells, big_agg, big_load0, big_loadk, big_uf, big_free, big_drop1, big_shut, big_solid, big_put4, big_put, big_ret, ← big0, a1, a2, a3, a4]
    rfl
  · have a5 := fun b => r32 b n.natAbs d.natAbs (by unfold I64 at hn; omega) (by omega) (by unfold I64 at hd; omega)
    rw [← ofR_mk n d h0]
    by_cases h1 : n = 0
    · subst h1
      simp (config := {contextual := true, maxSteps := 10000000, implicitDefEqProofs := false}) only [x41, go_sem, ↓reduceIte, reduceCtorEq, Nat.reduceEqDiff, Nat.reduceAdd, Nat.reduceLeDiff, Nat.reduceMul, Int.reduceEq, Int.reduceLT, Int.reduceLE, Int.reduceAdd, Int.reduceSub, Int.reduceMul, Int.reduceNeg, Int.reduceToNat, Int.reduceNe, Int.reduceBEq, Int.reduceBNe, Nat.reduceLT, Nat.reduceSub, Nat.reduceDiv, Nat.reduceMod, Int.reduceTDiv, Int.reduceTMod, big_map, big_len, big_all, big_cells, big_agg, big_load0, big_loadk, big_uf, big_free, big_drop1, big_shut, big_solid, big_put4, big_put, big_ret, ← big0, a1, a2, a3, a4, a5, h0, rt_eq]
    · simp (config := {contextual := true, maxSteps := 10000000, implicitDefEqProofs := false}) only [x41, go_sem, ↓reduceIte, reduceCtorEq, Nat.reduceEqDiff, Nat.reduceAdd, Nat.reduceLeDiff, Nat.reduceMul, Int.reduceEq, Int.reduceLT, Int.reduceLE, Int.reduceAdd, Int.reduceSub, Int.reduceMul, Int.reduceNeg, Int.reduceToNat, Int.reduceNe, Int.reduceBEq, Int.reduceBNe, Nat.reduceLT, Nat.reduceSub, Nat.reduceDiv, Nat.reduceMod, Int.reduceTDiv, Int.reduceTMod, big_map, big_len, big_all, big_cells, big_agg, big_load0, big_loadk, big_uf, big_free, big_drop1, big_shut, big_solid, big_put4, big_put, big_ret, ← big0, a1, a2, a3, a4, a5, h0, h1, rt_eq]
theorem may_eq (n d : Int) (hn : I64 n) (hd : I64 d) (h : 0 < d) : (decide ((ofR n d).2.2 = 0) && ((ofR n d).1 == n && (ofR n d).2.1 == d)) = mayR n d := by
  unfold ofR mayR frc mk
  unfold I64 at *
  rw [if_neg (by omega), Int.sign_eq_one_of_pos h, Int.mul_one]
  have hg : 0 < Nat.gcd n.natAbs d.natAbs := Nat.gcd_pos_of_pos_right _ (by omega)
  by_cases h1 : Nat.gcd n.natAbs d.natAbs = 1
  · simp only [h1, Nat.div_one, and_true]
    rw [if_neg (by simp only [decide_eq_false_iff_not]; omega)]
    by_cases h2 : n < 0
    · simp [h2, h]
      omega
    · simp [h2, h]
      omega
  · have h3 : d.natAbs / Nat.gcd n.natAbs d.natAbs < d.natAbs := Nat.div_lt_self (by omega) (by omega)
    generalize d.natAbs / Nat.gcd n.natAbs d.natAbs = q at *
    generalize n.natAbs / Nat.gcd n.natAbs d.natAbs = p at *
    simp only [h1, and_false, decide_false]
    split
    · rfl
    · have : ((q : Int) == d) = false := by simp; omega
      split <;> simp [this]
theorem r33 (n d : Int) (hn : I64 n) (hd : I64 d) (hp : Heap) : CL X GV 26 [.agg [.int .i64 n, .int .i64 d]] hp = some (.bool (mayR n d), hp) := by
  rw [CL_eq (fn := x26) rfl]
  have a1 := r13 n d hn hd
  simp (config := {contextual := true, maxSteps := 10000000, implicitDefEqProofs := false}) only [x26, go_sem, ↓reduceIte, reduceCtorEq, Nat.reduceEqDiff, Nat.reduceAdd, Nat.reduceLeDiff, Nat.reduceMul, Int.reduceEq, Int.reduceLT, Int.reduceLE, Int.reduceAdd, Int.reduceSub, Int.reduceMul, Int.reduceNeg, Int.reduceToNat, Int.reduceNe, Int.reduceBEq, Int.reduceBNe, Nat.reduceLT, Nat.reduceSub, Nat.reduceDiv, Nat.reduceMod, Int.reduceTDiv, Int.reduceTMod, big_map, big_len, big_all, big_cells, big_agg, big_load0, big_loadk, big_uf, big_free, big_drop1, big_shut, big_solid, big_put4, big_put, big_ret, ← big0, a1, rt_eq]
  by_cases h : d ≤ 0
  · rw [if_pos h]
    simp only [mayR, show ¬ 0 < d by omega, false_and, decide_false]
  · rw [if_neg h, may_eq n d hn hd (by omega)]
theorem frc_int (t : Int) (d : Nat) (b : Bool) (n : Nat) (h : n = t.natAbs) (hb : b = decide (t < 0)) : mk b n d = frc t d := by
  subst h hb; rfl
theorem fin3 (b : Bool) (n D : Nat) (T : Int) (hp : Heap) (h : n = T.natAbs) (hb : b = decide (T < 0)) :
    some (AV.tup [AV.agg [AV.int .i64 (mk b n D).1, AV.int .i64 (mk b n D).2.1], AV.int .i64 (mk b n D).2.2], hp) = some (AV.tup [AV.agg [AV.int .i64 (frc T D).1, AV.int .i64 (frc T D).2.1], AV.int .i64 (frc T D).2.2], hp) := by
  rw [frc_int T D b n h hb]
theorem fin3' (P : Prop) [Decidable P] (b b' : Bool) (n D : Nat) (T : Int) (hp : Heap) (h : n = T.natAbs) (hb : (if P then b else b') = decide (T < 0)) :
    some (AV.tup [AV.agg [AV.int .i64 (if P then (mk b n D).1 else (mk b' n D).1), AV.int .i64 (if P then (mk b n D).2.1 else (mk b' n D).2.1)], AV.int .i64 (if P then (mk b n D).2.2 else (mk b' n D).2.2)], hp) =
      some (AV.tup [AV.agg [AV.int .i64 (frc T D).1, AV.int .i64 (frc T D).2.1], AV.int .i64 (frc T D).2.2], hp) := by
  split <;> rename_i h' <;> simp only [h', if_true, if_false] at hb <;> rw [frc_int T D _ n h hb]
theorem mul_sgn (a d : Int) (hd : 0 < d) : a * d = if a < 0 then -((a.natAbs * d.natAbs : Nat) : Int) else ((a.natAbs * d.natAbs : Nat) : Int) := by
  obtain ⟨k, rfl⟩ := Int.eq_ofNat_of_zero_le (Int.le_of_lt hd)
  rw [Int.natAbs_natCast, Int.natCast_mul]
  split
  · rw [← Int.neg_mul, show -(a.natAbs : Int) = a by omega]
  · rw [show (a.natAbs : Int) = a by omega]
end Go.Proofs.YtgbmobfjanajaaaDoor.Sx.T
namespace Go.Proofs.YtgbmobfjanajaaaDoor.Sx.T
open Go Go.Proofs.YtgbmobfjanajaaaDoor.Sx
set_option maxRecDepth 100000
set_option maxHeartbeats 4000000
def both (a b c d : Int) : Bool := mayR a b && mayR c d
def addR (a b c d : Int) : Int × Int × Int := if both a b c d = true then frc (a * d + c * b) (b.natAbs * d.natAbs) else (0, 0, 1)
def subR (a b c d : Int) : Int × Int × Int := if both a b c d = true then frc (a * d + -(c * b)) (b.natAbs * d.natAbs) else (0, 0, 1)
def mulR (a b c d : Int) : Int × Int × Int := if both a b c d = true then frc (a * c) (b.natAbs * d.natAbs) else (0, 0, 1)
def divR (a b c d : Int) : Int × Int × Int := if both a b c d = true then (if c = 0 then (0, 0, 11) else frc (a * d * c.sign) (b.natAbs * c.natAbs)) else (0, 0, 1)
def cmpR (a b c d : Int) : Int := if both a b c d = true then (if a * d < c * b then -1 else if c * b < a * d then 1 else 0) else 0
theorem may_pos {a b : Int} (h : mayR a b = true) : 0 < b := by
  simp only [mayR, decide_eq_true_eq] at h
  exact h.1
theorem may_gcd {a b : Int} (h : mayR a b = true) : Nat.gcd a.natAbs b.natAbs = 1 := by
  simp only [mayR, decide_eq_true_eq] at h
  exact h.2
theorem mul_sgn2 (a c : Int) : a * c = if (decide (a < 0) == decide (c < 0)) = false then -((a.natAbs * c.natAbs : Nat) : Int) else ((a.natAbs * c.natAbs : Nat) : Int) := by
  rw [Int.natCast_mul]
  by_cases h1 : a < 0
  · have e1 : (a.natAbs : Int) = -a := by omega
    by_cases h2 : c < 0
    · have e2 : (c.natAbs : Int) = -c := by omega
      simp [h1, h2, e1, e2, Int.neg_mul, Int.mul_neg]
    · have e2 : (c.natAbs : Int) = c := by omega
      simp [h1, h2, e1, e2, Int.neg_mul, Int.mul_neg]
  · have e1 : (a.natAbs : Int) = a := by omega
    by_cases h2 : c < 0
    · have e2 : (c.natAbs : Int) = -c := by omega
      simp [h1, h2, e1, e2, Int.neg_mul, Int.mul_neg]
    · have e2 : (c.natAbs : Int) = c := by omega
      simp [h1, h2, e1, e2, Int.neg_mul, Int.mul_neg]
end Go.Proofs.YtgbmobfjanajaaaDoor.Sx.T
namespace Go.Proofs.YtgbmobfjanajaaaDoor.Sx.T
open Go Go.Proofs.YtgbmobfjanajaaaDoor.Sx
set_option maxRecDepth 100000
set_option maxHeartbeats 4000000
theorem r28 (n d : Int) (hn : I64 n) (hd : I64 d) (hp : Heap) : CL X GV 44 [.agg [.int .i64 n, .int .i64 d]] hp = some (.bool (mayR n d), hp) := by
  rw [CL_eq (fn := x44) rfl]
  have a1 := r27 n hn
  by_cases h : 0 < d
  · have ud : u64 d = d.natAbs := by simp only [u64]; unfold I64 at hd; omega
    simp (config := {contextual := true, maxSteps := 10000000, implicitDefEqProofs := false}) only [x44, go_sem, ↓reduceIte, reduceCtorEq, Nat.reduceEqDiff, Nat.reduceAdd, Nat.reduceLeDiff, Nat.reduceMul, Int.reduceEq, Int.reduceLT, Int.reduceLE, Int.reduceAdd, Int.reduceSub, Int.reduceMul, Int.reduceNeg, Int.reduceToNat, Int.reduceNe, Int.reduceBEq, Int.reduceBNe, Nat.reduceLT, Nat.reduceSub, Nat.reduceDiv, Nat.reduceMod, Int.reduceTDiv, Int.reduceTMod, a1, r26, h, ud]
    unfold mayR
    congr 3
    rw [Bool.eq_iff_iff]
    simp [h]
    omega
  · simp (config := {contextual := true, maxSteps := 10000000, implicitDefEqProofs := false}) only [x44, go_sem, ↓reduceIte, reduceCtorEq, Nat.reduceEqDiff, Nat.reduceAdd, Nat.reduceLeDiff, Nat.reduceMul, Int.reduceEq, Int.reduceLT, Int.reduceLE, Int.reduceAdd, Int.reduceSub, Int.reduceMul, Int.reduceNeg, Int.reduceToNat, Int.reduceNe, Int.reduceBEq, Int.reduceBNe, Nat.reduceLT, Nat.reduceSub, Nat.reduceDiv, Nat.reduceMod, Int.reduceTDiv, Int.reduceTMod, a1, r26, h, mayR, false_and]
/-- What the compiled code compares, told. -/
theorem tell_lt (q k : Nat) (h : q ≤ k) : ((k : Int) < (q : Int)) = False := by simp; omega
theorem r10 (n d : Int) (hn : I64 n) (hd : I64 d) (hp : Heap) : CL X GV 24 [.int .i64 n, .int .i64 d] hp = some (rt (ofR n d), hp) := by
  rw [CL_eq (fn := x24) rfl]
  have a1 := r27 n hn
  have a2 := r27 d hd
  by_cases h0 : d = 0
  · subst h0
    simp (config := {contextual := true, maxSteps := 10000000, implicitDefEqProofs := false}) only [x24, go_sem, ↓reduceIte, reduceCtorEq, Nat.reduceEqDiff, Nat.reduceAdd, Nat.reduceLeDiff, Nat.reduceMul, Int.reduceEq, Int.reduceLT, Int.reduceLE, Int.reduceAdd, Int.reduceSub, Int.reduceMul, Int.reduceNeg, Int.reduceToNat, Int.reduceNe, Int.reduceBEq, Int.reduceBNe, Nat.reduceLT, Nat.reduceSub, Nat.reduceDiv, Nat.reduceMod, Int.reduceTDiv, Int.reduceTMod, a1, a2, r26]
    rfl
  · have hg : Nat.gcd n.natAbs d.natAbs ≠ 0 := Nat.ne_of_gt (Nat.gcd_pos_of_pos_right _ (by omega))
    rw [← ofR_mk n d h0]
    obtain ⟨P, hP⟩ : ∃ P, n.natAbs / Nat.gcd n.natAbs d.natAbs = P := ⟨_, rfl⟩
    obtain ⟨Q, hQ⟩ : ∃ Q, d.natAbs / Nat.gcd n.natAbs d.natAbs = Q := ⟨_, rfl⟩
    have lP : P ≤ 9223372036854775808 := by rw [← hP]; exact Nat.le_trans (Nat.div_le_self _ _) (by unfold I64 at hn; omega)
    have lQ : Q ≤ 9223372036854775808 := by rw [← hQ]; exact Nat.le_trans (Nat.div_le_self _ _) (by unfold I64 at hd; omega)
    have mP : P % 18446744073709551616 = P := by omega
    have mQ : Q % 18446744073709551616 = Q := by omega
    unfold mk
    generalize hb : (if ¬n = 0 then !decide (n < 0) == decide (d < 0) else false) = b
    rw [bite_f] at hb
    simp only [decide_not] at hb
    have t0 : ((9223372036854775808 : Int) < (P : Int)) = False := by simp; omega
    have t0' : ¬ 9223372036854775808 < P := by omega
    by_cases h1 : 9223372036854775808 ≤ Q
    · have t1 : ((9223372036854775807 : Int) < (Q : Int)) = True := by simp; omega
      simp (config := {contextual := true, maxSteps := 10000000, implicitDefEqProofs := false}) only [x24, go_sem, ↓reduceIte, reduceCtorEq, Nat.reduceEqDiff, Nat.reduceAdd, Nat.reduceLeDiff, Nat.reduceMul, Int.reduceEq, Int.reduceLT, Int.reduceLE, Int.reduceAdd, Int.reduceSub, Int.reduceMul, Int.reduceNeg, Int.reduceToNat, Int.reduceNe, Int.reduceBEq, Int.reduceBNe, Nat.reduceLT, Nat.reduceSub, Nat.reduceDiv, Nat.reduceMod, Int.reduceTDiv, Int.reduceTMod, a1, a2, r26, h0, hg, hP, hQ, mP, mQ, t0, t1, h1, true_or, hb]
      rfl
    · have t1 : ((9223372036854775807 : Int) < (Q : Int)) = False := by simp; omega
      have e2 : wr .i64 (Q : Int) = (Q : Int) := wr_i64 _ (by omega)
      have e3 := neg_back P (by omega)
      by_cases h2 : P = 9223372036854775808
      · have t2 : ((P : Int) = (9223372036854775808 : Int)) = True := by simp; omega
        have t2' : (P = 9223372036854775808) = True := by simp [h2]
        simp (config := {contextual := true, maxSteps := 10000000, implicitDefEqProofs := false}) only [x24, go_sem, ↓reduceIte, reduceCtorEq, Nat.reduceEqDiff, Nat.reduceAdd, Nat.reduceLeDiff, Nat.reduceMul, Int.reduceEq, Int.reduceLT, Int.reduceLE, Int.reduceAdd, Int.reduceSub, Int.reduceMul, Int.reduceNeg, Int.reduceToNat, Int.reduceNe, Int.reduceBEq, Int.reduceBNe, Nat.reduceLT, Nat.reduceSub, Nat.reduceDiv, Nat.reduceMod, Int.reduceTDiv, Int.reduceTMod, a1, a2, r26, h0, hg, hP, hQ, mP, mQ, t0, t0', t1, t2, t2', h1, true_or, false_or, hb, e2, e3]
        cases b <;> simp_all [rt]
      · have t2 : ((P : Int) = (9223372036854775808 : Int)) = False := by simp; omega
        have e4 : wr .i64 (P : Int) = (P : Int) := wr_i64 _ (by omega)
        simp (config := {contextual := true, maxSteps := 10000000, implicitDefEqProofs := false}) only [x24, go_sem, ↓reduceIte, reduceCtorEq, Nat.reduceEqDiff, Nat.reduceAdd, Nat.reduceLeDiff, Nat.reduceMul, Int.reduceEq, Int.reduceLT, Int.reduceLE, Int.reduceAdd, Int.reduceSub, Int.reduceMul, Int.reduceNeg, Int.reduceToNat, Int.reduceNe, Int.reduceBEq, Int.reduceBNe, Nat.reduceLT, Nat.reduceSub, Nat.reduceDiv, Nat.reduceMod, Int.reduceTDiv, Int.reduceTMod, a1, a2, r26, h0, hg, hP, hQ, mP, mQ, t0, t0', t1, t2, h1, h2, true_or, false_or, false_and, hb, e2, e3, e4]
        cases b <;> simp_all [rt]
theorem min_32 : min 32 64 = 32 := rfl
theorem stepB (s : Nat) (hs : s ≤ 18446744073709551615) : ∃ c d, s / 4294967296 = c ∧ s % 4294967296 = d ∧ d < 4294967296 ∧ s = d + 4294967296 * c ∧ c ≤ 4294967295 ∧ c % 18446744073709551616 = c ∧ d % 18446744073709551616 = d ∧ s % 18446744073709551616 = s :=
  ⟨_, _, rfl, rfl, Nat.mod_lt _ (by omega), by omega, by omega, by omega, by omega, by omega⟩
theorem mul_digs (x0 x1 y0 y1 : Nat) : (x0 + 4294967296 * x1) * (y0 + 4294967296 * y1) = x0 * y0 + 4294967296 * (x0 * y1 + x1 * y0) + 18446744073709551616 * (x1 * y1) := by
  rw [Nat.add_mul, Nat.mul_add, Nat.mul_add]
  have p1 : x0 * (4294967296 * y1) = 4294967296 * (x0 * y1) := Nat.mul_left_comm _ _ _
  have p2 : 4294967296 * x1 * y0 = 4294967296 * (x1 * y0) := Nat.mul_assoc _ _ _
  have p3 : 4294967296 * x1 * (4294967296 * y1) = 18446744073709551616 * (x1 * y1) := by
    rw [Nat.mul_assoc, Nat.mul_left_comm x1, ← Nat.mul_assoc]
  rw [p1, p2, p3, Nat.mul_add]
  omega
theorem r42 (a b : Nat) (ha : a < 18446744073709551616) (hb : b < 18446744073709551616) (hp : Heap) : CL X GV 61 [.int .u64 a, .int .u64 b] hp = some (.tup [.int .u64 (a * b / 18446744073709551616 : Nat), .int .u64 (a * b % 18446744073709551616 : Nat)], hp) := by
  rw [CL_eq (fn := x61) rfl]
  simp (config := {contextual := true, maxSteps := 10000000, implicitDefEqProofs := false}) only [x61, go_sem, ↓reduceIte, reduceCtorEq, Nat.reduceEqDiff, Nat.reduceAdd, Nat.reduceLeDiff, Nat.reduceMul, Int.reduceEq, Int.reduceLT, Int.reduceLE, Int.reduceAdd, Int.reduceSub, Int.reduceMul, Int.reduceNeg, Int.reduceToNat, Int.reduceNe, Int.reduceBEq, Int.reduceBNe, Nat.reduceLT, Nat.reduceSub, Nat.reduceDiv, Nat.reduceMod, Int.reduceTDiv, Int.reduceTMod, min_32, Nat.reducePow, Nat.mod_mod]
  obtain ⟨x1, x0, u1, u2, bx, ex, gx, mx1, mx2, mx3⟩ := stepB a (by omega)
  obtain ⟨y1, y0, v1, v2, bY, ey, gy, my1, my2, my3⟩ := stepB b (by omega)
  simp only [u1, u2, v1, v2, mx1, mx2, my1, my2]
  rw [ex, ey, mul_digs]
  have q00 := mul_bound x0 y0 bx bY
  have q01 := mul_bound x0 y1 bx (by omega)
  have q10 := mul_bound x1 y0 (by omega) bY
  have q11 := mul_bound x1 y1 (by omega) (by omega)
  generalize x0 * y0 = p00 at *
  generalize x0 * y1 = p01 at *
  generalize x1 * y0 = p10 at *
  generalize x1 * y1 = p11 at *
  clear ex ey u1 u2 v1 v2 mx1 mx2 my1 my2 mx3 my3
  simp only [Nat.mod_eq_of_lt (show p00 < 18446744073709551616 by omega), Nat.mod_eq_of_lt (show p01 < 18446744073709551616 by omega), Nat.mod_eq_of_lt (show p10 < 18446744073709551616 by omega), Nat.mod_eq_of_lt (show p11 < 18446744073709551616 by omega)]
  obtain ⟨c1, d1, u1, u2, b1, e1, g1, m1, m2, m3⟩ := stepB p00 (by omega)
  simp only [u1]
  obtain ⟨c2, d2, u1, u2, b2, e2, g2, m1, m2, m3⟩ := stepB (p10 + c1) (by omega)
  simp only [u1, u2, m1, m2, m3]
  obtain ⟨c3, d3, u1, u2, b3, e3, g3, m1, m2, m3⟩ := stepB (d2 + p01) (by omega)
  simp only [u1, u2, m1, m2, m3, Nat.mod_eq_of_lt (show p11 + c2 < 18446744073709551616 by omega)]
  have t : p00 + 4294967296 * (p01 + p10) + 18446744073709551616 * p11 = (d1 + 4294967296 * d3) + 18446744073709551616 * (p11 + c2 + c3) := by omega
  rw [t, Nat.add_mul_div_left _ _ (by omega), Nat.div_eq_of_lt (show d1 + 4294967296 * d3 < 18446744073709551616 by omega), Nat.zero_add]
  have t2 : (p11 + c2 + c3) % 18446744073709551616 = p11 + c2 + c3 := Nat.mod_eq_of_lt (by omega)
  rw [t2]
end Go.Proofs.YtgbmobfjanajaaaDoor.Sx.T
namespace Go.Proofs.YtgbmobfjanajaaaDoor.Sx.T
open Go Go.Proofs.YtgbmobfjanajaaaDoor.Sx
set_option maxRecDepth 100000
set_option maxHeartbeats 4000000
def wd (a b : Nat) (m : Bool) : AV := .agg [.int .u64 a, .int .u64 b, .bool m]
theorem nn (x : Nat) : (0 ≤ (x : Int)) = True := by simp
theorem lt64 (x : Nat) (h : x < 18446744073709551616) : ((x : Int) < 18446744073709551616) = True := by simp; omega
theorem bit_ge (x y : Nat) : (0 ≤ if (x : Int) < y then (1 : Int) else 0) = True := eq_true (by split <;> omega)
theorem bit_le (x y : Nat) : ((if (x : Int) < y then (1 : Int) else 0) ≤ 1) = True := eq_true (by split <;> omega)
theorem prim_add (x y k : Int) (h : 0 ≤ x ∧ 0 ≤ y ∧ 0 ≤ k ∧ k ≤ 1) : primX 0 [.int .u64 x, .int .u64 y, .int .u64 k] = some (.tup [.int .u64 ((x + y + k) % 18446744073709551616), .int .u64 ((x + y + k) / 18446744073709551616)]) := if_pos h
theorem prim_sub (x y k : Int) (h : 0 ≤ x ∧ x < 18446744073709551616 ∧ 0 ≤ y ∧ y < 18446744073709551616 ∧ 0 ≤ k ∧ k ≤ 1) : primX 1 [.int .u64 x, .int .u64 y, .int .u64 k] = some (.tup [.int .u64 ((x - y - k) % 18446744073709551616), .int .u64 (if x < y + k then 1 else 0)]) := if_pos h
def W (n : Nat) (m : Bool) : AV := .agg [.int .u64 (n / 18446744073709551616 : Nat), .int .u64 (n % 18446744073709551616 : Nat), .bool m]
theorem r36 (a b : Int) (ha : I64 a) (hb : I64 b) (hp : Heap) : CL X GV 45 [.int .i64 a, .int .i64 b] hp = some (W (a.natAbs * b.natAbs) (decide (a < 0) != decide (b < 0)), hp) := by
  rw [CL_eq (fn := x45) rfl]
  have a1 := r27 a ha
  have a2 := r27 b hb
  have a3 := r42 a.natAbs b.natAbs (by unfold I64 at *; omega) (by unfold I64 at *; omega)
  simp (config := {contextual := true, maxSteps := 10000000, implicitDefEqProofs := false}) only [x45, go_sem, ↓reduceIte, reduceCtorEq, Nat.reduceEqDiff, Nat.reduceAdd, Nat.reduceLeDiff, Nat.reduceMul, Int.reduceEq, Int.reduceLT, Int.reduceLE, Int.reduceAdd, Int.reduceSub, Int.reduceMul, Int.reduceNeg, Int.reduceToNat, Int.reduceNe, Int.reduceBEq, Int.reduceBNe, Nat.reduceLT, Nat.reduceSub, Nat.reduceDiv, Nat.reduceMod, Int.reduceTDiv, Int.reduceTMod, a1, a2, a3]
  rfl
theorem wsplit (n : Nat) (hn : n < 170141183460469231731687303715884105728) : ∃ c d, n / 18446744073709551616 = c ∧ n % 18446744073709551616 = d ∧ d < 18446744073709551616 ∧ c < 18446744073709551616 ∧ n = d + 18446744073709551616 * c := ⟨_, _, rfl, rfl, Nat.mod_lt _ (by omega), by omega, by omega⟩
theorem r37 (n k : Nat) (m l : Bool) (hn : n < 170141183460469231731687303715884105728) (hk : k < 170141183460469231731687303715884105728) (hp : Heap) :
    CL X GV 46 [W n m, W k l] hp = some (if m = l then W (n + k) m else if n < k then W (k - n) l else W (n - k) m, hp) := by
  rw [CL_eq (fn := x46) rfl]
  obtain ⟨n1, n0, hn1, hn0, bn, b1, en⟩ := wsplit n hn
  obtain ⟨k1, k0, hk1, hk0, bk, b2, ek⟩ := wsplit k hk
  unfold W
  rw [hn1, hn0, hk1, hk0]
  by_cases hm : m = l
  · have g : (0 ≤ ((n0 : Int) + k0) / 18446744073709551616 ∧ ((n0 : Int) + k0) / 18446744073709551616 ≤ 1) = True := eq_true (by omega)
    rw [if_pos hm]
    simp (config := {contextual := true, maxSteps := 10000000, implicitDefEqProofs := false}) only [x46, go_sem, ↓reduceIte, reduceCtorEq, Nat.reduceEqDiff, Nat.reduceAdd, Nat.reduceLeDiff, Nat.reduceMul, Int.reduceEq, Int.reduceLT, Int.reduceLE, Int.reduceAdd, Int.reduceSub, Int.reduceMul, Int.reduceNeg, Int.reduceToNat, Int.reduceNe, Int.reduceBEq, Int.reduceBNe, Nat.reduceLT, Nat.reduceSub, Nat.reduceDiv, Nat.reduceMod, Int.reduceTDiv, Int.reduceTMod, prim_add, hm, nn, g]
    simp only [Option.some.injEq, Prod.mk.injEq, AV.agg.injEq, AV.tup.injEq, List.cons.injEq, AV.int.injEq, AV.bool.injEq, true_and, and_true, and_self, Int.natCast_inj]
    omega
  · rw [if_neg hm]
    rcases Nat.lt_trichotomy n1 k1 with h1 | h1 | h1
    · have l1 : ((n1 : Int) < k1) = True := eq_true (by omega)
      rw [if_pos (by omega)]
      simp (config := {contextual := true, maxSteps := 10000000, implicitDefEqProofs := false}) only [x46, go_sem, ↓reduceIte, reduceCtorEq, Nat.reduceEqDiff, Nat.reduceAdd, Nat.reduceLeDiff, Nat.reduceMul, Int.reduceEq, Int.reduceLT, Int.reduceLE, Int.reduceAdd, Int.reduceSub, Int.reduceMul, Int.reduceNeg, Int.reduceToNat, Int.reduceNe, Int.reduceBEq, Int.reduceBNe, Nat.reduceLT, Nat.reduceSub, Nat.reduceDiv, Nat.reduceMod, Int.reduceTDiv, Int.reduceTMod, prim_sub, hm, nn, l1, lt64 _ bn, lt64 _ bk, lt64 _ b1, lt64 _ b2, bit_ge, bit_le]
      simp only [Option.some.injEq, Prod.mk.injEq, AV.agg.injEq, AV.tup.injEq, List.cons.injEq, AV.int.injEq, AV.bool.injEq, true_and, and_true, and_self, Int.natCast_inj]
      split <;> omega
    · subst h1
      by_cases h2 : n0 < k0
      · have l1 : ((n0 : Int) < k0) = True := eq_true (by omega)
        rw [if_pos (by omega)]
        simp (config := {contextual := true, maxSteps := 10000000, implicitDefEqProofs := false}) only [x46, go_sem, ↓reduceIte, reduceCtorEq, Nat.reduceEqDiff, Nat.reduceAdd, Nat.reduceLeDiff, Nat.reduceMul, Int.reduceEq, Int.reduceLT, Int.reduceLE, Int.reduceAdd, Int.reduceSub, Int.reduceMul, Int.reduceNeg, Int.reduceToNat, Int.reduceNe, Int.reduceBEq, Int.reduceBNe, Nat.reduceLT, Nat.reduceSub, Nat.reduceDiv, Nat.reduceMod, Int.reduceTDiv, Int.reduceTMod, prim_sub, hm, nn, Int.lt_irrefl, l1, lt64 _ bn, lt64 _ bk, lt64 _ b1, lt64 _ b2, bit_ge, bit_le]
        simp only [Option.some.injEq, Prod.mk.injEq, AV.agg.injEq, AV.tup.injEq, List.cons.injEq, AV.int.injEq, AV.bool.injEq, true_and, and_true, and_self, Int.natCast_inj]
        try split
        all_goals omega
      · have l1 : ((n0 : Int) < k0) = False := eq_false (by omega)
        rw [if_neg (by omega)]
        simp (config := {contextual := true, maxSteps := 10000000, implicitDefEqProofs := false}) only [x46, go_sem, ↓reduceIte, reduceCtorEq, Nat.reduceEqDiff, Nat.reduceAdd, Nat.reduceLeDiff, Nat.reduceMul, Int.reduceEq, Int.reduceLT, Int.reduceLE, Int.reduceAdd, Int.reduceSub, Int.reduceMul, Int.reduceNeg, Int.reduceToNat, Int.reduceNe, Int.reduceBEq, Int.reduceBNe, Nat.reduceLT, Nat.reduceSub, Nat.reduceDiv, Nat.reduceMod, Int.reduceTDiv, Int.reduceTMod, prim_sub, hm, nn, Int.lt_irrefl, l1, lt64 _ bn, lt64 _ bk, lt64 _ b1, lt64 _ b2, bit_ge, bit_le]
        simp only [Option.some.injEq, Prod.mk.injEq, AV.agg.injEq, AV.tup.injEq, List.cons.injEq, AV.int.injEq, AV.bool.injEq, true_and, and_true, and_self, Int.natCast_inj]
        try split
        all_goals omega
    · have l1 : ((n1 : Int) < k1) = False := eq_false (by omega)
      have l2 : ((n1 : Int) = k1) = False := eq_false (by omega)
      rw [if_neg (by omega)]
      simp (config := {contextual := true, maxSteps := 10000000, implicitDefEqProofs := false}) only [x46, go_sem, ↓reduceIte, reduceCtorEq, Nat.reduceEqDiff, Nat.reduceAdd, Nat.reduceLeDiff, Nat.reduceMul, Int.reduceEq, Int.reduceLT, Int.reduceLE, Int.reduceAdd, Int.reduceSub, Int.reduceMul, Int.reduceNeg, Int.reduceToNat, Int.reduceNe, Int.reduceBEq, Int.reduceBNe, Nat.reduceLT, Nat.reduceSub, Nat.reduceDiv, Nat.reduceMod, Int.reduceTDiv, Int.reduceTMod, prim_sub, hm, nn, l1, l2, lt64 _ bn, lt64 _ bk, lt64 _ b1, lt64 _ b2, bit_ge, bit_le]
      simp only [Option.some.injEq, Prod.mk.injEq, AV.agg.injEq, AV.tup.injEq, List.cons.injEq, AV.int.injEq, AV.bool.injEq, true_and, and_true, and_self, Int.natCast_inj]
      split <;> omega
end Go.Proofs.YtgbmobfjanajaaaDoor.Sx.T
namespace Go.Proofs.YtgbmobfjanajaaaDoor.Sx.T
open Go Go.Proofs.YtgbmobfjanajaaaDoor.Sx
set_option maxRecDepth 100000
set_option maxHeartbeats 4000000
theorem min_16 : min 16 64 = 16 := rfl
theorem min_8 : min 8 64 = 8 := rfl
def tab8 : List UInt8 := [0, 1, 2, 2, 3, 3, 3, 3, 4, 4, 4, 4, 4, 4, 4, 4, 5, 5, 5, 5, 5, 5, 5, 5, 5, 5, 5, 5, 5, 5, 5, 5, 6, 6, 6, 6, 6, 6, 6, 6, 6, 6, 6, 6, 6, 6, 6, 6, 6, 6, 6, 6, 6, 6, 6, 6, 6, 6, 6, 6, 6, 6, 6, 6, 7, 7, 7, 7, 7, 7, 7, 7, 7, 7, 7, 7, 7, 7, 7, 7, 7, 7, 7, 7, 7, 7, 7, 7, 7, 7, 7, 7, 7, 7, 7, 7, 7, 7, 7, 7, 7, 7, 7, 7, 7, 7, 7, 7, 7, 7, 7, 7, 7, 7, 7, 7, 7, 7, 7, 7, 7, 7, 7, 7, 7, 7, 7, 7, 8, 8, 8, 8, 8, 8, 8, 8, 8, 8, 8, 8, 8, 8, 8, 8, 8, 8, 8, 8, 8, 8, 8, 8, 8, 8, 8, 8, 8, 8, 8, 8, 8, 8, 8, 8, 8, 8, 8, 8, 8, 8, 8, 8, 8, 8, 8, 8, 8, 8, 8, 8, 8, 8, 8, 8, 8, 8, 8, 8, 8, 8, 8, 8, 8, 8, 8, 8, 8, 8, 8, 8, 8, 8, 8, 8, 8, 8, 8, 8, 8, 8, 8, 8, 8, 8, 8, 8, 8, 8, 8, 8, 8, 8, 8, 8, 8, 8, 8, 8, 8, 8, 8, 8, 8, 8, 8, 8, 8, 8, 8, 8, 8, 8, 8, 8, 8, 8, 8, 8, 8, 8, 8, 8, 8, 8, 8, 8]
theorem tab8_len : tab8.length = 256 := by decide
def okTab : Nat → Bool
  | 0 => true
  | i + 1 => (i == 0 || (decide (1 ≤ (tab8.getD i 0).toNat ∧ (tab8.getD i 0).toNat ≤ 8 ∧ 2 ^ ((tab8.getD i 0).toNat - 1) ≤ i ∧ i < 2 ^ (tab8.getD i 0).toNat))) && okTab i
theorem okTab_all : okTab 256 = true := by decide +kernel
theorem okTab_at : ∀ (n : Nat), okTab n = true → ∀ i, i < n → 0 < i → 1 ≤ (tab8.getD i 0).toNat ∧ (tab8.getD i 0).toNat ≤ 8 ∧ 2 ^ ((tab8.getD i 0).toNat - 1) ≤ i ∧ i < 2 ^ (tab8.getD i 0).toNat
  | 0, _, i, hi, _ => by omega
  | n + 1, h, i, hi, h0 => by
    simp only [okTab, Bool.and_eq_true, Bool.or_eq_true, beq_iff_eq, decide_eq_true_eq] at h
    by_cases e : i = n
    · subst e
      rcases h.1 with h1 | h1
      · omega
      · exact h1
    · exact okTab_at n h.2 i (by omega) h0
theorem len_sum (m s t : Nat) (h1 : 1 ≤ t) (h2 : 2 ^ (t - 1) ≤ m / 2 ^ s) (h3 : m / 2 ^ s < 2 ^ t) : 2 ^ (s + t - 1) ≤ m ∧ m < 2 ^ (s + t) := by
  constructor
  · rw [show s + t - 1 = t - 1 + s by omega, Nat.pow_add]
    exact (Nat.le_div_iff_mul_le (Nat.two_pow_pos s)).1 h2
  · rw [Nat.add_comm, Nat.pow_add]
    exact (Nat.div_lt_iff_lt_mul (Nat.two_pow_pos s)).1 h3
theorem r50a (n s : Nat) (h0 : 0 < n / 2 ^ s) (h : n / 2 ^ s < 256) (hs : s ≤ 56) (r : Option (AV × Heap)) (hp : Heap)
    (hr : r = some (.int .i64 (wr .i64 ((s : Int) + ((tab8.getD (n / 2 ^ s) 0).toNat : Nat))), hp)) : ∃ k, r = some (.int .i64 (k : Nat), hp) ∧ 1 ≤ k ∧ k ≤ 64 ∧ 2 ^ (k - 1) ≤ n ∧ n < 2 ^ k := by
  obtain ⟨h1, h2, h3, h4⟩ := okTab_at 256 okTab_all _ h h0
  obtain ⟨h5, h6⟩ := len_sum n s _ h1 h3 h4
  refine ⟨s + (tab8.getD (n / 2 ^ s) 0).toNat, ?_, by omega, by omega, h5, h6⟩
  rw [hr, wr_i64 _ (by omega)]
  rfl
theorem r50 (n : Nat) (h0 : 0 < n) (h : n < 18446744073709551616) (hp : Heap) : ∃ k, CL X GV 82 [.int .u64 n] hp = some (.int .i64 (k : Nat), hp) ∧ 1 ≤ k ∧ k ≤ 64 ∧ 2 ^ (k - 1) ≤ n ∧ n < 2 ^ k := by
  rw [CL_eq (fn := x82) rfl]
  have tt : ∀ i, wr .i64 (((tab8.getD i 0).toNat : Nat) : Int) = ((tab8.getD i 0).toNat : Nat) := fun i => wr_i64_nat _ (Nat.lt_of_lt_of_le (UInt8.toNat_lt _) (by omega))
  have t8 : tab8 = [0, 1, 2, 2, 3, 3, 3, 3, 4, 4, 4, 4, 4, 4, 4, 4, 5, 5, 5, 5, 5, 5, 5, 5, 5, 5, 5, 5, 5, 5, 5, 5, 6, 6, 6, 6, 6, 6, 6, 6, 6, 6, 6, 6, 6, 6, 6, 6, 6, 6, 6, 6, 6, 6, 6, 6, 6, 6, 6, 6, 6, 6, 6, 6, 7, 7, 7, 7, 7, 7, 7, 7, 7, 7, 7, 7, 7, 7, 7, 7, 7, 7, 7, 7, 7, 7, 7, 7, 7, 7, 7, 7, 7, 7, 7, 7, 7, 7, 7, 7, 7, 7, 7, 7, 7, 7, 7, 7, 7, 7, 7, 7, 7, 7, 7, 7, 7, 7, 7, 7, 7, 7, 7, 7, 7, 7, 7, 7, 8, 8, 8, 8, 8, 8, 8, 8, 8, 8, 8, 8, 8, 8, 8, 8, 8, 8, 8, 8, 8, 8, 8, 8, 8, 8, 8, 8, 8, 8, 8, 8, 8, 8, 8, 8, 8, 8, 8, 8, 8, 8, 8, 8, 8, 8, 8, 8, 8, 8, 8, 8, 8, 8, 8, 8, 8, 8, 8, 8, 8, 8, 8, 8, 8, 8, 8, 8, 8, 8, 8, 8, 8, 8, 8, 8, 8, 8, 8, 8, 8, 8, 8, 8, 8, 8, 8, 8, 8, 8, 8, 8, 8, 8, 8, 8, 8, 8, 8, 8, 8, 8, 8, 8, 8, 8, 8, 8, 8, 8, 8, 8, 8, 8, 8, 8, 8, 8, 8, 8, 8, 8, 8, 8, 8, 8, 8, 8] := rfl
  have ln : tab8.length = 256 := tab8_len
  by_cases c32 : 4294967296 ≤ n
  · have f32 : ((4294967296 : Int) ≤ ((n : Nat) : Int)) = True := eq_true (by omega)
    by_cases c16 : 65536 ≤ n / 4294967296
    · have f16 : ((65536 : Int) ≤ ((n / 4294967296 : Nat) : Int)) = True := eq_true (by omega)
      by_cases c8 : 256 ≤ n / 4294967296 / 65536
      · have f8 : ((256 : Int) ≤ ((n / 4294967296 / 65536 : Nat) : Int)) = True := eq_true (by omega)
        refine r50a n 56 (by simp only [Nat.reducePow] <;> omega) (by simp only [Nat.reducePow] <;> omega) (by omega) _ hp ?_
        have w8 : wr .u8 ((n / 4294967296 / 65536 / 256 : Nat) : Int) = ((n / 4294967296 / 65536 / 256 : Nat) : Int) := wr_u8_nat _ (by omega)
        have lt8 : (n / 4294967296 / 65536 / 256 < 256) = True := eq_true (by omega)
        have e8 : n / 2 ^ 56 = n / 4294967296 / 65536 / 256 := by simp only [Nat.reducePow] <;> omega
        rw [e8]
        simp (config := {contextual := true, maxSteps := 10000000, implicitDefEqProofs := false}) only [x82, ← t8, go_sem, ↓reduceIte, reduceCtorEq, Nat.reduceEqDiff, Nat.reduceAdd, Nat.reduceLeDiff, Nat.reduceMul, Int.reduceEq, Int.reduceLT, Int.reduceLE, Int.reduceAdd, Int.reduceSub, Int.reduceMul, Int.reduceNeg, Int.reduceToNat, Int.reduceNe, Int.reduceBEq, Int.reduceBNe, Nat.reduceLT, Nat.reduceSub, Nat.reduceDiv, Nat.reduceMod, Int.reduceTDiv, Int.reduceTMod, min_32, min_16, min_8, Nat.reducePow, f32, f16, f8, w8, lt8, ln, tt]
        try rfl
      · have f8 : ((256 : Int) ≤ ((n / 4294967296 / 65536 : Nat) : Int)) = False := eq_false (by omega)
        refine r50a n 48 (by simp only [Nat.reducePow] <;> omega) (by simp only [Nat.reducePow] <;> omega) (by omega) _ hp ?_
        have w8 : wr .u8 ((n / 4294967296 / 65536 : Nat) : Int) = ((n / 4294967296 / 65536 : Nat) : Int) := wr_u8_nat _ (by omega)
        have lt8 : (n / 4294967296 / 65536 < 256) = True := eq_true (by omega)
        have e8 : n / 2 ^ 48 = n / 4294967296 / 65536 := by simp only [Nat.reducePow] <;> omega
        rw [e8]
        simp (config := {contextual := true, maxSteps := 10000000, implicitDefEqProofs := false}) only [x82, ← t8, go_sem, ↓reduceIte, reduceCtorEq, Nat.reduceEqDiff, Nat.reduceAdd, Nat.reduceLeDiff, Nat.reduceMul, Int.reduceEq, Int.reduceLT, Int.reduceLE, Int.reduceAdd, Int.reduceSub, Int.reduceMul, Int.reduceNeg, Int.reduceToNat, Int.reduceNe, Int.reduceBEq, Int.reduceBNe, Nat.reduceLT, Nat.reduceSub, Nat.reduceDiv, Nat.reduceMod, Int.reduceTDiv, Int.reduceTMod, min_32, min_16, min_8, Nat.reducePow, f32, f16, f8, w8, lt8, ln, tt]
        try rfl
    · have f16 : ((65536 : Int) ≤ ((n / 4294967296 : Nat) : Int)) = False := eq_false (by omega)
      by_cases c8 : 256 ≤ n / 4294967296
      · have f8 : ((256 : Int) ≤ ((n / 4294967296 : Nat) : Int)) = True := eq_true (by omega)
        refine r50a n 40 (by simp only [Nat.reducePow] <;> omega) (by simp only [Nat.reducePow] <;> omega) (by omega) _ hp ?_
        have w8 : wr .u8 ((n / 4294967296 / 256 : Nat) : Int) = ((n / 4294967296 / 256 : Nat) : Int) := wr_u8_nat _ (by omega)
        have lt8 : (n / 4294967296 / 256 < 256) = True := eq_true (by omega)
        have e8 : n / 2 ^ 40 = n / 4294967296 / 256 := by simp only [Nat.reducePow] <;> omega
        rw [e8]
        simp (config := {contextual := true, maxSteps := 10000000, implicitDefEqProofs := false}) only [x82, ← t8, go_sem, ↓reduceIte, reduceCtorEq, Nat.reduceEqDiff, Nat.reduceAdd, Nat.reduceLeDiff, Nat.reduceMul, Int.reduceEq, Int.reduceLT, Int.reduceLE, Int.reduceAdd, Int.reduceSub, Int.reduceMul, Int.reduceNeg, Int.reduceToNat, Int.reduceNe, Int.reduceBEq, Int.reduceBNe, Nat.reduceLT, Nat.reduceSub, Nat.reduceDiv, Nat.reduceMod, Int.reduceTDiv, Int.reduceTMod, min_32, min_16, min_8, Nat.reducePow, f32, f16, f8, w8, lt8, ln, tt]
        try rfl
      · have f8 : ((256 : Int) ≤ ((n / 4294967296 : Nat) : Int)) = False := eq_false (by omega)
        refine r50a n 32 (by simp only [Nat.reducePow] <;> omega) (by simp only [Nat.reducePow] <;> omega) (by omega) _ hp ?_
        have w8 : wr .u8 ((n / 4294967296 : Nat) : Int) = ((n / 4294967296 : Nat) : Int) := wr_u8_nat _ (by omega)
        have lt8 : (n / 4294967296 < 256) = True := eq_true (by omega)
        have e8 : n / 2 ^ 32 = n / 4294967296 := by simp only [Nat.reducePow] <;> omega
        rw [e8]
        simp (config := {contextual := true, maxSteps := 10000000, implicitDefEqProofs := false}) only [x82, ← t8, go_sem, ↓reduceIte, reduceCtorEq, Nat.reduceEqDiff, Nat.reduceAdd, Nat.reduceLeDiff, Nat.reduceMul, Int.reduceEq, Int.reduceLT, Int.reduceLE, Int.reduceAdd, Int.reduceSub, Int.reduceMul, Int.reduceNeg, Int.reduceToNat, Int.reduceNe, Int.reduceBEq, Int.reduceBNe, Nat.reduceLT, Nat.reduceSub, Nat.reduceDiv, Nat.reduceMod, Int.reduceTDiv, Int.reduceTMod, min_32, min_16, min_8, Nat.reducePow, f32, f16, f8, w8, lt8, ln, tt]
        try rfl
  · have f32 : ((4294967296 : Int) ≤ ((n : Nat) : Int)) = False := eq_false (by omega)
    by_cases c16 : 65536 ≤ n
    · have f16 : ((65536 : Int) ≤ ((n : Nat) : Int)) = True := eq_true (by omega)
      by_cases c8 : 256 ≤ n / 65536
      · have f8 : ((256 : Int) ≤ ((n / 65536 : Nat) : Int)) = True := eq_true (by omega)
        refine r50a n 24 (by simp only [Nat.reducePow] <;> omega) (by simp only [Nat.reducePow] <;> omega) (by omega) _ hp ?_
        have w8 : wr .u8 ((n / 65536 / 256 : Nat) : Int) = ((n / 65536 / 256 : Nat) : Int) := wr_u8_nat _ (by omega)
        have lt8 : (n / 65536 / 256 < 256) = True := eq_true (by omega)
        have e8 : n / 2 ^ 24 = n / 65536 / 256 := by simp only [Nat.reducePow] <;> omega
        rw [e8]
        simp (config := {contextual := true, maxSteps := 10000000, implicitDefEqProofs := false}) only [x82, ← t8, go_sem, ↓reduceIte, reduceCtorEq, Nat.reduceEqDiff, Nat.reduceAdd, Nat.reduceLeDiff, Nat.reduceMul, Int.reduceEq, Int.reduceLT, Int.reduceLE, Int.reduceAdd, Int.reduceSub, Int.reduceMul, Int.reduceNeg, Int.reduceToNat, Int.reduceNe, Int.reduceBEq, Int.reduceBNe, Nat.reduceLT, Nat.reduceSub, Nat.reduceDiv, Nat.reduceMod, Int.reduceTDiv, Int.reduceTMod, min_32, min_16, min_8, Nat.reducePow, f32, f16, f8, w8, lt8, ln, tt]
        try rfl
      · have f8 : ((256 : Int) ≤ ((n / 65536 : Nat) : Int)) = False := eq_false (by omega)
        refine r50a n 16 (by simp only [Nat.reducePow] <;> omega) (by simp only [Nat.reducePow] <;> omega) (by omega) _ hp ?_
        have w8 : wr .u8 ((n / 65536 : Nat) : Int) = ((n / 65536 : Nat) : Int) := wr_u8_nat _ (by omega)
        have lt8 : (n / 65536 < 256) = True := eq_true (by omega)
        have e8 : n / 2 ^ 16 = n / 65536 := by simp only [Nat.reducePow] <;> omega
        rw [e8]
        simp (config := {contextual := true, maxSteps := 10000000, implicitDefEqProofs := false}) only [x82, ← t8, go_sem, ↓reduceIte, reduceCtorEq, Nat.reduceEqDiff, Nat.reduceAdd, Nat.reduceLeDiff, Nat.reduceMul, Int.reduceEq, Int.reduceLT, Int.reduceLE, Int.reduceAdd, Int.reduceSub, Int.reduceMul, Int.reduceNeg, Int.reduceToNat, Int.reduceNe, Int.reduceBEq, Int.reduceBNe, Nat.reduceLT, Nat.reduceSub, Nat.reduceDiv, Nat.reduceMod, Int.reduceTDiv, Int.reduceTMod, min_32, min_16, min_8, Nat.reducePow, f32, f16, f8, w8, lt8, ln, tt]
        try rfl
    · have f16 : ((65536 : Int) ≤ ((n : Nat) : Int)) = False := eq_false (by omega)
      by_cases c8 : 256 ≤ n
      · have f8 : ((256 : Int) ≤ ((n : Nat) : Int)) = True := eq_true (by omega)
        refine r50a n 8 (by simp only [Nat.reducePow] <;> omega) (by simp only [Nat.reducePow] <;> omega) (by omega) _ hp ?_
        have w8 : wr .u8 ((n / 256 : Nat) : Int) = ((n / 256 : Nat) : Int) := wr_u8_nat _ (by omega)
        have lt8 : (n / 256 < 256) = True := eq_true (by omega)
        have e8 : n / 2 ^ 8 = n / 256 := by simp only [Nat.reducePow] <;> omega
        rw [e8]
        simp (config := {contextual := true, maxSteps := 10000000, implicitDefEqProofs := false}) only [x82, ← t8, go_sem, ↓reduceIte, reduceCtorEq, Nat.reduceEqDiff, Nat.reduceAdd, Nat.reduceLeDiff, Nat.reduceMul, Int.reduceEq, Int.reduceLT, Int.reduceLE, Int.reduceAdd, Int.reduceSub, Int.reduceMul, Int.reduceNeg, Int.reduceToNat, Int.reduceNe, Int.reduceBEq, Int.reduceBNe, Nat.reduceLT, Nat.reduceSub, Nat.reduceDiv, Nat.reduceMod, Int.reduceTDiv, Int.reduceTMod, min_32, min_16, min_8, Nat.reducePow, f32, f16, f8, w8, lt8, ln, tt]
        try rfl
      · have f8 : ((256 : Int) ≤ ((n : Nat) : Int)) = False := eq_false (by omega)
        refine r50a n 0 (by simp only [Nat.reducePow] <;> omega) (by simp only [Nat.reducePow] <;> omega) (by omega) _ hp ?_
        have w8 : wr .u8 ((n : Nat) : Int) = ((n : Nat) : Int) := wr_u8_nat _ (by omega)
        have lt8 : (n < 256) = True := eq_true (by omega)
        have e8 : n / 2 ^ 0 = n := by rw [Nat.pow_zero, Nat.div_one]
        rw [e8]
        simp (config := {contextual := true, maxSteps := 10000000, implicitDefEqProofs := false}) only [x82, ← t8, go_sem, ↓reduceIte, reduceCtorEq, Nat.reduceEqDiff, Nat.reduceAdd, Nat.reduceLeDiff, Nat.reduceMul, Int.reduceEq, Int.reduceLT, Int.reduceLE, Int.reduceAdd, Int.reduceSub, Int.reduceMul, Int.reduceNeg, Int.reduceToNat, Int.reduceNe, Int.reduceBEq, Int.reduceBNe, Nat.reduceLT, Nat.reduceSub, Nat.reduceDiv, Nat.reduceMod, Int.reduceTDiv, Int.reduceTMod, min_32, min_16, min_8, Nat.reducePow, f32, f16, f8, w8, lt8, ln, tt]
        rw [Int.natCast_zero, Int.zero_add, tt]
end Go.Proofs.YtgbmobfjanajaaaDoor.Sx.T
namespace Go.Proofs.YtgbmobfjanajaaaDoor.Sx.T
open Go Go.Proofs.YtgbmobfjanajaaaDoor.Sx
set_option maxRecDepth 100000
set_option maxHeartbeats 4000000
theorem qstep (Q h l v u q r : Nat) (hQ : Q = (u * 4294967296 + v) / (h * 4294967296 + l)) (hu : u = q * h + r) (hh : h < 4294967296) (hl : l < 4294967296) (h0 : 0 < h) :
    Q < q ↔ 4294967296 * r + v < q * l := by
  rw [hQ, Nat.div_lt_iff_lt_mul (by omega), hu, Nat.mul_add, ← Nat.mul_assoc, Nat.add_mul]
  omega
theorem qbreak (Q h l v u q r : Nat) (hQ : Q = (u * 4294967296 + v) / (h * 4294967296 + l)) (hu : u = q * h + r) (hh : h < 4294967296) (hl : l < 4294967296) (h0 : 0 < h)
    (hr : 4294967296 ≤ r) (hq : q ≤ 4294967296) (hQq : Q ≤ q) : q = Q := by
  refine Nat.le_antisymm ?_ hQq
  rw [hQ, Nat.le_div_iff_mul_le (by omega), hu, Nat.mul_add, ← Nat.mul_assoc, Nat.add_mul]
  have := Nat.mul_le_mul hq (Nat.le_of_lt_succ hl : l ≤ 4294967295)
  omega
def O40_0 (Q : Nat) (h l v : Nat) (v2 v8 v11 v14 : AV) (hp : Heap) (r : Option (XExit × St)) : Prop :=
  ∃ fr', r = some (.exit 0, ⟨fr', hp⟩) ∧ fget fr' 15 = .int .u64 Q ∧ fget fr' 9 = .int .u64 h ∧ fget fr' 10 = .int .u64 l ∧ fget fr' 13 = .int .u64 v ∧ fget fr' 2 = v2 ∧ fget fr' 8 = v8 ∧ fget fr' 11 = v11 ∧ fget fr' 14 = v14
theorem l40_0 (Q h l v u : Nat) (v2 v8 v11 v14 : AV) (hp : Heap) (hh : h < 4294967296) (hl : l < 4294967296) (hv : v < 4294967296) (hQ : Q = (u * 4294967296 + v) / (h * 4294967296 + l)) (hQB : Q < 4294967296) (h0 : 0 < h) :
    ∀ (q r : Nat) (fr : List AV), Q ≤ q → q ≤ 4294967297 → u = q * h + r → r < 4294967296 →
    fget fr 15 = .int .u64 q → fget fr 16 = .int .u64 r → fget fr 9 = .int .u64 h → fget fr 10 = .int .u64 l → fget fr 13 = .int .u64 v → fget fr 2 = v2 → fget fr 8 = v8 → fget fr 11 = v11 → fget fr 14 = v14 → 
    O40_0 Q h l v v2 v8 v11 v14 hp (LC X GV (.loop x96_l0) ⟨fr, hp⟩) := by
  intro q
  induction q with
  | zero =>
    intro r fr hQq _ hu hr gq gr gh gl gv k2 k8 k11 k14
    rw [LC_loop]
    have m1 : 0 * l % 18446744073709551616 = 0 := by omega
    have m3 : (4294967296 * r % 18446744073709551616 + v) % 18446744073709551616 = 4294967296 * r + v := by omega
    have f1 : ((4294967296 : Int) ≤ ((0 : Nat) : Int)) = False := eq_false (by omega)
    have f2 : (((4294967296 * r + v : Nat) : Int) < ((0 : Nat) : Int)) = False := eq_false (by omega)
    have e0 : Q = 0 := by omega
    simp (config := {contextual := true, maxSteps := 10000000, implicitDefEqProofs := false}) only [x96_l0_run, go_sem, ↓reduceIte, reduceCtorEq, Nat.reduceEqDiff, Nat.reduceAdd, Nat.reduceLeDiff, Nat.reduceMul, Int.reduceEq, Int.reduceLT, Int.reduceLE, Int.reduceAdd, Int.reduceSub, Int.reduceMul, Int.reduceNeg, Int.reduceToNat, Int.reduceNe, Int.reduceBEq, Int.reduceBNe, Nat.reduceLT, Nat.reduceSub, Nat.reduceDiv, Nat.reduceMod, Int.reduceTDiv, Int.reduceTMod, gq, gr, gh, gl, gv, m1, m3, f1, f2]
    exact ⟨_, rfl, by simp only [go_sem, ↓reduceIte, reduceCtorEq, Nat.reduceEqDiff, Nat.reduceAdd, Nat.reduceLeDiff, Nat.reduceMul, Int.reduceEq, Int.reduceLT, Int.reduceLE, Int.reduceAdd, Int.reduceSub, Int.reduceMul, Int.reduceNeg, Int.reduceToNat, Int.reduceNe, Int.reduceBEq, Int.reduceBNe, Nat.reduceLT, Nat.reduceSub, Nat.reduceDiv, Nat.reduceMod, Int.reduceTDiv, Int.reduceTMod, gq, e0], by simp only [go_sem, ↓reduceIte, reduceCtorEq, Nat.reduceEqDiff, Nat.reduceAdd, Nat.reduceLeDiff, Nat.reduceMul, Int.reduceEq, Int.reduceLT, Int.reduceLE, Int.reduceAdd, Int.reduceSub, Int.reduceMul, Int.reduceNeg, Int.reduceToNat, Int.reduceNe, Int.reduceBEq, Int.reduceBNe, Nat.reduceLT, Nat.reduceSub, Nat.reduceDiv, Nat.reduceMod, Int.reduceTDiv, Int.reduceTMod, gh], by simp only [go_sem, ↓reduceIte, reduceCtorEq, Nat.reduceEqDiff, Nat.reduceAdd, Nat.reduceLeDiff, Nat.reduceMul, Int.reduceEq, Int.reduceLT, Int.reduceLE, Int.reduceAdd, Int.reduceSub, Int.reduceMul, Int.reduceNeg, Int.reduceToNat, Int.reduceNe, Int.reduceBEq, Int.reduceBNe, Nat.reduceLT, Nat.reduceSub, Nat.reduceDiv, Nat.reduceMod, Int.reduceTDiv, Int.reduceTMod, gl], by simp only [go_sem, ↓reduceIte, reduceCtorEq, Nat.reduceEqDiff, Nat.reduceAdd, Nat.reduceLeDiff, Nat.reduceMul, Int.reduceEq, Int.reduceLT, Int.reduceLE, Int.reduceAdd, Int.reduceSub, Int.reduceMul, Int.reduceNeg, Int.reduceToNat, Int.reduceNe, Int.reduceBEq, Int.reduceBNe, Nat.reduceLT, Nat.reduceSub, Nat.reduceDiv, Nat.reduceMod, Int.reduceTDiv, Int.reduceTMod, gv], by simp only [go_sem, ↓reduceIte, reduceCtorEq, Nat.reduceEqDiff, Nat.reduceAdd, Nat.reduceLeDiff, Nat.reduceMul, Int.reduceEq, Int.reduceLT, Int.reduceLE, Int.reduceAdd, Int.reduceSub, Int.reduceMul, Int.reduceNeg, Int.reduceToNat, Int.reduceNe, Int.reduceBEq, Int.reduceBNe, Nat.reduceLT, Nat.reduceSub, Nat.reduceDiv, Nat.reduceMod, Int.reduceTDiv, Int.reduceTMod, k2], by simp only [go_sem, ↓reduceIte, reduceCtorEq, Nat.reduceEqDiff, Nat.reduceAdd, Nat.reduceLeDiff, Nat.reduceMul, Int.reduceEq, Int.reduceLT, Int.reduceLE, Int.reduceAdd, Int.reduceSub, Int.reduceMul, Int.reduceNeg, Int.reduceToNat, Int.reduceNe, Int.reduceBEq, Int.reduceBNe, Nat.reduceLT, Nat.reduceSub, Nat.reduceDiv, Nat.reduceMod, Int.reduceTDiv, Int.reduceTMod, k8], by simp only [go_sem, ↓reduceIte, reduceCtorEq, Nat.reduceEqDiff, Nat.reduceAdd, Nat.reduceLeDiff, Nat.reduceMul, Int.reduceEq, Int.reduceLT, Int.reduceLE, Int.reduceAdd, Int.reduceSub, Int.reduceMul, Int.reduceNeg, Int.reduceToNat, Int.reduceNe, Int.reduceBEq, Int.reduceBNe, Nat.reduceLT, Nat.reduceSub, Nat.reduceDiv, Nat.reduceMod, Int.reduceTDiv, Int.reduceTMod, k11], by simp only [go_sem, ↓reduceIte, reduceCtorEq, Nat.reduceEqDiff, Nat.reduceAdd, Nat.reduceLeDiff, Nat.reduceMul, Int.reduceEq, Int.reduceLT, Int.reduceLE, Int.reduceAdd, Int.reduceSub, Int.reduceMul, Int.reduceNeg, Int.reduceToNat, Int.reduceNe, Int.reduceBEq, Int.reduceBNe, Nat.reduceLT, Nat.reduceSub, Nat.reduceDiv, Nat.reduceMod, Int.reduceTDiv, Int.reduceTMod, k14]⟩
  | succ q ih =>
    intro r fr hQq hqB hu hr gq gr gh gl gv k2 k8 k11 k14
    rw [LC_loop]
    have key := qstep Q h l v u (q + 1) r hQ hu hh hl h0
    have f0 : u64 (((q + 1 : Nat) : Int) - 1) = q := by simp only [u64]; omega
    have m5 : (r + h) % 18446744073709551616 = r + h := by omega
    have hu' : u = q * h + (r + h) := by rw [hu, Nat.add_mul]; omega
    by_cases c1 : 4294967296 ≤ q + 1
    · have f1 : ((4294967296 : Int) ≤ ((q + 1 : Nat) : Int)) = True := eq_true (by omega)
      by_cases c2 : 4294967296 ≤ r + h
      · have f3 : ((4294967296 : Int) ≤ ((r + h : Nat) : Int)) = True := eq_true (by omega)
        have e0 : q = Q := qbreak Q h l v u q (r + h) hQ hu' hh hl h0 c2 (by omega) (by omega)
        simp (config := {contextual := true, maxSteps := 10000000, implicitDefEqProofs := false}) only [x96_l0_run, go_sem, ↓reduceIte, reduceCtorEq, Nat.reduceEqDiff, Nat.reduceAdd, Nat.reduceLeDiff, Nat.reduceMul, Int.reduceEq, Int.reduceLT, Int.reduceLE, Int.reduceAdd, Int.reduceSub, Int.reduceMul, Int.reduceNeg, Int.reduceToNat, Int.reduceNe, Int.reduceBEq, Int.reduceBNe, Nat.reduceLT, Nat.reduceSub, Nat.reduceDiv, Nat.reduceMod, Int.reduceTDiv, Int.reduceTMod, gq, gr, gh, gl, gv, f0, f1, f3, m5]
        exact ⟨_, rfl, by simp only [go_sem, ↓reduceIte, reduceCtorEq, Nat.reduceEqDiff, Nat.reduceAdd, Nat.reduceLeDiff, Nat.reduceMul, Int.reduceEq, Int.reduceLT, Int.reduceLE, Int.reduceAdd, Int.reduceSub, Int.reduceMul, Int.reduceNeg, Int.reduceToNat, Int.reduceNe, Int.reduceBEq, Int.reduceBNe, Nat.reduceLT, Nat.reduceSub, Nat.reduceDiv, Nat.reduceMod, Int.reduceTDiv, Int.reduceTMod, e0], by simp only [go_sem, ↓reduceIte, reduceCtorEq, Nat.reduceEqDiff, Nat.reduceAdd, Nat.reduceLeDiff, Nat.reduceMul, Int.reduceEq, Int.reduceLT, Int.reduceLE, Int.reduceAdd, Int.reduceSub, Int.reduceMul, Int.reduceNeg, Int.reduceToNat, Int.reduceNe, Int.reduceBEq, Int.reduceBNe, Nat.reduceLT, Nat.reduceSub, Nat.reduceDiv, Nat.reduceMod, Int.reduceTDiv, Int.reduceTMod, gh], by simp only [go_sem, ↓reduceIte, reduceCtorEq, Nat.reduceEqDiff, Nat.reduceAdd, Nat.reduceLeDiff, Nat.reduceMul, Int.reduceEq, Int.reduceLT, Int.reduceLE, Int.reduceAdd, Int.reduceSub, Int.reduceMul, Int.reduceNeg, Int.reduceToNat, Int.reduceNe, Int.reduceBEq, Int.reduceBNe, Nat.reduceLT, Nat.reduceSub, Nat.reduceDiv, Nat.reduceMod, Int.reduceTDiv, Int.reduceTMod, gl], by simp only [go_sem, ↓reduceIte, reduceCtorEq, Nat.reduceEqDiff, Nat.reduceAdd, Nat.reduceLeDiff, Nat.reduceMul, Int.reduceEq, Int.reduceLT, Int.reduceLE, Int.reduceAdd, Int.reduceSub, Int.reduceMul, Int.reduceNeg, Int.reduceToNat, Int.reduceNe, Int.reduceBEq, Int.reduceBNe, Nat.reduceLT, Nat.reduceSub, Nat.reduceDiv, Nat.reduceMod, Int.reduceTDiv, Int.reduceTMod, gv], by simp only [go_sem, ↓reduceIte, reduceCtorEq, Nat.reduceEqDiff, Nat.reduceAdd, Nat.reduceLeDiff, Nat.reduceMul, Int.reduceEq, Int.reduceLT, Int.reduceLE, Int.reduceAdd, Int.reduceSub, Int.reduceMul, Int.reduceNeg, Int.reduceToNat, Int.reduceNe, Int.reduceBEq, Int.reduceBNe, Nat.reduceLT, Nat.reduceSub, Nat.reduceDiv, Nat.reduceMod, Int.reduceTDiv, Int.reduceTMod, k2], by simp only [go_sem, ↓reduceIte, reduceCtorEq, Nat.reduceEqDiff, Nat.reduceAdd, Nat.reduceLeDiff, Nat.reduceMul, Int.reduceEq, Int.reduceLT, Int.reduceLE, Int.reduceAdd, Int.reduceSub, Int.reduceMul, Int.reduceNeg, Int.reduceToNat, Int.reduceNe, Int.reduceBEq, Int.reduceBNe, Nat.reduceLT, Nat.reduceSub, Nat.reduceDiv, Nat.reduceMod, Int.reduceTDiv, Int.reduceTMod, k8], by simp only [go_sem, ↓reduceIte, reduceCtorEq, Nat.reduceEqDiff, Nat.reduceAdd, Nat.reduceLeDiff, Nat.reduceMul, Int.reduceEq, Int.reduceLT, Int.reduceLE, Int.reduceAdd, Int.reduceSub, Int.reduceMul, Int.reduceNeg, Int.reduceToNat, Int.reduceNe, Int.reduceBEq, Int.reduceBNe, Nat.reduceLT, Nat.reduceSub, Nat.reduceDiv, Nat.reduceMod, Int.reduceTDiv, Int.reduceTMod, k11], by simp only [go_sem, ↓reduceIte, reduceCtorEq, Nat.reduceEqDiff, Nat.reduceAdd, Nat.reduceLeDiff, Nat.reduceMul, Int.reduceEq, Int.reduceLT, Int.reduceLE, Int.reduceAdd, Int.reduceSub, Int.reduceMul, Int.reduceNeg, Int.reduceToNat, Int.reduceNe, Int.reduceBEq, Int.reduceBNe, Nat.reduceLT, Nat.reduceSub, Nat.reduceDiv, Nat.reduceMod, Int.reduceTDiv, Int.reduceTMod, k14]⟩
      · have f3 : ((4294967296 : Int) ≤ ((r + h : Nat) : Int)) = False := eq_false (by omega)
        simp (config := {contextual := true, maxSteps := 10000000, implicitDefEqProofs := false}) only [x96_l0_run, go_sem, ↓reduceIte, reduceCtorEq, Nat.reduceEqDiff, Nat.reduceAdd, Nat.reduceLeDiff, Nat.reduceMul, Int.reduceEq, Int.reduceLT, Int.reduceLE, Int.reduceAdd, Int.reduceSub, Int.reduceMul, Int.reduceNeg, Int.reduceToNat, Int.reduceNe, Int.reduceBEq, Int.reduceBNe, Nat.reduceLT, Nat.reduceSub, Nat.reduceDiv, Nat.reduceMod, Int.reduceTDiv, Int.reduceTMod, gq, gr, gh, gl, gv, f0, f1, f3, m5]
        refine ih (r + h) _ (by omega) (by omega) hu' (by omega) ?_ ?_ ?_ ?_ ?_ ?_ ?_ ?_ ?_ <;> simp only [go_sem, ↓reduceIte, reduceCtorEq, Nat.reduceEqDiff, Nat.reduceAdd, Nat.reduceLeDiff, Nat.reduceMul, Int.reduceEq, Int.reduceLT, Int.reduceLE, Int.reduceAdd, Int.reduceSub, Int.reduceMul, Int.reduceNeg, Int.reduceToNat, Int.reduceNe, Int.reduceBEq, Int.reduceBNe, Nat.reduceLT, Nat.reduceSub, Nat.reduceDiv, Nat.reduceMod, Int.reduceTDiv, Int.reduceTMod, gh, gl, gv, k2, k8, k11, k14]
    · have f1 : ((4294967296 : Int) ≤ ((q + 1 : Nat) : Int)) = False := eq_false (by omega)
      have m1 : (q + 1) * l % 18446744073709551616 = (q + 1) * l := Nat.mod_eq_of_lt (by
        have := mul_bound (q + 1) l (by omega) hl
        omega)
      have m3 : (4294967296 * r % 18446744073709551616 + v) % 18446744073709551616 = 4294967296 * r + v := by omega
      by_cases c3 : 4294967296 * r + v < (q + 1) * l
      · have f2 : (((4294967296 * r + v : Nat) : Int) < (((q + 1) * l : Nat) : Int)) = True := eq_true (by omega)
        by_cases c2 : 4294967296 ≤ r + h
        · have f3 : ((4294967296 : Int) ≤ ((r + h : Nat) : Int)) = True := eq_true (by omega)
          have e0 : q = Q := qbreak Q h l v u q (r + h) hQ hu' hh hl h0 c2 (by omega) (by omega)
          simp (config := {contextual := true, maxSteps := 10000000, implicitDefEqProofs := false}) only [x96_l0_run, go_sem, ↓reduceIte, reduceCtorEq, Nat.reduceEqDiff, Nat.reduceAdd, Nat.reduceLeDiff, Nat.reduceMul, Int.reduceEq, Int.reduceLT, Int.reduceLE, Int.reduceAdd, Int.reduceSub, Int.reduceMul, Int.reduceNeg, Int.reduceToNat, Int.reduceNe, Int.reduceBEq, Int.reduceBNe, Nat.reduceLT, Nat.reduceSub, Nat.reduceDiv, Nat.reduceMod, Int.reduceTDiv, Int.reduceTMod, gq, gr, gh, gl, gv, f0, f1, f2, f3, m1, m3, m5]
          exact ⟨_, rfl, by simp only [go_sem, ↓reduceIte, reduceCtorEq, Nat.reduceEqDiff, Nat.reduceAdd, Nat.reduceLeDiff, Nat.reduceMul, Int.reduceEq, Int.reduceLT, Int.reduceLE, Int.reduceAdd, Int.reduceSub, Int.reduceMul, Int.reduceNeg, Int.reduceToNat, Int.reduceNe, Int.reduceBEq, Int.reduceBNe, Nat.reduceLT, Nat.reduceSub, Nat.reduceDiv, Nat.reduceMod, Int.reduceTDiv, Int.reduceTMod, e0], by simp only [go_sem, ↓reduceIte, reduceCtorEq, Nat.reduceEqDiff, Nat.reduceAdd, Nat.reduceLeDiff, Nat.reduceMul, Int.reduceEq, Int.reduceLT, Int.reduceLE, Int.reduceAdd, Int.reduceSub, Int.reduceMul, Int.reduceNeg, Int.reduceToNat, Int.reduceNe, Int.reduceBEq, Int.reduceBNe, Nat.reduceLT, Nat.reduceSub, Nat.reduceDiv, Nat.reduceMod, Int.reduceTDiv, Int.reduceTMod, gh], by simp only [go_sem, ↓reduceIte, reduceCtorEq, Nat.reduceEqDiff, Nat.reduceAdd, Nat.reduceLeDiff, Nat.reduceMul, Int.reduceEq, Int.reduceLT, Int.reduceLE, Int.reduceAdd, Int.reduceSub, Int.reduceMul, Int.reduceNeg, Int.reduceToNat, Int.reduceNe, Int.reduceBEq, Int.reduceBNe, Nat.reduceLT, Nat.reduceSub, Nat.reduceDiv, Nat.reduceMod, Int.reduceTDiv, Int.reduceTMod, gl], by simp only [go_sem, ↓reduceIte, reduceCtorEq, Nat.reduceEqDiff, Nat.reduceAdd, Nat.reduceLeDiff, Nat.reduceMul, Int.reduceEq, Int.reduceLT, Int.reduceLE, Int.reduceAdd, Int.reduceSub, Int.reduceMul, Int.reduceNeg, Int.reduceToNat, Int.reduceNe, Int.reduceBEq, Int.reduceBNe, Nat.reduceLT, Nat.reduceSub, Nat.reduceDiv, Nat.reduceMod, Int.reduceTDiv, Int.reduceTMod, gv], by simp only [go_sem, ↓reduceIte, reduceCtorEq, Nat.reduceEqDiff, Nat.reduceAdd, Nat.reduceLeDiff, Nat.reduceMul, Int.reduceEq, Int.reduceLT, Int.reduceLE, Int.reduceAdd, Int.reduceSub, Int.reduceMul, Int.reduceNeg, Int.reduceToNat, Int.reduceNe, Int.reduceBEq, Int.reduceBNe, Nat.reduceLT, Nat.reduceSub, Nat.reduceDiv, Nat.reduceMod, Int.reduceTDiv, Int.reduceTMod, k2], by simp only [go_sem, ↓reduceIte, reduceCtorEq, Nat.reduceEqDiff, Nat.reduceAdd, Nat.reduceLeDiff, Nat.reduceMul, Int.reduceEq, Int.reduceLT, Int.reduceLE, Int.reduceAdd, Int.reduceSub, Int.reduceMul, Int.reduceNeg, Int.reduceToNat, Int.reduceNe, Int.reduceBEq, Int.reduceBNe, Nat.reduceLT, Nat.reduceSub, Nat.reduceDiv, Nat.reduceMod, Int.reduceTDiv, Int.reduceTMod, k8], by simp only [go_sem, ↓reduceIte, reduceCtorEq, Nat.reduceEqDiff, Nat.reduceAdd, Nat.reduceLeDiff, Nat.reduceMul, Int.reduceEq, Int.reduceLT, Int.reduceLE, Int.reduceAdd, Int.reduceSub, Int.reduceMul, Int.reduceNeg, Int.reduceToNat, Int.reduceNe, Int.reduceBEq, Int.reduceBNe, Nat.reduceLT, Nat.reduceSub, Nat.reduceDiv, Nat.reduceMod, Int.reduceTDiv, Int.reduceTMod, k11], by simp only [go_sem, ↓reduceIte, reduceCtorEq, Nat.reduceEqDiff, Nat.reduceAdd, Nat.reduceLeDiff, Nat.reduceMul, Int.reduceEq, Int.reduceLT, Int.reduceLE, Int.reduceAdd, Int.reduceSub, Int.reduceMul, Int.reduceNeg, Int.reduceToNat, Int.reduceNe, Int.reduceBEq, Int.reduceBNe, Nat.reduceLT, Nat.reduceSub, Nat.reduceDiv, Nat.reduceMod, Int.reduceTDiv, Int.reduceTMod, k14]⟩
        · have f3 : ((4294967296 : Int) ≤ ((r + h : Nat) : Int)) = False := eq_false (by omega)
          simp (config := {contextual := true, maxSteps := 10000000, implicitDefEqProofs := false}) only [x96_l0_run, go_sem, ↓reduceIte, reduceCtorEq, Nat.reduceEqDiff, Nat.reduceAdd, Nat.reduceLeDiff, Nat.reduceMul, Int.reduceEq, Int.reduceLT, Int.reduceLE, Int.reduceAdd, Int.reduceSub, Int.reduceMul, Int.reduceNeg, Int.reduceToNat, Int.reduceNe, Int.reduceBEq, Int.reduceBNe, Nat.reduceLT, Nat.reduceSub, Nat.reduceDiv, Nat.reduceMod, Int.reduceTDiv, Int.reduceTMod, gq, gr, gh, gl, gv, f0, f1, f2, f3, m1, m3, m5]
          refine ih (r + h) _ (by omega) (by omega) hu' (by omega) ?_ ?_ ?_ ?_ ?_ ?_ ?_ ?_ ?_ <;> simp only [go_sem, ↓reduceIte, reduceCtorEq, Nat.reduceEqDiff, Nat.reduceAdd, Nat.reduceLeDiff, Nat.reduceMul, Int.reduceEq, Int.reduceLT, Int.reduceLE, Int.reduceAdd, Int.reduceSub, Int.reduceMul, Int.reduceNeg, Int.reduceToNat, Int.reduceNe, Int.reduceBEq, Int.reduceBNe, Nat.reduceLT, Nat.reduceSub, Nat.reduceDiv, Nat.reduceMod, Int.reduceTDiv, Int.reduceTMod, gh, gl, gv, k2, k8, k11, k14]
      · have f2 : (((4294967296 * r + v : Nat) : Int) < (((q + 1) * l : Nat) : Int)) = False := eq_false (by omega)
        have e0 : q + 1 = Q := by omega
        simp (config := {contextual := true, maxSteps := 10000000, implicitDefEqProofs := false}) only [x96_l0_run, go_sem, ↓reduceIte, reduceCtorEq, Nat.reduceEqDiff, Nat.reduceAdd, Nat.reduceLeDiff, Nat.reduceMul, Int.reduceEq, Int.reduceLT, Int.reduceLE, Int.reduceAdd, Int.reduceSub, Int.reduceMul, Int.reduceNeg, Int.reduceToNat, Int.reduceNe, Int.reduceBEq, Int.reduceBNe, Nat.reduceLT, Nat.reduceSub, Nat.reduceDiv, Nat.reduceMod, Int.reduceTDiv, Int.reduceTMod, gq, gr, gh, gl, gv, f0, f1, f2, m1, m3, m5]
        exact ⟨_, rfl, by simp only [go_sem, ↓reduceIte, reduceCtorEq, Nat.reduceEqDiff, Nat.reduceAdd, Nat.reduceLeDiff, Nat.reduceMul, Int.reduceEq, Int.reduceLT, Int.reduceLE, Int.reduceAdd, Int.reduceSub, Int.reduceMul, Int.reduceNeg, Int.reduceToNat, Int.reduceNe, Int.reduceBEq, Int.reduceBNe, Nat.reduceLT, Nat.reduceSub, Nat.reduceDiv, Nat.reduceMod, Int.reduceTDiv, Int.reduceTMod, gq, e0], by simp only [go_sem, ↓reduceIte, reduceCtorEq, Nat.reduceEqDiff, Nat.reduceAdd, Nat.reduceLeDiff, Nat.reduceMul, Int.reduceEq, Int.reduceLT, Int.reduceLE, Int.reduceAdd, Int.reduceSub, Int.reduceMul, Int.reduceNeg, Int.reduceToNat, Int.reduceNe, Int.reduceBEq, Int.reduceBNe, Nat.reduceLT, Nat.reduceSub, Nat.reduceDiv, Nat.reduceMod, Int.reduceTDiv, Int.reduceTMod, gh], by simp only [go_sem, ↓reduceIte, reduceCtorEq, Nat.reduceEqDiff, Nat.reduceAdd, Nat.reduceLeDiff, Nat.reduceMul, Int.reduceEq, Int.reduceLT, Int.reduceLE, Int.reduceAdd, Int.reduceSub, Int.reduceMul, Int.reduceNeg, Int.reduceToNat, Int.reduceNe, Int.reduceBEq, Int.reduceBNe, Nat.reduceLT, Nat.reduceSub, Nat.reduceDiv, Nat.reduceMod, Int.reduceTDiv, Int.reduceTMod, gl], by simp only [go_sem, ↓reduceIte, reduceCtorEq, Nat.reduceEqDiff, Nat.reduceAdd, Nat.reduceLeDiff, Nat.reduceMul, Int.reduceEq, Int.reduceLT, Int.reduceLE, Int.reduceAdd, Int.reduceSub, Int.reduceMul, Int.reduceNeg, Int.reduceToNat, Int.reduceNe, Int.reduceBEq, Int.reduceBNe, Nat.reduceLT, Nat.reduceSub, Nat.reduceDiv, Nat.reduceMod, Int.reduceTDiv, Int.reduceTMod, gv], by simp only [go_sem, ↓reduceIte, reduceCtorEq, Nat.reduceEqDiff, Nat.reduceAdd, Nat.reduceLeDiff, Nat.reduceMul, Int.reduceEq, Int.reduceLT, Int.reduceLE, Int.reduceAdd, Int.reduceSub, Int.reduceMul, Int.reduceNeg, Int.reduceToNat, Int.reduceNe, Int.reduceBEq, Int.reduceBNe, Nat.reduceLT, Nat.reduceSub, Nat.reduceDiv, Nat.reduceMod, Int.reduceTDiv, Int.reduceTMod, k2], by simp only [go_sem, ↓reduceIte, reduceCtorEq, Nat.reduceEqDiff, Nat.reduceAdd, Nat.reduceLeDiff, Nat.reduceMul, Int.reduceEq, Int.reduceLT, Int.reduceLE, Int.reduceAdd, Int.reduceSub, Int.reduceMul, Int.reduceNeg, Int.reduceToNat, Int.reduceNe, Int.reduceBEq, Int.reduceBNe, Nat.reduceLT, Nat.reduceSub, Nat.reduceDiv, Nat.reduceMod, Int.reduceTDiv, Int.reduceTMod, k8], by simp only [go_sem, ↓reduceIte, reduceCtorEq, Nat.reduceEqDiff, Nat.reduceAdd, Nat.reduceLeDiff, Nat.reduceMul, Int.reduceEq, Int.reduceLT, Int.reduceLE, Int.reduceAdd, Int.reduceSub, Int.reduceMul, Int.reduceNeg, Int.reduceToNat, Int.reduceNe, Int.reduceBEq, Int.reduceBNe, Nat.reduceLT, Nat.reduceSub, Nat.reduceDiv, Nat.reduceMod, Int.reduceTDiv, Int.reduceTMod, k11], by simp only [go_sem, ↓reduceIte, reduceCtorEq, Nat.reduceEqDiff, Nat.reduceAdd, Nat.reduceLeDiff, Nat.reduceMul, Int.reduceEq, Int.reduceLT, Int.reduceLE, Int.reduceAdd, Int.reduceSub, Int.reduceMul, Int.reduceNeg, Int.reduceToNat, Int.reduceNe, Int.reduceBEq, Int.reduceBNe, Nat.reduceLT, Nat.reduceSub, Nat.reduceDiv, Nat.reduceMod, Int.reduceTDiv, Int.reduceTMod, k14]⟩
def O40_1 (Q : Nat) (h l v : Nat) (v2 v8 v15 v17 : AV) (hp : Heap) (r : Option (XExit × St)) : Prop :=
  ∃ fr', r = some (.exit 2, ⟨fr', hp⟩) ∧ fget fr' 18 = .int .u64 Q ∧ fget fr' 9 = .int .u64 h ∧ fget fr' 10 = .int .u64 l ∧ fget fr' 14 = .int .u64 v ∧ fget fr' 2 = v2 ∧ fget fr' 8 = v8 ∧ fget fr' 15 = v15 ∧ fget fr' 17 = v17
theorem l40_1 (Q h l v u : Nat) (v2 v8 v15 v17 : AV) (hp : Heap) (hh : h < 4294967296) (hl : l < 4294967296) (hv : v < 4294967296) (hQ : Q = (u * 4294967296 + v) / (h * 4294967296 + l)) (hQB : Q < 4294967296) (h0 : 0 < h) :
    ∀ (q r : Nat) (fr : List AV), Q ≤ q → q ≤ 4294967297 → u = q * h + r → r < 4294967296 →
    fget fr 18 = .int .u64 q → fget fr 16 = .int .u64 r → fget fr 9 = .int .u64 h → fget fr 10 = .int .u64 l → fget fr 14 = .int .u64 v → fget fr 2 = v2 → fget fr 8 = v8 → fget fr 15 = v15 → fget fr 17 = v17 → 
    O40_1 Q h l v v2 v8 v15 v17 hp (LC X GV (.loop x96_l1) ⟨fr, hp⟩) := by
  intro q
  induction q with
  | zero =>
    intro r fr hQq _ hu hr gq gr gh gl gv k2 k8 k15 k17
    rw [LC_loop]
    have m1 : 0 * l % 18446744073709551616 = 0 := by omega
    have m3 : (4294967296 * r % 18446744073709551616 + v) % 18446744073709551616 = 4294967296 * r + v := by omega
    have f1 : ((4294967296 : Int) ≤ ((0 : Nat) : Int)) = False := eq_false (by omega)
    have f2 : (((4294967296 * r + v : Nat) : Int) < ((0 : Nat) : Int)) = False := eq_false (by omega)
    have e0 : Q = 0 := by omega
    simp (config := {contextual := true, maxSteps := 10000000, implicitDefEqProofs := false}) only [x96_l1_run, go_sem, ↓reduceIte, reduceCtorEq, Nat.reduceEqDiff, Nat.reduceAdd, Nat.reduceLeDiff, Nat.reduceMul, Int.reduceEq, Int.reduceLT, Int.reduceLE, Int.reduceAdd, Int.reduceSub, Int.reduceMul, Int.reduceNeg, Int.reduceToNat, Int.reduceNe, Int.reduceBEq, Int.reduceBNe, Nat.reduceLT, Nat.reduceSub, Nat.reduceDiv, Nat.reduceMod, Int.reduceTDiv, Int.reduceTMod, gq, gr, gh, gl, gv, m1, m3, f1, f2]
    exact ⟨_, rfl, by simp only [go_sem, ↓reduceIte, reduceCtorEq, Nat.reduceEqDiff, Nat.reduceAdd, Nat.reduceLeDiff, Nat.reduceMul, Int.reduceEq, Int.reduceLT, Int.reduceLE, Int.reduceAdd, Int.reduceSub, Int.reduceMul, Int.reduceNeg, Int.reduceToNat, Int.reduceNe, Int.reduceBEq, Int.reduceBNe, Nat.reduceLT, Nat.reduceSub, Nat.reduceDiv, Nat.reduceMod, Int.reduceTDiv, Int.reduceTMod, gq, e0], by simp only [go_sem, ↓reduceIte, reduceCtorEq, Nat.reduceEqDiff, Nat.reduceAdd, Nat.reduceLeDiff, Nat.reduceMul, Int.reduceEq, Int.reduceLT, Int.reduceLE, Int.reduceAdd, Int.reduceSub, Int.reduceMul, Int.reduceNeg, Int.reduceToNat, Int.reduceNe, Int.reduceBEq, Int.reduceBNe, Nat.reduceLT, Nat.reduceSub, Nat.reduceDiv, Nat.reduceMod, Int.reduceTDiv, Int.reduceTMod, gh], by simp only [go_sem, ↓reduceIte, reduceCtorEq, Nat.reduceEqDiff, Nat.reduceAdd, Nat.reduceLeDiff, Nat.reduceMul, Int.reduceEq, Int.reduceLT, Int.reduceLE, Int.reduceAdd, Int.reduceSub, Int.reduceMul, Int.reduceNeg, Int.reduceToNat, Int.reduceNe, Int.reduceBEq, Int.reduceBNe, Nat.reduceLT, Nat.reduceSub, Nat.reduceDiv, Nat.reduceMod, Int.reduceTDiv, Int.reduceTMod, gl], by simp only [go_sem, ↓reduceIte, reduceCtorEq, Nat.reduceEqDiff, Nat.reduceAdd, Nat.reduceLeDiff, Nat.reduceMul, Int.reduceEq, Int.reduceLT, Int.reduceLE, Int.reduceAdd, Int.reduceSub, Int.reduceMul, Int.reduceNeg, Int.reduceToNat, Int.reduceNe, Int.reduceBEq, Int.reduceBNe, Nat.reduceLT, Nat.reduceSub, Nat.reduceDiv, Nat.reduceMod, Int.reduceTDiv, Int.reduceTMod, gv], by simp only [go_sem, ↓reduceIte, reduceCtorEq, Nat.reduceEqDiff, Nat.reduceAdd, Nat.reduceLeDiff, Nat.reduceMul, Int.reduceEq, Int.reduceLT, Int.reduceLE, Int.reduceAdd, Int.reduceSub, Int.reduceMul, Int.reduceNeg, Int.reduceToNat, Int.reduceNe, Int.reduceBEq, Int.reduceBNe, Nat.reduceLT, Nat.reduceSub, Nat.reduceDiv, Nat.reduceMod, Int.reduceTDiv, Int.reduceTMod, k2], by simp only [go_sem, ↓reduceIte, reduceCtorEq, Nat.reduceEqDiff, Nat.reduceAdd, Nat.reduceLeDiff, Nat.reduceMul, Int.reduceEq, Int.reduceLT, Int.reduceLE, Int.reduceAdd, Int.reduceSub, Int.reduceMul, Int.reduceNeg, Int.reduceToNat, Int.reduceNe, Int.reduceBEq, Int.reduceBNe, Nat.reduceLT, Nat.reduceSub, Nat.reduceDiv, Nat.reduceMod, Int.reduceTDiv, Int.reduceTMod, k8], by simp only [go_sem, ↓reduceIte, reduceCtorEq, Nat.reduceEqDiff, Nat.reduceAdd, Nat.reduceLeDiff, Nat.reduceMul, Int.reduceEq, Int.reduceLT, Int.reduceLE, Int.reduceAdd, Int.reduceSub, Int.reduceMul, Int.reduceNeg, Int.reduceToNat, Int.reduceNe, Int.reduceBEq, Int.reduceBNe, Nat.reduceLT, Nat.reduceSub, Nat.reduceDiv, Nat.reduceMod, Int.reduceTDiv, Int.reduceTMod, k15], by simp only [go_sem, ↓reduceIte, reduceCtorEq, Nat.reduceEqDiff, Nat.reduceAdd, Nat.reduceLeDiff, Nat.reduceMul, Int.reduceEq, Int.reduceLT, Int.reduceLE, Int.reduceAdd, Int.reduceSub, Int.reduceMul, Int.reduceNeg, Int.reduceToNat, Int.reduceNe, Int.reduceBEq, Int.reduceBNe, Nat.reduceLT, Nat.reduceSub, Nat.reduceDiv, Nat.reduceMod, Int.reduceTDiv, Int.reduceTMod, k17]⟩
  | succ q ih =>
    intro r fr hQq hqB hu hr gq gr gh gl gv k2 k8 k15 k17
    rw [LC_loop]
    have key := qstep Q h l v u (q + 1) r hQ hu hh hl h0
    have f0 : u64 (((q + 1 : Nat) : Int) - 1) = q := by simp only [u64]; omega
    have m5 : (r + h) % 18446744073709551616 = r + h := by omega
    have hu' : u = q * h + (r + h) := by rw [hu, Nat.add_mul]; omega
    by_cases c1 : 4294967296 ≤ q + 1
    · have f1 : ((4294967296 : Int) ≤ ((q + 1 : Nat) : Int)) = True := eq_true (by omega)
      by_cases c2 : 4294967296 ≤ r + h
      · have f3 : ((4294967296 : Int) ≤ ((r + h : Nat) : Int)) = True := eq_true (by omega)
        have e0 : q = Q := qbreak Q h l v u q (r + h) hQ hu' hh hl h0 c2 (by omega) (by omega)
        simp (config := {contextual := true, maxSteps := 10000000, implicitDefEqProofs := false}) only [x96_l1_run, go_sem, ↓reduceIte, reduceCtorEq, Nat.reduceEqDiff, Nat.reduceAdd, Nat.reduceLeDiff, Nat.reduceMul, Int.reduceEq, Int.reduceLT, Int.reduceLE, Int.reduceAdd, Int.reduceSub, Int.reduceMul, Int.reduceNeg, Int.reduceToNat, Int.reduceNe, Int.reduceBEq, Int.reduceBNe, Nat.reduceLT, Nat.reduceSub, Nat.reduceDiv, Nat.reduceMod, Int.reduceTDiv, Int.reduceTMod, gq, gr, gh, gl, gv, f0, f1, f3, m5]
        exact ⟨_, rfl, by simp only [go_sem, ↓reduceIte, reduceCtorEq, Nat.reduceEqDiff, Nat.reduceAdd, Nat.reduceLeDiff, Nat.reduceMul, Int.reduceEq, Int.reduceLT, Int.reduceLE, Int.reduceAdd, Int.reduceSub, Int.reduceMul, Int.reduceNeg, Int.reduceToNat, Int.reduceNe, Int.reduceBEq, Int.reduceBNe, Nat.reduceLT, Nat.reduceSub, Nat.reduceDiv, Nat.reduceMod, Int.reduceTDiv, Int.reduceTMod, e0], by simp only [go_sem, ↓reduceIte, reduceCtorEq, Nat.reduceEqDiff, Nat.reduceAdd, Nat.reduceLeDiff, Nat.reduceMul, Int.reduceEq, Int.reduceLT, Int.reduceLE, Int.reduceAdd, Int.reduceSub, Int.reduceMul, Int.reduceNeg, Int.reduceToNat, Int.reduceNe, Int.reduceBEq, Int.reduceBNe, Nat.reduceLT, Nat.reduceSub, Nat.reduceDiv, Nat.reduceMod, Int.reduceTDiv, Int.reduceTMod, gh], by simp only [go_sem, ↓reduceIte, reduceCtorEq, Nat.reduceEqDiff, Nat.reduceAdd, Nat.reduceLeDiff, Nat.reduceMul, Int.reduceEq, Int.reduceLT, Int.reduceLE, Int.reduceAdd, Int.reduceSub, Int.reduceMul, Int.reduceNeg, Int.reduceToNat, Int.reduceNe, Int.reduceBEq, Int.reduceBNe, Nat.reduceLT, Nat.reduceSub, Nat.reduceDiv, Nat.reduceMod, Int.reduceTDiv, Int.reduceTMod, gl], by simp only [go_sem, ↓reduceIte, reduceCtorEq, Nat.reduceEqDiff, Nat.reduceAdd, Nat.reduceLeDiff, Nat.reduceMul, Int.reduceEq, Int.reduceLT, Int.reduceLE, Int.reduceAdd, Int.reduceSub, Int.reduceMul, Int.reduceNeg, Int.reduceToNat, Int.reduceNe, Int.reduceBEq, Int.reduceBNe, Nat.reduceLT, Nat.reduceSub, Nat.reduceDiv, Nat.reduceMod, Int.reduceTDiv, Int.reduceTMod, gv], by simp only [go_sem, ↓reduceIte, reduceCtorEq, Nat.reduceEqDiff, Nat.reduceAdd, Nat.reduceLeDiff, Nat.reduceMul, Int.reduceEq, Int.reduceLT, Int.reduceLE, Int.reduceAdd, Int.reduceSub, Int.reduceMul, Int.reduceNeg, Int.reduceToNat, Int.reduceNe, Int.reduceBEq, Int.reduceBNe, Nat.reduceLT, Nat.reduceSub, Nat.reduceDiv, Nat.reduceMod, Int.reduceTDiv, Int.reduceTMod, k2], by simp only [go_sem, ↓reduceIte, reduceCtorEq, Nat.reduceEqDiff, Nat.reduceAdd, Nat.reduceLeDiff, Nat.reduceMul, Int.reduceEq, Int.reduceLT, Int.reduceLE, Int.reduceAdd, Int.reduceSub, Int.reduceMul, Int.reduceNeg, Int.reduceToNat, Int.reduceNe, Int.reduceBEq, Int.reduceBNe, Nat.reduceLT, Nat.reduceSub, Nat.reduceDiv, Nat.reduceMod, Int.reduceTDiv, Int.reduceTMod, k8], by simp only [go_sem, ↓reduceIte, reduceCtorEq, Nat.reduceEqDiff, Nat.reduceAdd, Nat.reduceLeDiff, Nat.reduceMul, Int.reduceEq, Int.reduceLT, Int.reduceLE, Int.reduceAdd, Int.reduceSub, Int.reduceMul, Int.reduceNeg, Int.reduceToNat, Int.reduceNe, Int.reduceBEq, Int.reduceBNe, Nat.reduceLT, Nat.reduceSub, Nat.reduceDiv, Nat.reduceMod, Int.reduceTDiv, Int.reduceTMod, k15], by simp only [go_sem, ↓reduceIte, reduceCtorEq, Nat.reduceEqDiff, Nat.reduceAdd, Nat.reduceLeDiff, Nat.reduceMul, Int.reduceEq, Int.reduceLT, Int.reduceLE, Int.reduceAdd, Int.reduceSub, Int.reduceMul, Int.reduceNeg, Int.reduceToNat, Int.reduceNe, Int.reduceBEq, Int.reduceBNe, Nat.reduceLT, Nat.reduceSub, Nat.reduceDiv, Nat.reduceMod, Int.reduceTDiv, Int.reduceTMod, k17]⟩
      · have f3 : ((4294967296 : Int) ≤ ((r + h : Nat) : Int)) = False := eq_false (by omega)
        simp (config := {contextual := true, maxSteps := 10000000, implicitDefEqProofs := false}) only [x96_l1_run, go_sem, ↓reduceIte, reduceCtorEq, Nat.reduceEqDiff, Nat.reduceAdd, Nat.reduceLeDiff, Nat.reduceMul, Int.reduceEq, Int.reduceLT, Int.reduceLE, Int.reduceAdd, Int.reduceSub, Int.reduceMul, Int.reduceNeg, Int.reduceToNat, Int.reduceNe, Int.reduceBEq, Int.reduceBNe, Nat.reduceLT, Nat.reduceSub, Nat.reduceDiv, Nat.reduceMod, Int.reduceTDiv, Int.reduceTMod, gq, gr, gh, gl, gv, f0, f1, f3, m5]
        refine ih (r + h) _ (by omega) (by omega) hu' (by omega) ?_ ?_ ?_ ?_ ?_ ?_ ?_ ?_ ?_ <;> simp only [go_sem, ↓reduceIte, reduceCtorEq, Nat.reduceEqDiff, Nat.reduceAdd, Nat.reduceLeDiff, Nat.reduceMul, Int.reduceEq, Int.reduceLT, Int.reduceLE, Int.reduceAdd, Int.reduceSub, Int.reduceMul, Int.reduceNeg, Int.reduceToNat, Int.reduceNe, Int.reduceBEq, Int.reduceBNe, Nat.reduceLT, Nat.reduceSub, Nat.reduceDiv, Nat.reduceMod, Int.reduceTDiv, Int.reduceTMod, gh, gl, gv, k2, k8, k15, k17]
    · have f1 : ((4294967296 : Int) ≤ ((q + 1 : Nat) : Int)) = False := eq_false (by omega)
      have m1 : (q + 1) * l % 18446744073709551616 = (q + 1) * l := Nat.mod_eq_of_lt (by
        have := mul_bound (q + 1) l (by omega) hl
        omega)
      have m3 : (4294967296 * r % 18446744073709551616 + v) % 18446744073709551616 = 4294967296 * r + v := by omega
      by_cases c3 : 4294967296 * r + v < (q + 1) * l
      · have f2 : (((4294967296 * r + v : Nat) : Int) < (((q + 1) * l : Nat) : Int)) = True := eq_true (by omega)
        by_cases c2 : 4294967296 ≤ r + h
        · have f3 : ((4294967296 : Int) ≤ ((r + h : Nat) : Int)) = True := eq_true (by omega)
          have e0 : q = Q := qbreak Q h l v u q (r + h) hQ hu' hh hl h0 c2 (by omega) (by omega)
          simp (config := {contextual := true, maxSteps := 10000000, implicitDefEqProofs := false}) only [x96_l1_run, go_sem, ↓reduceIte, reduceCtorEq, Nat.reduceEqDiff, Nat.reduceAdd, Nat.reduceLeDiff, Nat.reduceMul, Int.reduceEq, Int.reduceLT, Int.reduceLE, Int.reduceAdd, Int.reduceSub, Int.reduceMul, Int.reduceNeg, Int.reduceToNat, Int.reduceNe, Int.reduceBEq, Int.reduceBNe, Nat.reduceLT, Nat.reduceSub, Nat.reduceDiv, Nat.reduceMod, Int.reduceTDiv, Int.reduceTMod, gq, gr, gh, gl, gv, f0, f1, f2, f3, m1, m3, m5]
          exact ⟨_, rfl, by simp only [go_sem, ↓reduceIte, reduceCtorEq, Nat.reduceEqDiff, Nat.reduceAdd, Nat.reduceLeDiff, Nat.reduceMul, Int.reduceEq, Int.reduceLT, Int.reduceLE, Int.reduceAdd, Int.reduceSub, Int.reduceMul, Int.reduceNeg, Int.reduceToNat, Int.reduceNe, Int.reduceBEq, Int.reduceBNe, Nat.reduceLT, Nat.reduceSub, Nat.reduceDiv, Nat.reduceMod, Int.reduceTDiv, Int.reduceTMod, e0], by simp only [go_sem, ↓reduceIte, reduceCtorEq, Nat.reduceEqDiff, Nat.reduceAdd, Nat.reduceLeDiff, Nat.reduceMul, Int.reduceEq, Int.reduceLT, Int.reduceLE, Int.reduceAdd, Int.reduceSub, Int.reduceMul, Int.reduceNeg, Int.reduceToNat, Int.reduceNe, Int.reduceBEq, Int.reduceBNe, Nat.reduceLT, Nat.reduceSub, Nat.reduceDiv, Nat.reduceMod, Int.reduceTDiv, Int.reduceTMod, gh], by simp only [go_sem, ↓reduceIte, reduceCtorEq, Nat.reduceEqDiff, Nat.reduceAdd, Nat.reduceLeDiff, Nat.reduceMul, Int.reduceEq, Int.reduceLT, Int.reduceLE, Int.reduceAdd, Int.reduceSub, Int.reduceMul, Int.reduceNeg, Int.reduceToNat, Int.reduceNe, Int.reduceBEq, Int.reduceBNe, Nat.reduceLT, Nat.reduceSub, Nat.reduceDiv, Nat.reduceMod, Int.reduceTDiv, Int.reduceTMod, gl], by simp only [go_sem, ↓reduceIte, reduceCtorEq, Nat.reduceEqDiff, Nat.reduceAdd, Nat.reduceLeDiff, Nat.reduceMul, Int.reduceEq, Int.reduceLT, Int.reduceLE, Int.reduceAdd, Int.reduceSub, Int.reduceMul, Int.reduceNeg, Int.reduceToNat, Int.reduceNe, Int.reduceBEq, Int.reduceBNe, Nat.reduceLT, Nat.reduceSub, Nat.reduceDiv, Nat.reduceMod, Int.reduceTDiv, Int.reduceTMod, gv], by simp only [go_sem, ↓reduceIte, reduceCtorEq, Nat.reduceEqDiff, Nat.reduceAdd, Nat.reduceLeDiff, Nat.reduceMul, Int.reduceEq, Int.reduceLT, Int.reduceLE, Int.reduceAdd, Int.reduceSub, Int.reduceMul, Int.reduceNeg, Int.reduceToNat, Int.reduceNe, Int.reduceBEq, Int.reduceBNe, Nat.reduceLT, Nat.reduceSub, Nat.reduceDiv, Nat.reduceMod, Int.reduceTDiv, Int.reduceTMod, k2], by simp only [go_sem, ↓reduceIte, reduceCtorEq, Nat.reduceEqDiff, Nat.reduceAdd, Nat.reduceLeDiff, Nat.reduceMul, Int.reduceEq, Int.reduceLT, Int.reduceLE, Int.reduceAdd, Int.reduceSub, Int.reduceMul, Int.reduceNeg, Int.reduceToNat, Int.reduceNe, Int.reduceBEq, Int.reduceBNe, Nat.reduceLT, Nat.reduceSub, Nat.reduceDiv, Nat.reduceMod, Int.reduceTDiv, Int.reduceTMod, k8], by simp only [go_sem, ↓reduceIte, reduceCtorEq, Nat.reduceEqDiff, Nat.reduceAdd, Nat.reduceLeDiff, Nat.reduceMul, Int.reduceEq, Int.reduceLT, Int.reduceLE, Int.reduceAdd, Int.reduceSub, Int.reduceMul, Int.reduceNeg, Int.reduceToNat, Int.reduceNe, Int.reduceBEq, Int.reduceBNe, Nat.reduceLT, Nat.reduceSub, Nat.reduceDiv, Nat.reduceMod, Int.reduceTDiv, Int.reduceTMod, k15], by simp only [go_sem, ↓reduceIte, reduceCtorEq, Nat.reduceEqDiff, Nat.reduceAdd, Nat.reduceLeDiff, Nat.reduceMul, Int.reduceEq, Int.reduceLT, Int.reduceLE, Int.reduceAdd, Int.reduceSub, Int.reduceMul, Int.reduceNeg, Int.reduceToNat, Int.reduceNe, Int.reduceBEq, Int.reduceBNe, Nat.reduceLT, Nat.reduceSub, Nat.reduceDiv, Nat.reduceMod, Int.reduceTDiv, Int.reduceTMod, k17]⟩
        · have f3 : ((4294967296 : Int) ≤ ((r + h : Nat) : Int)) = False := eq_false (by omega)
          simp (config := {contextual := true, maxSteps := 10000000, implicitDefEqProofs := false}) only [x96_l1_run, go_sem, ↓reduceIte, reduceCtorEq, Nat.reduceEqDiff, Nat.reduceAdd, Nat.reduceLeDiff, Nat.reduceMul, Int.reduceEq, Int.reduceLT, Int.reduceLE, Int.reduceAdd, Int.reduceSub, Int.reduceMul, Int.reduceNeg, Int.reduceToNat, Int.reduceNe, Int.reduceBEq, Int.reduceBNe, Nat.reduceLT, Nat.reduceSub, Nat.reduceDiv, Nat.reduceMod, Int.reduceTDiv, Int.reduceTMod, gq, gr, gh, gl, gv, f0, f1, f2, f3, m1, m3, m5]
          refine ih (r + h) _ (by omega) (by omega) hu' (by omega) ?_ ?_ ?_ ?_ ?_ ?_ ?_ ?_ ?_ <;> simp only [go_sem, ↓reduceIte, reduceCtorEq, Nat.reduceEqDiff, Nat.reduceAdd, Nat.reduceLeDiff, Nat.reduceMul, Int.reduceEq, Int.reduceLT, Int.reduceLE, Int.reduceAdd, Int.reduceSub, Int.reduceMul, Int.reduceNeg, Int.reduceToNat, Int.reduceNe, Int.reduceBEq, Int.reduceBNe, Nat.reduceLT, Nat.reduceSub, Nat.reduceDiv, Nat.reduceMod, Int.reduceTDiv, Int.reduceTMod, gh, gl, gv, k2, k8, k15, k17]
      · have f2 : (((4294967296 * r + v : Nat) : Int) < (((q + 1) * l : Nat) : Int)) = False := eq_false (by omega)
        have e0 : q + 1 = Q := by omega
        simp (config := {contextual := true, maxSteps := 10000000, implicitDefEqProofs := false}) only [x96_l1_run, go_sem, ↓reduceIte, reduceCtorEq, Nat.reduceEqDiff, Nat.reduceAdd, Nat.reduceLeDiff, Nat.reduceMul, Int.reduceEq, Int.reduceLT, Int.reduceLE, Int.reduceAdd, Int.reduceSub, Int.reduceMul, Int.reduceNeg, Int.reduceToNat, Int.reduceNe, Int.reduceBEq, Int.reduceBNe, Nat.reduceLT, Nat.reduceSub, Nat.reduceDiv, Nat.reduceMod, Int.reduceTDiv, Int.reduceTMod, gq, gr, gh, gl, gv, f0, f1, f2, m1, m3, m5]
        exact ⟨_, rfl, by simp only [go_sem, ↓reduceIte, reduceCtorEq, Nat.reduceEqDiff, Nat.reduceAdd, Nat.reduceLeDiff, Nat.reduceMul, Int.reduceEq, Int.reduceLT, Int.reduceLE, Int.reduceAdd, Int.reduceSub, Int.reduceMul, Int.reduceNeg, Int.reduceToNat, Int.reduceNe, Int.reduceBEq, Int.reduceBNe, Nat.reduceLT, Nat.reduceSub, Nat.reduceDiv, Nat.reduceMod, Int.reduceTDiv, Int.reduceTMod, gq, e0], by simp only [go_sem, ↓reduceIte, reduceCtorEq, Nat.reduceEqDiff, Nat.reduceAdd, Nat.reduceLeDiff, Nat.reduceMul, Int.reduceEq, Int.reduceLT, Int.reduceLE, Int.reduceAdd, Int.reduceSub, Int.reduceMul, Int.reduceNeg, Int.reduceToNat, Int.reduceNe, Int.reduceBEq, Int.reduceBNe, Nat.reduceLT, Nat.reduceSub, Nat.reduceDiv, Nat.reduceMod, Int.reduceTDiv, Int.reduceTMod, gh], by simp only [go_sem, ↓reduceIte, reduceCtorEq, Nat.reduceEqDiff, Nat.reduceAdd, Nat.reduceLeDiff, Nat.reduceMul, Int.reduceEq, Int.reduceLT, Int.reduceLE, Int.reduceAdd, Int.reduceSub, Int.reduceMul, Int.reduceNeg, Int.reduceToNat, Int.reduceNe, Int.reduceBEq, Int.reduceBNe, Nat.reduceLT, Nat.reduceSub, Nat.reduceDiv, Nat.reduceMod, Int.reduceTDiv, Int.reduceTMod, gl], by simp only [go_sem, ↓reduceIte, reduceCtorEq, Nat.reduceEqDiff, Nat.reduceAdd, Nat.reduceLeDiff, Nat.reduceMul, Int.reduceEq, Int.reduceLT, Int.reduceLE, Int.reduceAdd, Int.reduceSub, Int.reduceMul, Int.reduceNeg, Int.reduceToNat, Int.reduceNe, Int.reduceBEq, Int.reduceBNe, Nat.reduceLT, Nat.reduceSub, Nat.reduceDiv, Nat.reduceMod, Int.reduceTDiv, Int.reduceTMod, gv], by simp only [go_sem, ↓reduceIte, reduceCtorEq, Nat.reduceEqDiff, Nat.reduceAdd, Nat.reduceLeDiff, Nat.reduceMul, Int.reduceEq, Int.reduceLT, Int.reduceLE, Int.reduceAdd, Int.reduceSub, Int.reduceMul, Int.reduceNeg, Int.reduceToNat, Int.reduceNe, Int.reduceBEq, Int.reduceBNe, Nat.reduceLT, Nat.reduceSub, Nat.reduceDiv, Nat.reduceMod, Int.reduceTDiv, Int.reduceTMod, k2], by simp only [go_sem, ↓reduceIte, reduceCtorEq, Nat.reduceEqDiff, Nat.reduceAdd, Nat.reduceLeDiff, Nat.reduceMul, Int.reduceEq, Int.reduceLT, Int.reduceLE, Int.reduceAdd, Int.reduceSub, Int.reduceMul, Int.reduceNeg, Int.reduceToNat, Int.reduceNe, Int.reduceBEq, Int.reduceBNe, Nat.reduceLT, Nat.reduceSub, Nat.reduceDiv, Nat.reduceMod, Int.reduceTDiv, Int.reduceTMod, k8], by simp only [go_sem, ↓reduceIte, reduceCtorEq, Nat.reduceEqDiff, Nat.reduceAdd, Nat.reduceLeDiff, Nat.reduceMul, Int.reduceEq, Int.reduceLT, Int.reduceLE, Int.reduceAdd, Int.reduceSub, Int.reduceMul, Int.reduceNeg, Int.reduceToNat, Int.reduceNe, Int.reduceBEq, Int.reduceBNe, Nat.reduceLT, Nat.reduceSub, Nat.reduceDiv, Nat.reduceMod, Int.reduceTDiv, Int.reduceTMod, k15], by simp only [go_sem, ↓reduceIte, reduceCtorEq, Nat.reduceEqDiff, Nat.reduceAdd, Nat.reduceLeDiff, Nat.reduceMul, Int.reduceEq, Int.reduceLT, Int.reduceLE, Int.reduceAdd, Int.reduceSub, Int.reduceMul, Int.reduceNeg, Int.reduceToNat, Int.reduceNe, Int.reduceBEq, Int.reduceBNe, Nat.reduceLT, Nat.reduceSub, Nat.reduceDiv, Nat.reduceMod, Int.reduceTDiv, Int.reduceTMod, k17]⟩
end Go.Proofs.YtgbmobfjanajaaaDoor.Sx.T
namespace Go.Proofs.YtgbmobfjanajaaaDoor.Sx.T
open Go Go.Proofs.YtgbmobfjanajaaaDoor.Sx
set_option maxRecDepth 100000
set_option maxHeartbeats 4000000
theorem r49 (n : Nat) (h0 : 0 < n) (h : n < 18446744073709551616) : ∃ s, (∀ hp, CL X GV 105 [.int .u64 n] hp = some (.int .i64 (s : Nat), hp)) ∧ s ≤ 63 ∧ 9223372036854775808 ≤ n * 2 ^ s ∧ n * 2 ^ s < 18446744073709551616 ∧ (2 ≤ n → s ≤ 62) := by
  obtain ⟨k, hk, k1, k2, k3, k4⟩ := r50 n h0 h []
  refine ⟨64 - k, ?_, by omega, ?_, ?_, ?_⟩
  · intro hp
    rw [CL_eq (fn := x105) rfl]
    have e : wr .i64 (64 - (k : Int)) = ((64 - k : Nat) : Int) := by rw [wr_i64 _ (by omega)]; omega
    simp (config := {contextual := true, maxSteps := 10000000, implicitDefEqProofs := false}) only [x105, go_sem, ↓reduceIte, reduceCtorEq, Nat.reduceEqDiff, Nat.reduceAdd, Nat.reduceLeDiff, Nat.reduceMul, Int.reduceEq, Int.reduceLT, Int.reduceLE, Int.reduceAdd, Int.reduceSub, Int.reduceMul, Int.reduceNeg, Int.reduceToNat, Int.reduceNe, Int.reduceBEq, Int.reduceBNe, Nat.reduceLT, Nat.reduceSub, Nat.reduceDiv, Nat.reduceMod, Int.reduceTDiv, Int.reduceTMod, hk, e]
  · have := Nat.mul_le_mul_right (2 ^ (64 - k)) k3
    rw [← Nat.pow_add, show k - 1 + (64 - k) = 63 by omega] at this
    exact this
  · have := Nat.mul_lt_mul_of_pos_right k4 (Nat.two_pow_pos (64 - k))
    rw [← Nat.pow_add, show k + (64 - k) = 64 by omega] at this
    exact this
  · intro h2
    have : 2 ≤ k := by
      apply Nat.le_of_not_lt
      intro hlt
      have : k = 1 := by omega
      subst this
      omega
    omega
theorem comb0 (u a b A B r1 r0 : Nat) (h1 : 4294967296 * u + a = A + r1) (h0 : 4294967296 * r1 + b = B + r0) :
    18446744073709551616 * u + (4294967296 * a + b) = 4294967296 * A + B + r0 := by
  omega
theorem comb (u L q1 q0 r1 r0 Y : Nat) (h1 : u * 4294967296 + L / 4294967296 = q1 * Y + r1) (h0 : r1 * 4294967296 + L % 4294967296 = q0 * Y + r0) :
    u * 18446744073709551616 + L = (q1 * 4294967296 + q0) * Y + r0 := by
  have a : (q1 * 4294967296 + q0) * Y = 4294967296 * (q1 * Y) + q0 * Y := by rw [Nat.add_mul, Nat.mul_right_comm, Nat.mul_comm (q1 * Y)]
  rw [Nat.mul_comm] at h1 h0
  have e := comb0 _ _ _ _ _ _ _ h1 h0
  rw [Nat.div_add_mod] at e
  rw [a, Nat.mul_comm u]
  exact e
theorem comb3 (h A x z : Nat) : 18446744073709551616 * (h * A) + (18446744073709551616 * x + z) = 18446744073709551616 * (h * A + x) + z := by
  rw [Nat.mul_add, Nat.add_assoc]
theorem le1_law (x Q v Y : Nat) (hQ : Q = (x * 4294967296 + v) / Y) (hv : v < 4294967296) (hY : 4294967296 ≤ Y) : Q ≤ x / (Y / 4294967296) := by
  rw [Nat.le_div_iff_mul_le (by omega)]
  have a := Nat.div_mul_le_self (x * 4294967296 + v) Y
  rw [← hQ] at a
  have b := Nat.mul_le_mul_left Q (show Y / 4294967296 * 4294967296 ≤ Y by omega)
  rw [← Nat.mul_assoc] at b
  omega
/-- The plain law of the division. -/
theorem div_law (hi lo y s : Nat) (hy : hi < y) (hlo : lo < 18446744073709551616) (hs : s ≤ 62) (hn1 : 9223372036854775808 ≤ y * 2 ^ s) (hn2 : y * 2 ^ s < 18446744073709551616)
    (Y u L q1 r1 q0 r0 : Nat) (hY : Y = y * 2 ^ s) (hu : u = hi * 2 ^ s + lo / 2 ^ (64 - s)) (hL : L = lo * 2 ^ s % 18446744073709551616)
    (h1 : u * 4294967296 + L / 4294967296 = q1 * Y + r1) (l1 : r1 < Y) (h0 : r1 * 4294967296 + L % 4294967296 = q0 * Y + r0) (l0 : r0 < Y) :
    q1 * 4294967296 + q0 = (hi * 18446744073709551616 + lo) / y ∧ r0 / 2 ^ s = (hi * 18446744073709551616 + lo) % y := by
  have hp := Nat.two_pow_pos s
  have e64 : 2 ^ s * 2 ^ (64 - s) = 18446744073709551616 := by rw [← Nat.pow_add, show s + (64 - s) = 64 by omega]
  have hU : (hi * 18446744073709551616 + lo) * 2 ^ s = u * 18446744073709551616 + L := by
    have d := Nat.div_add_mod lo (2 ^ (64 - s))
    have ml := Nat.mod_lt lo (Nat.two_pow_pos (64 - s))
    rw [hL, hu]
    generalize 2 ^ (64 - s) = B at *
    generalize 2 ^ s = A at *
    generalize lo / B = x at *
    generalize lo % B = z at *
    have m : lo * A = A * B * x + z * A := by rw [← d, Nat.add_mul]; congr 1; ac_rfl
    have lt : z * A < A * B := by rw [Nat.mul_comm A B]; exact Nat.mul_lt_mul_of_pos_right ml hp
    rw [e64] at m lt
    have mm : lo * A % 18446744073709551616 = z * A := by rw [m, Nat.mul_add_mod, Nat.mod_eq_of_lt lt]
    rw [mm, Nat.add_mul, m, Nat.mul_right_comm hi, Nat.mul_comm _ 18446744073709551616, Nat.mul_comm _ 18446744073709551616]
    exact comb3 hi A x (z * A)
  have hU2 : u * 18446744073709551616 + L = (q1 * 4294967296 + q0) * Y + r0 := by
    exact comb u L q1 q0 r1 r0 Y h1 h0
  have hYp : 0 < Y := by omega
  have u1 := (Nat.div_mod_unique (a := u * 18446744073709551616 + L) (d := q1 * 4294967296 + q0) (c := r0) hYp).2 ⟨by rw [hU2, Nat.mul_comm Y]; omega, l0⟩
  rw [← hU, hY] at u1
  rw [Nat.mul_div_mul_right _ _ hp, Nat.mul_mod_mul_right] at u1
  refine ⟨u1.1.symm, ?_⟩
  rw [← u1.2, Nat.mul_div_cancel _ hp]
theorem sub_law1 (x z r : Nat) (hx : x = z + r) (hr : r < 18446744073709551616) : u64 ((x : Int) - ((z % 18446744073709551616 : Nat) : Int)) = r := by
  simp only [u64]; omega
theorem sub_law2 (x v z r : Nat) (hx : x * 4294967296 + v = z + r) (hr : r < 18446744073709551616) : u64 (((x * 4294967296 % 18446744073709551616 + v) % 18446744073709551616 : Nat) - ((z % 18446744073709551616 : Nat) : Int)) = r := by
  simp only [u64]; omega
theorem r40 (hi lo y : Nat) (hy : hi < y) (hy' : y < 18446744073709551616) (hlo : lo < 18446744073709551616) (hp : Heap) :
    CL X GV 96 [.int .u64 hi, .int .u64 lo, .int .u64 y] hp = some (.tup [.int .u64 ((hi * 18446744073709551616 + lo) / y : Nat), .int .u64 ((hi * 18446744073709551616 + lo) % y : Nat)], hp) := by
  rw [CL_eq (fn := x96) rfl]
  have f1 : y ≠ 0 := by omega
  have f2 : ((y : Int) ≤ hi) = False := eq_false (by omega)
  by_cases h0 : hi = 0
  · subst h0
    have f3 : lo / y % 18446744073709551616 = lo / y := Nat.mod_eq_of_lt (Nat.lt_of_le_of_lt (Nat.div_le_self _ _) hlo)
    simp (config := {contextual := true, maxSteps := 10000000, implicitDefEqProofs := false}) only [x96, go_sem, ↓reduceIte, reduceCtorEq, Nat.reduceEqDiff, Nat.reduceAdd, Nat.reduceLeDiff, Nat.reduceMul, Int.reduceEq, Int.reduceLT, Int.reduceLE, Int.reduceAdd, Int.reduceSub, Int.reduceMul, Int.reduceNeg, Int.reduceToNat, Int.reduceNe, Int.reduceBEq, Int.reduceBNe, Nat.reduceLT, Nat.reduceSub, Nat.reduceDiv, Nat.reduceMod, Int.reduceTDiv, Int.reduceTMod, f1, f2, f3, Nat.zero_mul]
  · obtain ⟨s, a49, hs, n1, n2, hs2⟩ := r49 y (by omega) hy'
    have hs62 := hs2 (by omega)
    have g1 : s % 18446744073709551616 = s := by omega
    have g2 : min s 64 = s := by omega
    have g3 : u64 (64 - (s : Int)) = 64 - s := by simp only [u64]; omega
    have g4 : min (64 - s) 64 = 64 - s := by omega
    obtain ⟨Y, hY⟩ : ∃ Y, y * 2 ^ s = Y := ⟨_, rfl⟩
    have g5 : Y % 18446744073709551616 = Y := Nat.mod_eq_of_lt (by omega)
    have e64 : 2 ^ s * 2 ^ (64 - s) = 18446744073709551616 := by rw [← Nat.pow_add, show s + (64 - s) = 64 by omega]
    have hlo2 : lo / 2 ^ (64 - s) < 2 ^ s := by
      rw [Nat.div_lt_iff_lt_mul (Nat.two_pow_pos _), e64]
      exact hlo
    obtain ⟨u, hu⟩ : ∃ u, hi * 2 ^ s + lo / 2 ^ (64 - s) = u := ⟨_, rfl⟩
    have huY : u < Y := by
      have i1 : hi * 2 ^ s + 2 ^ s ≤ Y := by rw [← hY, ← Nat.succ_mul]; exact Nat.mul_le_mul_right _ hy
      have i2 : u < hi * 2 ^ s + 2 ^ s := by rw [← hu]; exact Nat.add_lt_add_left hlo2 _
      exact Nat.lt_of_lt_of_le i2 i1
    have hhi : hi * 2 ^ s < 18446744073709551616 := by
      refine Nat.lt_of_le_of_lt (Nat.mul_le_mul_right _ (Nat.le_of_lt hy)) ?_
      rw [hY]; omega
    have g6 : ((hi * 2 ^ s % 18446744073709551616) ||| (lo / 2 ^ (64 - s))) % 18446744073709551616 = u := by
      rw [Nat.mod_eq_of_lt hhi, Nat.mul_comm, ← Nat.two_pow_add_eq_or_of_lt hlo2, Nat.mul_comm, hu]
      exact Nat.mod_eq_of_lt (Nat.lt_trans huY (by omega))
    obtain ⟨L, hL⟩ : ∃ L, lo * 2 ^ s % 18446744073709551616 = L := ⟨_, rfl⟩
    have hLb : L < 18446744073709551616 := by omega
    have g7 : L % 18446744073709551616 = L := Nat.mod_eq_of_lt hLb
    have b1 : L % 4294967296 % 18446744073709551616 = L % 4294967296 := by omega
    have b2 : Y % 4294967296 % 18446744073709551616 = Y % 4294967296 := by omega
    have hyh : Y / 4294967296 ≠ 0 := by omega
    have dec : Y / 4294967296 * 4294967296 + Y % 4294967296 = Y := by omega
    obtain ⟨q1, hq1⟩ : ∃ q1, (u * 4294967296 + L / 4294967296) / Y = q1 := ⟨_, rfl⟩
    obtain ⟨r1, hr1⟩ : ∃ r1, (u * 4294967296 + L / 4294967296) % Y = r1 := ⟨_, rfl⟩
    have d1 := Nat.div_add_mod (u * 4294967296 + L / 4294967296) Y
    rw [hq1, hr1] at d1
    have lr1 : r1 < Y := by rw [← hr1]; exact Nat.mod_lt _ (by omega)
    have lq1 : q1 < 4294967296 := by rw [← hq1, Nat.div_lt_iff_lt_mul (by omega)]; omega
    obtain ⟨q0, hq0⟩ : ∃ q0, (r1 * 4294967296 + L % 4294967296) / Y = q0 := ⟨_, rfl⟩
    obtain ⟨r0, hr0⟩ : ∃ r0, (r1 * 4294967296 + L % 4294967296) % Y = r0 := ⟨_, rfl⟩
    have d0 := Nat.div_add_mod (r1 * 4294967296 + L % 4294967296) Y
    rw [hq0, hr0] at d0
    have lr0 : r0 < Y := by rw [← hr0]; exact Nat.mod_lt _ (by omega)
    have lq0 : q0 < 4294967296 := by rw [← hq0, Nat.div_lt_iff_lt_mul (by omega)]; omega
    have law := div_law hi lo y s hy hlo hs62 n1 n2 Y u L q1 r1 q0 r0 hY.symm hu.symm hL.symm (by rw [Nat.mul_comm q1]; exact d1.symm) lr1 (by rw [Nat.mul_comm q0]; exact d0.symm) lr0
    rw [← law.1, ← law.2]
    clear law
    have uu (x : Nat) (hx : x < Y) : x / (Y / 4294967296) < 4294967298 := (Nat.div_lt_iff_lt_mul (by omega)).2 (by omega)
    have w1 (x : Nat) (hx : x < Y) : x / (Y / 4294967296) % 18446744073709551616 = x / (Y / 4294967296) := Nat.mod_eq_of_lt (Nat.lt_trans (uu x hx) (by decide))
    have hlt (x : Nat) : x % (Y / 4294967296) < 4294967296 := Nat.lt_of_lt_of_le (Nat.mod_lt x (by omega)) (by omega)
    have w2 (x : Nat) (hx : x < Y) : u64 ((x : Int) - ((x / (Y / 4294967296) * (Y / 4294967296) % 18446744073709551616 : Nat) : Int)) = x % (Y / 4294967296) :=
      sub_law1 x _ _ (by rw [Nat.mul_comm]; exact (Nat.div_add_mod x _).symm) (Nat.lt_trans (hlt x) (by decide))
    have du (x : Nat) : x = x / (Y / 4294967296) * (Y / 4294967296) + x % (Y / 4294967296) := by rw [Nat.mul_comm]; exact (Nat.div_add_mod x _).symm
    have le1 (x Q v : Nat) (hQ : Q = (x * 4294967296 + v) / Y) (hv : v < 4294967296) : Q ≤ x / (Y / 4294967296) := le1_law x Q v Y hQ hv (by omega)
    have s1 : u64 (((u * 4294967296 % 18446744073709551616 + L / 4294967296) % 18446744073709551616 : Nat) - ((q1 * Y % 18446744073709551616 : Nat) : Int)) = r1 :=
      sub_law2 _ _ _ _ (by rw [Nat.mul_comm q1]; exact d1.symm) (by omega)
    have s0 : u64 (((r1 * 4294967296 % 18446744073709551616 + L % 4294967296) % 18446744073709551616 : Nat) - ((q0 * Y % 18446744073709551616 : Nat) : Int)) = r0 :=
      sub_law2 _ _ _ _ (by rw [Nat.mul_comm q0]; exact d0.symm) (by omega)
    have s2 : (q1 * 4294967296 % 18446744073709551616 + q0) % 18446744073709551616 = q1 * 4294967296 + q0 := by omega
    have bL1 : L / 4294967296 < 4294967296 := by omega
    have bL0 : L % 4294967296 < 4294967296 := Nat.mod_lt _ (by omega)
    have bY1 : Y / 4294967296 < 4294967296 := by omega
    have bY0 : Y % 4294967296 < 4294967296 := Nat.mod_lt _ (by omega)
    have lA := fun fr => l40_0 q1 (Y / 4294967296) (Y % 4294967296) (L / 4294967296) u (.int .u64 Y) (.int .u64 s) (.int .u64 u) (.int .u64 (L % 4294967296 : Nat)) ([] :: hp) bY1 bY0 bL1 (by rw [dec]; exact hq1.symm) lq1 (by omega) (u / (Y / 4294967296)) (u % (Y / 4294967296)) fr (le1 u q1 _ hq1.symm bL1) (Nat.le_of_lt_succ (uu u huY)) (du u) (hlt u)
    have lB := fun fr => l40_1 q0 (Y / 4294967296) (Y % 4294967296) (L % 4294967296) r1 (.int .u64 Y) (.int .u64 s) (.int .u64 q1) (.int .u64 r1) ([] :: hp) bY1 bY0 bL0 (by rw [dec]; exact hq0.symm) lq0 (by omega) (r1 / (Y / 4294967296)) (r1 % (Y / 4294967296)) fr (le1 r1 q0 _ hq0.symm bL0) (Nat.le_of_lt_succ (uu r1 lr1)) (du r1) (hlt r1)
    simp (config := {contextual := true, maxSteps := 10000000, implicitDefEqProofs := false}) only [x96, go_sem, ↓reduceIte, reduceCtorEq, Nat.reduceEqDiff, Nat.reduceAdd, Nat.reduceLeDiff, Nat.reduceMul, Int.reduceEq, Int.reduceLT, Int.reduceLE, Int.reduceAdd, Int.reduceSub, Int.reduceMul, Int.reduceNeg, Int.reduceToNat, Int.reduceNe, Int.reduceBEq, Int.reduceBNe, Nat.reduceLT, Nat.reduceSub, Nat.reduceDiv, Nat.reduceMod, Int.reduceTDiv, Int.reduceTMod, f1, f2, h0, a49, min_32, Nat.reducePow, g1, g2, g3, g4, hY, g5, g6, hL, g7, b1, b2, hyh, w1 u huY, w2 u huY]
    refine elimL (fun r => finK _ (seqK (blockK 0 r) _) = _) (lA _ ?_ ?_ ?_ ?_ ?_ ?_ ?_ ?_ ?_) ?_
    all_goals try simp only [go_sem, ↓reduceIte, reduceCtorEq, Nat.reduceEqDiff, Nat.reduceAdd, Nat.reduceLeDiff, Nat.reduceMul, Int.reduceEq, Int.reduceLT, Int.reduceLE, Int.reduceAdd, Int.reduceSub, Int.reduceMul, Int.reduceNeg, Int.reduceToNat, Int.reduceNe, Int.reduceBEq, Int.reduceBNe, Nat.reduceLT, Nat.reduceSub, Nat.reduceDiv, Nat.reduceMod, Int.reduceTDiv, Int.reduceTMod]
    rintro r ⟨fr', rfl, k15, k9, k10, k13, k2, k8, k11, k14⟩
    simp (config := {contextual := true, maxSteps := 10000000, implicitDefEqProofs := false}) only [go_sem, ↓reduceIte, reduceCtorEq, Nat.reduceEqDiff, Nat.reduceAdd, Nat.reduceLeDiff, Nat.reduceMul, Int.reduceEq, Int.reduceLT, Int.reduceLE, Int.reduceAdd, Int.reduceSub, Int.reduceMul, Int.reduceNeg, Int.reduceToNat, Int.reduceNe, Int.reduceBEq, Int.reduceBNe, Nat.reduceLT, Nat.reduceSub, Nat.reduceDiv, Nat.reduceMod, Int.reduceTDiv, Int.reduceTMod, k15, k9, k10, k13, k2, k8, k11, k14, s1, hyh, w1 r1 lr1, w2 r1 lr1]
    refine elimL (fun r => finK _ (seqK (blockK 2 r) _) = _) (lB _ ?_ ?_ ?_ ?_ ?_ ?_ ?_ ?_ ?_) ?_
    all_goals try simp only [go_sem, ↓reduceIte, reduceCtorEq, Nat.reduceEqDiff, Nat.reduceAdd, Nat.reduceLeDiff, Nat.reduceMul, Int.reduceEq, Int.reduceLT, Int.reduceLE, Int.reduceAdd, Int.reduceSub, Int.reduceMul, Int.reduceNeg, Int.reduceToNat, Int.reduceNe, Int.reduceBEq, Int.reduceBNe, Nat.reduceLT, Nat.reduceSub, Nat.reduceDiv, Nat.reduceMod, Int.reduceTDiv, Int.reduceTMod, k9, k10, k14, k2, k8, k15]
    rintro r ⟨fr', rfl, k18, k9, k10, k14, k2, k8, k15, k17⟩
    simp (config := {contextual := true, maxSteps := 10000000, implicitDefEqProofs := false}) only [go_sem, ↓reduceIte, reduceCtorEq, Nat.reduceEqDiff, Nat.reduceAdd, Nat.reduceLeDiff, Nat.reduceMul, Int.reduceEq, Int.reduceLT, Int.reduceLE, Int.reduceAdd, Int.reduceSub, Int.reduceMul, Int.reduceNeg, Int.reduceToNat, Int.reduceNe, Int.reduceBEq, Int.reduceBNe, Nat.reduceLT, Nat.reduceSub, Nat.reduceDiv, Nat.reduceMod, Int.reduceTDiv, Int.reduceTMod, k18, k9, k10, k14, k2, k8, k15, k17, s0, s2, g2]
end Go.Proofs.YtgbmobfjanajaaaDoor.Sx.T
namespace Go.Proofs.YtgbmobfjanajaaaDoor.Sx.T
open Go Go.Proofs.YtgbmobfjanajaaaDoor.Sx
set_option maxRecDepth 100000
set_option maxHeartbeats 4000000
def sv (m : Bool) (n : Nat) : Int := if m = true then -(n : Int) else n
def okP (m : Bool) (p : Nat) : Bool := decide (p < 9223372036854775808) || (m && decide (p = 9223372036854775808))
/-- The least form's answer, of a numerator and a denominator that have nothing in common. -/
def pack (below : Bool) (p q : Nat) : Int × Int × Int :=
  if 9223372036854775808 ≤ q ∨ 9223372036854775808 < p ∨ p = 9223372036854775808 ∧ below = false then (0, 0, 10)
  else if below then (-p, q, 0) else (p, q, 0)
theorem mk_pack (b : Bool) (n d : Nat) : mk b n d = pack b (n / Nat.gcd n d) (d / Nat.gcd n d) := rfl
theorem pack_ok (b : Bool) (p q : Nat) : pack b p q = if okP b p = true ∧ q < 9223372036854775808 then (sv b p, (q : Int), 0) else (0, 0, 10) := by
  unfold pack okP sv
  by_cases h1 : 9223372036854775808 ≤ q
  · cases b <;> simp [h1, show ¬ q < 9223372036854775808 by omega]
  · rcases Nat.lt_trichotomy p 9223372036854775808 with h2 | h2 | h2
    · cases b <;> simp [h1, h2, show q < 9223372036854775808 by omega, show ¬ 9223372036854775808 < p by omega, show ¬ p = 9223372036854775808 by omega]
    · cases b <;> simp [h1, h2, show q < 9223372036854775808 by omega]
    · cases b <;> simp [h2, show ¬ p < 9223372036854775808 by omega, show ¬ p = 9223372036854775808 by omega]
theorem r41 (A d : Nat) (m : Bool) (hA : A < 340282366920938463463374607431768211456) (hd : d < 18446744073709551616) (h0 : 0 < d) (hp : Heap) :
    CL X GV 97 [W A m, .int .u64 d] hp = some (.tup [.int .i64 (if okP m (A / d) = true then sv m (A / d) else 0), .bool (okP m (A / d))], hp) := by
  rw [CL_eq (fn := x97) rfl]
  unfold W
  have dm := Nat.div_add_mod A 18446744073709551616
  have lt := Nat.mod_lt A (show 0 < 18446744073709551616 by omega)
  by_cases h1 : d ≤ A / 18446744073709551616
  · have f1 : ((d : Int) ≤ ((A / 18446744073709551616 : Nat) : Int)) = True := eq_true (by omega)
    have big : 18446744073709551616 ≤ A / d := (Nat.le_div_iff_mul_le h0).2 (by omega)
    have hok : okP m (A / d) = false := by
      unfold okP
      rw [decide_eq_false (by omega), decide_eq_false (by omega)]
      cases m <;> rfl
    rw [hok]
    simp (config := {contextual := true, maxSteps := 10000000, implicitDefEqProofs := false}) only [x97, go_sem, ↓reduceIte, reduceCtorEq, Nat.reduceEqDiff, Nat.reduceAdd, Nat.reduceLeDiff, Nat.reduceMul, Int.reduceEq, Int.reduceLT, Int.reduceLE, Int.reduceAdd, Int.reduceSub, Int.reduceMul, Int.reduceNeg, Int.reduceToNat, Int.reduceNe, Int.reduceBEq, Int.reduceBNe, Nat.reduceLT, Nat.reduceSub, Nat.reduceDiv, Nat.reduceMod, Int.reduceTDiv, Int.reduceTMod, f1]
  · have f1 : ((d : Int) ≤ ((A / 18446744073709551616 : Nat) : Int)) = False := eq_false (by omega)
    have a40 := r40 (A / 18446744073709551616) (A % 18446744073709551616) d (by omega) hd lt
    rw [Nat.mul_comm, dm] at a40
    obtain ⟨P, hP⟩ : ∃ P, A / d = P := ⟨_, rfl⟩
    have lP : P < 18446744073709551616 := by rw [← hP, Nat.div_lt_iff_lt_mul h0]; omega
    rw [hP] at a40 ⊢
    have b2 := neg_back P
    cases m
    · by_cases h2 : P < 9223372036854775808
      · have f3 : ((9223372036854775807 : Int) < (P : Int)) = False := eq_false (by omega)
        have f4 : ((P : Int) ≤ (9223372036854775807 : Int)) = True := eq_true (by omega)
        have e4 : wr .i64 (P : Int) = (P : Int) := wr_i64 _ (by omega)
        have ok : okP false P = true := by simp [okP, h2]
        simp (config := {contextual := true, maxSteps := 10000000, implicitDefEqProofs := false}) only [x97, go_sem, ↓reduceIte, reduceCtorEq, Nat.reduceEqDiff, Nat.reduceAdd, Nat.reduceLeDiff, Nat.reduceMul, Int.reduceEq, Int.reduceLT, Int.reduceLE, Int.reduceAdd, Int.reduceSub, Int.reduceMul, Int.reduceNeg, Int.reduceToNat, Int.reduceNe, Int.reduceBEq, Int.reduceBNe, Nat.reduceLT, Nat.reduceSub, Nat.reduceDiv, Nat.reduceMod, Int.reduceTDiv, Int.reduceTMod, f1, a40, f3, f4, e4, ok, sv]
      · have f3 : ((9223372036854775807 : Int) < (P : Int)) = True := eq_true (by omega)
        have f4 : ((P : Int) ≤ (9223372036854775807 : Int)) = False := eq_false (by omega)
        have ok : okP false P = false := by simp [okP]; omega
        simp (config := {contextual := true, maxSteps := 10000000, implicitDefEqProofs := false}) only [x97, go_sem, ↓reduceIte, reduceCtorEq, Nat.reduceEqDiff, Nat.reduceAdd, Nat.reduceLeDiff, Nat.reduceMul, Int.reduceEq, Int.reduceLT, Int.reduceLE, Int.reduceAdd, Int.reduceSub, Int.reduceMul, Int.reduceNeg, Int.reduceToNat, Int.reduceNe, Int.reduceBEq, Int.reduceBNe, Nat.reduceLT, Nat.reduceSub, Nat.reduceDiv, Nat.reduceMod, Int.reduceTDiv, Int.reduceTMod, f1, a40, f3, f4, ok, sv]
    · by_cases h2 : P ≤ 9223372036854775808
      · have f5 : ((P : Int) ≤ (9223372036854775808 : Int)) = True := eq_true (by omega)
        have ok : okP true P = true := by simp [okP]; omega
        simp (config := {contextual := true, maxSteps := 10000000, implicitDefEqProofs := false}) only [x97, go_sem, ↓reduceIte, reduceCtorEq, Nat.reduceEqDiff, Nat.reduceAdd, Nat.reduceLeDiff, Nat.reduceMul, Int.reduceEq, Int.reduceLT, Int.reduceLE, Int.reduceAdd, Int.reduceSub, Int.reduceMul, Int.reduceNeg, Int.reduceToNat, Int.reduceNe, Int.reduceBEq, Int.reduceBNe, Nat.reduceLT, Nat.reduceSub, Nat.reduceDiv, Nat.reduceMod, Int.reduceTDiv, Int.reduceTMod, f1, a40, f5, b2 h2, ok, sv]
      · have f5 : ((P : Int) ≤ (9223372036854775808 : Int)) = False := eq_false (by omega)
        have f4 : ((P : Int) ≤ (9223372036854775807 : Int)) = False := eq_false (by omega)
        have ok : okP true P = false := by simp [okP]; omega
        simp (config := {contextual := true, maxSteps := 10000000, implicitDefEqProofs := false}) only [x97, go_sem, ↓reduceIte, reduceCtorEq, Nat.reduceEqDiff, Nat.reduceAdd, Nat.reduceLeDiff, Nat.reduceMul, Int.reduceEq, Int.reduceLT, Int.reduceLE, Int.reduceAdd, Int.reduceSub, Int.reduceMul, Int.reduceNeg, Int.reduceToNat, Int.reduceNe, Int.reduceBEq, Int.reduceBNe, Nat.reduceLT, Nat.reduceSub, Nat.reduceDiv, Nat.reduceMod, Int.reduceTDiv, Int.reduceTMod, f1, a40, f4, f5, ok, sv]
theorem sum_w (A C : Nat) (m k : Bool) (hA : A < 170141183460469231731687303715884105728) (hC : C < 170141183460469231731687303715884105728) :
    ∃ tn tf, (∀ hp, CL X GV 46 [W A m, W C k] hp = some (W tn tf, hp)) ∧ tn ≤ A + C ∧ sv tf tn = sv m A + sv k C := by
  by_cases h : m = k
  · refine ⟨A + C, m, fun hp => by rw [r37 A C m k hA hC, if_pos h], by omega, ?_⟩
    subst h
    cases m <;> simp [sv] <;> omega
  · by_cases h2 : A < C
    · refine ⟨C - A, k, fun hp => by rw [r37 A C m k hA hC, if_neg h, if_pos h2], by omega, ?_⟩
      cases m <;> cases k <;> simp [sv] at h ⊢ <;> omega
    · refine ⟨A - C, m, fun hp => by rw [r37 A C m k hA hC, if_neg h, if_neg h2], by omega, ?_⟩
      cases m <;> cases k <;> simp [sv] at h ⊢ <;> omega
theorem sv_dvd (e n : Nat) (m : Bool) : (e : Int) ∣ sv m n ↔ e ∣ n := by
  cases m <;> simp [sv, Int.dvd_neg, Int.natCast_dvd_natCast]
theorem cop_sum (x : Nat) (T : Int) (n1 n2 : Nat) (f : Bool × Bool) (hT : T = sv f.1 n1 + sv f.2 n2) (h2 : x ∣ n2) (h1 : ∀ e, e ∣ x → e ∣ n1 → e = 1) : Nat.Coprime x T.natAbs := by
  have d1 := Nat.gcd_dvd_left x T.natAbs
  have d2 := Nat.gcd_dvd_right x T.natAbs
  refine h1 _ d1 ?_
  have d3 : ((Nat.gcd x T.natAbs : Nat) : Int) ∣ T := Int.ofNat_dvd_left.2 d2
  have d4 : ((Nat.gcd x T.natAbs : Nat) : Int) ∣ sv f.2 n2 := (sv_dvd _ _ _).2 (Nat.dvd_trans d1 h2)
  have e : sv f.1 n1 = T - sv f.2 n2 := by rw [hT]; omega
  rw [← sv_dvd _ _ f.1, e]
  exact Int.dvd_sub d3 d4
/-- The plain law of sums: what is common to a sum's numerator and denominator. -/
theorem gcd_sum (a b c d g : Nat) (T : Int) (hg : g = Nat.gcd b d) (hb : 0 < b) (hd : 0 < d) (hab : Nat.gcd a b = 1) (hcd : Nat.gcd c d = 1) (m k : Bool)
    (hT : T = sv m (a * (d / g)) + sv k (c * (b / g))) : Nat.gcd T.natAbs (b / g * d) = Nat.gcd T.natAbs g := by
  have gp : 0 < Nat.gcd b d := Nat.gcd_pos_of_pos_left d hb
  have cop : Nat.Coprime (b / g) (d / g) := by rw [hg]; exact Nat.coprime_div_gcd_div_gcd gp
  have gb : g ∣ b := by rw [hg]; exact Nat.gcd_dvd_left b d
  have gd : g ∣ d := by rw [hg]; exact Nat.gcd_dvd_right b d
  have ab : Nat.Coprime (b / g) a := (Nat.Coprime.coprime_dvd_right (Nat.div_dvd_of_dvd gb) (show Nat.Coprime a b from hab)).symm
  have cd : Nat.Coprime (d / g) c := (Nat.Coprime.coprime_dvd_right (Nat.div_dvd_of_dvd gd) (show Nat.Coprime c d from hcd)).symm
  have k1 : Nat.Coprime (b / g) T.natAbs := cop_sum _ _ _ _ (m, k) hT (Nat.dvd_mul_left _ _) (fun e he => by
    have e1 : Nat.Coprime e a := Nat.Coprime.coprime_dvd_left he ab
    have e2 : Nat.Coprime e (d / g) := Nat.Coprime.coprime_dvd_left he cop
    exact fun h => Nat.Coprime.eq_one_of_dvd e2 (Nat.Coprime.dvd_of_dvd_mul_left e1 h))
  have k2 : Nat.Coprime (d / g) T.natAbs := cop_sum _ _ _ _ (k, m) (by rw [hT, Int.add_comm]) (Nat.dvd_mul_left _ _) (fun e he => by
    have e1 : Nat.Coprime e c := Nat.Coprime.coprime_dvd_left he cd
    have e2 : Nat.Coprime e (b / g) := Nat.Coprime.coprime_dvd_left he cop.symm
    exact fun h => Nat.Coprime.eq_one_of_dvd e2 (Nat.Coprime.dvd_of_dvd_mul_left e1 h))
  rw [Nat.Coprime.gcd_mul_left_cancel_right _ k1]
  conv => lhs; rw [← Nat.div_mul_cancel gd]
  rw [Nat.Coprime.gcd_mul_left_cancel_right _ k2]
end Go.Proofs.YtgbmobfjanajaaaDoor.Sx.T
namespace Go.Proofs.YtgbmobfjanajaaaDoor.Sx.T
open Go Go.Proofs.YtgbmobfjanajaaaDoor.Sx
set_option maxRecDepth 100000
set_option maxHeartbeats 4000000
theorem frc_pack (T : Int) (g D h p q : Nat) (hg : 0 < g) (h1 : Nat.gcd T.natAbs D = h) (hp : T.natAbs / h = p) (hq : D / h = q) : frc ((g : Int) * T) (g * D) = pack (decide (T < 0)) p q := by
  unfold frc
  rw [mk_pack, Int.natAbs_mul, Int.natAbs_natCast, Nat.gcd_mul_left, h1, Nat.mul_div_mul_left _ _ hg, Nat.mul_div_mul_left _ _ hg, hp, hq]
  congr 1
  rw [Bool.eq_iff_iff, decide_eq_true_eq, decide_eq_true_eq]
  constructor
  · intro h
    refine Int.lt_of_not_ge (fun hge => ?_)
    have := Int.mul_nonneg (Int.natCast_nonneg g) hge
    omega
  · intro h
    exact Int.mul_neg_of_pos_of_neg (by omega) h
theorem pack_sv (T : Int) (tn : Nat) (tf : Bool) (h p q : Nat) (hT : sv tf tn = T) (hp : tn / h = p) :
    pack (decide (T < 0)) p q = if okP tf p = true ∧ q < 9223372036854775808 then (sv tf p, (q : Int), 0) else (0, 0, 10) := by
  rw [pack_ok]
  by_cases h0 : tn = 0
  · subst h0
    rw [Nat.zero_div] at hp
    subst hp
    cases tf <;> simp [okP, sv]
  · have : decide (T < 0) = tf := by
      rw [← hT]
      cases tf <;> simp [sv] <;> omega
    rw [this]
theorem r29 (a c : Int) (b d : Nat) (sg : Int) (m : Bool) (hm : m = decide (sg < 0)) (ha : I64 a) (hb : b < 9223372036854775808) (hc : I64 c) (hd : d < 9223372036854775808) (hb0 : 0 < b) (hd0 : 0 < d)
    (hab : Nat.gcd a.natAbs b = 1) (hcd : Nat.gcd c.natAbs d = 1) (hp : Heap) :
    CL X GV 76 [.agg [.int .i64 a, .int .i64 b], .agg [.int .i64 c, .int .i64 d], .int .i64 sg] hp = some (rt (frc (a * d + (if m then - (c * b) else c * b)) (b * d)), hp) := by
  rw [CL_eq (fn := x76) rfl]
  obtain ⟨g, hg⟩ : ∃ g, Nat.gcd b d = g := ⟨_, rfl⟩
  have hg0 : 0 < g := by rw [← hg]; exact Nat.gcd_pos_of_pos_left d hb0
  have hgb : g ≤ b := by rw [← hg]; exact Nat.gcd_le_left d hb0
  have hgd : g ≤ d := by rw [← hg]; exact Nat.gcd_le_right b hd0
  have gb : g ∣ b := by rw [← hg]; exact Nat.gcd_dvd_left b d
  have gd : g ∣ d := by rw [← hg]; exact Nat.gcd_dvd_right b d
  have mb : b % 18446744073709551616 = b := by omega
  have md : d % 18446744073709551616 = d := by omega
  have wg : wr .i64 (g : Int) = (g : Int) := wr_i64 _ (by omega)
  have g1 : g ≠ 0 := by omega
  have lb : b / g ≤ b := Nat.div_le_self _ _
  have ld : d / g ≤ d := Nat.div_le_self _ _
  obtain ⟨b', eb⟩ : ∃ b', b / g = b' := ⟨_, rfl⟩
  obtain ⟨d', ed⟩ : ∃ d', d / g = d' := ⟨_, rfl⟩
  have wb : wr .i64 (b' : Int) = (b' : Int) := wr_i64 _ (by omega)
  have wd : wr .i64 (d' : Int) = (d' : Int) := wr_i64 _ (by omega)
  have nb : ((b' : Int) < 0) = False := by simp
  have nd : ((d' : Int) < 0) = False := by simp
  have h36a : ∀ hp, CL X GV 45 [.int .i64 a, .int .i64 d'] hp = some (W (a.natAbs * d') (decide (a < 0)), hp) := fun hp => by
    rw [r36 a d' ha ⟨by omega, by omega⟩, Int.natAbs_natCast]; simp only [nd, decide_false, Bool.bne_false]
  have h36c : ∀ hp, CL X GV 45 [.int .i64 c, .int .i64 b'] hp = some (W (c.natAbs * b') (decide (c < 0)), hp) := fun hp => by
    rw [r36 c b' hc ⟨by omega, by omega⟩, Int.natAbs_natCast]; simp only [nb, decide_false, Bool.bne_false]
  have m1 : a.natAbs * d' ≤ 9223372036854775808 * 9223372036854775807 := Nat.mul_le_mul (by unfold I64 at *; omega) (by omega)
  have m2 : c.natAbs * b' ≤ 9223372036854775808 * 9223372036854775807 := Nat.mul_le_mul (by unfold I64 at *; omega) (by omega)
  obtain ⟨k1, hk1⟩ : ∃ k1, (!(decide (c < 0) == m)) = k1 := ⟨_, rfl⟩
  obtain ⟨tn, tf, h37, lt, hT⟩ := sum_w (a.natAbs * d') (c.natAbs * b') (decide (a < 0)) k1 (by omega) (by omega)
  have h40 : ∀ hp, CL X GV 96 [.int .u64 (tn / 18446744073709551616 % g : Nat), .int .u64 (tn % 18446744073709551616 : Nat), .int .u64 g] hp = some (.tup [.int .u64 ((tn / 18446744073709551616 % g * 18446744073709551616 + tn % 18446744073709551616) / g : Nat), .int .u64 (tn % g : Nat)], hp) := fun hp => by
    rw [r40 _ _ g (Nat.mod_lt _ hg0) (by omega) (Nat.mod_lt _ (by omega))]
    have : (tn / 18446744073709551616 % g * 18446744073709551616 + tn % 18446744073709551616) % g = tn % g := by
      conv => rhs; rw [← Nat.div_add_mod tn 18446744073709551616]
      rw [Nat.add_mod, Nat.mod_mul_mod, ← Nat.add_mod, Nat.mul_comm]
    rw [this]
  obtain ⟨h, hh⟩ : ∃ h, Nat.gcd tn g = h := ⟨_, rfl⟩
  have hgcd : Nat.gcd (tn % g) g = h := by rw [← hh, ← Nat.gcd_rec, Nat.gcd_comm]
  have h0 : 0 < h := by rw [← hh]; exact Nat.gcd_pos_of_pos_right _ hg0
  have hlg : h ≤ g := by rw [← hh]; exact Nat.gcd_le_right _ hg0
  have hdg : h ∣ g := by rw [← hh]; exact Nat.gcd_dvd_right _ _
  have h1 : h ≠ 0 := by omega
  have h41 := r41 tn h tf (by omega) (by omega) h0
  have ldh : d / h ≤ d := Nat.div_le_self _ _
  obtain ⟨dh, edh⟩ : ∃ dh, d / h = dh := ⟨_, rfl⟩
  have mb' : b' % 18446744073709551616 = b' := by omega
  have mdh : dh % 18446744073709551616 = dh := by omega
  have h42 := r42 b' dh (by omega) (by omega)
  obtain ⟨P, hP⟩ : ∃ P, tn / h = P := ⟨_, rfl⟩
  obtain ⟨Q, hQ⟩ : ∃ Q, b' * dh = Q := ⟨_, rfl⟩
  have eT : a * d + (if m then - (c * b) else c * b) = (g : Int) * (sv tf tn) := by
    rw [hT, Int.mul_add]
    have e1 : (d : Int) = (g : Int) * d' := by rw [← ed, ← Int.natCast_mul, Nat.mul_div_cancel' gd]
    have e2 : (b : Int) = (g : Int) * b' := by rw [← eb, ← Int.natCast_mul, Nat.mul_div_cancel' gb]
    have x1 : a * d = g * sv (decide (a < 0)) (a.natAbs * d') := by
      rw [e1, Int.mul_left_comm]
      congr 1
      unfold sv
      rw [Int.natCast_mul]
      by_cases p : a < 0
      · simp only [p, decide_true, if_true]
        rw [← Int.neg_mul, show -(a.natAbs : Int) = a by omega]
      · simp only [p, decide_false, Bool.false_eq_true, if_false]
        rw [show (a.natAbs : Int) = a by omega]
    have x2 : (if m then - (c * b) else c * b) = g * sv k1 (c.natAbs * b') := by
      rw [e2, Int.mul_left_comm, ← hk1]
      unfold sv
      rw [Int.natCast_mul]
      by_cases p : c < 0
      · have e : (c.natAbs : Int) = -c := by omega
        cases m <;> simp [p, e, Int.neg_mul, Int.mul_neg]
      · have e : (c.natAbs : Int) = c := by omega
        cases m <;> simp [p, e, Int.neg_mul, Int.mul_neg]
    rw [x1, x2]
  have nT : (sv tf tn).natAbs = tn := by cases tf <;> simp [sv]
  have gs := gcd_sum a.natAbs b c.natAbs d g (sv tf tn) hg.symm hb0 hd0 hab hcd (decide (a < 0)) k1 (by rw [hT, ed, eb])
  rw [nT, hh, eb] at gs
  have eD : b * d = g * (b' * d) := by rw [← eb, ← Nat.mul_assoc, Nat.mul_div_cancel' gb]
  rw [eT, eD, frc_pack (sv tf tn) g (b' * d) h P Q hg0 (by rw [nT]; exact gs) (by rw [nT]; exact hP) (by rw [← hQ, ← edh, Nat.mul_div_assoc _ (Nat.dvd_trans hdg gd)]), pack_sv _ tn tf h P Q rfl hP]
  rw [hP] at h41
  rw [hQ] at h42
  simp only [W] at h36a h36c h37 h41
  have lq : Q ≤ 9223372036854775808 * 9223372036854775808 := by rw [← hQ]; exact Nat.mul_le_mul (by omega) (by omega)
  rw [hm] at hk1
  by_cases hok : okP tf P = true
  · by_cases hq : Q < 9223372036854775808
    · have q1 : Q / 18446744073709551616 = 0 := by omega
      have q2 : Q % 18446744073709551616 = Q := by omega
      have q3 : ((9223372036854775807 : Int) < (Q : Int)) = False := eq_false (by omega)
      have q4 : wr .i64 (Q : Int) = (Q : Int) := wr_i64 _ (by omega)
      have q5 : ¬ (((0 : Nat) : Int) ≠ 0) := by simp
      rw [if_pos ⟨hok, hq⟩]
      simp (config := {contextual := true, maxSteps := 10000000, implicitDefEqProofs := false}) only [x76, go_sem, ↓reduceIte, reduceCtorEq, Nat.reduceEqDiff, Nat.reduceAdd, Nat.reduceLeDiff, Nat.reduceMul, Int.reduceEq, Int.reduceLT, Int.reduceLE, Int.reduceAdd, Int.reduceSub, Int.reduceMul, Int.reduceNeg, Int.reduceToNat, Int.reduceNe, Int.reduceBEq, Int.reduceBNe, Nat.reduceLT, Nat.reduceSub, Nat.reduceDiv, Nat.reduceMod, Int.reduceTDiv, Int.reduceTMod, mb, md, r26, hg, wg, g1, eb, ed, wb, wd, h36a, h36c, hk1, h37, h40, hgcd, h41, h1, edh, mb', mdh, h42, hok, q1, q2, q3, q4, rt_eq]
    · rw [if_neg (fun h => hq h.2)]
      by_cases q1 : Q / 18446744073709551616 = 0
      · have q2 : Q % 18446744073709551616 = Q := by omega
        have q3 : ((9223372036854775807 : Int) < (Q : Int)) = True := eq_true (by omega)
        simp (config := {contextual := true, maxSteps := 10000000, implicitDefEqProofs := false}) only [x76, go_sem, ↓reduceIte, reduceCtorEq, Nat.reduceEqDiff, Nat.reduceAdd, Nat.reduceLeDiff, Nat.reduceMul, Int.reduceEq, Int.reduceLT, Int.reduceLE, Int.reduceAdd, Int.reduceSub, Int.reduceMul, Int.reduceNeg, Int.reduceToNat, Int.reduceNe, Int.reduceBEq, Int.reduceBNe, Nat.reduceLT, Nat.reduceSub, Nat.reduceDiv, Nat.reduceMod, Int.reduceTDiv, Int.reduceTMod, mb, md, r26, hg, wg, g1, eb, ed, wb, wd, h36a, h36c, hk1, h37, h40, hgcd, h41, h1, edh, mb', mdh, h42, hok, q1, q2, q3, rt_eq]
      · simp (config := {contextual := true, maxSteps := 10000000, implicitDefEqProofs := false}) only [x76, go_sem, ↓reduceIte, reduceCtorEq, Nat.reduceEqDiff, Nat.reduceAdd, Nat.reduceLeDiff, Nat.reduceMul, Int.reduceEq, Int.reduceLT, Int.reduceLE, Int.reduceAdd, Int.reduceSub, Int.reduceMul, Int.reduceNeg, Int.reduceToNat, Int.reduceNe, Int.reduceBEq, Int.reduceBNe, Nat.reduceLT, Nat.reduceSub, Nat.reduceDiv, Nat.reduceMod, Int.reduceTDiv, Int.reduceTMod, mb, md, r26, hg, wg, g1, eb, ed, wb, wd, h36a, h36c, hk1, h37, h40, hgcd, h41, h1, edh, mb', mdh, h42, hok, q1, rt_eq]
  · rw [if_neg (fun h => hok h.1)]
    simp (config := {contextual := true, maxSteps := 10000000, implicitDefEqProofs := false}) only [x76, go_sem, ↓reduceIte, reduceCtorEq, Nat.reduceEqDiff, Nat.reduceAdd, Nat.reduceLeDiff, Nat.reduceMul, Int.reduceEq, Int.reduceLT, Int.reduceLE, Int.reduceAdd, Int.reduceSub, Int.reduceMul, Int.reduceNeg, Int.reduceToNat, Int.reduceNe, Int.reduceBEq, Int.reduceBNe, Nat.reduceLT, Nat.reduceSub, Nat.reduceDiv, Nat.reduceMod, Int.reduceTDiv, Int.reduceTMod, mb, md, r26, hg, wg, g1, eb, ed, wb, wd, h36a, h36c, hk1, h37, h40, hgcd, h41, h1, edh, mb', mdh, h42, hok, rt_eq]
end Go.Proofs.YtgbmobfjanajaaaDoor.Sx.T
namespace Go.Proofs.YtgbmobfjanajaaaDoor.Sx.T
open Go Go.Proofs.YtgbmobfjanajaaaDoor.Sx
set_option maxRecDepth 100000
set_option maxHeartbeats 4000000
theorem r11 (a b c d : Int) (ha : I64 a) (hb : I64 b) (hc : I64 c) (hd : I64 d) (hp : Heap) : CL X GV 55 [.agg [.int .i64 a, .int .i64 b], .agg [.int .i64 c, .int .i64 d]] hp = some (rt (addR a b c d), hp) := by
  rw [CL_eq (fn := x55) rfl]
  have a1 := r28 a b ha hb
  have a2 := r28 c d hc hd
  unfold addR both
  by_cases h1 : mayR a b = true
  · by_cases h2 : mayR c d = true
    · have p1 := may_pos h1
      have p2 := may_pos h2
      have e1 : ((b.natAbs : Nat) : Int) = b := by omega
      have e2 : ((d.natAbs : Nat) : Int) = d := by omega
      have a3 := r29 a c b.natAbs d.natAbs 1 false rfl ha (by unfold I64 at hb; omega) hc (by unfold I64 at hd; omega) (by omega) (by omega) (may_gcd h1) (may_gcd h2)
      rw [e1, e2] at a3
      simp (config := {contextual := true, maxSteps := 10000000, implicitDefEqProofs := false}) only [x55, go_sem, ↓reduceIte, reduceCtorEq, Nat.reduceEqDiff, Nat.reduceAdd, Nat.reduceLeDiff, Nat.reduceMul, Int.reduceEq, Int.reduceLT, Int.reduceLE, Int.reduceAdd, Int.reduceSub, Int.reduceMul, Int.reduceNeg, Int.reduceToNat, Int.reduceNe, Int.reduceBEq, Int.reduceBNe, Nat.reduceLT, Nat.reduceSub, Nat.reduceDiv, Nat.reduceMod, Int.reduceTDiv, Int.reduceTMod, a1, a2, h1, h2, a3, rt_eq]
    · simp (config := {contextual := true, maxSteps := 10000000, implicitDefEqProofs := false}) only [x55, go_sem, ↓reduceIte, reduceCtorEq, Nat.reduceEqDiff, Nat.reduceAdd, Nat.reduceLeDiff, Nat.reduceMul, Int.reduceEq, Int.reduceLT, Int.reduceLE, Int.reduceAdd, Int.reduceSub, Int.reduceMul, Int.reduceNeg, Int.reduceToNat, Int.reduceNe, Int.reduceBEq, Int.reduceBNe, Nat.reduceLT, Nat.reduceSub, Nat.reduceDiv, Nat.reduceMod, Int.reduceTDiv, Int.reduceTMod, a1, a2, h1, h2, rt_eq]
  · by_cases h2 : mayR c d = true
    · simp (config := {contextual := true, maxSteps := 10000000, implicitDefEqProofs := false}) only [x55, go_sem, ↓reduceIte, reduceCtorEq, Nat.reduceEqDiff, Nat.reduceAdd, Nat.reduceLeDiff, Nat.reduceMul, Int.reduceEq, Int.reduceLT, Int.reduceLE, Int.reduceAdd, Int.reduceSub, Int.reduceMul, Int.reduceNeg, Int.reduceToNat, Int.reduceNe, Int.reduceBEq, Int.reduceBNe, Nat.reduceLT, Nat.reduceSub, Nat.reduceDiv, Nat.reduceMod, Int.reduceTDiv, Int.reduceTMod, a1, a2, h1, h2, rt_eq]
    · simp (config := {contextual := true, maxSteps := 10000000, implicitDefEqProofs := false}) only [x55, go_sem, ↓reduceIte, reduceCtorEq, Nat.reduceEqDiff, Nat.reduceAdd, Nat.reduceLeDiff, Nat.reduceMul, Int.reduceEq, Int.reduceLT, Int.reduceLE, Int.reduceAdd, Int.reduceSub, Int.reduceMul, Int.reduceNeg, Int.reduceToNat, Int.reduceNe, Int.reduceBEq, Int.reduceBNe, Nat.reduceLT, Nat.reduceSub, Nat.reduceDiv, Nat.reduceMod, Int.reduceTDiv, Int.reduceTMod, a1, a2, h1, h2, rt_eq]
theorem r19 (a b c d : Int) (ha : I64 a) (hb : I64 b) (hc : I64 c) (hd : I64 d) (hp : Heap) : CL X GV 56 [.agg [.int .i64 a, .int .i64 b], .agg [.int .i64 c, .int .i64 d]] hp = some (rt (subR a b c d), hp) := by
  rw [CL_eq (fn := x56) rfl]
  have a1 := r28 a b ha hb
  have a2 := r28 c d hc hd
  unfold subR both
  by_cases h1 : mayR a b = true
  · by_cases h2 : mayR c d = true
    · have p1 := may_pos h1
      have p2 := may_pos h2
      have e1 : ((b.natAbs : Nat) : Int) = b := by omega
      have e2 : ((d.natAbs : Nat) : Int) = d := by omega
      have a3 := r29 a c b.natAbs d.natAbs (-1) true rfl ha (by unfold I64 at hb; omega) hc (by unfold I64 at hd; omega) (by omega) (by omega) (may_gcd h1) (may_gcd h2)
      rw [e1, e2] at a3
      simp (config := {contextual := true, maxSteps := 10000000, implicitDefEqProofs := false}) only [x56, go_sem, ↓reduceIte, reduceCtorEq, Nat.reduceEqDiff, Nat.reduceAdd, Nat.reduceLeDiff, Nat.reduceMul, Int.reduceEq, Int.reduceLT, Int.reduceLE, Int.reduceAdd, Int.reduceSub, Int.reduceMul, Int.reduceNeg, Int.reduceToNat, Int.reduceNe, Int.reduceBEq, Int.reduceBNe, Nat.reduceLT, Nat.reduceSub, Nat.reduceDiv, Nat.reduceMod, Int.reduceTDiv, Int.reduceTMod, a1, a2, h1, h2, a3, rt_eq]
    · simp (config := {contextual := true, maxSteps := 10000000, implicitDefEqProofs := false}) only [x56, go_sem, ↓reduceIte, reduceCtorEq, Nat.reduceEqDiff, Nat.reduceAdd, Nat.reduceLeDiff, Nat.reduceMul, Int.reduceEq, Int.reduceLT, Int.reduceLE, Int.reduceAdd, Int.reduceSub, Int.reduceMul, Int.reduceNeg, Int.reduceToNat, Int.reduceNe, Int.reduceBEq, Int.reduceBNe, Nat.reduceLT, Nat.reduceSub, Nat.reduceDiv, Nat.reduceMod, Int.reduceTDiv, Int.reduceTMod, a1, a2, h1, h2, rt_eq]
  · by_cases h2 : mayR c d = true
    · simp (config := {contextual := true, maxSteps := 10000000, implicitDefEqProofs := false}) only [x56, go_sem, ↓reduceIte, reduceCtorEq, Nat.reduceEqDiff, Nat.reduceAdd, Nat.reduceLeDiff, Nat.reduceMul, Int.reduceEq, Int.reduceLT, Int.reduceLE, Int.reduceAdd, Int.reduceSub, Int.reduceMul, Int.reduceNeg, Int.reduceToNat, Int.reduceNe, Int.reduceBEq, Int.reduceBNe, Nat.reduceLT, Nat.reduceSub, Nat.reduceDiv, Nat.reduceMod, Int.reduceTDiv, Int.reduceTMod, a1, a2, h1, h2, rt_eq]
    · simp (config := {contextual := true, maxSteps := 10000000, implicitDefEqProofs := false}) only [x56, go_sem, ↓reduceIte, reduceCtorEq, Nat.reduceEqDiff, Nat.reduceAdd, Nat.reduceLeDiff, Nat.reduceMul, Int.reduceEq, Int.reduceLT, Int.reduceLE, Int.reduceAdd, Int.reduceSub, Int.reduceMul, Int.reduceNeg, Int.reduceToNat, Int.reduceNe, Int.reduceBEq, Int.reduceBNe, Nat.reduceLT, Nat.reduceSub, Nat.reduceDiv, Nat.reduceMod, Int.reduceTDiv, Int.reduceTMod, a1, a2, h1, h2, rt_eq]
theorem gcd_prod (a b c d : Nat) (hc : 0 < c) (hd : 0 < d) (hac : Nat.gcd a c = 1) (hbd : Nat.gcd b d = 1) :
    a * b / Nat.gcd (a * b) (c * d) = a / Nat.gcd a d * (b / Nat.gcd b c) ∧ c * d / Nat.gcd (a * b) (c * d) = c / Nat.gcd b c * (d / Nat.gcd a d) := by
  have g0 : 0 < Nat.gcd a d := Nat.gcd_pos_of_pos_right _ hd
  have h0 : 0 < Nat.gcd b c := Nat.gcd_pos_of_pos_right _ hc
  have c1 : Nat.Coprime (a / Nat.gcd a d) (d / Nat.gcd a d) := Nat.coprime_div_gcd_div_gcd g0
  have c2 : Nat.Coprime (b / Nat.gcd b c) (c / Nat.gcd b c) := Nat.coprime_div_gcd_div_gcd h0
  have ga := Nat.gcd_dvd_left a d
  have gd := Nat.gcd_dvd_right a d
  have gb := Nat.gcd_dvd_left b c
  have gc := Nat.gcd_dvd_right b c
  have ea := Nat.mul_div_cancel' ga
  have ed := Nat.mul_div_cancel' gd
  have eb := Nat.mul_div_cancel' gb
  have ec := Nat.mul_div_cancel' gc
  have c3 : Nat.Coprime (a / Nat.gcd a d) (c / Nat.gcd b c) := Nat.Coprime.coprime_dvd_left (Nat.div_dvd_of_dvd ga) (Nat.Coprime.coprime_dvd_right (Nat.div_dvd_of_dvd gc) hac)
  have c4 : Nat.Coprime (b / Nat.gcd b c) (d / Nat.gcd a d) := Nat.Coprime.coprime_dvd_left (Nat.div_dvd_of_dvd gb) (Nat.Coprime.coprime_dvd_right (Nat.div_dvd_of_dvd gd) hbd)
  generalize Nat.gcd a d = g at *
  generalize Nat.gcd b c = h at *
  generalize a / g = a' at *
  generalize d / g = d' at *
  generalize b / h = b' at *
  generalize c / h = c' at *
  subst ea ed eb ec
  have x1 : g * a' * (h * b') = g * h * (a' * b') := by ac_rfl
  have x2 : h * c' * (g * d') = g * h * (c' * d') := by ac_rfl
  have cc : Nat.gcd (a' * b') (c' * d') = 1 := Nat.Coprime.mul_right (Nat.Coprime.mul_left c3 c2) (Nat.Coprime.mul_left c1 c4)
  rw [x1, x2, Nat.gcd_mul_left, cc, Nat.mul_one, Nat.mul_div_cancel_left _ (Nat.mul_pos g0 h0), Nat.mul_div_cancel_left _ (Nat.mul_pos g0 h0)]
  exact ⟨rfl, rfl⟩
theorem r39 (a c b d : Nat) (m : Bool) (ha : a < 18446744073709551616) (hc : c < 18446744073709551616) (hb : b < 18446744073709551616) (hd : d < 18446744073709551616) (c0 : 0 < c) (d0 : 0 < d)
    (hac : Nat.gcd a c = 1) (hbd : Nat.gcd b d = 1) (hp : Heap) :
    CL X GV 77 [.int .u64 a, .int .u64 c, .int .u64 b, .int .u64 d, .bool m] hp = some (rt (mk (m && decide (a * b ≠ 0)) (a * b) (c * d)), hp) := by
  rw [CL_eq (fn := x77) rfl]
  obtain ⟨g, hg⟩ : ∃ g, Nat.gcd a d = g := ⟨_, rfl⟩
  obtain ⟨h, hh⟩ : ∃ h, Nat.gcd b c = h := ⟨_, rfl⟩
  have g0 : g ≠ 0 := by rw [← hg]; exact Nat.ne_of_gt (Nat.gcd_pos_of_pos_right _ d0)
  have h0 : h ≠ 0 := by rw [← hh]; exact Nat.ne_of_gt (Nat.gcd_pos_of_pos_right _ c0)
  have gp := gcd_prod a b c d c0 d0 hac hbd
  rw [mk_pack, gp.1, gp.2, hg, hh]
  have la : a / g ≤ a := Nat.div_le_self _ _
  have lb : b / h ≤ b := Nat.div_le_self _ _
  have lc : c / h ≤ c := Nat.div_le_self _ _
  have ld : d / g ≤ d := Nat.div_le_self _ _
  have z : (a * b ≠ 0) ↔ (a / g * (b / h) ≠ 0) := by
    have e1 := Nat.div_mul_cancel (show g ∣ a by rw [← hg]; exact Nat.gcd_dvd_left _ _)
    have e2 := Nat.div_mul_cancel (show h ∣ b by rw [← hh]; exact Nat.gcd_dvd_left _ _)
    constructor
    · intro p q
      apply p
      rcases Nat.mul_eq_zero.1 q with q | q
      · rw [← e1, q, Nat.zero_mul, Nat.zero_mul]
      · rw [← e2, q, Nat.zero_mul, Nat.mul_zero]
    · intro p q
      apply p
      rcases Nat.mul_eq_zero.1 q with q | q
      · rw [q, Nat.zero_div, Nat.zero_mul]
      · rw [q, Nat.zero_div, Nat.mul_zero]
  have h42a := r42 (a / g) (b / h) (by omega) (by omega)
  have h42c := r42 (c / h) (d / g) (by omega) (by omega)
  have ma : a / g % 18446744073709551616 = a / g := Nat.mod_eq_of_lt (by omega)
  have mb : b / h % 18446744073709551616 = b / h := Nat.mod_eq_of_lt (by omega)
  have mc : c / h % 18446744073709551616 = c / h := Nat.mod_eq_of_lt (by omega)
  have md : d / g % 18446744073709551616 = d / g := Nat.mod_eq_of_lt (by omega)
  have z' : decide (a * b ≠ 0) = decide (a / g * (b / h) ≠ 0) := decide_eq_decide.2 z
  rw [z']
  obtain ⟨N, hN⟩ : ∃ N, a / g * (b / h) = N := ⟨_, rfl⟩
  obtain ⟨Q, hQ⟩ : ∃ Q, c / h * (d / g) = Q := ⟨_, rfl⟩
  simp only [hN] at h42a ⊢
  simp only [hQ] at h42c ⊢
  by_cases n1 : N / 18446744073709551616 = 0
  · have n2 : N % 18446744073709551616 = N := by omega
    have nb := neg_back N
    obtain ⟨w, hw⟩ : ∃ w, (m && !decide (N = 0)) = w := ⟨_, rfl⟩
    have hw' : (m && decide (N ≠ 0)) = w := by rw [← hw]; simp
    rw [hw']
    have hN0 : ∀ (A B : Bool), (if N = 0 then A else B) = if N = 0 then A else B := fun _ _ => rfl
    by_cases q1 : Q / 18446744073709551616 = 0
    · have q2 : Q % 18446744073709551616 = Q := by omega
      by_cases q3 : Q < 9223372036854775808
      · have q4 : ((9223372036854775807 : Int) < (Q : Int)) = False := eq_false (by omega)
        have q5 : wr .i64 (Q : Int) = (Q : Int) := wr_i64 _ (by omega)
        rcases Nat.lt_trichotomy N 9223372036854775808 with t | t | t
        · have t1 : ((9223372036854775808 : Int) < (N : Int)) = False := eq_false (by omega)
          have t2 : ((N : Int) = (9223372036854775808 : Int)) = False := eq_false (by omega)
          have t3 : wr .i64 (N : Int) = (N : Int) := wr_i64 _ (by omega)
          have pk : pack w N Q = (sv w N, (Q : Int), 0) := by rw [pack_ok, if_pos ⟨by simp [okP, t], q3⟩]
          rw [pk]
          simp (config := {contextual := true, maxSteps := 10000000, implicitDefEqProofs := false}) only [x77, go_sem, ↓reduceIte, reduceCtorEq, Nat.reduceEqDiff, Nat.reduceAdd, Nat.reduceLeDiff, Nat.reduceMul, Int.reduceEq, Int.reduceLT, Int.reduceLE, Int.reduceAdd, Int.reduceSub, Int.reduceMul, Int.reduceNeg, Int.reduceToNat, Int.reduceNe, Int.reduceBEq, Int.reduceBNe, Nat.reduceLT, Nat.reduceSub, Nat.reduceDiv, Nat.reduceMod, Int.reduceTDiv, Int.reduceTMod, r26, hg, hh, g0, h0, ma, mb, mc, md, h42a, h42c, n1, n2, q1, q2, q4, q5, t1, t2, t3, nb (by omega), hw, rt_eq]
          subst hw
          cases m <;> by_cases n0 : N = 0 <;> simp [sv, n0]
        · have t1 : ((9223372036854775808 : Int) < (N : Int)) = False := eq_false (by omega)
          have t2 : ((N : Int) = (9223372036854775808 : Int)) = True := eq_true (by omega)
          have t3 : N ≠ 0 := by omega
          simp (config := {contextual := true, maxSteps := 10000000, implicitDefEqProofs := false}) only [x77, go_sem, ↓reduceIte, reduceCtorEq, Nat.reduceEqDiff, Nat.reduceAdd, Nat.reduceLeDiff, Nat.reduceMul, Int.reduceEq, Int.reduceLT, Int.reduceLE, Int.reduceAdd, Int.reduceSub, Int.reduceMul, Int.reduceNeg, Int.reduceToNat, Int.reduceNe, Int.reduceBEq, Int.reduceBNe, Nat.reduceLT, Nat.reduceSub, Nat.reduceDiv, Nat.reduceMod, Int.reduceTDiv, Int.reduceTMod, r26, hg, hh, g0, h0, ma, mb, mc, md, h42a, h42c, n1, n2, q1, q2, q4, q5, t1, t2, t3, nb (by omega), hw, rt_eq]
          subst hw
          cases m <;> simp [pack, t, show ¬ 9223372036854775808 ≤ Q by omega]
        · have t1 : ((9223372036854775808 : Int) < (N : Int)) = True := eq_true (by omega)
          have pk : pack w N Q = (0, 0, 10) := by rw [pack_ok, if_neg (by simp [okP]; omega)]
          rw [pk]
          simp (config := {contextual := true, maxSteps := 10000000, implicitDefEqProofs := false}) only [x77, go_sem, ↓reduceIte, reduceCtorEq, Nat.reduceEqDiff, Nat.reduceAdd, Nat.reduceLeDiff, Nat.reduceMul, Int.reduceEq, Int.reduceLT, Int.reduceLE, Int.reduceAdd, Int.reduceSub, Int.reduceMul, Int.reduceNeg, Int.reduceToNat, Int.reduceNe, Int.reduceBEq, Int.reduceBNe, Nat.reduceLT, Nat.reduceSub, Nat.reduceDiv, Nat.reduceMod, Int.reduceTDiv, Int.reduceTMod, r26, hg, hh, g0, h0, ma, mb, mc, md, h42a, h42c, n1, n2, q1, q2, q4, q5, t1, hw, rt_eq]
      · have q4 : ((9223372036854775807 : Int) < (Q : Int)) = True := eq_true (by omega)
        have pk : pack w N Q = (0, 0, 10) := by rw [pack_ok, if_neg (fun h => q3 h.2)]
        rw [pk]
        simp (config := {contextual := true, maxSteps := 10000000, implicitDefEqProofs := false}) only [x77, go_sem, ↓reduceIte, reduceCtorEq, Nat.reduceEqDiff, Nat.reduceAdd, Nat.reduceLeDiff, Nat.reduceMul, Int.reduceEq, Int.reduceLT, Int.reduceLE, Int.reduceAdd, Int.reduceSub, Int.reduceMul, Int.reduceNeg, Int.reduceToNat, Int.reduceNe, Int.reduceBEq, Int.reduceBNe, Nat.reduceLT, Nat.reduceSub, Nat.reduceDiv, Nat.reduceMod, Int.reduceTDiv, Int.reduceTMod, r26, hg, hh, g0, h0, ma, mb, mc, md, h42a, h42c, n1, n2, q1, q2, q4, hw, rt_eq]
    · have pk : pack w N Q = (0, 0, 10) := by rw [pack_ok, if_neg (fun h => q1 (by omega))]
      rw [pk]
      simp (config := {contextual := true, maxSteps := 10000000, implicitDefEqProofs := false}) only [x77, go_sem, ↓reduceIte, reduceCtorEq, Nat.reduceEqDiff, Nat.reduceAdd, Nat.reduceLeDiff, Nat.reduceMul, Int.reduceEq, Int.reduceLT, Int.reduceLE, Int.reduceAdd, Int.reduceSub, Int.reduceMul, Int.reduceNeg, Int.reduceToNat, Int.reduceNe, Int.reduceBEq, Int.reduceBNe, Nat.reduceLT, Nat.reduceSub, Nat.reduceDiv, Nat.reduceMod, Int.reduceTDiv, Int.reduceTMod, r26, hg, hh, g0, h0, ma, mb, mc, md, h42a, h42c, n1, n2, q1, hw, rt_eq]
  · have pk : ∀ w, pack w N Q = (0, 0, 10) := fun w => by rw [pack_ok, if_neg (by simp [okP]; omega)]
    rw [pk]
    simp (config := {contextual := true, maxSteps := 10000000, implicitDefEqProofs := false}) only [x77, go_sem, ↓reduceIte, reduceCtorEq, Nat.reduceEqDiff, Nat.reduceAdd, Nat.reduceLeDiff, Nat.reduceMul, Int.reduceEq, Int.reduceLT, Int.reduceLE, Int.reduceAdd, Int.reduceSub, Int.reduceMul, Int.reduceNeg, Int.reduceToNat, Int.reduceNe, Int.reduceBEq, Int.reduceBNe, Nat.reduceLT, Nat.reduceSub, Nat.reduceDiv, Nat.reduceMod, Int.reduceTDiv, Int.reduceTMod, r26, hg, hh, g0, h0, ma, mb, mc, md, h42a, h42c, n1, rt_eq]
end Go.Proofs.YtgbmobfjanajaaaDoor.Sx.T
namespace Go.Proofs.YtgbmobfjanajaaaDoor.Sx.T
open Go Go.Proofs.YtgbmobfjanajaaaDoor.Sx
set_option maxRecDepth 100000
set_option maxHeartbeats 4000000
theorem sgn_mk (a c : Int) (D : Nat) : mk ((!(decide (a < 0) == decide (c < 0))) && decide (a.natAbs * c.natAbs ≠ 0)) (a.natAbs * c.natAbs) D = frc (a * c) D := by
  refine frc_int _ _ _ _ (Int.natAbs_mul a c).symm ?_
  rw [mul_sgn2]
  generalize a.natAbs * c.natAbs = A
  by_cases p1 : a < 0 <;> by_cases p2 : c < 0 <;> rw [Bool.eq_iff_iff] <;> simp [p1, p2] <;> omega
theorem r22 (a b c d : Int) (ha : I64 a) (hb : I64 b) (hc : I64 c) (hd : I64 d) (hp : Heap) : CL X GV 57 [.agg [.int .i64 a, .int .i64 b], .agg [.int .i64 c, .int .i64 d]] hp = some (rt (mulR a b c d), hp) := by
  rw [CL_eq (fn := x57) rfl]
  have a1 := r28 a b ha hb
  have a2 := r28 c d hc hd
  unfold mulR both
  by_cases h1 : mayR a b = true
  · by_cases h2 : mayR c d = true
    · have p1 := may_pos h1
      have p2 := may_pos h2
      have s1 := r27 a ha
      have s2 := r27 c hc
      have ub : u64 b = b.natAbs := by simp only [u64]; unfold I64 at hb; omega
      have ud : u64 d = d.natAbs := by simp only [u64]; unfold I64 at hd; omega
      have a3 := r39 a.natAbs b.natAbs c.natAbs d.natAbs (!(decide (a < 0) == decide (c < 0))) (by unfold I64 at ha; omega) (by unfold I64 at hb; omega) (by unfold I64 at hc; omega) (by unfold I64 at hd; omega) (by omega) (by omega) (may_gcd h1) (may_gcd h2)
      rw [sgn_mk] at a3
      simp (config := {contextual := true, maxSteps := 10000000, implicitDefEqProofs := false}) only [x57, go_sem, ↓reduceIte, reduceCtorEq, Nat.reduceEqDiff, Nat.reduceAdd, Nat.reduceLeDiff, Nat.reduceMul, Int.reduceEq, Int.reduceLT, Int.reduceLE, Int.reduceAdd, Int.reduceSub, Int.reduceMul, Int.reduceNeg, Int.reduceToNat, Int.reduceNe, Int.reduceBEq, Int.reduceBNe, Nat.reduceLT, Nat.reduceSub, Nat.reduceDiv, Nat.reduceMod, Int.reduceTDiv, Int.reduceTMod, a1, a2, h1, h2, s1, s2, ub, ud, a3, rt_eq]
    · simp (config := {contextual := true, maxSteps := 10000000, implicitDefEqProofs := false}) only [x57, go_sem, ↓reduceIte, reduceCtorEq, Nat.reduceEqDiff, Nat.reduceAdd, Nat.reduceLeDiff, Nat.reduceMul, Int.reduceEq, Int.reduceLT, Int.reduceLE, Int.reduceAdd, Int.reduceSub, Int.reduceMul, Int.reduceNeg, Int.reduceToNat, Int.reduceNe, Int.reduceBEq, Int.reduceBNe, Nat.reduceLT, Nat.reduceSub, Nat.reduceDiv, Nat.reduceMod, Int.reduceTDiv, Int.reduceTMod, a1, a2, h1, h2, rt_eq]
  · by_cases h2 : mayR c d = true
    · simp (config := {contextual := true, maxSteps := 10000000, implicitDefEqProofs := false}) only [x57, go_sem, ↓reduceIte, reduceCtorEq, Nat.reduceEqDiff, Nat.reduceAdd, Nat.reduceLeDiff, Nat.reduceMul, Int.reduceEq, Int.reduceLT, Int.reduceLE, Int.reduceAdd, Int.reduceSub, Int.reduceMul, Int.reduceNeg, Int.reduceToNat, Int.reduceNe, Int.reduceBEq, Int.reduceBNe, Nat.reduceLT, Nat.reduceSub, Nat.reduceDiv, Nat.reduceMod, Int.reduceTDiv, Int.reduceTMod, a1, a2, h1, h2, rt_eq]
    · simp (config := {contextual := true, maxSteps := 10000000, implicitDefEqProofs := false}) only [x57, go_sem, ↓reduceIte, reduceCtorEq, Nat.reduceEqDiff, Nat.reduceAdd, Nat.reduceLeDiff, Nat.reduceMul, Int.reduceEq, Int.reduceLT, Int.reduceLE, Int.reduceAdd, Int.reduceSub, Int.reduceMul, Int.reduceNeg, Int.reduceToNat, Int.reduceNe, Int.reduceBEq, Int.reduceBNe, Nat.reduceLT, Nat.reduceSub, Nat.reduceDiv, Nat.reduceMod, Int.reduceTDiv, Int.reduceTMod, a1, a2, h1, h2, rt_eq]
theorem may_zero {d : Int} (h : mayR 0 d = true) : d = 1 := by
  have := may_gcd h
  have := may_pos h
  simp at *
  omega
theorem may_same {a b c d : Int} (h1 : mayR a b = true) (h2 : mayR c d = true) (h : a * d = c * b) : a = c ∧ b = d := by
  have p1 := may_pos h1
  have p2 := may_pos h2
  have g1 := may_gcd h1
  have g2 := may_gcd h2
  have e : a.natAbs * d.natAbs = c.natAbs * b.natAbs := by rw [← Int.natAbs_mul, ← Int.natAbs_mul, h]
  have d1 : b.natAbs ∣ d.natAbs := Nat.Coprime.dvd_of_dvd_mul_left (show Nat.Coprime b.natAbs a.natAbs from (Nat.gcd_comm _ _).trans g1) ⟨c.natAbs, by rw [e, Nat.mul_comm]⟩
  have d2 : d.natAbs ∣ b.natAbs := Nat.Coprime.dvd_of_dvd_mul_left (show Nat.Coprime d.natAbs c.natAbs from (Nat.gcd_comm _ _).trans g2) ⟨a.natAbs, by rw [← e, Nat.mul_comm]⟩
  have e2 : b.natAbs = d.natAbs := Nat.dvd_antisymm d1 d2
  have e3 : b = d := by omega
  subst e3
  exact ⟨Int.eq_of_mul_eq_mul_right (by omega) h, rfl⟩
theorem r17 (a b c d : Int) (ha : I64 a) (hb : I64 b) (hc : I64 c) (hd : I64 d) (hp : Heap) : CL X GV 30 [.agg [.int .i64 a, .int .i64 b], .agg [.int .i64 c, .int .i64 d]] hp = some (.int .i64 (cmpR a b c d), hp) := by
  rw [CL_eq (fn := x30) rfl]
  have a1 := r28 a b ha hb
  have a2 := r28 c d hc hd
  unfold cmpR both
  by_cases h1 : mayR a b = true
  · by_cases h2 : mayR c d = true
    · by_cases h3 : a = c ∧ b = d
      · obtain ⟨rfl, rfl⟩ := h3
        simp (config := {contextual := true, maxSteps := 10000000, implicitDefEqProofs := false}) only [x30, go_sem, ↓reduceIte, reduceCtorEq, Nat.reduceEqDiff, Nat.reduceAdd, Nat.reduceLeDiff, Nat.reduceMul, Int.reduceEq, Int.reduceLT, Int.reduceLE, Int.reduceAdd, Int.reduceSub, Int.reduceMul, Int.reduceNeg, Int.reduceToNat, Int.reduceNe, Int.reduceBEq, Int.reduceBNe, Nat.reduceLT, Nat.reduceSub, Nat.reduceDiv, Nat.reduceMod, Int.reduceTDiv, Int.reduceTMod, a1, a2, h1, h2, Int.lt_irrefl]
      · have p1 := may_pos h1
        have p2 := may_pos h2
        have nb : (b < 0) = False := eq_false (by omega)
        have nd : (d < 0) = False := eq_false (by omega)
        have h36a : ∀ hp, CL X GV 45 [.int .i64 a, .int .i64 d] hp = some (W (a.natAbs * d.natAbs) (decide (a < 0)), hp) := fun hp => by
          rw [r36 a d ha hd]; simp only [nd, decide_false, Bool.bne_false]
        have h36c : ∀ hp, CL X GV 45 [.int .i64 c, .int .i64 b] hp = some (W (c.natAbs * b.natAbs) (decide (c < 0)), hp) := fun hp => by
          rw [r36 c b hc hb]; simp only [nb, decide_false, Bool.bne_false]
        have m1 : a.natAbs * d.natAbs ≤ 9223372036854775808 * 9223372036854775807 := Nat.mul_le_mul (by unfold I64 at *; omega) (by unfold I64 at *; omega)
        have m2 : c.natAbs * b.natAbs ≤ 9223372036854775808 * 9223372036854775807 := Nat.mul_le_mul (by unfold I64 at *; omega) (by unfold I64 at *; omega)
        obtain ⟨tn, tf, h37, lt, hT⟩ := sum_w (a.natAbs * d.natAbs) (c.natAbs * b.natAbs) (decide (a < 0)) (!decide (c < 0)) (by omega) (by omega)
        have ne : a * d ≠ c * b := fun h => h3 (may_same h1 h2 h)
        have eT : sv tf tn = a * d - c * b := by
          rw [hT, mul_sgn a d p2, mul_sgn c b p1]
          by_cases q1 : a < 0 <;> by_cases q2 : c < 0 <;> simp [sv, q1, q2] <;> omega
        have h3' : ((a == c) && (b == d)) = false := by
          apply Bool.eq_false_iff.2
          intro h
          simp only [Bool.and_eq_true, beq_iff_eq] at h
          exact h3 h
        simp only [W] at h36a h36c h37
        cases tf
        · have l1 : ¬ a * d < c * b := by simp [sv] at eT; omega
          have l2 : c * b < a * d := by simp [sv] at eT; omega
          simp (config := {contextual := true, maxSteps := 10000000, implicitDefEqProofs := false}) only [x30, go_sem, ↓reduceIte, reduceCtorEq, Nat.reduceEqDiff, Nat.reduceAdd, Nat.reduceLeDiff, Nat.reduceMul, Int.reduceEq, Int.reduceLT, Int.reduceLE, Int.reduceAdd, Int.reduceSub, Int.reduceMul, Int.reduceNeg, Int.reduceToNat, Int.reduceNe, Int.reduceBEq, Int.reduceBNe, Nat.reduceLT, Nat.reduceSub, Nat.reduceDiv, Nat.reduceMod, Int.reduceTDiv, Int.reduceTMod, a1, a2, h1, h2, h3', h36a, h36c, h37, l1, l2]
        · have l1 : a * d < c * b := by simp [sv] at eT; omega
          simp (config := {contextual := true, maxSteps := 10000000, implicitDefEqProofs := false}) only [x30, go_sem, ↓reduceIte, reduceCtorEq, Nat.reduceEqDiff, Nat.reduceAdd, Nat.reduceLeDiff, Nat.reduceMul, Int.reduceEq, Int.reduceLT, Int.reduceLE, Int.reduceAdd, Int.reduceSub, Int.reduceMul, Int.reduceNeg, Int.reduceToNat, Int.reduceNe, Int.reduceBEq, Int.reduceBNe, Nat.reduceLT, Nat.reduceSub, Nat.reduceDiv, Nat.reduceMod, Int.reduceTDiv, Int.reduceTMod, a1, a2, h1, h2, h3', h36a, h36c, h37, l1]
    · simp (config := {contextual := true, maxSteps := 10000000, implicitDefEqProofs := false}) only [x30, go_sem, ↓reduceIte, reduceCtorEq, Nat.reduceEqDiff, Nat.reduceAdd, Nat.reduceLeDiff, Nat.reduceMul, Int.reduceEq, Int.reduceLT, Int.reduceLE, Int.reduceAdd, Int.reduceSub, Int.reduceMul, Int.reduceNeg, Int.reduceToNat, Int.reduceNe, Int.reduceBEq, Int.reduceBNe, Nat.reduceLT, Nat.reduceSub, Nat.reduceDiv, Nat.reduceMod, Int.reduceTDiv, Int.reduceTMod, a1, a2, h1, h2]
  · by_cases h2 : mayR c d = true
    · simp (config := {contextual := true, maxSteps := 10000000, implicitDefEqProofs := false}) only [x30, go_sem, ↓reduceIte, reduceCtorEq, Nat.reduceEqDiff, Nat.reduceAdd, Nat.reduceLeDiff, Nat.reduceMul, Int.reduceEq, Int.reduceLT, Int.reduceLE, Int.reduceAdd, Int.reduceSub, Int.reduceMul, Int.reduceNeg, Int.reduceToNat, Int.reduceNe, Int.reduceBEq, Int.reduceBNe, Nat.reduceLT, Nat.reduceSub, Nat.reduceDiv, Nat.reduceMod, Int.reduceTDiv, Int.reduceTMod, a1, a2, h1, h2]
    · simp (config := {contextual := true, maxSteps := 10000000, implicitDefEqProofs := false}) only [x30, go_sem, ↓reduceIte, reduceCtorEq, Nat.reduceEqDiff, Nat.reduceAdd, Nat.reduceLeDiff, Nat.reduceMul, Int.reduceEq, Int.reduceLT, Int.reduceLE, Int.reduceAdd, Int.reduceSub, Int.reduceMul, Int.reduceNeg, Int.reduceToNat, Int.reduceNe, Int.reduceBEq, Int.reduceBNe, Nat.reduceLT, Nat.reduceSub, Nat.reduceDiv, Nat.reduceMod, Int.reduceTDiv, Int.reduceTMod, a1, a2, h1, h2]
end Go.Proofs.YtgbmobfjanajaaaDoor.Sx.T
namespace Go.Proofs.YtgbmobfjanajaaaDoor.Sx.T
open Go Go.Proofs.YtgbmobfjanajaaaDoor.Sx
set_option maxRecDepth 100000
set_option maxHeartbeats 4000000
theorem both_of {a b c d : Int} (h1 : mayR a b = true) (h2 : mayR c d = true) : both a b c d = true := by simp [both, h1, h2]
def sg (x : Int) : Int := if x < 0 then -1 else if 0 < x then 1 else 0
theorem cmp_sg {a b c d : Int} (h1 : mayR a b = true) (h2 : mayR c d = true) : cmpR a b c d = sg (a * d - c * b) := by
  unfold cmpR sg
  rw [if_pos (both_of h1 h2)]
  repeat' split
  all_goals first | rfl | omega
theorem sg_pos (k x y : Int) (hk : 0 < k) (h : k * x = y) : sg y = sg x := by
  subst h
  unfold sg
  have e1 : k * x < 0 ↔ x < 0 := by
    constructor
    · intro h
      refine Int.lt_of_not_ge fun hge => ?_
      have := Int.mul_nonneg (Int.le_of_lt hk) hge
      omega
    · exact fun h => Int.mul_neg_of_pos_of_neg hk h
  have e2 : 0 < k * x ↔ 0 < x := by
    constructor
    · intro h
      refine Int.lt_of_not_ge fun hge => ?_
      have := Int.mul_nonpos_of_nonneg_of_nonpos (Int.le_of_lt hk) hge
      omega
    · exact fun h => Int.mul_pos hk h
  by_cases h1 : x < 0
  · rw [if_pos h1, if_pos (e1.2 h1)]
  · rw [if_neg h1, if_neg (fun h => h1 (e1.1 h))]
    by_cases h2 : 0 < x
    · rw [if_pos h2, if_pos (e2.2 h2)]
    · rw [if_neg h2, if_neg (fun h => h2 (e2.1 h))]
theorem sg_neg (x : Int) : sg (-x) = -sg x := by
  unfold sg
  repeat' split
  all_goals first | rfl | omega
theorem sg_zero (x : Int) : sg x = 0 ↔ x = 0 := by
  unfold sg
  repeat' split
  all_goals omega
theorem sg_le (x : Int) : sg x ≤ 0 ↔ x ≤ 0 := by
  unfold sg
  repeat' split
  all_goals omega
theorem sg_range (x : Int) : -1 ≤ sg x ∧ sg x ≤ 1 := by
  unfold sg
  repeat' split
  all_goals omega
/-- Being less goes on. -/
theorem on_law {a b c d e f : Int} (hb : 0 < b) (hd : 0 < d) (hf : 0 < f) (h1 : a * d - c * b ≤ 0) (h2 : c * f - e * d ≤ 0) :
    a * f - e * b ≤ 0 ∧ (a * f - e * b = 0 ↔ (a * d - c * b = 0 ∧ c * f - e * d = 0)) := by
  have k1 : d * (a * f - e * b) = f * (a * d - c * b) + b * (c * f - e * d) := by grind
  have n1 : f * (a * d - c * b) ≤ 0 := Int.mul_nonpos_of_nonneg_of_nonpos (Int.le_of_lt hf) h1
  have n2 : b * (c * f - e * d) ≤ 0 := Int.mul_nonpos_of_nonneg_of_nonpos (Int.le_of_lt hb) h2
  have s0 := sg_pos d (a * f - e * b) _ hd rfl
  have s1 := sg_pos f (a * d - c * b) _ hf rfl
  have s2 := sg_pos b (c * f - e * d) _ hb rfl
  rw [k1] at s0
  constructor
  · rw [← sg_le, ← s0, sg_le]
    omega
  · rw [← sg_zero, ← sg_zero (a * d - c * b), ← sg_zero (c * f - e * d), ← s0, ← s1, ← s2, sg_zero, sg_zero, sg_zero]
    omega
theorem same_law {a b c d : Int} (h1 : mayR a b = true) (h2 : mayR c d = true) : (a * d - c * b = 0) ↔ (a = c ∧ b = d) := by
  constructor
  · intro h
    exact may_same h1 h2 (by omega)
  · rintro ⟨rfl, rfl⟩
    omega
end Go.Proofs.YtgbmobfjanajaaaDoor.Sx.T
