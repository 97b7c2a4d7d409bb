/- Layer 1, part 1: what the functions of whole numbers answer. -/
import Derived.Test.YtafeikbbjhmlaaaGreatDoorEvB
import Derived.Test.YtafeikbbjhmlaaaGreatDoorEvR
import Derived.Test.YtafeikbbjhmlaaaGreatDoorEvP
import Derived.Test.YtafeikbbjhmlaaaGreatDoorEvS
import Derived.Test.YtafeikbbjhmlaaaGreatDoorEvL
import Derived.Test.YtafeikbbjhmlaaaGreatDoorEvQ
import Derived.Test.YtafeikbbjhmlaaaGreatDoorGV
import Derived.Test.YtafeikbbjhmlaaaGreatDoorSyF
import Derived.Test.YtafeikbbjhmlaaaGreatDoorSxRun
set_option linter.unusedVariables false
set_option linter.unusedSimpArgs false
namespace Go.Proofs.YtafeikbbjhmlaaaGreatDoor.Sx.T
open Go Go.Proofs.YtafeikbbjhmlaaaGreatDoor.Sx
set_option maxRecDepth 100000
set_option maxHeartbeats 4000000
theorem r27 (n : Int) (h : -9223372036854775808 ≤ n ∧ n < 9223372036854775808) (hp : Heap) : CL X GV 107 [.int .i64 n] hp = some (.int .u64 (n.natAbs : Int), hp) := by
  rw [CL_eq (fn := x107) rfl]
  simp +contextual -implicitDefEqProofs (maxSteps := 10000000) only [x107, go_sem, ↓reduceIte, reduceCtorEq]
  split <;> simp only [Option.some.injEq, Prod.mk.injEq, AV.int.injEq, true_and, and_true] <;> simp only [u64] <;> omega
theorem l26 (a : Nat) : ∀ (b : Nat) (fr : List AV) (hp : Heap), fget fr 0 = .int .u64 a → fget fr 1 = .int .u64 b →
    ∃ fr', LC X GV (.loop x106_l0) ⟨fr, hp⟩ = some (.exit 0, ⟨fr', hp⟩) ∧ fget fr' 0 = .int .u64 (Nat.gcd a b : Nat) := by
  intro b
  induction b using Nat.strongRecOn generalizing a with
  | ind b ih =>
    intro fr hp h0 h1
    rw [LC_loop]
    by_cases hb : b = 0
    · subst hb
      simp +contextual -implicitDefEqProofs (maxSteps := 10000000) only [x106_l0_run, go_sem, ↓reduceIte, h1]
      exact ⟨_, rfl, by simp only [go_sem, ↓reduceIte, reduceCtorEq, h0]; simp⟩
    · simp +contextual -implicitDefEqProofs (maxSteps := 10000000) only [x106_l0_run, go_sem, ↓reduceIte, reduceCtorEq, Nat.reduceEqDiff, h0, h1, hb]
      rw [show Nat.gcd a b = Nat.gcd b (a % b) by rw [Nat.gcd_comm b, ← Nat.gcd_rec, Nat.gcd_comm]]
      refine ih (a % b) (Nat.mod_lt _ (Nat.pos_of_ne_zero hb)) b _ hp ?_ ?_ <;> simp only [go_sem, ↓reduceIte, reduceCtorEq]
theorem r26 (a b : Nat) (hp : Heap) : CL X GV 106 [.int .u64 a, .int .u64 b] hp = some (.int .u64 (Nat.gcd a b : Nat), hp) := by
  rw [CL_eq (fn := x106) rfl]
  simp +contextual -implicitDefEqProofs (maxSteps := 10000000) only [x106, go_sem, ↓reduceIte]
  obtain ⟨fr', h, h0⟩ := l26 a b (fput [.int .u64 a, .int .u64 b] 4 (.int .u64 0)) ([] :: hp) (by simp only [go_sem, ↓reduceIte, reduceCtorEq]) (by simp only [go_sem, ↓reduceIte, Nat.reduceEqDiff])
  simp +contextual -implicitDefEqProofs (maxSteps := 10000000) only [h, h0, go_sem, ↓reduceIte]
end Go.Proofs.YtafeikbbjhmlaaaGreatDoor.Sx.T
namespace Go.Proofs.YtafeikbbjhmlaaaGreatDoor.Sx.T
open Go Go.Proofs.YtafeikbbjhmlaaaGreatDoor.Sx
set_option maxRecDepth 100000
set_option maxHeartbeats 4000000
theorem mul_bound (a b : Nat) (ha : a < 4294967296) (hb : b < 4294967296) : a * b ≤ 18446744065119617025 := Nat.mul_le_mul (Nat.le_of_lt_succ ha : a ≤ 4294967295) (Nat.le_of_lt_succ hb : b ≤ 4294967295)
end Go.Proofs.YtafeikbbjhmlaaaGreatDoor.Sx.T
namespace Go.Proofs.YtafeikbbjhmlaaaGreatDoor.Sx.T
open Go Go.Proofs.YtafeikbbjhmlaaaGreatDoor.Sx
set_option maxRecDepth 100000
set_option maxHeartbeats 4000000
end Go.Proofs.YtafeikbbjhmlaaaGreatDoor.Sx.T
namespace Go.Proofs.YtafeikbbjhmlaaaGreatDoor.Sx.T
open Go Go.Proofs.YtafeikbbjhmlaaaGreatDoor.Sx
set_option maxRecDepth 100000
set_option maxHeartbeats 4000000
end Go.Proofs.YtafeikbbjhmlaaaGreatDoor.Sx.T
namespace Go.Proofs.YtafeikbbjhmlaaaGreatDoor.Sx.T
open Go Go.Proofs.YtafeikbbjhmlaaaGreatDoor.Sx
set_option maxRecDepth 100000
set_option maxHeartbeats 4000000
end Go.Proofs.YtafeikbbjhmlaaaGreatDoor.Sx.T
namespace Go.Proofs.YtafeikbbjhmlaaaGreatDoor.Sx.T
open Go Go.Proofs.YtafeikbbjhmlaaaGreatDoor.Sx
set_option maxRecDepth 100000
set_option maxHeartbeats 4000000
def rt (x : Int × Int × Int) : AV := .tup [.agg [.int .i64 x.1, .int .i64 x.2.1], .int .i64 x.2.2]
def mk (below : Bool) (n d : Nat) : Int × Int × Int :=
  let p := n / Nat.gcd n d
  let q := d / Nat.gcd n d
  if 9223372036854775808 ≤ q ∨ 9223372036854775808 < p ∨ p = 9223372036854775808 ∧ below = false then (0, 0, 10)
  else if below then (-p, q, 0) else (p, q, 0)
end Go.Proofs.YtafeikbbjhmlaaaGreatDoor.Sx.T
namespace Go.Proofs.YtafeikbbjhmlaaaGreatDoor.Sx.T
open Go Go.Proofs.YtafeikbbjhmlaaaGreatDoor.Sx
set_option maxRecDepth 100000
set_option maxHeartbeats 4000000
def I64 (n : Int) : Prop := -9223372036854775808 ≤ n ∧ n < 9223372036854775808
def frc (t : Int) (d : Nat) : Int × Int × Int := mk (decide (t < 0)) t.natAbs d
def ofR (n d : Int) : Int × Int × Int := if d = 0 then (0, 0, 11) else frc (n * d.sign) d.natAbs
def mayR (n d : Int) : Bool := decide (0 < d ∧ Nat.gcd n.natAbs d.natAbs = 1)
theorem rt_eq (x : Int × Int × Int) : rt x = .tup [.agg [.int .i64 x.1, .int .i64 x.2.1], .int .i64 x.2.2] := rfl
theorem ofR_mk (n d : Int) (h0 : ¬ d = 0) : mk (if ¬n = 0 then !decide (n < 0) == decide (d < 0) else false) n.natAbs d.natAbs = ofR n d := by
  unfold ofR frc
  rw [if_neg h0, Int.natAbs_mul, Int.natAbs_sign_of_ne_zero h0, Nat.mul_one]
  congr 1
  rcases Int.lt_trichotomy d 0 with h | h | h
  · rw [Int.sign_eq_neg_one_of_neg h]
    by_cases h1 : n = 0
    · subst h1; rfl
    · by_cases h2 : n < 0 <;> simp [h1, h2, h] <;> omega
  · omega
  · rw [Int.sign_eq_one_of_pos h]
    by_cases h1 : n = 0
    · subst h1; rfl
    · by_cases h2 : n < 0 <;> simp [h1, h2, show ¬ d < 0 by omega]
theorem may_eq (n d : Int) (hn : I64 n) (hd : I64 d) (h : 0 < d) : (decide ((ofR n d).2.2 = 0) && ((ofR n d).1 == n && (ofR n d).2.1 == d)) = mayR n d := by
  unfold ofR mayR frc mk
  unfold I64 at *
  rw [if_neg (by omega), Int.sign_eq_one_of_pos h, Int.mul_one]
  have hg : 0 < Nat.gcd n.natAbs d.natAbs := Nat.gcd_pos_of_pos_right _ (by omega)
  by_cases h1 : Nat.gcd n.natAbs d.natAbs = 1
  · simp only [h1, Nat.div_one, and_true]
    rw [if_neg (by simp only [decide_eq_false_iff_not]; omega)]
    by_cases h2 : n < 0
    · simp [h2, h]
      omega
    · simp [h2, h]
      omega
  · have h3 : d.natAbs / Nat.gcd n.natAbs d.natAbs < d.natAbs := Nat.div_lt_self (by omega) (by omega)
    generalize d.natAbs / Nat.gcd n.natAbs d.natAbs = q at *
    generalize n.natAbs / Nat.gcd n.natAbs d.natAbs = p at *
    simp only [h1, and_false, decide_false]
    split
    · rfl
    · have : ((q : Int) == d) = false := by simp; omega
      split <;> simp [this]
theorem mul_sgn (a d : Int) (hd : 0 < d) : a * d = if a < 0 then -((a.natAbs * d.natAbs : Nat) : Int) else ((a.natAbs * d.natAbs : Nat) : Int) := by
  obtain ⟨k, rfl⟩ := Int.eq_ofNat_of_zero_le (Int.le_of_lt hd)
  rw [Int.natAbs_natCast, Int.natCast_mul]
  split
  · rw [← Int.neg_mul, show -(a.natAbs : Int) = a by omega]
  · rw [show (a.natAbs : Int) = a by omega]
end Go.Proofs.YtafeikbbjhmlaaaGreatDoor.Sx.T
namespace Go.Proofs.YtafeikbbjhmlaaaGreatDoor.Sx.T
open Go Go.Proofs.YtafeikbbjhmlaaaGreatDoor.Sx
set_option maxRecDepth 100000
set_option maxHeartbeats 4000000
def both (a b c d : Int) : Bool := mayR a b && mayR c d
def cmpR (a b c d : Int) : Int := if both a b c d = true then (if a * d < c * b then -1 else if c * b < a * d then 1 else 0) else 0
theorem may_pos {a b : Int} (h : mayR a b = true) : 0 < b := by
  simp only [mayR, decide_eq_true_eq] at h
  exact h.1
theorem may_gcd {a b : Int} (h : mayR a b = true) : Nat.gcd a.natAbs b.natAbs = 1 := by
  simp only [mayR, decide_eq_true_eq] at h
  exact h.2
end Go.Proofs.YtafeikbbjhmlaaaGreatDoor.Sx.T
namespace Go.Proofs.YtafeikbbjhmlaaaGreatDoor.Sx.T
open Go Go.Proofs.YtafeikbbjhmlaaaGreatDoor.Sx
set_option maxRecDepth 100000
set_option maxHeartbeats 4000000
theorem r28 (n d : Int) (hn : I64 n) (hd : I64 d) (hp : Heap) : CL X GV 130 [.agg [.int .i64 n, .int .i64 d]] hp = some (.bool (mayR n d), hp) := by
  rw [CL_eq (fn := x130) rfl]
  have a1 := r27 n hn
  by_cases h : 0 < d
  · have ud : u64 d = d.natAbs := by simp only [u64]; unfold I64 at hd; omega
    simp +contextual -implicitDefEqProofs (maxSteps := 10000000) only [x130, go_sem, ↓reduceIte, Nat.reduceEqDiff, Nat.reduceAdd, a1, r26, h, ud]
    unfold mayR
    congr 3
    rw [Bool.eq_iff_iff]
    simp [h]
    omega
  · simp +contextual -implicitDefEqProofs (maxSteps := 10000000) only [x130, go_sem, ↓reduceIte, Nat.reduceEqDiff, Nat.reduceAdd, h, mayR, false_and]
theorem r10 (n d : Int) (hn : I64 n) (hd : I64 d) (hp : Heap) : CL X GV 80 [.int .i64 n, .int .i64 d] hp = some (rt (ofR n d), hp) := by
  rw [CL_eq (fn := x80) rfl]
  have a1 := r27 n hn
  have a2 := r27 d hd
  by_cases h0 : d = 0
  · subst h0
    simp +contextual -implicitDefEqProofs (maxSteps := 10000000) only [x80, go_sem, ↓reduceIte, Nat.reduceEqDiff, Nat.reduceAdd]
    rfl
  · have hg : Nat.gcd n.natAbs d.natAbs ≠ 0 := Nat.ne_of_gt (Nat.gcd_pos_of_pos_right _ (by omega))
    rw [← ofR_mk n d h0]
    obtain ⟨P, hP⟩ : ∃ P, n.natAbs / Nat.gcd n.natAbs d.natAbs = P := ⟨_, rfl⟩
    obtain ⟨Q, hQ⟩ : ∃ Q, d.natAbs / Nat.gcd n.natAbs d.natAbs = Q := ⟨_, rfl⟩
    have lP : P ≤ 9223372036854775808 := by rw [← hP]; exact Nat.le_trans (Nat.div_le_self _ _) (by unfold I64 at hn; omega)
    have lQ : Q ≤ 9223372036854775808 := by rw [← hQ]; exact Nat.le_trans (Nat.div_le_self _ _) (by unfold I64 at hd; omega)
    have mP : P % 18446744073709551616 = P := by omega
    have mQ : Q % 18446744073709551616 = Q := by omega
    unfold mk
    generalize hb : (if ¬n = 0 then !decide (n < 0) == decide (d < 0) else false) = b
    rw [bite_f] at hb
    simp only [decide_not] at hb
    have t0 : ((9223372036854775808 : Int) < (P : Int)) = False := by simp; omega
    have t0' : ¬ 9223372036854775808 < P := by omega
    by_cases h1 : 9223372036854775808 ≤ Q
    · have t1 : ((9223372036854775807 : Int) < (Q : Int)) = True := by simp; omega
      simp +contextual -implicitDefEqProofs (maxSteps := 10000000) only [x80, go_sem, ↓reduceIte, reduceCtorEq, Nat.reduceEqDiff, Nat.reduceAdd, Int.reduceBNe, a1, a2, r26, h0, hg, hP, hQ, mP, mQ, t1, h1, true_or, hb]
      rfl
    · have t1 : ((9223372036854775807 : Int) < (Q : Int)) = False := by simp; omega
      have e2 : wr .i64 (Q : Int) = (Q : Int) := wr_i64 _ (by omega)
      have e3 := neg_back P (by omega)
      by_cases h2 : P = 9223372036854775808
      · have t2 : ((P : Int) = (9223372036854775808 : Int)) = True := by simp; omega
        have t2' : (P = 9223372036854775808) = True := by simp [h2]
        simp +contextual -implicitDefEqProofs (maxSteps := 10000000) only [x80, go_sem, ↓reduceIte, reduceCtorEq, Nat.reduceEqDiff, Nat.reduceAdd, Nat.reduceLeDiff, Int.reduceBNe, a1, a2, r26, h0, hg, hP, hQ, mP, mQ, t0, t0', t1, t2, t2', h1, false_or, hb, e2, e3]
        cases b <;> simp_all [rt]
      · have t2 : ((P : Int) = (9223372036854775808 : Int)) = False := by simp; omega
        have e4 : wr .i64 (P : Int) = (P : Int) := wr_i64 _ (by omega)
        simp +contextual -implicitDefEqProofs (maxSteps := 10000000) only [x80, go_sem, ↓reduceIte, reduceCtorEq, Nat.reduceEqDiff, Nat.reduceAdd, Nat.reduceLeDiff, Int.reduceBNe, a1, a2, r26, h0, hg, hP, hQ, mP, mQ, t0, t0', t1, t2, h1, h2, false_or, false_and, hb, e2, e3, e4]
        cases b <;> simp_all [rt]
theorem min_32 : min 32 64 = 32 := rfl
theorem stepB (s : Nat) (hs : s ≤ 18446744073709551615) : ∃ c d, s / 4294967296 = c ∧ s % 4294967296 = d ∧ d < 4294967296 ∧ s = d + 4294967296 * c ∧ c ≤ 4294967295 ∧ c % 18446744073709551616 = c ∧ d % 18446744073709551616 = d ∧ s % 18446744073709551616 = s :=
  ⟨_, _, rfl, rfl, Nat.mod_lt _ (by omega), by omega, by omega, by omega, by omega, by omega⟩
theorem mul_digs (x0 x1 y0 y1 : Nat) : (x0 + 4294967296 * x1) * (y0 + 4294967296 * y1) = x0 * y0 + 4294967296 * (x0 * y1 + x1 * y0) + 18446744073709551616 * (x1 * y1) := by
  rw [Nat.add_mul, Nat.mul_add, Nat.mul_add]
  have p1 : x0 * (4294967296 * y1) = 4294967296 * (x0 * y1) := Nat.mul_left_comm _ _ _
  have p2 : 4294967296 * x1 * y0 = 4294967296 * (x1 * y0) := Nat.mul_assoc _ _ _
  have p3 : 4294967296 * x1 * (4294967296 * y1) = 18446744073709551616 * (x1 * y1) := by
    rw [Nat.mul_assoc, Nat.mul_left_comm x1, ← Nat.mul_assoc]
  rw [p1, p2, p3, Nat.mul_add]
  omega
theorem r42 (a b : Nat) (ha : a < 18446744073709551616) (hb : b < 18446744073709551616) (hp : Heap) : CL X GV 150 [.int .u64 a, .int .u64 b] hp = some (.tup [.int .u64 (a * b / 18446744073709551616 : Nat), .int .u64 (a * b % 18446744073709551616 : Nat)], hp) := by
  rw [CL_eq (fn := x150) rfl]
  simp +contextual -implicitDefEqProofs (maxSteps := 10000000) only [x150, go_sem, ↓reduceIte, reduceCtorEq, Nat.reduceEqDiff, Nat.reduceAdd, Int.reduceLT, Int.reduceToNat, min_32, Nat.reducePow]
  obtain ⟨x1, x0, u1, u2, bx, ex, gx, mx1, mx2, mx3⟩ := stepB a (by omega)
  obtain ⟨y1, y0, v1, v2, bY, ey, gy, my1, my2, my3⟩ := stepB b (by omega)
  simp only [u1, u2, v1, v2, mx2, my2]
  rw [ex, ey, mul_digs]
  have q00 := mul_bound x0 y0 bx bY
  have q01 := mul_bound x0 y1 bx (by omega)
  have q10 := mul_bound x1 y0 (by omega) bY
  have q11 := mul_bound x1 y1 (by omega) (by omega)
  generalize x0 * y0 = p00 at *
  generalize x0 * y1 = p01 at *
  generalize x1 * y0 = p10 at *
  generalize x1 * y1 = p11 at *
  clear ex ey u1 u2 v1 v2 mx1 mx2 my1 my2 mx3 my3
  simp only [Nat.mod_eq_of_lt (show p00 < 18446744073709551616 by omega), Nat.mod_eq_of_lt (show p01 < 18446744073709551616 by omega), Nat.mod_eq_of_lt (show p10 < 18446744073709551616 by omega), Nat.mod_eq_of_lt (show p11 < 18446744073709551616 by omega)]
  obtain ⟨c1, d1, u1, u2, b1, e1, g1, m1, m2, m3⟩ := stepB p00 (by omega)
  simp only [u1]
  obtain ⟨c2, d2, u1, u2, b2, e2, g2, m1, m2, m3⟩ := stepB (p10 + c1) (by omega)
  simp only [u1, u2, m2, m3]
  obtain ⟨c3, d3, u1, u2, b3, e3, g3, m1, m2, m3⟩ := stepB (d2 + p01) (by omega)
  simp only [u1, m3, Nat.mod_eq_of_lt (show p11 + c2 < 18446744073709551616 by omega)]
  have t : p00 + 4294967296 * (p01 + p10) + 18446744073709551616 * p11 = (d1 + 4294967296 * d3) + 18446744073709551616 * (p11 + c2 + c3) := by omega
  rw [t, Nat.add_mul_div_left _ _ (by omega), Nat.div_eq_of_lt (show d1 + 4294967296 * d3 < 18446744073709551616 by omega), Nat.zero_add]
  have t2 : (p11 + c2 + c3) % 18446744073709551616 = p11 + c2 + c3 := Nat.mod_eq_of_lt (by omega)
  rw [t2]
end Go.Proofs.YtafeikbbjhmlaaaGreatDoor.Sx.T
namespace Go.Proofs.YtafeikbbjhmlaaaGreatDoor.Sx.T
open Go Go.Proofs.YtafeikbbjhmlaaaGreatDoor.Sx
set_option maxRecDepth 100000
set_option maxHeartbeats 4000000
def wd (a b : Nat) (m : Bool) : AV := .agg [.int .u64 a, .int .u64 b, .bool m]
theorem nn (x : Nat) : (0 ≤ (x : Int)) = True := by simp
theorem lt64 (x : Nat) (h : x < 18446744073709551616) : ((x : Int) < 18446744073709551616) = True := by simp; omega
theorem bit_ge (x y : Nat) : (0 ≤ if (x : Int) < y then (1 : Int) else 0) = True := eq_true (by split <;> omega)
theorem bit_le (x y : Nat) : ((if (x : Int) < y then (1 : Int) else 0) ≤ 1) = True := eq_true (by split <;> omega)
theorem prim_add (x y k : Int) (h : 0 ≤ x ∧ 0 ≤ y ∧ 0 ≤ k ∧ k ≤ 1) : primX 0 [.int .u64 x, .int .u64 y, .int .u64 k] = some (.tup [.int .u64 ((x + y + k) % 18446744073709551616), .int .u64 ((x + y + k) / 18446744073709551616)]) := if_pos h
theorem prim_sub (x y k : Int) (h : 0 ≤ x ∧ x < 18446744073709551616 ∧ 0 ≤ y ∧ y < 18446744073709551616 ∧ 0 ≤ k ∧ k ≤ 1) : primX 1 [.int .u64 x, .int .u64 y, .int .u64 k] = some (.tup [.int .u64 ((x - y - k) % 18446744073709551616), .int .u64 (if x < y + k then 1 else 0)]) := if_pos h
def W (n : Nat) (m : Bool) : AV := .agg [.int .u64 (n / 18446744073709551616 : Nat), .int .u64 (n % 18446744073709551616 : Nat), .bool m]
theorem r36 (a b : Int) (ha : I64 a) (hb : I64 b) (hp : Heap) : CL X GV 131 [.int .i64 a, .int .i64 b] hp = some (W (a.natAbs * b.natAbs) (decide (a < 0) != decide (b < 0)), hp) := by
  rw [CL_eq (fn := x131) rfl]
  have a1 := r27 a ha
  have a2 := r27 b hb
  have a3 := r42 a.natAbs b.natAbs (by unfold I64 at *; omega) (by unfold I64 at *; omega)
  simp +contextual -implicitDefEqProofs (maxSteps := 10000000) only [x131, go_sem, ↓reduceIte, reduceCtorEq, Nat.reduceEqDiff, Nat.reduceAdd, Nat.reduceLeDiff, a1, a2, a3]
  rfl
theorem wsplit (n : Nat) (hn : n < 170141183460469231731687303715884105728) : ∃ c d, n / 18446744073709551616 = c ∧ n % 18446744073709551616 = d ∧ d < 18446744073709551616 ∧ c < 18446744073709551616 ∧ n = d + 18446744073709551616 * c := ⟨_, _, rfl, rfl, Nat.mod_lt _ (by omega), by omega, by omega⟩
theorem r37 (n k : Nat) (m l : Bool) (hn : n < 170141183460469231731687303715884105728) (hk : k < 170141183460469231731687303715884105728) (hp : Heap) :
    CL X GV 132 [W n m, W k l] hp = some (if m = l then W (n + k) m else if n < k then W (k - n) l else W (n - k) m, hp) := by
  rw [CL_eq (fn := x132) rfl]
  obtain ⟨n1, n0, hn1, hn0, bn, b1, en⟩ := wsplit n hn
  obtain ⟨k1, k0, hk1, hk0, bk, b2, ek⟩ := wsplit k hk
  unfold W
  rw [hn1, hn0, hk1, hk0]
  by_cases hm : m = l
  · have g : (0 ≤ ((n0 : Int) + k0) / 18446744073709551616 ∧ ((n0 : Int) + k0) / 18446744073709551616 ≤ 1) = True := eq_true (by omega)
    rw [if_pos hm]
    simp +contextual -implicitDefEqProofs (maxSteps := 10000000) only [x132, go_sem, ↓reduceIte, Nat.reduceEqDiff, Nat.reduceAdd, Nat.reduceLeDiff, Int.reduceLE, prim_add, hm, nn, g]
    simp only [Option.some.injEq, Prod.mk.injEq, AV.agg.injEq, List.cons.injEq, AV.int.injEq, true_and, and_true]
    omega
  · rw [if_neg hm]
    rcases Nat.lt_trichotomy n1 k1 with h1 | h1 | h1
    · have l1 : ((n1 : Int) < k1) = True := eq_true (by omega)
      rw [if_pos (by omega)]
      simp +contextual -implicitDefEqProofs (maxSteps := 10000000) only [x132, go_sem, ↓reduceIte, Nat.reduceEqDiff, Nat.reduceAdd, Nat.reduceLeDiff, Int.reduceLE, prim_sub, hm, nn, l1, lt64 _ bn, lt64 _ bk, lt64 _ b1, lt64 _ b2, bit_ge, bit_le]
      simp only [Option.some.injEq, Prod.mk.injEq, AV.agg.injEq, List.cons.injEq, AV.int.injEq, true_and, and_true]
      split <;> omega
    · subst h1
      by_cases h2 : n0 < k0
      · have l1 : ((n0 : Int) < k0) = True := eq_true (by omega)
        rw [if_pos (by omega)]
        simp +contextual -implicitDefEqProofs (maxSteps := 10000000) only [x132, go_sem, ↓reduceIte, Nat.reduceEqDiff, Nat.reduceAdd, Nat.reduceLeDiff, Int.reduceLE, prim_sub, hm, nn, Int.lt_irrefl, l1, lt64 _ bn, lt64 _ bk, lt64 _ b1, bit_ge, bit_le]
        simp only [Option.some.injEq, Prod.mk.injEq, AV.agg.injEq, List.cons.injEq, AV.int.injEq, true_and, and_true]
        try split
        all_goals omega
      · have l1 : ((n0 : Int) < k0) = False := eq_false (by omega)
        rw [if_neg (by omega)]
        simp +contextual -implicitDefEqProofs (maxSteps := 10000000) only [x132, go_sem, ↓reduceIte, Nat.reduceEqDiff, Nat.reduceAdd, Nat.reduceLeDiff, Int.reduceLE, prim_sub, hm, nn, Int.lt_irrefl, l1, lt64 _ bn, lt64 _ bk, lt64 _ b1]
        simp only [Option.some.injEq, Prod.mk.injEq, AV.agg.injEq, List.cons.injEq, AV.int.injEq, true_and, and_true]
        try split
        all_goals omega
    · have l1 : ((n1 : Int) < k1) = False := eq_false (by omega)
      have l2 : ((n1 : Int) = k1) = False := eq_false (by omega)
      rw [if_neg (by omega)]
      simp +contextual -implicitDefEqProofs (maxSteps := 10000000) only [x132, go_sem, ↓reduceIte, Nat.reduceEqDiff, Nat.reduceAdd, Nat.reduceLeDiff, Int.reduceLE, prim_sub, hm, nn, l1, l2, lt64 _ bn, lt64 _ bk, lt64 _ b1, lt64 _ b2, bit_ge, bit_le]
      simp only [Option.some.injEq, Prod.mk.injEq, AV.agg.injEq, List.cons.injEq, AV.int.injEq, true_and, and_true]
      split <;> omega
end Go.Proofs.YtafeikbbjhmlaaaGreatDoor.Sx.T
namespace Go.Proofs.YtafeikbbjhmlaaaGreatDoor.Sx.T
open Go Go.Proofs.YtafeikbbjhmlaaaGreatDoor.Sx
set_option maxRecDepth 100000
set_option maxHeartbeats 4000000
end Go.Proofs.YtafeikbbjhmlaaaGreatDoor.Sx.T
namespace Go.Proofs.YtafeikbbjhmlaaaGreatDoor.Sx.T
open Go Go.Proofs.YtafeikbbjhmlaaaGreatDoor.Sx
set_option maxRecDepth 100000
set_option maxHeartbeats 4000000
end Go.Proofs.YtafeikbbjhmlaaaGreatDoor.Sx.T
namespace Go.Proofs.YtafeikbbjhmlaaaGreatDoor.Sx.T
open Go Go.Proofs.YtafeikbbjhmlaaaGreatDoor.Sx
set_option maxRecDepth 100000
set_option maxHeartbeats 4000000
end Go.Proofs.YtafeikbbjhmlaaaGreatDoor.Sx.T
namespace Go.Proofs.YtafeikbbjhmlaaaGreatDoor.Sx.T
open Go Go.Proofs.YtafeikbbjhmlaaaGreatDoor.Sx
set_option maxRecDepth 100000
set_option maxHeartbeats 4000000
def sv (m : Bool) (n : Nat) : Int := if m = true then -(n : Int) else n
theorem sum_w (A C : Nat) (m k : Bool) (hA : A < 170141183460469231731687303715884105728) (hC : C < 170141183460469231731687303715884105728) :
    ∃ tn tf, (∀ hp, CL X GV 132 [W A m, W C k] hp = some (W tn tf, hp)) ∧ tn ≤ A + C ∧ sv tf tn = sv m A + sv k C := by
  by_cases h : m = k
  · refine ⟨A + C, m, fun hp => by rw [r37 A C m k hA hC, if_pos h], by omega, ?_⟩
    subst h
    cases m <;> simp [sv] <;> omega
  · by_cases h2 : A < C
    · refine ⟨C - A, k, fun hp => by rw [r37 A C m k hA hC, if_neg h, if_pos h2], by omega, ?_⟩
      cases m <;> cases k <;> simp [sv] at h ⊢ <;> omega
    · refine ⟨A - C, m, fun hp => by rw [r37 A C m k hA hC, if_neg h, if_neg h2], by omega, ?_⟩
      cases m <;> cases k <;> simp [sv] at h ⊢ <;> omega
end Go.Proofs.YtafeikbbjhmlaaaGreatDoor.Sx.T
namespace Go.Proofs.YtafeikbbjhmlaaaGreatDoor.Sx.T
open Go Go.Proofs.YtafeikbbjhmlaaaGreatDoor.Sx
set_option maxRecDepth 100000
set_option maxHeartbeats 4000000
end Go.Proofs.YtafeikbbjhmlaaaGreatDoor.Sx.T
namespace Go.Proofs.YtafeikbbjhmlaaaGreatDoor.Sx.T
open Go Go.Proofs.YtafeikbbjhmlaaaGreatDoor.Sx
set_option maxRecDepth 100000
set_option maxHeartbeats 4000000
end Go.Proofs.YtafeikbbjhmlaaaGreatDoor.Sx.T
namespace Go.Proofs.YtafeikbbjhmlaaaGreatDoor.Sx.T
open Go Go.Proofs.YtafeikbbjhmlaaaGreatDoor.Sx
set_option maxRecDepth 100000
set_option maxHeartbeats 4000000
theorem may_same {a b c d : Int} (h1 : mayR a b = true) (h2 : mayR c d = true) (h : a * d = c * b) : a = c ∧ b = d := by
  have p1 := may_pos h1
  have p2 := may_pos h2
  have g1 := may_gcd h1
  have g2 := may_gcd h2
  have e : a.natAbs * d.natAbs = c.natAbs * b.natAbs := by rw [← Int.natAbs_mul, ← Int.natAbs_mul, h]
  have d1 : b.natAbs ∣ d.natAbs := Nat.Coprime.dvd_of_dvd_mul_left (show Nat.Coprime b.natAbs a.natAbs from (Nat.gcd_comm _ _).trans g1) ⟨c.natAbs, by rw [e, Nat.mul_comm]⟩
  have d2 : d.natAbs ∣ b.natAbs := Nat.Coprime.dvd_of_dvd_mul_left (show Nat.Coprime d.natAbs c.natAbs from (Nat.gcd_comm _ _).trans g2) ⟨a.natAbs, by rw [← e, Nat.mul_comm]⟩
  have e2 : b.natAbs = d.natAbs := Nat.dvd_antisymm d1 d2
  have e3 : b = d := by omega
  subst e3
  exact ⟨Int.eq_of_mul_eq_mul_right (by omega) h, rfl⟩
theorem r17 (a b c d : Int) (ha : I64 a) (hb : I64 b) (hc : I64 c) (hd : I64 d) (hp : Heap) : CL X GV 102 [.agg [.int .i64 a, .int .i64 b], .agg [.int .i64 c, .int .i64 d]] hp = some (.int .i64 (cmpR a b c d), hp) := by
  rw [CL_eq (fn := x102) rfl]
  have a1 := r28 a b ha hb
  have a2 := r28 c d hc hd
  unfold cmpR both
  by_cases h1 : mayR a b = true
  · by_cases h2 : mayR c d = true
    · by_cases h3 : a = c ∧ b = d
      · obtain ⟨rfl, rfl⟩ := h3
        simp +contextual -implicitDefEqProofs (maxSteps := 10000000) only [x102, go_sem, ↓reduceIte, Nat.reduceEqDiff, Nat.reduceAdd, Int.reduceNeg, a1, h1, Int.lt_irrefl]
      · have p1 := may_pos h1
        have p2 := may_pos h2
        have nb : (b < 0) = False := eq_false (by omega)
        have nd : (d < 0) = False := eq_false (by omega)
        have h36a : ∀ hp, CL X GV 131 [.int .i64 a, .int .i64 d] hp = some (W (a.natAbs * d.natAbs) (decide (a < 0)), hp) := fun hp => by
          rw [r36 a d ha hd]; simp only [nd, decide_false, Bool.bne_false]
        have h36c : ∀ hp, CL X GV 131 [.int .i64 c, .int .i64 b] hp = some (W (c.natAbs * b.natAbs) (decide (c < 0)), hp) := fun hp => by
          rw [r36 c b hc hb]; simp only [nb, decide_false, Bool.bne_false]
        have m1 : a.natAbs * d.natAbs ≤ 9223372036854775808 * 9223372036854775807 := Nat.mul_le_mul (by unfold I64 at *; omega) (by unfold I64 at *; omega)
        have m2 : c.natAbs * b.natAbs ≤ 9223372036854775808 * 9223372036854775807 := Nat.mul_le_mul (by unfold I64 at *; omega) (by unfold I64 at *; omega)
        obtain ⟨tn, tf, h37, lt, hT⟩ := sum_w (a.natAbs * d.natAbs) (c.natAbs * b.natAbs) (decide (a < 0)) (!decide (c < 0)) (by omega) (by omega)
        have ne : a * d ≠ c * b := fun h => h3 (may_same h1 h2 h)
        have eT : sv tf tn = a * d - c * b := by
          rw [hT, mul_sgn a d p2, mul_sgn c b p1]
          by_cases q1 : a < 0 <;> by_cases q2 : c < 0 <;> simp [sv, q1, q2] <;> omega
        have h3' : ((a == c) && (b == d)) = false := by
          apply Bool.eq_false_iff.2
          intro h
          simp only [Bool.and_eq_true, beq_iff_eq] at h
          exact h3 h
        simp only [W] at h36a h36c h37
        cases tf
        · have l1 : ¬ a * d < c * b := by simp [sv] at eT; omega
          have l2 : c * b < a * d := by simp [sv] at eT; omega
          simp +contextual -implicitDefEqProofs (maxSteps := 10000000) only [x102, go_sem, ↓reduceIte, Nat.reduceEqDiff, Nat.reduceAdd, Int.reduceNeg, a1, a2, h1, h2, h3', h36a, h36c, h37, l1, l2]
        · have l1 : a * d < c * b := by simp [sv] at eT; omega
          simp +contextual -implicitDefEqProofs (maxSteps := 10000000) only [x102, go_sem, ↓reduceIte, Nat.reduceEqDiff, Nat.reduceAdd, Int.reduceNeg, a1, a2, h1, h2, h3', h36a, h36c, h37, l1]
    · simp +contextual -implicitDefEqProofs (maxSteps := 10000000) only [x102, go_sem, ↓reduceIte, Nat.reduceEqDiff, Nat.reduceAdd, Int.reduceNeg, a1, a2, h1, h2]
  · by_cases h2 : mayR c d = true
    · simp +contextual -implicitDefEqProofs (maxSteps := 10000000) only [x102, go_sem, ↓reduceIte, Nat.reduceEqDiff, Nat.reduceAdd, Int.reduceNeg, a1, h1, h2]
    · simp +contextual -implicitDefEqProofs (maxSteps := 10000000) only [x102, go_sem, ↓reduceIte, Nat.reduceEqDiff, Nat.reduceAdd, Int.reduceNeg, a1, h1, h2]
end Go.Proofs.YtafeikbbjhmlaaaGreatDoor.Sx.T
namespace Go.Proofs.YtafeikbbjhmlaaaGreatDoor.Sx.T
open Go Go.Proofs.YtafeikbbjhmlaaaGreatDoor.Sx
set_option maxRecDepth 100000
set_option maxHeartbeats 4000000
end Go.Proofs.YtafeikbbjhmlaaaGreatDoor.Sx.T
