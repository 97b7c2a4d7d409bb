/- Layer 1, part 1: what the functions of whole numbers answer. -/
import Derived.Test.YtjbgceogkgpjpaaGreatDoorEvB
import Derived.Test.YtjbgceogkgpjpaaGreatDoorEvR
import Derived.Test.YtjbgceogkgpjpaaGreatDoorEvP
import Derived.Test.YtjbgceogkgpjpaaGreatDoorEvS
import Derived.Test.YtjbgceogkgpjpaaGreatDoorEvL
import Derived.Test.YtjbgceogkgpjpaaGreatDoorGV
import Derived.Test.YtjbgceogkgpjpaaGreatDoorEvQ
import Derived.Test.YtjbgceogkgpjpaaGreatDoorSxRun
set_option linter.unusedVariables false
set_option linter.unusedSimpArgs false
namespace Go.Proofs.YtjbgceogkgpjpaaGreatDoor.Sx.T
open Go Go.Proofs.YtjbgceogkgpjpaaGreatDoor.Sx
set_option maxRecDepth 100000
set_option maxHeartbeats 4000000
theorem r27 (n : Int) (h : -9223372036854775808 ≤ n ∧ n < 9223372036854775808) (hp : Heap) : CL X GV 97 [.int .i64 n] hp = some (.int .u64 (n.natAbs : Int), hp) := by
  rw [CL_eq (fn := x97) rfl]
  simp +contextual -implicitDefEqProofs (maxSteps := 10000000) only [x97, go_sem, ↓reduceIte, reduceCtorEq]
  split <;> simp only [Option.some.injEq, Prod.mk.injEq, AV.int.injEq, true_and, and_true] <;> simp only [u64] <;> omega
theorem l26 (a : Nat) : ∀ (b : Nat) (fr : List AV) (hp : Heap), fget fr 0 = .int .u64 a → fget fr 1 = .int .u64 b →
    ∃ fr', LC X GV (.loop x96_l0) ⟨fr, hp⟩ = some (.exit 0, ⟨fr', hp⟩) ∧ fget fr' 0 = .int .u64 (Nat.gcd a b : Nat) := by
  intro b
  induction b using Nat.strongRecOn generalizing a with
  | ind b ih =>
    intro fr hp h0 h1
    rw [LC_loop]
    by_cases hb : b = 0
    · subst hb
      simp +contextual -implicitDefEqProofs (maxSteps := 10000000) only [x96_l0_run, go_sem, ↓reduceIte, h1]
      exact ⟨_, rfl, by simp only [go_sem, ↓reduceIte, reduceCtorEq, h0]; simp⟩
    · simp +contextual -implicitDefEqProofs (maxSteps := 10000000) only [x96_l0_run, go_sem, ↓reduceIte, reduceCtorEq, Nat.reduceEqDiff, h0, h1, hb]
      rw [show Nat.gcd a b = Nat.gcd b (a % b) by rw [Nat.gcd_comm b, ← Nat.gcd_rec, Nat.gcd_comm]]
      refine ih (a % b) (Nat.mod_lt _ (Nat.pos_of_ne_zero hb)) b _ hp ?_ ?_ <;> simp only [go_sem, ↓reduceIte, reduceCtorEq]
theorem r26 (a b : Nat) (hp : Heap) : CL X GV 96 [.int .u64 a, .int .u64 b] hp = some (.int .u64 (Nat.gcd a b : Nat), hp) := by
  rw [CL_eq (fn := x96) rfl]
  simp +contextual -implicitDefEqProofs (maxSteps := 10000000) only [x96, go_sem, ↓reduceIte]
  obtain ⟨fr', h, h0⟩ := l26 a b (fput [.int .u64 a, .int .u64 b] 4 (.int .u64 0)) ([] :: hp) (by simp only [go_sem, ↓reduceIte, reduceCtorEq]) (by simp only [go_sem, ↓reduceIte, Nat.reduceEqDiff])
  simp +contextual -implicitDefEqProofs (maxSteps := 10000000) only [h, h0, go_sem, ↓reduceIte]
end Go.Proofs.YtjbgceogkgpjpaaGreatDoor.Sx.T
namespace Go.Proofs.YtjbgceogkgpjpaaGreatDoor.Sx.T
open Go Go.Proofs.YtjbgceogkgpjpaaGreatDoor.Sx
set_option maxRecDepth 100000
set_option maxHeartbeats 4000000
end Go.Proofs.YtjbgceogkgpjpaaGreatDoor.Sx.T
namespace Go.Proofs.YtjbgceogkgpjpaaGreatDoor.Sx.T
open Go Go.Proofs.YtjbgceogkgpjpaaGreatDoor.Sx
set_option maxRecDepth 100000
set_option maxHeartbeats 4000000
end Go.Proofs.YtjbgceogkgpjpaaGreatDoor.Sx.T
namespace Go.Proofs.YtjbgceogkgpjpaaGreatDoor.Sx.T
open Go Go.Proofs.YtjbgceogkgpjpaaGreatDoor.Sx
set_option maxRecDepth 100000
set_option maxHeartbeats 4000000
end Go.Proofs.YtjbgceogkgpjpaaGreatDoor.Sx.T
namespace Go.Proofs.YtjbgceogkgpjpaaGreatDoor.Sx.T
open Go Go.Proofs.YtjbgceogkgpjpaaGreatDoor.Sx
set_option maxRecDepth 100000
set_option maxHeartbeats 4000000
end Go.Proofs.YtjbgceogkgpjpaaGreatDoor.Sx.T
namespace Go.Proofs.YtjbgceogkgpjpaaGreatDoor.Sx.T
open Go Go.Proofs.YtjbgceogkgpjpaaGreatDoor.Sx
set_option maxRecDepth 100000
set_option maxHeartbeats 4000000
def rt (x : Int × Int × Int) : AV := .tup [.agg [.int .i64 x.1, .int .i64 x.2.1], .int .i64 x.2.2]
def mk (below : Bool) (n d : Nat) : Int × Int × Int :=
  let p := n / Nat.gcd n d
  let q := d / Nat.gcd n d
  if 9223372036854775808 ≤ q ∨ 9223372036854775808 < p ∨ p = 9223372036854775808 ∧ below = false then (0, 0, 10)
  else if below then (-p, q, 0) else (p, q, 0)
end Go.Proofs.YtjbgceogkgpjpaaGreatDoor.Sx.T
namespace Go.Proofs.YtjbgceogkgpjpaaGreatDoor.Sx.T
open Go Go.Proofs.YtjbgceogkgpjpaaGreatDoor.Sx
set_option maxRecDepth 100000
set_option maxHeartbeats 4000000
def I64 (n : Int) : Prop := -9223372036854775808 ≤ n ∧ n < 9223372036854775808
def frc (t : Int) (d : Nat) : Int × Int × Int := mk (decide (t < 0)) t.natAbs d
def ofR (n d : Int) : Int × Int × Int := if d = 0 then (0, 0, 11) else frc (n * d.sign) d.natAbs
def mayR (n d : Int) : Bool := decide (0 < d ∧ Nat.gcd n.natAbs d.natAbs = 1)
theorem rt_eq (x : Int × Int × Int) : rt x = .tup [.agg [.int .i64 x.1, .int .i64 x.2.1], .int .i64 x.2.2] := rfl
theorem ofR_mk (n d : Int) (h0 : ¬ d = 0) : mk (if ¬n = 0 then !decide (n < 0) == decide (d < 0) else false) n.natAbs d.natAbs = ofR n d := by
  unfold ofR frc
  rw [if_neg h0, Int.natAbs_mul, Int.natAbs_sign_of_ne_zero h0, Nat.mul_one]
  congr 1
  rcases Int.lt_trichotomy d 0 with h | h | h
  · rw [Int.sign_eq_neg_one_of_neg h]
    by_cases h1 : n = 0
    · subst h1; rfl
    · by_cases h2 : n < 0 <;> simp [h1, h2, h] <;> omega
  · omega
  · rw [Int.sign_eq_one_of_pos h]
    by_cases h1 : n = 0
    · subst h1; rfl
    · by_cases h2 : n < 0 <;> simp [h1, h2, show ¬ d < 0 by omega]
theorem may_eq (n d : Int) (hn : I64 n) (hd : I64 d) (h : 0 < d) : (decide ((ofR n d).2.2 = 0) && ((ofR n d).1 == n && (ofR n d).2.1 == d)) = mayR n d := by
  unfold ofR mayR frc mk
  unfold I64 at *
  rw [if_neg (by omega), Int.sign_eq_one_of_pos h, Int.mul_one]
  have hg : 0 < Nat.gcd n.natAbs d.natAbs := Nat.gcd_pos_of_pos_right _ (by omega)
  by_cases h1 : Nat.gcd n.natAbs d.natAbs = 1
  · simp only [h1, Nat.div_one, and_true]
    rw [if_neg (by simp only [decide_eq_false_iff_not]; omega)]
    by_cases h2 : n < 0
    · simp [h2, h]
      omega
    · simp [h2, h]
      omega
  · have h3 : d.natAbs / Nat.gcd n.natAbs d.natAbs < d.natAbs := Nat.div_lt_self (by omega) (by omega)
    generalize d.natAbs / Nat.gcd n.natAbs d.natAbs = q at *
    generalize n.natAbs / Nat.gcd n.natAbs d.natAbs = p at *
    simp only [h1, and_false, decide_false]
    split
    · rfl
    · have : ((q : Int) == d) = false := by simp; omega
      split <;> simp [this]
end Go.Proofs.YtjbgceogkgpjpaaGreatDoor.Sx.T
namespace Go.Proofs.YtjbgceogkgpjpaaGreatDoor.Sx.T
open Go Go.Proofs.YtjbgceogkgpjpaaGreatDoor.Sx
set_option maxRecDepth 100000
set_option maxHeartbeats 4000000
theorem may_pos {a b : Int} (h : mayR a b = true) : 0 < b := by
  simp only [mayR, decide_eq_true_eq] at h
  exact h.1
end Go.Proofs.YtjbgceogkgpjpaaGreatDoor.Sx.T
namespace Go.Proofs.YtjbgceogkgpjpaaGreatDoor.Sx.T
open Go Go.Proofs.YtjbgceogkgpjpaaGreatDoor.Sx
set_option maxRecDepth 100000
set_option maxHeartbeats 4000000
theorem r10 (n d : Int) (hn : I64 n) (hd : I64 d) (hp : Heap) : CL X GV 69 [.int .i64 n, .int .i64 d] hp = some (rt (ofR n d), hp) := by
  rw [CL_eq (fn := x69) rfl]
  have a1 := r27 n hn
  have a2 := r27 d hd
  by_cases h0 : d = 0
  · subst h0
    simp +contextual -implicitDefEqProofs (maxSteps := 10000000) only [x69, go_sem, ↓reduceIte, Nat.reduceEqDiff, Nat.reduceAdd]
    rfl
  · have hg : Nat.gcd n.natAbs d.natAbs ≠ 0 := Nat.ne_of_gt (Nat.gcd_pos_of_pos_right _ (by omega))
    rw [← ofR_mk n d h0]
    obtain ⟨P, hP⟩ : ∃ P, n.natAbs / Nat.gcd n.natAbs d.natAbs = P := ⟨_, rfl⟩
    obtain ⟨Q, hQ⟩ : ∃ Q, d.natAbs / Nat.gcd n.natAbs d.natAbs = Q := ⟨_, rfl⟩
    have lP : P ≤ 9223372036854775808 := by rw [← hP]; exact Nat.le_trans (Nat.div_le_self _ _) (by unfold I64 at hn; omega)
    have lQ : Q ≤ 9223372036854775808 := by rw [← hQ]; exact Nat.le_trans (Nat.div_le_self _ _) (by unfold I64 at hd; omega)
    have mP : P % 18446744073709551616 = P := by omega
    have mQ : Q % 18446744073709551616 = Q := by omega
    unfold mk
    generalize hb : (if ¬n = 0 then !decide (n < 0) == decide (d < 0) else false) = b
    rw [bite_f] at hb
    simp only [decide_not] at hb
    have t0 : ((9223372036854775808 : Int) < (P : Int)) = False := by simp; omega
    have t0' : ¬ 9223372036854775808 < P := by omega
    by_cases h1 : 9223372036854775808 ≤ Q
    · have t1 : ((9223372036854775807 : Int) < (Q : Int)) = True := by simp; omega
      simp +contextual -implicitDefEqProofs (maxSteps := 10000000) only [x69, go_sem, ↓reduceIte, reduceCtorEq, Nat.reduceEqDiff, Nat.reduceAdd, Int.reduceBNe, a1, a2, r26, h0, hg, hP, hQ, mP, mQ, t1, h1, true_or, hb]
      rfl
    · have t1 : ((9223372036854775807 : Int) < (Q : Int)) = False := by simp; omega
      have e2 : wr .i64 (Q : Int) = (Q : Int) := wr_i64 _ (by omega)
      have e3 := neg_back P (by omega)
      by_cases h2 : P = 9223372036854775808
      · have t2 : ((P : Int) = (9223372036854775808 : Int)) = True := by simp; omega
        have t2' : (P = 9223372036854775808) = True := by simp [h2]
        simp +contextual -implicitDefEqProofs (maxSteps := 10000000) only [x69, go_sem, ↓reduceIte, reduceCtorEq, Nat.reduceEqDiff, Nat.reduceAdd, Nat.reduceLeDiff, Int.reduceBNe, a1, a2, r26, h0, hg, hP, hQ, mP, mQ, t0, t0', t1, t2, t2', h1, false_or, hb, e2, e3]
        cases b <;> simp_all [rt]
      · have t2 : ((P : Int) = (9223372036854775808 : Int)) = False := by simp; omega
        have e4 : wr .i64 (P : Int) = (P : Int) := wr_i64 _ (by omega)
        simp +contextual -implicitDefEqProofs (maxSteps := 10000000) only [x69, go_sem, ↓reduceIte, reduceCtorEq, Nat.reduceEqDiff, Nat.reduceAdd, Nat.reduceLeDiff, Int.reduceBNe, a1, a2, r26, h0, hg, hP, hQ, mP, mQ, t0, t0', t1, t2, h1, h2, false_or, false_and, hb, e2, e3, e4]
        cases b <;> simp_all [rt]
end Go.Proofs.YtjbgceogkgpjpaaGreatDoor.Sx.T
namespace Go.Proofs.YtjbgceogkgpjpaaGreatDoor.Sx.T
open Go Go.Proofs.YtjbgceogkgpjpaaGreatDoor.Sx
set_option maxRecDepth 100000
set_option maxHeartbeats 4000000
def wd (a b : Nat) (m : Bool) : AV := .agg [.int .u64 a, .int .u64 b, .bool m]
theorem nn (x : Nat) : (0 ≤ (x : Int)) = True := by simp
def W (n : Nat) (m : Bool) : AV := .agg [.int .u64 (n / 18446744073709551616 : Nat), .int .u64 (n % 18446744073709551616 : Nat), .bool m]
end Go.Proofs.YtjbgceogkgpjpaaGreatDoor.Sx.T
namespace Go.Proofs.YtjbgceogkgpjpaaGreatDoor.Sx.T
open Go Go.Proofs.YtjbgceogkgpjpaaGreatDoor.Sx
set_option maxRecDepth 100000
set_option maxHeartbeats 4000000
end Go.Proofs.YtjbgceogkgpjpaaGreatDoor.Sx.T
namespace Go.Proofs.YtjbgceogkgpjpaaGreatDoor.Sx.T
open Go Go.Proofs.YtjbgceogkgpjpaaGreatDoor.Sx
set_option maxRecDepth 100000
set_option maxHeartbeats 4000000
end Go.Proofs.YtjbgceogkgpjpaaGreatDoor.Sx.T
namespace Go.Proofs.YtjbgceogkgpjpaaGreatDoor.Sx.T
open Go Go.Proofs.YtjbgceogkgpjpaaGreatDoor.Sx
set_option maxRecDepth 100000
set_option maxHeartbeats 4000000
end Go.Proofs.YtjbgceogkgpjpaaGreatDoor.Sx.T
namespace Go.Proofs.YtjbgceogkgpjpaaGreatDoor.Sx.T
open Go Go.Proofs.YtjbgceogkgpjpaaGreatDoor.Sx
set_option maxRecDepth 100000
set_option maxHeartbeats 4000000
def sv (m : Bool) (n : Nat) : Int := if m = true then -(n : Int) else n
end Go.Proofs.YtjbgceogkgpjpaaGreatDoor.Sx.T
namespace Go.Proofs.YtjbgceogkgpjpaaGreatDoor.Sx.T
open Go Go.Proofs.YtjbgceogkgpjpaaGreatDoor.Sx
set_option maxRecDepth 100000
set_option maxHeartbeats 4000000
end Go.Proofs.YtjbgceogkgpjpaaGreatDoor.Sx.T
namespace Go.Proofs.YtjbgceogkgpjpaaGreatDoor.Sx.T
open Go Go.Proofs.YtjbgceogkgpjpaaGreatDoor.Sx
set_option maxRecDepth 100000
set_option maxHeartbeats 4000000
end Go.Proofs.YtjbgceogkgpjpaaGreatDoor.Sx.T
namespace Go.Proofs.YtjbgceogkgpjpaaGreatDoor.Sx.T
open Go Go.Proofs.YtjbgceogkgpjpaaGreatDoor.Sx
set_option maxRecDepth 100000
set_option maxHeartbeats 4000000
end Go.Proofs.YtjbgceogkgpjpaaGreatDoor.Sx.T
namespace Go.Proofs.YtjbgceogkgpjpaaGreatDoor.Sx.T
open Go Go.Proofs.YtjbgceogkgpjpaaGreatDoor.Sx
set_option maxRecDepth 100000
set_option maxHeartbeats 4000000
end Go.Proofs.YtjbgceogkgpjpaaGreatDoor.Sx.T
