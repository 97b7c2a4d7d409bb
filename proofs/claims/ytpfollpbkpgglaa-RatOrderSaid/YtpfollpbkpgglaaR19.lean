/- Layer 1, part 19: the plain laws of fractions. -/
import Derived.Test.YtpfollpbkpgglaaR18
set_option linter.unusedVariables false
set_option linter.unusedSimpArgs false
namespace Go.Proofs.Ytpfollpbkpgglaa.Sx.T
open Go Go.Proofs.Ytpfollpbkpgglaa.Sx
set_option maxRecDepth 100000
set_option maxHeartbeats 4000000
theorem frc_ok {T : Int} {D : Nat} (hD : 0 < D) {s t e : Int} (h : frc T D = (s, t, e)) : e = 0 ∨ (s = 0 ∧ t = 0 ∧ e = 10) := by
  unfold frc at h
  rw [mk_pack, pack_ok] at h
  split at h
  · injection h with h1 h2
    injection h2 with h2 h3
    exact .inl h3.symm
  · injection h with h1 h2
    injection h2 with h2 h3
    exact .inr ⟨h1.symm, h2.symm, h3.symm⟩
/-- A fraction that comes back may be, and is worth what it should be. -/
theorem frc_may {T : Int} {D : Nat} (hD : 0 < D) {s t : Int} (h : frc T D = (s, t, 0)) : mayR s t = true ∧ I64 s ∧ I64 t ∧ s * D = T * t := by
  unfold frc at h
  rw [mk_pack, pack_ok] at h
  have g0 : 0 < Nat.gcd T.natAbs D := Nat.gcd_pos_of_pos_right _ hD
  have d1 := Nat.gcd_dvd_left T.natAbs D
  have d2 := Nat.gcd_dvd_right T.natAbs D
  have e1 := Nat.div_mul_cancel d1
  have e2 := Nat.div_mul_cancel d2
  have cop : Nat.gcd (T.natAbs / Nat.gcd T.natAbs D) (D / Nat.gcd T.natAbs D) = 1 := Nat.coprime_div_gcd_div_gcd g0
  have q0 : 0 < D / Nat.gcd T.natAbs D := Nat.div_pos (Nat.le_of_dvd hD d2) g0
  generalize Nat.gcd T.natAbs D = g at *
  generalize T.natAbs / g = p at *
  generalize D / g = q at *
  split at h
  · rename_i hok
    injection h with h1 h2
    injection h2 with h2 h3
    subst h1 h2
    have ps : (sv (decide (T < 0)) p).natAbs = p := by unfold sv; split <;> omega
    refine ⟨?_, ?_, ?_, ?_⟩
    · unfold mayR
      rw [decide_eq_true_eq, ps, Int.natAbs_natCast]
      exact ⟨by omega, cop⟩
    · have := hok.1
      unfold okP at this
      simp at this
      unfold I64 sv
      by_cases hT : T < 0
      · simp only [hT, decide_true, if_true]
        omega
      · simp only [hT, decide_false, Bool.false_eq_true, if_false]
        omega
    · unfold I64
      omega
    · have eT : T = sv (decide (T < 0)) p * g := by
        unfold sv
        by_cases hT : T < 0
        · simp only [hT, decide_true, if_true]
          rw [Int.neg_mul, ← Int.natCast_mul, e1]
          omega
        · simp only [hT, decide_false, Bool.false_eq_true, if_false]
          rw [← Int.natCast_mul, e1]
          omega
      conv => rhs; rw [eT]
      conv => lhs; rw [← e2]
      rw [Int.natCast_mul]
      grind
  · injection h with h1 h2
    injection h2 with h2 h3
    cases h3
/-- What is worth a fraction that may be comes back as it. -/
theorem frc_uniq {a b X : Int} {Y : Nat} (hab : mayR a b = true) (ha : I64 a) (hb : I64 b) (hY : 0 < Y) (h : X * b = a * Y) : frc X Y = (a, b, 0) := by
  have b0 := may_pos hab
  have g1 := may_gcd hab
  have e : X.natAbs * b.natAbs = a.natAbs * Y := by
    have := congrArg Int.natAbs h
    rwa [Int.natAbs_mul, Int.natAbs_mul, Int.natAbs_natCast] at this
  have d1 : b.natAbs ∣ Y := Nat.Coprime.dvd_of_dvd_mul_left (show Nat.Coprime b.natAbs a.natAbs from (Nat.gcd_comm _ _).trans g1) ⟨X.natAbs, by rw [← e, Nat.mul_comm]⟩
  obtain ⟨k, hk⟩ := d1
  have k0 : 0 < k := by
    apply Nat.pos_of_ne_zero
    intro hk0
    subst hk0
    simp at hk
    omega
  have eb : ((b.natAbs : Nat) : Int) = b := by omega
  have hX : X = (k : Int) * a := by
    have h2 : X * b = (k * a) * b := by
      rw [h, hk, Int.natCast_mul, eb]
      grind
    exact Int.eq_of_mul_eq_mul_right (by omega) h2
  rw [hX, hk, Nat.mul_comm b.natAbs k, frc_pack a k b.natAbs 1 a.natAbs b.natAbs k0 g1 (Nat.div_one _) (Nat.div_one _), pack_sv a a.natAbs (decide (a < 0)) 1 a.natAbs b.natAbs (by unfold sv; by_cases h : a < 0 <;> simp [h] <;> omega) (Nat.div_one _)]
  unfold I64 at *
  rw [if_pos ⟨by unfold okP; by_cases h : a < 0 <;> simp [h] <;> omega, by omega⟩]
  rw [eb]
  congr 1
  unfold sv
  by_cases h : a < 0 <;> simp [h] <;> omega
theorem both_of {a b c d : Int} (h1 : mayR a b = true) (h2 : mayR c d = true) : both a b c d = true := by simp [both, h1, h2]
theorem add_may {a b c d : Int} (h1 : mayR a b = true) (h2 : mayR c d = true) : addR a b c d = frc (a * d + c * b) (b.natAbs * d.natAbs) := if_pos (both_of h1 h2)
theorem sub_may {a b c d : Int} (h1 : mayR a b = true) (h2 : mayR c d = true) : subR a b c d = frc (a * d + -(c * b)) (b.natAbs * d.natAbs) := if_pos (both_of h1 h2)
theorem mul_may {a b c d : Int} (h1 : mayR a b = true) (h2 : mayR c d = true) : mulR a b c d = frc (a * c) (b.natAbs * d.natAbs) := if_pos (both_of h1 h2)
theorem div_may {a b c d : Int} (h1 : mayR a b = true) (h2 : mayR c d = true) (h3 : c ≠ 0) : divR a b c d = frc (a * d * c.sign) (b.natAbs * c.natAbs) := by
  unfold divR
  rw [if_pos (both_of h1 h2), if_neg h3]
theorem dpos {b d : Int} (hb : 0 < b) (hd : 0 < d) : 0 < b.natAbs * d.natAbs := Nat.mul_pos (by omega) (by omega)
theorem dcast {b d : Int} (hb : 0 < b) (hd : 0 < d) : ((b.natAbs * d.natAbs : Nat) : Int) = b * d := by
  rw [Int.natCast_mul, show (b.natAbs : Int) = b by omega, show (d.natAbs : Int) = d by omega]
theorem add_comm_may {a b c d : Int} (h1 : mayR a b = true) (h2 : mayR c d = true) : addR c d a b = addR a b c d := by
  rw [add_may h1 h2, add_may h2 h1, Int.add_comm, Nat.mul_comm]
theorem mul_comm_may {a b c d : Int} (h1 : mayR a b = true) (h2 : mayR c d = true) : mulR c d a b = mulR a b c d := by
  rw [mul_may h1 h2, mul_may h2 h1, Int.mul_comm, Nat.mul_comm]
/-- What is added is taken away again. -/
theorem add_back {a b c d s t : Int} (h1 : mayR a b = true) (h2 : mayR c d = true) (ha : I64 a) (hb : I64 b) (h : addR a b c d = (s, t, 0)) : mayR s t = true ∧ I64 s ∧ I64 t ∧ subR s t c d = (a, b, 0) := by
  have pb := may_pos h1
  have pd := may_pos h2
  rw [add_may h1 h2] at h
  obtain ⟨m, i1, i2, e⟩ := frc_may (dpos pb pd) h
  refine ⟨m, i1, i2, ?_⟩
  rw [sub_may m h2]
  refine frc_uniq h1 ha hb (dpos (may_pos m) pd) ?_
  rw [dcast pb pd] at e
  rw [dcast (may_pos m) pd]
  grind
/-- What is multiplied is divided again. -/
theorem mul_back {a b c d s t : Int} (h1 : mayR a b = true) (h2 : mayR c d = true) (ha : I64 a) (hb : I64 b) (h : mulR a b c d = (s, t, 0)) :
    mayR s t = true ∧ I64 s ∧ I64 t ∧ (c ≠ 0 → divR s t c d = (a, b, 0)) := by
  have pb := may_pos h1
  have pd := may_pos h2
  rw [mul_may h1 h2] at h
  obtain ⟨m, i1, i2, e⟩ := frc_may (dpos pb pd) h
  refine ⟨m, i1, i2, fun hc => ?_⟩
  rw [div_may m h2 hc]
  refine frc_uniq h1 ha hb (Nat.mul_pos (by have := may_pos m; omega) (by omega)) ?_
  rw [dcast pb pd] at e
  have pt := may_pos m
  rw [Int.natCast_mul, show (t.natAbs : Int) = t by omega, ← Int.mul_sign_self c]
  grind
end Go.Proofs.Ytpfollpbkpgglaa.Sx.T
