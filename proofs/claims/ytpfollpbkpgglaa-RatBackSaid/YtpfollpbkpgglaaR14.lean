/- Layer 1, part 14: the program's sums. -/
import Derived.Test.YtpfollpbkpgglaaR13
set_option linter.unusedVariables false
set_option linter.unusedSimpArgs false
namespace Go.Proofs.Ytpfollpbkpgglaa.Sx.T
open Go Go.Proofs.Ytpfollpbkpgglaa.Sx
set_option maxRecDepth 100000
set_option maxHeartbeats 4000000
def sv (m : Bool) (n : Nat) : Int := if m = true then -(n : Int) else n
def okP (m : Bool) (p : Nat) : Bool := decide (p < 9223372036854775808) || (m && decide (p = 9223372036854775808))
/-- The least form's answer, of a numerator and a denominator that have nothing in common. -/
def pack (below : Bool) (p q : Nat) : Int × Int × Int :=
  if 9223372036854775808 ≤ q ∨ 9223372036854775808 < p ∨ p = 9223372036854775808 ∧ below = false then (0, 0, 10)
  else if below then (-p, q, 0) else (p, q, 0)
theorem mk_pack (b : Bool) (n d : Nat) : mk b n d = pack b (n / Nat.gcd n d) (d / Nat.gcd n d) := rfl
theorem pack_ok (b : Bool) (p q : Nat) : pack b p q = if okP b p = true ∧ q < 9223372036854775808 then (sv b p, (q : Int), 0) else (0, 0, 10) := by
  unfold pack okP sv
  by_cases h1 : 9223372036854775808 ≤ q
  · cases b <;> simp [h1, show ¬ q < 9223372036854775808 by omega]
  · rcases Nat.lt_trichotomy p 9223372036854775808 with h2 | h2 | h2
    · cases b <;> simp [h1, h2, show q < 9223372036854775808 by omega, show ¬ 9223372036854775808 < p by omega, show ¬ p = 9223372036854775808 by omega]
    · cases b <;> simp [h1, h2, show q < 9223372036854775808 by omega]
    · cases b <;> simp [h2, show ¬ p < 9223372036854775808 by omega, show ¬ p = 9223372036854775808 by omega]
theorem r41 (A d : Nat) (m : Bool) (hA : A < 340282366920938463463374607431768211456) (hd : d < 18446744073709551616) (h0 : 0 < d) (hp : Heap) :
    CL X G0 41 [W A m, .int .u64 d] hp = some (.tup [.int .i64 (if okP m (A / d) = true then sv m (A / d) else 0), .bool (okP m (A / d))], hp) := by
  rw [CL_eq (fn := x41) rfl]
  unfold W
  have dm := Nat.div_add_mod A 18446744073709551616
  have lt := Nat.mod_lt A (show 0 < 18446744073709551616 by omega)
  by_cases h1 : d ≤ A / 18446744073709551616
  · have f1 : ((d : Int) ≤ ((A / 18446744073709551616 : Nat) : Int)) = True := eq_true (by omega)
    have big : 18446744073709551616 ≤ A / d := (Nat.le_div_iff_mul_le h0).2 (by omega)
    have hok : okP m (A / d) = false := by
      unfold okP
      rw [decide_eq_false (by omega), decide_eq_false (by omega)]
      cases m <;> rfl
    rw [hok]
    simp (config := {contextual := true, maxSteps := 10000000, implicitDefEqProofs := false}) only [x41, go_sem, ↓reduceIte, reduceCtorEq, Nat.reduceEqDiff, Nat.reduceAdd, Nat.reduceLeDiff, Nat.reduceMul, Int.reduceEq, Int.reduceLT, Int.reduceLE, Int.reduceAdd, Int.reduceSub, Int.reduceMul, Int.reduceNeg, Int.reduceToNat, Int.reduceNe, Int.reduceBEq, Int.reduceBNe, Nat.reduceLT, Nat.reduceSub, Nat.reduceDiv, Nat.reduceMod, Int.reduceTDiv, Int.reduceTMod, f1]
  · have f1 : ((d : Int) ≤ ((A / 18446744073709551616 : Nat) : Int)) = False := eq_false (by omega)
    have a40 := r40 (A / 18446744073709551616) (A % 18446744073709551616) d (by omega) hd lt
    rw [Nat.mul_comm, dm] at a40
    obtain ⟨P, hP⟩ : ∃ P, A / d = P := ⟨_, rfl⟩
    have lP : P < 18446744073709551616 := by rw [← hP, Nat.div_lt_iff_lt_mul h0]; omega
    rw [hP] at a40 ⊢
    have b2 := neg_back P
    cases m
    · by_cases h2 : P < 9223372036854775808
      · have f3 : ((9223372036854775807 : Int) < (P : Int)) = False := eq_false (by omega)
        have f4 : ((P : Int) ≤ (9223372036854775807 : Int)) = True := eq_true (by omega)
        have e4 : wr .i64 (P : Int) = (P : Int) := wr_i64 _ (by omega)
        have ok : okP false P = true := by simp [okP, h2]
        simp (config := {contextual := true, maxSteps := 10000000, implicitDefEqProofs := false}) only [x41, go_sem, ↓reduceIte, reduceCtorEq, Nat.reduceEqDiff, Nat.reduceAdd, Nat.reduceLeDiff, Nat.reduceMul, Int.reduceEq, Int.reduceLT, Int.reduceLE, Int.reduceAdd, Int.reduceSub, Int.reduceMul, Int.reduceNeg, Int.reduceToNat, Int.reduceNe, Int.reduceBEq, Int.reduceBNe, Nat.reduceLT, Nat.reduceSub, Nat.reduceDiv, Nat.reduceMod, Int.reduceTDiv, Int.reduceTMod, f1, a40, f3, f4, e4, ok, sv]
      · have f3 : ((9223372036854775807 : Int) < (P : Int)) = True := eq_true (by omega)
        have f4 : ((P : Int) ≤ (9223372036854775807 : Int)) = False := eq_false (by omega)
        have ok : okP false P = false := by simp [okP]; omega
        simp (config := {contextual := true, maxSteps := 10000000, implicitDefEqProofs := false}) only [x41, go_sem, ↓reduceIte, reduceCtorEq, Nat.reduceEqDiff, Nat.reduceAdd, Nat.reduceLeDiff, Nat.reduceMul, Int.reduceEq, Int.reduceLT, Int.reduceLE, Int.reduceAdd, Int.reduceSub, Int.reduceMul, Int.reduceNeg, Int.reduceToNat, Int.reduceNe, Int.reduceBEq, Int.reduceBNe, Nat.reduceLT, Nat.reduceSub, Nat.reduceDiv, Nat.reduceMod, Int.reduceTDiv, Int.reduceTMod, f1, a40, f3, f4, ok, sv]
    · by_cases h2 : P ≤ 9223372036854775808
      · have f5 : ((P : Int) ≤ (9223372036854775808 : Int)) = True := eq_true (by omega)
        have ok : okP true P = true := by simp [okP]; omega
        simp (config := {contextual := true, maxSteps := 10000000, implicitDefEqProofs := false}) only [x41, go_sem, ↓reduceIte, reduceCtorEq, Nat.reduceEqDiff, Nat.reduceAdd, Nat.reduceLeDiff, Nat.reduceMul, Int.reduceEq, Int.reduceLT, Int.reduceLE, Int.reduceAdd, Int.reduceSub, Int.reduceMul, Int.reduceNeg, Int.reduceToNat, Int.reduceNe, Int.reduceBEq, Int.reduceBNe, Nat.reduceLT, Nat.reduceSub, Nat.reduceDiv, Nat.reduceMod, Int.reduceTDiv, Int.reduceTMod, f1, a40, f5, b2 h2, ok, sv]
      · have f5 : ((P : Int) ≤ (9223372036854775808 : Int)) = False := eq_false (by omega)
        have f4 : ((P : Int) ≤ (9223372036854775807 : Int)) = False := eq_false (by omega)
        have ok : okP true P = false := by simp [okP]; omega
        simp (config := {contextual := true, maxSteps := 10000000, implicitDefEqProofs := false}) only [x41, go_sem, ↓reduceIte, reduceCtorEq, Nat.reduceEqDiff, Nat.reduceAdd, Nat.reduceLeDiff, Nat.reduceMul, Int.reduceEq, Int.reduceLT, Int.reduceLE, Int.reduceAdd, Int.reduceSub, Int.reduceMul, Int.reduceNeg, Int.reduceToNat, Int.reduceNe, Int.reduceBEq, Int.reduceBNe, Nat.reduceLT, Nat.reduceSub, Nat.reduceDiv, Nat.reduceMod, Int.reduceTDiv, Int.reduceTMod, f1, a40, f4, f5, ok, sv]
theorem sum_w (A C : Nat) (m k : Bool) (hA : A < 170141183460469231731687303715884105728) (hC : C < 170141183460469231731687303715884105728) :
    ∃ tn tf, (∀ hp, CL X G0 37 [W A m, W C k] hp = some (W tn tf, hp)) ∧ tn ≤ A + C ∧ sv tf tn = sv m A + sv k C := by
  by_cases h : m = k
  · refine ⟨A + C, m, fun hp => by rw [r37 A C m k hA hC, if_pos h], by omega, ?_⟩
    subst h
    cases m <;> simp [sv] <;> omega
  · by_cases h2 : A < C
    · refine ⟨C - A, k, fun hp => by rw [r37 A C m k hA hC, if_neg h, if_pos h2], by omega, ?_⟩
      cases m <;> cases k <;> simp [sv] at h ⊢ <;> omega
    · refine ⟨A - C, m, fun hp => by rw [r37 A C m k hA hC, if_neg h, if_neg h2], by omega, ?_⟩
      cases m <;> cases k <;> simp [sv] at h ⊢ <;> omega
theorem sv_dvd (e n : Nat) (m : Bool) : (e : Int) ∣ sv m n ↔ e ∣ n := by
  cases m <;> simp [sv, Int.dvd_neg, Int.natCast_dvd_natCast]
theorem cop_sum (x : Nat) (T : Int) (n1 n2 : Nat) (f : Bool × Bool) (hT : T = sv f.1 n1 + sv f.2 n2) (h2 : x ∣ n2) (h1 : ∀ e, e ∣ x → e ∣ n1 → e = 1) : Nat.Coprime x T.natAbs := by
  have d1 := Nat.gcd_dvd_left x T.natAbs
  have d2 := Nat.gcd_dvd_right x T.natAbs
  refine h1 _ d1 ?_
  have d3 : ((Nat.gcd x T.natAbs : Nat) : Int) ∣ T := Int.ofNat_dvd_left.2 d2
  have d4 : ((Nat.gcd x T.natAbs : Nat) : Int) ∣ sv f.2 n2 := (sv_dvd _ _ _).2 (Nat.dvd_trans d1 h2)
  have e : sv f.1 n1 = T - sv f.2 n2 := by rw [hT]; omega
  rw [← sv_dvd _ _ f.1, e]
  exact Int.dvd_sub d3 d4
/-- The plain law of sums: what is common to a sum's numerator and denominator. -/
theorem gcd_sum (a b c d g : Nat) (T : Int) (hg : g = Nat.gcd b d) (hb : 0 < b) (hd : 0 < d) (hab : Nat.gcd a b = 1) (hcd : Nat.gcd c d = 1) (m k : Bool)
    (hT : T = sv m (a * (d / g)) + sv k (c * (b / g))) : Nat.gcd T.natAbs (b / g * d) = Nat.gcd T.natAbs g := by
  have gp : 0 < Nat.gcd b d := Nat.gcd_pos_of_pos_left d hb
  have cop : Nat.Coprime (b / g) (d / g) := by rw [hg]; exact Nat.coprime_div_gcd_div_gcd gp
  have gb : g ∣ b := by rw [hg]; exact Nat.gcd_dvd_left b d
  have gd : g ∣ d := by rw [hg]; exact Nat.gcd_dvd_right b d
  have ab : Nat.Coprime (b / g) a := (Nat.Coprime.coprime_dvd_right (Nat.div_dvd_of_dvd gb) (show Nat.Coprime a b from hab)).symm
  have cd : Nat.Coprime (d / g) c := (Nat.Coprime.coprime_dvd_right (Nat.div_dvd_of_dvd gd) (show Nat.Coprime c d from hcd)).symm
  have k1 : Nat.Coprime (b / g) T.natAbs := cop_sum _ _ _ _ (m, k) hT (Nat.dvd_mul_left _ _) (fun e he => by
    have e1 : Nat.Coprime e a := Nat.Coprime.coprime_dvd_left he ab
    have e2 : Nat.Coprime e (d / g) := Nat.Coprime.coprime_dvd_left he cop
    exact fun h => Nat.Coprime.eq_one_of_dvd e2 (Nat.Coprime.dvd_of_dvd_mul_left e1 h))
  have k2 : Nat.Coprime (d / g) T.natAbs := cop_sum _ _ _ _ (k, m) (by rw [hT, Int.add_comm]) (Nat.dvd_mul_left _ _) (fun e he => by
    have e1 : Nat.Coprime e c := Nat.Coprime.coprime_dvd_left he cd
    have e2 : Nat.Coprime e (b / g) := Nat.Coprime.coprime_dvd_left he cop.symm
    exact fun h => Nat.Coprime.eq_one_of_dvd e2 (Nat.Coprime.dvd_of_dvd_mul_left e1 h))
  rw [Nat.Coprime.gcd_mul_left_cancel_right _ k1]
  conv => lhs; rw [← Nat.div_mul_cancel gd]
  rw [Nat.Coprime.gcd_mul_left_cancel_right _ k2]
end Go.Proofs.Ytpfollpbkpgglaa.Sx.T
