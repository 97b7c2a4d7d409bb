/- Layer 1, part 15: the program's sums, their answers. -/
import Derived.Test.YtpfollpbkpgglaaR14
set_option linter.unusedVariables false
set_option linter.unusedSimpArgs false
namespace Go.Proofs.Ytpfollpbkpgglaa.Sx.T
open Go Go.Proofs.Ytpfollpbkpgglaa.Sx
set_option maxRecDepth 100000
set_option maxHeartbeats 4000000
theorem frc_pack (T : Int) (g D h p q : Nat) (hg : 0 < g) (h1 : Nat.gcd T.natAbs D = h) (hp : T.natAbs / h = p) (hq : D / h = q) : frc ((g : Int) * T) (g * D) = pack (decide (T < 0)) p q := by
  unfold frc
  rw [mk_pack, Int.natAbs_mul, Int.natAbs_natCast, Nat.gcd_mul_left, h1, Nat.mul_div_mul_left _ _ hg, Nat.mul_div_mul_left _ _ hg, hp, hq]
  congr 1
  rw [Bool.eq_iff_iff, decide_eq_true_eq, decide_eq_true_eq]
  constructor
  · intro h
    refine Int.lt_of_not_ge (fun hge => ?_)
    have := Int.mul_nonneg (Int.natCast_nonneg g) hge
    omega
  · intro h
    exact Int.mul_neg_of_pos_of_neg (by omega) h
theorem pack_sv (T : Int) (tn : Nat) (tf : Bool) (h p q : Nat) (hT : sv tf tn = T) (hp : tn / h = p) :
    pack (decide (T < 0)) p q = if okP tf p = true ∧ q < 9223372036854775808 then (sv tf p, (q : Int), 0) else (0, 0, 10) := by
  rw [pack_ok]
  by_cases h0 : tn = 0
  · subst h0
    rw [Nat.zero_div] at hp
    subst hp
    cases tf <;> simp [okP, sv]
  · have : decide (T < 0) = tf := by
      rw [← hT]
      cases tf <;> simp [sv] <;> omega
    rw [this]
theorem r29 (a c : Int) (b d : Nat) (sg : Int) (m : Bool) (hm : m = decide (sg < 0)) (ha : I64 a) (hb : b < 9223372036854775808) (hc : I64 c) (hd : d < 9223372036854775808) (hb0 : 0 < b) (hd0 : 0 < d)
    (hab : Nat.gcd a.natAbs b = 1) (hcd : Nat.gcd c.natAbs d = 1) (hp : Heap) :
    CL X G0 29 [.agg [.int .i64 a, .int .i64 b], .agg [.int .i64 c, .int .i64 d], .int .i64 sg] hp = some (rt (frc (a * d + (if m then - (c * b) else c * b)) (b * d)), hp) := by
  rw [CL_eq (fn := x29) rfl]
  obtain ⟨g, hg⟩ : ∃ g, Nat.gcd b d = g := ⟨_, rfl⟩
  have hg0 : 0 < g := by rw [← hg]; exact Nat.gcd_pos_of_pos_left d hb0
  have hgb : g ≤ b := by rw [← hg]; exact Nat.gcd_le_left d hb0
  have hgd : g ≤ d := by rw [← hg]; exact Nat.gcd_le_right b hd0
  have gb : g ∣ b := by rw [← hg]; exact Nat.gcd_dvd_left b d
  have gd : g ∣ d := by rw [← hg]; exact Nat.gcd_dvd_right b d
  have mb : b % 18446744073709551616 = b := by omega
  have md : d % 18446744073709551616 = d := by omega
  have wg : wr .i64 (g : Int) = (g : Int) := wr_i64 _ (by omega)
  have g1 : g ≠ 0 := by omega
  have lb : b / g ≤ b := Nat.div_le_self _ _
  have ld : d / g ≤ d := Nat.div_le_self _ _
  obtain ⟨b', eb⟩ : ∃ b', b / g = b' := ⟨_, rfl⟩
  obtain ⟨d', ed⟩ : ∃ d', d / g = d' := ⟨_, rfl⟩
  have wb : wr .i64 (b' : Int) = (b' : Int) := wr_i64 _ (by omega)
  have wd : wr .i64 (d' : Int) = (d' : Int) := wr_i64 _ (by omega)
  have nb : ((b' : Int) < 0) = False := by simp
  have nd : ((d' : Int) < 0) = False := by simp
  have h36a : ∀ hp, CL X G0 36 [.int .i64 a, .int .i64 d'] hp = some (W (a.natAbs * d') (decide (a < 0)), hp) := fun hp => by
    rw [r36 a d' ha ⟨by omega, by omega⟩, Int.natAbs_natCast]; simp only [nd, decide_false, Bool.bne_false]
  have h36c : ∀ hp, CL X G0 36 [.int .i64 c, .int .i64 b'] hp = some (W (c.natAbs * b') (decide (c < 0)), hp) := fun hp => by
    rw [r36 c b' hc ⟨by omega, by omega⟩, Int.natAbs_natCast]; simp only [nb, decide_false, Bool.bne_false]
  have m1 : a.natAbs * d' ≤ 9223372036854775808 * 9223372036854775807 := Nat.mul_le_mul (by unfold I64 at *; omega) (by omega)
  have m2 : c.natAbs * b' ≤ 9223372036854775808 * 9223372036854775807 := Nat.mul_le_mul (by unfold I64 at *; omega) (by omega)
  obtain ⟨k1, hk1⟩ : ∃ k1, (!(decide (c < 0) == m)) = k1 := ⟨_, rfl⟩
  obtain ⟨tn, tf, h37, lt, hT⟩ := sum_w (a.natAbs * d') (c.natAbs * b') (decide (a < 0)) k1 (by omega) (by omega)
  have h40 : ∀ hp, CL X G0 40 [.int .u64 (tn / 18446744073709551616 % g : Nat), .int .u64 (tn % 18446744073709551616 : Nat), .int .u64 g] hp = some (.tup [.int .u64 ((tn / 18446744073709551616 % g * 18446744073709551616 + tn % 18446744073709551616) / g : Nat), .int .u64 (tn % g : Nat)], hp) := fun hp => by
    rw [r40 _ _ g (Nat.mod_lt _ hg0) (by omega) (Nat.mod_lt _ (by omega))]
    have : (tn / 18446744073709551616 % g * 18446744073709551616 + tn % 18446744073709551616) % g = tn % g := by
      conv => rhs; rw [← Nat.div_add_mod tn 18446744073709551616]
      rw [Nat.add_mod, Nat.mod_mul_mod, ← Nat.add_mod, Nat.mul_comm]
    rw [this]
  obtain ⟨h, hh⟩ : ∃ h, Nat.gcd tn g = h := ⟨_, rfl⟩
  have hgcd : Nat.gcd (tn % g) g = h := by rw [← hh, ← Nat.gcd_rec, Nat.gcd_comm]
  have h0 : 0 < h := by rw [← hh]; exact Nat.gcd_pos_of_pos_right _ hg0
  have hlg : h ≤ g := by rw [← hh]; exact Nat.gcd_le_right _ hg0
  have hdg : h ∣ g := by rw [← hh]; exact Nat.gcd_dvd_right _ _
  have h1 : h ≠ 0 := by omega
  have h41 := r41 tn h tf (by omega) (by omega) h0
  have ldh : d / h ≤ d := Nat.div_le_self _ _
  obtain ⟨dh, edh⟩ : ∃ dh, d / h = dh := ⟨_, rfl⟩
  have mb' : b' % 18446744073709551616 = b' := by omega
  have mdh : dh % 18446744073709551616 = dh := by omega
  have h42 := r42 b' dh (by omega) (by omega)
  obtain ⟨P, hP⟩ : ∃ P, tn / h = P := ⟨_, rfl⟩
  obtain ⟨Q, hQ⟩ : ∃ Q, b' * dh = Q := ⟨_, rfl⟩
  have eT : a * d + (if m then - (c * b) else c * b) = (g : Int) * (sv tf tn) := by
    rw [hT, Int.mul_add]
    have e1 : (d : Int) = (g : Int) * d' := by rw [← ed, ← Int.natCast_mul, Nat.mul_div_cancel' gd]
    have e2 : (b : Int) = (g : Int) * b' := by rw [← eb, ← Int.natCast_mul, Nat.mul_div_cancel' gb]
    have x1 : a * d = g * sv (decide (a < 0)) (a.natAbs * d') := by
      rw [e1, Int.mul_left_comm]
      congr 1
      unfold sv
      rw [Int.natCast_mul]
      by_cases p : a < 0
      · simp only [p, decide_true, if_true]
        rw [← Int.neg_mul, show -(a.natAbs : Int) = a by omega]
      · simp only [p, decide_false, Bool.false_eq_true, if_false]
        rw [show (a.natAbs : Int) = a by omega]
    have x2 : (if m then - (c * b) else c * b) = g * sv k1 (c.natAbs * b') := by
      rw [e2, Int.mul_left_comm, ← hk1]
      unfold sv
      rw [Int.natCast_mul]
      by_cases p : c < 0
      · have e : (c.natAbs : Int) = -c := by omega
        cases m <;> simp [p, e, Int.neg_mul, Int.mul_neg]
      · have e : (c.natAbs : Int) = c := by omega
        cases m <;> simp [p, e, Int.neg_mul, Int.mul_neg]
    rw [x1, x2]
  have nT : (sv tf tn).natAbs = tn := by cases tf <;> simp [sv]
  have gs := gcd_sum a.natAbs b c.natAbs d g (sv tf tn) hg.symm hb0 hd0 hab hcd (decide (a < 0)) k1 (by rw [hT, ed, eb])
  rw [nT, hh, eb] at gs
  have eD : b * d = g * (b' * d) := by rw [← eb, ← Nat.mul_assoc, Nat.mul_div_cancel' gb]
  rw [eT, eD, frc_pack (sv tf tn) g (b' * d) h P Q hg0 (by rw [nT]; exact gs) (by rw [nT]; exact hP) (by rw [← hQ, ← edh, Nat.mul_div_assoc _ (Nat.dvd_trans hdg gd)]), pack_sv _ tn tf h P Q rfl hP]
  rw [hP] at h41
  rw [hQ] at h42
  simp only [W] at h36a h36c h37 h41
  have lq : Q ≤ 9223372036854775808 * 9223372036854775808 := by rw [← hQ]; exact Nat.mul_le_mul (by omega) (by omega)
  rw [hm] at hk1
  by_cases hok : okP tf P = true
  · by_cases hq : Q < 9223372036854775808
    · have q1 : Q / 18446744073709551616 = 0 := by omega
      have q2 : Q % 18446744073709551616 = Q := by omega
      have q3 : ((9223372036854775807 : Int) < (Q : Int)) = False := eq_false (by omega)
      have q4 : wr .i64 (Q : Int) = (Q : Int) := wr_i64 _ (by omega)
      have q5 : ¬ (((0 : Nat) : Int) ≠ 0) := by simp
      rw [if_pos ⟨hok, hq⟩]
      simp (config := {contextual := true, maxSteps := 10000000, implicitDefEqProofs := false}) only [x29, go_sem, ↓reduceIte, reduceCtorEq, Nat.reduceEqDiff, Nat.reduceAdd, Nat.reduceLeDiff, Nat.reduceMul, Int.reduceEq, Int.reduceLT, Int.reduceLE, Int.reduceAdd, Int.reduceSub, Int.reduceMul, Int.reduceNeg, Int.reduceToNat, Int.reduceNe, Int.reduceBEq, Int.reduceBNe, Nat.reduceLT, Nat.reduceSub, Nat.reduceDiv, Nat.reduceMod, Int.reduceTDiv, Int.reduceTMod, mb, md, r26, hg, wg, g1, eb, ed, wb, wd, h36a, h36c, hk1, h37, h40, hgcd, h41, h1, edh, mb', mdh, h42, hok, q1, q2, q3, q4, rt_eq]
    · rw [if_neg (fun h => hq h.2)]
      by_cases q1 : Q / 18446744073709551616 = 0
      · have q2 : Q % 18446744073709551616 = Q := by omega
        have q3 : ((9223372036854775807 : Int) < (Q : Int)) = True := eq_true (by omega)
        simp (config := {contextual := true, maxSteps := 10000000, implicitDefEqProofs := false}) only [x29, go_sem, ↓reduceIte, reduceCtorEq, Nat.reduceEqDiff, Nat.reduceAdd, Nat.reduceLeDiff, Nat.reduceMul, Int.reduceEq, Int.reduceLT, Int.reduceLE, Int.reduceAdd, Int.reduceSub, Int.reduceMul, Int.reduceNeg, Int.reduceToNat, Int.reduceNe, Int.reduceBEq, Int.reduceBNe, Nat.reduceLT, Nat.reduceSub, Nat.reduceDiv, Nat.reduceMod, Int.reduceTDiv, Int.reduceTMod, mb, md, r26, hg, wg, g1, eb, ed, wb, wd, h36a, h36c, hk1, h37, h40, hgcd, h41, h1, edh, mb', mdh, h42, hok, q1, q2, q3, rt_eq]
      · simp (config := {contextual := true, maxSteps := 10000000, implicitDefEqProofs := false}) only [x29, go_sem, ↓reduceIte, reduceCtorEq, Nat.reduceEqDiff, Nat.reduceAdd, Nat.reduceLeDiff, Nat.reduceMul, Int.reduceEq, Int.reduceLT, Int.reduceLE, Int.reduceAdd, Int.reduceSub, Int.reduceMul, Int.reduceNeg, Int.reduceToNat, Int.reduceNe, Int.reduceBEq, Int.reduceBNe, Nat.reduceLT, Nat.reduceSub, Nat.reduceDiv, Nat.reduceMod, Int.reduceTDiv, Int.reduceTMod, mb, md, r26, hg, wg, g1, eb, ed, wb, wd, h36a, h36c, hk1, h37, h40, hgcd, h41, h1, edh, mb', mdh, h42, hok, q1, rt_eq]
  · rw [if_neg (fun h => hok h.1)]
    simp (config := {contextual := true, maxSteps := 10000000, implicitDefEqProofs := false}) only [x29, go_sem, ↓reduceIte, reduceCtorEq, Nat.reduceEqDiff, Nat.reduceAdd, Nat.reduceLeDiff, Nat.reduceMul, Int.reduceEq, Int.reduceLT, Int.reduceLE, Int.reduceAdd, Int.reduceSub, Int.reduceMul, Int.reduceNeg, Int.reduceToNat, Int.reduceNe, Int.reduceBEq, Int.reduceBNe, Nat.reduceLT, Nat.reduceSub, Nat.reduceDiv, Nat.reduceMod, Int.reduceTDiv, Int.reduceTMod, mb, md, r26, hg, wg, g1, eb, ed, wb, wd, h36a, h36c, hk1, h37, h40, hgcd, h41, h1, edh, mb', mdh, h42, hok, rt_eq]
end Go.Proofs.Ytpfollpbkpgglaa.Sx.T
