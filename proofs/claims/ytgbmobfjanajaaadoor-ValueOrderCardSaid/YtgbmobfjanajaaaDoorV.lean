/- Layer 2, part 1: checks and orders of values. -/
import Derived.Test.YtgbmobfjanajaaaDoorR
import Derived.Test.YtgbmobfjanajaaaDoorTold
set_option linter.unusedVariables false
set_option linter.unusedSimpArgs false
namespace Go.Proofs.YtgbmobfjanajaaaDoor.Sx.T
open Go Go.Proofs.YtgbmobfjanajaaaDoor.Sx
set_option maxRecDepth 100000
set_option maxHeartbeats 4000000
/-- A value's form. -/
def vA (k n d : Int) (s : List UInt8) : AV := .agg [.int .i64 k, .int .i64 n, .int .i64 d, .str s]
/-- Why a value may not be. -/
def chk (k n d : Int) (s : List UInt8) : Int :=
  if k = 1 then (if d = 0 ∧ s = [] then 0 else 20) else if k = 2 then (if s = [] ∧ mayR n d = true then 0 else 20) else if k = 3 then (if n = 0 ∧ d = 0 then (if s.length ≤ 64 then 0 else 2) else 20) else 20
theorem v_frac (k n d : Int) (s : List UInt8) (hp : Heap) : CL X GV 25 [vA k n d s] hp = some (.agg [.int .i64 n, .int .i64 d], hp) := by
  rw [CL_eq (fn := x25) rfl]
  simp (config := {contextual := true, maxSteps := 10000000, implicitDefEqProofs := false}) only [x25, vA, go_sem, ↓reduceIte, reduceCtorEq, Nat.reduceEqDiff, Nat.reduceAdd, Nat.reduceLeDiff, Nat.reduceMul, Int.reduceEq, Int.reduceLT, Int.reduceLE, Int.reduceAdd, Int.reduceSub, Int.reduceMul, Int.reduceNeg, Int.reduceToNat, Int.reduceNe, Int.reduceBEq, Int.reduceBNe, Nat.reduceLT, Nat.reduceSub, Nat.reduceDiv, Nat.reduceMod, Int.reduceTDiv, Int.reduceTMod]
theorem v_rfrac (k n d : Int) (s : List UInt8) (hp : Heap) : CL X GV 27 [vA k n d s] hp = some (.agg [.int .i64 n, .int .i64 d], hp) := by
  rw [CL_eq (fn := x27) rfl]
  simp (config := {contextual := true, maxSteps := 10000000, implicitDefEqProofs := false}) only [x27, vA, go_sem, ↓reduceIte, reduceCtorEq, Nat.reduceEqDiff, Nat.reduceAdd, Nat.reduceLeDiff, Nat.reduceMul, Int.reduceEq, Int.reduceLT, Int.reduceLE, Int.reduceAdd, Int.reduceSub, Int.reduceMul, Int.reduceNeg, Int.reduceToNat, Int.reduceNe, Int.reduceBEq, Int.reduceBNe, Nat.reduceLT, Nat.reduceSub, Nat.reduceDiv, Nat.reduceMod, Int.reduceTDiv, Int.reduceTMod]
theorem may_eq' (n d : Int) (hn : I64 n) (hd : I64 d) : ((ofR n d).2.2 = 0 ∧ (ofR n d).1 = n ∧ (ofR n d).2.1 = d) ↔ mayR n d = true := by
  by_cases h : 0 < d
  · have := may_eq n d hn hd h
    rw [← this]
    simp
  · have hm : mayR n d = false := by simp [mayR, h]
    rw [hm]
    constructor
    · rintro ⟨h1, _, h3⟩
      exfalso
      unfold ofR at h1 h3
      by_cases h0 : d = 0
      · rw [if_pos h0] at h1; simp at h1
      · rw [if_neg h0] at h3 h1
        unfold frc mk at h3 h1
        generalize d.natAbs / Nat.gcd (n * d.sign).natAbs d.natAbs = q at h3 h1
        generalize (n * d.sign).natAbs / Nat.gcd (n * d.sign).natAbs d.natAbs = p at h3 h1
        simp only at h3 h1
        split at h3
        · rename_i hc; rw [if_pos hc] at h1; simp at h1
        · split at h3 <;> simp at h3 <;> omega
    · intro h; cases h
theorem v_check (k n d : Int) (s : List UInt8) (hn : I64 n) (hd : I64 d) (hp : Heap) : CL X GV 11 [vA k n d s] hp = some (.int .i64 (chk k n d s), hp) := by
  have h1 := r10 n d hn hd
  have h2 := fun s => v_frac 2 n d s
  have h3 := may_eq' n d hn hd
  simp only [rt_eq, vA] at h1 h2
  rw [CL_eq (fn := x11) rfl]
  by_cases k1 : k = 1
  · subst k1
    simp (config := {contextual := true, maxSteps := 10000000, implicitDefEqProofs := false}) only [x11, vA, chk, go_sem, ↓reduceIte, reduceCtorEq, Nat.reduceEqDiff, Nat.reduceAdd, Nat.reduceLeDiff, Nat.reduceMul, Int.reduceEq, Int.reduceLT, Int.reduceLE, Int.reduceAdd, Int.reduceSub, Int.reduceMul, Int.reduceNeg, Int.reduceToNat, Int.reduceNe, Int.reduceBEq, Int.reduceBNe, Nat.reduceLT, Nat.reduceSub, Nat.reduceDiv, Nat.reduceMod, Int.reduceTDiv, Int.reduceTMod, h1, h2]
    by_cases hd0 : d = 0 <;> by_cases hs : s = [] <;> simp [hd0, hs]
  · by_cases k2 : k = 2
    · subst k2
      simp (config := {contextual := true, maxSteps := 10000000, implicitDefEqProofs := false}) only [x11, vA, chk, go_sem, ↓reduceIte, reduceCtorEq, Nat.reduceEqDiff, Nat.reduceAdd, Nat.reduceLeDiff, Nat.reduceMul, Int.reduceEq, Int.reduceLT, Int.reduceLE, Int.reduceAdd, Int.reduceSub, Int.reduceMul, Int.reduceNeg, Int.reduceToNat, Int.reduceNe, Int.reduceBEq, Int.reduceBNe, Nat.reduceLT, Nat.reduceSub, Nat.reduceDiv, Nat.reduceMod, Int.reduceTDiv, Int.reduceTMod, h1, h2]
      by_cases hs : s = []
      · subst hs
        by_cases hm : mayR n d = true
        · obtain ⟨e1, e2, e3⟩ := h3.2 hm
          simp [e1, e2, e3, hm]
        · have hx : ¬ ((ofR n d).2.2 = 0 ∧ (ofR n d).1 = n ∧ (ofR n d).2.1 = d) := fun e => hm (h3.1 e)
          by_cases e1 : (ofR n d).2.2 = 0 <;> by_cases e2 : (ofR n d).1 = n <;> by_cases e3 : (ofR n d).2.1 = d <;> simp_all
      · simp [hs]
    · simp (config := {contextual := true, maxSteps := 10000000, implicitDefEqProofs := false}) only [x11, vA, chk, go_sem, ↓reduceIte, reduceCtorEq, Nat.reduceEqDiff, Nat.reduceAdd, Nat.reduceLeDiff, Nat.reduceMul, Int.reduceEq, Int.reduceLT, Int.reduceLE, Int.reduceAdd, Int.reduceSub, Int.reduceMul, Int.reduceNeg, Int.reduceToNat, Int.reduceNe, Int.reduceBEq, Int.reduceBNe, Nat.reduceLT, Nat.reduceSub, Nat.reduceDiv, Nat.reduceMod, Int.reduceTDiv, Int.reduceTMod, h1, h2, k1, k2]
      by_cases k3 : k = 3 <;> by_cases hn0 : n = 0 <;> by_cases hd0 : d = 0 <;> by_cases hl : s.length ≤ 64 <;> simp [k3, hn0, hd0, hl] <;> omega
theorem v_rcheck (k n d : Int) (s : List UInt8) (hn : I64 n) (hd : I64 d) (hp : Heap) : CL X GV 13 [vA k n d s] hp = some (.int .i64 (chk k n d s), hp) := by
  have h1 := r33 n d hn hd
  have h2 := fun s => v_rfrac 2 n d s
  simp only [vA] at h1 h2
  rw [CL_eq (fn := x13) rfl]
  by_cases k1 : k = 1
  · subst k1
    simp (config := {contextual := true, maxSteps := 10000000, implicitDefEqProofs := false}) only [x13, vA, chk, go_sem, ↓reduceIte, reduceCtorEq, Nat.reduceEqDiff, Nat.reduceAdd, Nat.reduceLeDiff, Nat.reduceMul, Int.reduceEq, Int.reduceLT, Int.reduceLE, Int.reduceAdd, Int.reduceSub, Int.reduceMul, Int.reduceNeg, Int.reduceToNat, Int.reduceNe, Int.reduceBEq, Int.reduceBNe, Nat.reduceLT, Nat.reduceSub, Nat.reduceDiv, Nat.reduceMod, Int.reduceTDiv, Int.reduceTMod, h1, h2]
    by_cases hd0 : d = 0 <;> by_cases hs : s = [] <;> simp [hd0, hs]
  · by_cases k2 : k = 2
    · subst k2
      simp (config := {contextual := true, maxSteps := 10000000, implicitDefEqProofs := false}) only [x13, vA, chk, go_sem, ↓reduceIte, reduceCtorEq, Nat.reduceEqDiff, Nat.reduceAdd, Nat.reduceLeDiff, Nat.reduceMul, Int.reduceEq, Int.reduceLT, Int.reduceLE, Int.reduceAdd, Int.reduceSub, Int.reduceMul, Int.reduceNeg, Int.reduceToNat, Int.reduceNe, Int.reduceBEq, Int.reduceBNe, Nat.reduceLT, Nat.reduceSub, Nat.reduceDiv, Nat.reduceMod, Int.reduceTDiv, Int.reduceTMod, h1, h2]
      by_cases hs : s = [] <;> by_cases hm : mayR n d = true <;> simp [hs, hm]
    · simp (config := {contextual := true, maxSteps := 10000000, implicitDefEqProofs := false}) only [x13, vA, chk, go_sem, ↓reduceIte, reduceCtorEq, Nat.reduceEqDiff, Nat.reduceAdd, Nat.reduceLeDiff, Nat.reduceMul, Int.reduceEq, Int.reduceLT, Int.reduceLE, Int.reduceAdd, Int.reduceSub, Int.reduceMul, Int.reduceNeg, Int.reduceToNat, Int.reduceNe, Int.reduceBEq, Int.reduceBNe, Nat.reduceLT, Nat.reduceSub, Nat.reduceDiv, Nat.reduceMod, Int.reduceTDiv, Int.reduceTMod, h1, h2, k1, k2]
      by_cases k3 : k = 3 <;> by_cases hn0 : n = 0 <;> by_cases hd0 : d = 0 <;> by_cases hl : s.length ≤ 64 <;> simp [k3, hn0, hd0, hl] <;> omega
end Go.Proofs.YtgbmobfjanajaaaDoor.Sx.T
namespace Go.Proofs.YtgbmobfjanajaaaDoor.Sx.T
open Go Go.Proofs.YtgbmobfjanajaaaDoor.Sx
set_option maxRecDepth 100000
set_option maxHeartbeats 4000000
theorem v_ValueChecks (k n d : Int) (s : List UInt8) (hk : I64 k) (hn : I64 n) (hd : I64 d) (hp : Heap) : CL X GV 4 [vA k n d s] hp = some (.bool true, hp) := by
  have h1 := v_check k n d s hn hd
  have h2 := v_rcheck k n d s hn hd
  have h3 := liveTold
  simp only [vA] at h1 h2
  rw [CL_eq (fn := x4) rfl]
  simp (config := {contextual := true, maxSteps := 10000000, implicitDefEqProofs := false}) only [x4, vA, go_sem, ↓reduceIte, reduceCtorEq, Nat.reduceEqDiff, Nat.reduceAdd, Nat.reduceLeDiff, Nat.reduceMul, Int.reduceEq, Int.reduceLT, Int.reduceLE, Int.reduceAdd, Int.reduceSub, Int.reduceMul, Int.reduceNeg, Int.reduceToNat, Int.reduceNe, Int.reduceBEq, Int.reduceBNe, Nat.reduceLT, Nat.reduceSub, Nat.reduceDiv, Nat.reduceMod, Int.reduceTDiv, Int.reduceTMod, h1, h2, h3]
end Go.Proofs.YtgbmobfjanajaaaDoor.Sx.T
namespace Go.Proofs.YtgbmobfjanajaaaDoor.Sx.T
open Go Go.Proofs.YtgbmobfjanajaaaDoor.Sx
set_option maxRecDepth 100000
set_option maxHeartbeats 4000000
structure Val where
  k : Int
  n : Int
  d : Int
  s : List UInt8
  deriving DecidableEq, Inhabited
def Val.cells (v : Val) : List AV := [.int .i64 v.k, .int .i64 v.n, .int .i64 v.d, .str v.s]
def Val.av (v : Val) : AV := vA v.k v.n v.d v.s
def Val.ok (v : Val) : Prop := I64 v.k ∧ I64 v.n ∧ I64 v.d
def chkV (v : Val) : Int := chk v.k v.n v.d v.s
def icmp (x y : Int) : Int := if x < y then -1 else if y < x then 1 else 0
def scmp (s t : List UInt8) : Int := if s = t then 0 else if bless s t = true then -1 else 1
def vcmp (a b : Val) : Int :=
  if chkV a ≠ 0 ∨ chkV b ≠ 0 then 0 else if a.k ≠ b.k then icmp a.k b.k else if a.k = 1 then icmp a.n b.n else if a.k = 2 then cmpR a.n a.d b.n b.d else scmp a.s b.s
theorem v_nan (x : Int) (hp : Heap) : CL X GV 42 [.int .i64 x] hp = some (.bool false, hp) := by
  rw [CL_eq (fn := x42) rfl]
  simp (config := {contextual := true, maxSteps := 10000000, implicitDefEqProofs := false}) only [x42, go_sem, ↓reduceIte, reduceCtorEq, Nat.reduceEqDiff, Nat.reduceAdd, Nat.reduceLeDiff, Nat.reduceMul, Int.reduceEq, Int.reduceLT, Int.reduceLE, Int.reduceAdd, Int.reduceSub, Int.reduceMul, Int.reduceNeg, Int.reduceToNat, Int.reduceNe, Int.reduceBEq, Int.reduceBNe, Nat.reduceLT, Nat.reduceSub, Nat.reduceDiv, Nat.reduceMod, Int.reduceTDiv, Int.reduceTMod]
  simp
theorem v_nan64 (x : Int) (hp : Heap) : CL X GV 43 [.int .i64 x] hp = some (.bool false, hp) := by
  rw [CL_eq (fn := x43) rfl]
  simp (config := {contextual := true, maxSteps := 10000000, implicitDefEqProofs := false}) only [x43, go_sem, ↓reduceIte, reduceCtorEq, Nat.reduceEqDiff, Nat.reduceAdd, Nat.reduceLeDiff, Nat.reduceMul, Int.reduceEq, Int.reduceLT, Int.reduceLE, Int.reduceAdd, Int.reduceSub, Int.reduceMul, Int.reduceNeg, Int.reduceToNat, Int.reduceNe, Int.reduceBEq, Int.reduceBNe, Nat.reduceLT, Nat.reduceSub, Nat.reduceDiv, Nat.reduceMod, Int.reduceTDiv, Int.reduceTMod]
  simp
theorem v_icmp (x y : Int) (hp : Heap) : CL X GV 28 [.int .i64 x, .int .i64 y] hp = some (.int .i64 (icmp x y), hp) := by
  rw [CL_eq (fn := x28) rfl]
  simp (config := {contextual := true, maxSteps := 10000000, implicitDefEqProofs := false}) only [x28, go_sem, ↓reduceIte, reduceCtorEq, Nat.reduceEqDiff, Nat.reduceAdd, Nat.reduceLeDiff, Nat.reduceMul, Int.reduceEq, Int.reduceLT, Int.reduceLE, Int.reduceAdd, Int.reduceSub, Int.reduceMul, Int.reduceNeg, Int.reduceToNat, Int.reduceNe, Int.reduceBEq, Int.reduceBNe, Nat.reduceLT, Nat.reduceSub, Nat.reduceDiv, Nat.reduceMod, Int.reduceTDiv, Int.reduceTMod, v_nan, icmp]
  repeat' split
  all_goals rfl
theorem v_icmp64 (x y : Int) (hp : Heap) : CL X GV 29 [.int .i64 x, .int .i64 y] hp = some (.int .i64 (icmp x y), hp) := by
  rw [CL_eq (fn := x29) rfl]
  simp (config := {contextual := true, maxSteps := 10000000, implicitDefEqProofs := false}) only [x29, go_sem, ↓reduceIte, reduceCtorEq, Nat.reduceEqDiff, Nat.reduceAdd, Nat.reduceLeDiff, Nat.reduceMul, Int.reduceEq, Int.reduceLT, Int.reduceLE, Int.reduceAdd, Int.reduceSub, Int.reduceMul, Int.reduceNeg, Int.reduceToNat, Int.reduceNe, Int.reduceBEq, Int.reduceBNe, Nat.reduceLT, Nat.reduceSub, Nat.reduceDiv, Nat.reduceMod, Int.reduceTDiv, Int.reduceTMod, v_nan64, icmp]
  repeat' split
  all_goals rfl
theorem primX_cmp (s t : List UInt8) : primX 3 [.str s, .str t] = some (.int .i64 (scmp s t)) := by
  simp only [primX, scmp]
  congr 2
  by_cases h : s = t <;> simp [h]
theorem v_bcmp (s t : List UInt8) (hp : Heap) : CL X GV 47 [.str s, .str t] hp = some (.int .i64 (scmp s t), hp) := by
  rw [CL_eq (fn := x47) rfl]
  simp (config := {contextual := true, maxSteps := 10000000, implicitDefEqProofs := false}) only [x47, go_sem, ↓reduceIte, reduceCtorEq, Nat.reduceEqDiff, Nat.reduceAdd, Nat.reduceLeDiff, Nat.reduceMul, Int.reduceEq, Int.reduceLT, Int.reduceLE, Int.reduceAdd, Int.reduceSub, Int.reduceMul, Int.reduceNeg, Int.reduceToNat, Int.reduceNe, Int.reduceBEq, Int.reduceBNe, Nat.reduceLT, Nat.reduceSub, Nat.reduceDiv, Nat.reduceMod, Int.reduceTDiv, Int.reduceTMod, primX_cmp]
theorem v_scmp (s t : List UInt8) (hp : Heap) : CL X GV 31 [.str s, .str t] hp = some (.int .i64 (scmp s t), hp) := by
  rw [CL_eq (fn := x31) rfl]
  simp (config := {contextual := true, maxSteps := 10000000, implicitDefEqProofs := false}) only [x31, go_sem, ↓reduceIte, reduceCtorEq, Nat.reduceEqDiff, Nat.reduceAdd, Nat.reduceLeDiff, Nat.reduceMul, Int.reduceEq, Int.reduceLT, Int.reduceLE, Int.reduceAdd, Int.reduceSub, Int.reduceMul, Int.reduceNeg, Int.reduceToNat, Int.reduceNe, Int.reduceBEq, Int.reduceBNe, Nat.reduceLT, Nat.reduceSub, Nat.reduceDiv, Nat.reduceMod, Int.reduceTDiv, Int.reduceTMod, v_bcmp]
theorem v_cmp (a b : Val) (ha : a.ok) (hb : b.ok) (hp : Heap) : CL X GV 14 [a.av, b.av] hp = some (.int .i64 (vcmp a b), hp) := by
  obtain ⟨k, n, d, s⟩ := a
  obtain ⟨k', n', d', s'⟩ := b
  simp only [Val.ok, Val.av, vcmp, chkV] at *
  have h1 := fun k s => v_check k n d s ha.2.1 ha.2.2
  have h2 := fun k s => v_check k n' d' s hb.2.1 hb.2.2
  have h3 := fun k s => v_frac k n d s
  have h4 := fun k s => v_frac k n' d' s
  have h5 := r17 n d n' d' ha.2.1 ha.2.2 hb.2.1 hb.2.2
  simp only [vA] at h1 h2 h3 h4 ⊢
  rw [CL_eq (fn := x14) rfl]
  by_cases c1 : chk k n d s = 0
  · by_cases c2 : chk k' n' d' s' = 0
    · by_cases e : k = k'
      · subst e
        simp (config := {contextual := true, maxSteps := 10000000, implicitDefEqProofs := false}) only [x14, go_sem, ↓reduceIte, reduceCtorEq, Nat.reduceEqDiff, Nat.reduceAdd, Nat.reduceLeDiff, Nat.reduceMul, Int.reduceEq, Int.reduceLT, Int.reduceLE, Int.reduceAdd, Int.reduceSub, Int.reduceMul, Int.reduceNeg, Int.reduceToNat, Int.reduceNe, Int.reduceBEq, Int.reduceBNe, Nat.reduceLT, Nat.reduceSub, Nat.reduceDiv, Nat.reduceMod, Int.reduceTDiv, Int.reduceTMod, h1, h2, h3, h4, h5, v_icmp, v_icmp64, v_scmp, c1, c2]
        by_cases k1 : k = 1
        · simp [k1]
        · by_cases k2 : k = 2 <;> simp [k1, k2]
      · simp (config := {contextual := true, maxSteps := 10000000, implicitDefEqProofs := false}) only [x14, go_sem, ↓reduceIte, reduceCtorEq, Nat.reduceEqDiff, Nat.reduceAdd, Nat.reduceLeDiff, Nat.reduceMul, Int.reduceEq, Int.reduceLT, Int.reduceLE, Int.reduceAdd, Int.reduceSub, Int.reduceMul, Int.reduceNeg, Int.reduceToNat, Int.reduceNe, Int.reduceBEq, Int.reduceBNe, Nat.reduceLT, Nat.reduceSub, Nat.reduceDiv, Nat.reduceMod, Int.reduceTDiv, Int.reduceTMod, h1, h2, h3, h4, h5, v_icmp, v_icmp64, v_scmp, c1, c2, e]
        simp [e]
    · simp (config := {contextual := true, maxSteps := 10000000, implicitDefEqProofs := false}) only [x14, go_sem, ↓reduceIte, reduceCtorEq, Nat.reduceEqDiff, Nat.reduceAdd, Nat.reduceLeDiff, Nat.reduceMul, Int.reduceEq, Int.reduceLT, Int.reduceLE, Int.reduceAdd, Int.reduceSub, Int.reduceMul, Int.reduceNeg, Int.reduceToNat, Int.reduceNe, Int.reduceBEq, Int.reduceBNe, Nat.reduceLT, Nat.reduceSub, Nat.reduceDiv, Nat.reduceMod, Int.reduceTDiv, Int.reduceTMod, h1, h2, h3, h4, h5, v_icmp, v_icmp64, v_scmp, c1, c2]
      simp [c2]
  · simp (config := {contextual := true, maxSteps := 10000000, implicitDefEqProofs := false}) only [x14, go_sem, ↓reduceIte, reduceCtorEq, Nat.reduceEqDiff, Nat.reduceAdd, Nat.reduceLeDiff, Nat.reduceMul, Int.reduceEq, Int.reduceLT, Int.reduceLE, Int.reduceAdd, Int.reduceSub, Int.reduceMul, Int.reduceNeg, Int.reduceToNat, Int.reduceNe, Int.reduceBEq, Int.reduceBNe, Nat.reduceLT, Nat.reduceSub, Nat.reduceDiv, Nat.reduceMod, Int.reduceTDiv, Int.reduceTMod, h1, h2, h3, h4, h5, v_icmp, v_icmp64, v_scmp, c1]
    simp [c1]
theorem v_same (a b : Val) (hp : Heap) : CL X GV 15 [a.av, b.av] hp = some (.bool (decide (a = b)), hp) := by
  obtain ⟨k, n, d, s⟩ := a
  obtain ⟨k', n', d', s'⟩ := b
  simp only [Val.av, vA]
  rw [CL_eq (fn := x15) rfl]
  simp (config := {contextual := true, maxSteps := 10000000, implicitDefEqProofs := false}) only [x15, go_sem, ↓reduceIte, reduceCtorEq, Nat.reduceEqDiff, Nat.reduceAdd, Nat.reduceLeDiff, Nat.reduceMul, Int.reduceEq, Int.reduceLT, Int.reduceLE, Int.reduceAdd, Int.reduceSub, Int.reduceMul, Int.reduceNeg, Int.reduceToNat, Int.reduceNe, Int.reduceBEq, Int.reduceBNe, Nat.reduceLT, Nat.reduceSub, Nat.reduceDiv, Nat.reduceMod, Int.reduceTDiv, Int.reduceTMod]
  congr 3
  rw [Bool.eq_iff_iff]
  simp
end Go.Proofs.YtgbmobfjanajaaaDoor.Sx.T
namespace Go.Proofs.YtgbmobfjanajaaaDoor.Sx.T
open Go Go.Proofs.YtgbmobfjanajaaaDoor.Sx
set_option maxRecDepth 100000
set_option maxHeartbeats 4000000
def rowcmp : List Val → List Val → Int
  | [], [] => 0
  | [], _ :: _ => -1
  | _ :: _, [] => 1
  | a :: l, b :: m => if vcmp a b ≠ 0 then vcmp a b else rowcmp l m
/-- A row, as it is handed. -/
def IsRow (x : AV) (vs : List Val) : Prop := (x = .nilsl ∧ vs = []) ∨ ∃ o, (o = .none ∨ o = .tight) ∧ x = .lst o 4 (vs.map Val.cells)
theorem IsRow.uf {x : AV} {vs : List Val} (h : IsRow x vs) : uf x = x := by
  rcases h with ⟨rfl, _⟩ | ⟨o, ho, rfl⟩
  · rfl
  · rcases ho with rfl | rfl <;> rfl
theorem IsRow.lens {x : AV} {vs : List Val} (h : IsRow x vs) : lensK false x = some (.int .i64 vs.length) := by
  rcases h with ⟨rfl, rfl⟩ | ⟨o, _, rfl⟩
  · rfl
  · simp [lensK_lst]
theorem IsRow.at {x : AV} {vs : List Val} (h : IsRow x vs) {k : Nat} (hk : k < vs.length) : iaddrK 4 x (some k) = some (.elp (vs.getD k default).cells) := by
  rcases h with ⟨rfl, rfl⟩ | ⟨o, _, rfl⟩
  · simp at hk
  · rw [iaddrK_lst, List.length_map, if_pos ⟨rfl, hk⟩]
    simp [List.getD, hk]
theorem IsRow.free {x : AV} {vs : List Val} (h : IsRow x vs) : refFree x = true := by
  rcases h with ⟨rfl, rfl⟩ | ⟨o, _, rfl⟩ <;> rfl
theorem IsRow.drop1 {x : AV} {vs : List Val} (h : IsRow x vs) (fr : List AV) (t : Nat) : drop1K x fr t = fr := by
  rcases h with ⟨rfl, rfl⟩ | ⟨o, ho, rfl⟩
  · rfl
  · rcases ho with rfl | rfl <;> rfl
theorem rowcmp_drop (a b : List Val) (i : Nat) (h : i < min a.length b.length) : rowcmp (a.drop i) (b.drop i) =
    if vcmp (a.getD i default) (b.getD i default) ≠ 0 then vcmp (a.getD i default) (b.getD i default) else rowcmp (a.drop (i + 1)) (b.drop (i + 1)) := by
  have ha : i < a.length := by omega
  have hb : i < b.length := by omega
  rw [List.drop_eq_getElem_cons ha, List.drop_eq_getElem_cons hb, rowcmp]
  simp [List.getD, ha, hb]
theorem rowcmp_end (a b : List Val) (i : Nat) (h : i = min a.length b.length) : rowcmp (a.drop i) (b.drop i) = icmp a.length b.length := by
  unfold icmp
  rcases Nat.lt_trichotomy a.length b.length with h1 | h1 | h1
  · obtain rfl : i = a.length := by omega
    rw [List.drop_length, List.drop_eq_getElem_cons h1, rowcmp, if_pos (by omega)]
  · obtain rfl : i = a.length := by omega
    rw [List.drop_length, h1, List.drop_length, rowcmp, if_neg (by omega), if_neg (by omega)]
  · obtain rfl : i = b.length := by omega
    rw [List.drop_length, List.drop_eq_getElem_cons h1, rowcmp, if_neg (by omega), if_pos (by omega)]
def ORow (a b : List Val) (x y : AV) (hp : Heap) (R : Int) (r : Option (XExit × St)) : Prop :=
  (∃ fr', r = some (.exit 0, ⟨fr', hp⟩) ∧ fget fr' 0 = x ∧ fget fr' 1 = y ∧ R = icmp a.length b.length) ∨ (∃ fr', r = some (.ret, ⟨fr', hp⟩) ∧ fget fr' 4 = .int .i64 R)
theorem l_row (a b : List Val) (x y : AV) (hx : IsRow x a) (hy : IsRow y b) (ha : ∀ v ∈ a, v.ok) (hb : ∀ v ∈ b, v.ok) (hl : a.length < 9223372036854775807) (hp : Heap) :
    ∀ (m i : Nat) (_ : i + m = min a.length b.length) (fr : List AV), fget fr 0 = x → fget fr 1 = y → fget fr 12 = .int .i64 i → fget fr 11 = .int .i64 (min a.length b.length : Nat) →
    ORow a b x y hp (rowcmp (a.drop i) (b.drop i)) (LC X GV (.loop x16_l0) ⟨fr, hp⟩) := by
  have u1 := hx.uf
  have u2 := hy.uf
  have d1 := hx.drop1
  have d2 := hy.drop1
  intro m
  induction m with
  | zero =>
    intro i hi fr h0 h1 h12 h11
    rw [LC_loop]
    have e : i = min a.length b.length := by omega
    have hc : ((i : Int) < ((min a.length b.length : Nat) : Int)) = False := by simp; omega
    simp (config := {contextual := true, maxSteps := 10000000, implicitDefEqProofs := false}) only [x16_l0_run, go_sem, ↓reduceIte, reduceCtorEq, Nat.reduceEqDiff, Nat.reduceAdd, Nat.reduceLeDiff, Nat.reduceMul, Int.reduceEq, Int.reduceLT, Int.reduceLE, Int.reduceAdd, Int.reduceSub, Int.reduceMul, Int.reduceNeg, Int.reduceToNat, Int.reduceNe, Int.reduceBEq, Int.reduceBNe, Nat.reduceLT, Nat.reduceSub, Nat.reduceDiv, Nat.reduceMod, Int.reduceTDiv, Int.reduceTMod, h0, h1, h12, h11, hc]
    exact .inl ⟨_, rfl, by simp only [go_sem, ↓reduceIte, reduceCtorEq, Nat.reduceEqDiff, Nat.reduceAdd, Nat.reduceLeDiff, Nat.reduceMul, Int.reduceEq, Int.reduceLT, Int.reduceLE, Int.reduceAdd, Int.reduceSub, Int.reduceMul, Int.reduceNeg, Int.reduceToNat, Int.reduceNe, Int.reduceBEq, Int.reduceBNe, Nat.reduceLT, Nat.reduceSub, Nat.reduceDiv, Nat.reduceMod, Int.reduceTDiv, Int.reduceTMod, h0], by simp only [go_sem, ↓reduceIte, reduceCtorEq, Nat.reduceEqDiff, Nat.reduceAdd, Nat.reduceLeDiff, Nat.reduceMul, Int.reduceEq, Int.reduceLT, Int.reduceLE, Int.reduceAdd, Int.reduceSub, Int.reduceMul, Int.reduceNeg, Int.reduceToNat, Int.reduceNe, Int.reduceBEq, Int.reduceBNe, Nat.reduceLT, Nat.reduceSub, Nat.reduceDiv, Nat.reduceMod, Int.reduceTDiv, Int.reduceTMod, h1], rowcmp_end a b i e⟩
  | succ m ih =>
    intro i hi fr h0 h1 h12 h11
    rw [LC_loop]
    have hc : ((i : Int) < ((min a.length b.length : Nat) : Int)) = True := by simp; omega
    have ka : i < a.length := by omega
    have kb : i < b.length := by omega
    have a1 := hx.at ka
    have a2 := hy.at kb
    have oa : (a.getD i default).ok := ha _ (by simp [List.getD, ka])
    have ob : (b.getD i default).ok := hb _ (by simp [List.getD, kb])
    have hcmp := v_cmp _ _ oa ob
    have hr := rowcmp_drop a b i (by omega)
    generalize a.getD i default = va at *
    generalize b.getD i default = vb at *
    obtain ⟨k, n, d, s⟩ := va
    obtain ⟨k', n', d', s'⟩ := vb
    simp only [Val.av, Val.cells, vA] at hcmp a1 a2
    have wi : wr .i64 ((i : Int) + 1) = ((i + 1 : Nat) : Int) := by rw [wr_i64 _ (by omega)]; omega
    by_cases hz : vcmp ⟨k, n, d, s⟩ ⟨k', n', d', s'⟩ = 0
    · rw [hz] at hcmp
      simp (config := {contextual := true, maxSteps := 10000000, implicitDefEqProofs := false}) only [x16_l0_run, go_sem, ↓reduceIte, reduceCtorEq, Nat.reduceEqDiff, Nat.reduceAdd, Nat.reduceLeDiff, Nat.reduceMul, Int.reduceEq, Int.reduceLT, Int.reduceLE, Int.reduceAdd, Int.reduceSub, Int.reduceMul, Int.reduceNeg, Int.reduceToNat, Int.reduceNe, Int.reduceBEq, Int.reduceBNe, Nat.reduceLT, Nat.reduceSub, Nat.reduceDiv, Nat.reduceMod, Int.reduceTDiv, Int.reduceTMod, h0, h1, h12, h11, hc, u1, u2, d1, d2, a1, a2, hcmp, wi]
      rw [hr, if_neg (by simp [hz])]
      refine ih (i + 1) (by omega) _ ?_ ?_ ?_ ?_ <;> simp only [go_sem, ↓reduceIte, reduceCtorEq, Nat.reduceEqDiff, Nat.reduceAdd, Nat.reduceLeDiff, Nat.reduceMul, Int.reduceEq, Int.reduceLT, Int.reduceLE, Int.reduceAdd, Int.reduceSub, Int.reduceMul, Int.reduceNeg, Int.reduceToNat, Int.reduceNe, Int.reduceBEq, Int.reduceBNe, Nat.reduceLT, Nat.reduceSub, Nat.reduceDiv, Nat.reduceMod, Int.reduceTDiv, Int.reduceTMod, h0, h1, h12, h11]
    · simp (config := {contextual := true, maxSteps := 10000000, implicitDefEqProofs := false}) only [x16_l0_run, go_sem, ↓reduceIte, reduceCtorEq, Nat.reduceEqDiff, Nat.reduceAdd, Nat.reduceLeDiff, Nat.reduceMul, Int.reduceEq, Int.reduceLT, Int.reduceLE, Int.reduceAdd, Int.reduceSub, Int.reduceMul, Int.reduceNeg, Int.reduceToNat, Int.reduceNe, Int.reduceBEq, Int.reduceBNe, Nat.reduceLT, Nat.reduceSub, Nat.reduceDiv, Nat.reduceMod, Int.reduceTDiv, Int.reduceTMod, h0, h1, h12, h11, hc, u1, u2, d1, d2, a1, a2, hcmp, wi, hz]
      exact .inr ⟨_, rfl, by simp only [go_sem, ↓reduceIte, reduceCtorEq, Nat.reduceEqDiff, Nat.reduceAdd, Nat.reduceLeDiff, Nat.reduceMul, Int.reduceEq, Int.reduceLT, Int.reduceLE, Int.reduceAdd, Int.reduceSub, Int.reduceMul, Int.reduceNeg, Int.reduceToNat, Int.reduceNe, Int.reduceBEq, Int.reduceBNe, Nat.reduceLT, Nat.reduceSub, Nat.reduceDiv, Nat.reduceMod, Int.reduceTDiv, Int.reduceTMod]; rw [hr, if_pos hz]⟩
theorem v_row (a b : List Val) (x y : AV) (hx : IsRow x a) (hy : IsRow y b) (ha : ∀ v ∈ a, v.ok) (hb : ∀ v ∈ b, v.ok) (hl : a.length < 9223372036854775807) (hp : Heap) :
    CL X GV 16 [x, y] hp = some (.int .i64 (rowcmp a b), hp) := by
  have u1 := hx.uf
  have u2 := hy.uf
  have d1 := hx.drop1
  have d2 := hy.drop1
  have n1 := hx.lens
  have n2 := hy.lens
  have hm : (if (b.length : Int) < (a.length : Int) then (b.length : Int) else (a.length : Int)) = ((min a.length b.length : Nat) : Int) := by split <;> omega
  rw [CL_eq (fn := x16) rfl]
  simp (config := {contextual := true, maxSteps := 10000000, implicitDefEqProofs := false}) only [x16, go_sem, ↓reduceIte, reduceCtorEq, Nat.reduceEqDiff, Nat.reduceAdd, Nat.reduceLeDiff, Nat.reduceMul, Int.reduceEq, Int.reduceLT, Int.reduceLE, Int.reduceAdd, Int.reduceSub, Int.reduceMul, Int.reduceNeg, Int.reduceToNat, Int.reduceNe, Int.reduceBEq, Int.reduceBNe, Nat.reduceLT, Nat.reduceSub, Nat.reduceDiv, Nat.reduceMod, Int.reduceTDiv, Int.reduceTMod, u1, u2, d1, d2, n1, n2, hm]
  refine elimL (fun r => finK _ (seqK (blockK 0 r) _) = _) (l_row a b x y hx hy ha hb hl ([] :: hp) (min a.length b.length) 0 (by omega) _ ?_ ?_ ?_ ?_) ?_
  all_goals try simp only [go_sem, ↓reduceIte, reduceCtorEq, Nat.reduceEqDiff, Nat.reduceAdd, Nat.reduceLeDiff, Nat.reduceMul, Int.reduceEq, Int.reduceLT, Int.reduceLE, Int.reduceAdd, Int.reduceSub, Int.reduceMul, Int.reduceNeg, Int.reduceToNat, Int.reduceNe, Int.reduceBEq, Int.reduceBNe, Nat.reduceLT, Nat.reduceSub, Nat.reduceDiv, Nat.reduceMod, Int.reduceTDiv, Int.reduceTMod]
  · rfl
  · rintro r (⟨fr', rfl, f0, f1, hR⟩ | ⟨fr', rfl, f4⟩)
    · simp (config := {contextual := true, maxSteps := 10000000, implicitDefEqProofs := false}) only [go_sem, ↓reduceIte, reduceCtorEq, Nat.reduceEqDiff, Nat.reduceAdd, Nat.reduceLeDiff, Nat.reduceMul, Int.reduceEq, Int.reduceLT, Int.reduceLE, Int.reduceAdd, Int.reduceSub, Int.reduceMul, Int.reduceNeg, Int.reduceToNat, Int.reduceNe, Int.reduceBEq, Int.reduceBNe, Nat.reduceLT, Nat.reduceSub, Nat.reduceDiv, Nat.reduceMod, Int.reduceTDiv, Int.reduceTMod, f0, f1, u1, u2, d1, d2, n1, n2, v_icmp]
      rw [hR]
    · simp (config := {contextual := true, maxSteps := 10000000, implicitDefEqProofs := false}) only [go_sem, ↓reduceIte, reduceCtorEq, Nat.reduceEqDiff, Nat.reduceAdd, Nat.reduceLeDiff, Nat.reduceMul, Int.reduceEq, Int.reduceLT, Int.reduceLE, Int.reduceAdd, Int.reduceSub, Int.reduceMul, Int.reduceNeg, Int.reduceToNat, Int.reduceNe, Int.reduceBEq, Int.reduceBNe, Nat.reduceLT, Nat.reduceSub, Nat.reduceDiv, Nat.reduceMod, Int.reduceTDiv, Int.reduceTMod, f4]
end Go.Proofs.YtgbmobfjanajaaaDoor.Sx.T
namespace Go.Proofs.YtgbmobfjanajaaaDoor.Sx.T
open Go Go.Proofs.YtgbmobfjanajaaaDoor.Sx
set_option maxRecDepth 100000
set_option maxHeartbeats 4000000
theorem bless_irrefl : ∀ s : List UInt8, bless s s = false
  | [] => rfl
  | a :: s => by simp [bless, bless_irrefl s, UInt8.lt_irrefl]
theorem bless_trans : ∀ {s t u : List UInt8}, bless s t = true → bless t u = true → bless s u = true
  | s, t, [], _, h => by cases t <;> simp [bless] at h
  | s, [], _ :: _, h, _ => by cases s <;> simp [bless] at h
  | [], _ :: _, _ :: _, _, _ => by simp [bless]
  | a :: s, b :: t, c :: u, h1, h2 => by
    simp only [bless, Bool.or_eq_true, decide_eq_true_eq, Bool.and_eq_true, beq_iff_eq] at *
    rcases h1 with h1 | ⟨rfl, h1⟩ <;> rcases h2 with h2 | ⟨rfl, h2⟩
    · exact .inl (UInt8.lt_trans h1 h2)
    · exact .inl h1
    · exact .inl h2
    · exact .inr ⟨rfl, bless_trans h1 h2⟩
theorem bless_total : ∀ (s t : List UInt8), s ≠ t → bless s t = false → bless t s = true
  | [], [], h, _ => absurd rfl h
  | [], _ :: _, _, h => by simp [bless] at h
  | _ :: _, [], _, _ => by simp [bless]
  | a :: s, b :: t, hne, h => by
    simp only [bless, Bool.or_eq_false_iff, decide_eq_false_iff_not, Bool.and_eq_false_iff, beq_eq_false_iff_ne, Bool.or_eq_true, decide_eq_true_eq, Bool.and_eq_true, beq_iff_eq] at *
    by_cases e : a = b
    · subst e
      exact .inr ⟨rfl, bless_total s t (fun e => hne (by rw [e])) (h.2.resolve_left (fun e => e rfl))⟩
    · exact .inl ((UInt8.lt_or_lt_of_ne e).resolve_left h.1)
theorem bless_asymm {s t : List UInt8} (h : bless s t = true) : bless t s = false := by
  cases h' : bless t s
  · rfl
  · have := bless_trans h h'
    rw [bless_irrefl] at this
    cases this
theorem icmp_flip (x y : Int) : icmp y x = -icmp x y := by unfold icmp; repeat' split <;> omega
theorem icmp_zero (x y : Int) : icmp x y = 0 ↔ x = y := by unfold icmp; repeat' split <;> omega
theorem icmp_range (x y : Int) : -1 ≤ icmp x y ∧ icmp x y ≤ 1 := by unfold icmp; repeat' split <;> omega
theorem icmp_le (x y : Int) : icmp x y ≤ 0 ↔ x ≤ y := by unfold icmp; repeat' split <;> omega
theorem scmp_flip (s t : List UInt8) : scmp t s = -scmp s t := by
  unfold scmp
  by_cases e : s = t
  · simp [e]
  · have e' : t ≠ s := fun h => e h.symm
    rw [if_neg e, if_neg e']
    cases h : bless s t
    · simp [bless_total s t e h]
    · simp [bless_asymm h]
theorem scmp_zero (s t : List UInt8) : scmp s t = 0 ↔ s = t := by
  unfold scmp
  by_cases e : s = t
  · simp [e]
  · rw [if_neg e]; constructor
    · intro h; split at h <;> simp at h
    · intro h; exact absurd h e
theorem scmp_range (s t : List UInt8) : -1 ≤ scmp s t ∧ scmp s t ≤ 1 := by unfold scmp; repeat' split <;> omega
theorem scmp_trans {s t u : List UInt8} (h1 : scmp s t ≤ 0) (h2 : scmp t u ≤ 0) : scmp s u ≤ 0 ∧ (scmp s u = 0 ↔ scmp s t = 0 ∧ scmp t u = 0) := by
  rw [scmp_zero, scmp_zero, scmp_zero]
  by_cases e1 : s = t
  · subst e1; exact ⟨h2, by simp⟩
  · by_cases e2 : t = u
    · subst e2; exact ⟨h1, by simp⟩
    · have b1 : bless s t = true := by
        unfold scmp at h1; rw [if_neg e1] at h1
        cases h : bless s t <;> simp [h] at h1 ⊢
      have b2 : bless t u = true := by
        unfold scmp at h2; rw [if_neg e2] at h2
        cases h : bless t u <;> simp [h] at h2 ⊢
      have b3 := bless_trans b1 b2
      have e3 : s ≠ u := fun e => by subst e; rw [bless_irrefl] at b3; cases b3
      refine ⟨?_, ?_⟩
      · unfold scmp; rw [if_neg e3, if_pos b3]; omega
      · simp [e1, e3]
theorem chk_cases {v : Val} (h : chkV v = 0) : (v.k = 1 ∧ v.d = 0 ∧ v.s = []) ∨ (v.k = 2 ∧ v.s = [] ∧ mayR v.n v.d = true) ∨ (v.k = 3 ∧ v.n = 0 ∧ v.d = 0 ∧ v.s.length ≤ 64) := by
  unfold chkV chk at h
  by_cases k1 : v.k = 1
  · rw [if_pos k1] at h
    split at h
    · rename_i hc; exact .inl ⟨k1, hc⟩
    · simp at h
  · rw [if_neg k1] at h
    by_cases k2 : v.k = 2
    · rw [if_pos k2] at h
      split at h
      · rename_i hc; exact .inr (.inl ⟨k2, hc⟩)
      · simp at h
    · rw [if_neg k2] at h
      by_cases k3 : v.k = 3
      · rw [if_pos k3] at h
        split at h
        · rename_i hc
          split at h
          · rename_i hl; exact .inr (.inr ⟨k3, hc.1, hc.2, hl⟩)
          · simp at h
        · simp at h
      · rw [if_neg k3] at h; simp at h
theorem vcmp_ok {a b : Val} (ha : chkV a = 0) (hb : chkV b = 0) : (a.k ≠ b.k ∧ vcmp a b = icmp a.k b.k) ∨ (a.k = 1 ∧ b.k = 1 ∧ vcmp a b = icmp a.n b.n) ∨
    (a.k = 2 ∧ b.k = 2 ∧ vcmp a b = sg (a.n * b.d - b.n * a.d)) ∨ (a.k = 3 ∧ b.k = 3 ∧ vcmp a b = scmp a.s b.s) := by
  have e0 : vcmp a b = if a.k ≠ b.k then icmp a.k b.k else if a.k = 1 then icmp a.n b.n else if a.k = 2 then cmpR a.n a.d b.n b.d else scmp a.s b.s := by
    unfold vcmp
    rw [if_neg (by simp [ha, hb])]
  rw [e0]
  by_cases e : a.k = b.k
  · right
    rcases chk_cases ha with h | h | h <;> rcases chk_cases hb with g | g | g
    · left; simp [e, g.1]
    · omega
    · omega
    · omega
    · right; left; simp [e, g.1, cmp_sg h.2.2 g.2.2]
    · omega
    · omega
    · omega
    · right; right; simp [e, g.1]
  · left; simp [e]
theorem vcmp_flip {a b : Val} (ha : chkV a = 0) (hb : chkV b = 0) : vcmp b a = -vcmp a b := by
  rcases vcmp_ok ha hb with ⟨h1, h2⟩ | ⟨h1, h3, h2⟩ | ⟨h1, h3, h2⟩ | ⟨h1, h3, h2⟩ <;> rcases vcmp_ok hb ha with ⟨g1, g2⟩ | ⟨g1, g3, g2⟩ | ⟨g1, g3, g2⟩ | ⟨g1, g3, g2⟩ <;> (try omega) <;> rw [h2, g2]
  · exact icmp_flip _ _
  · exact icmp_flip _ _
  · rw [← sg_neg]; congr 1; omega
  · exact scmp_flip _ _
theorem vcmp_zero {a b : Val} (ha : chkV a = 0) (hb : chkV b = 0) : vcmp a b = 0 ↔ a = b := by
  have ca := chk_cases ha
  have cb := chk_cases hb
  have h := vcmp_ok ha hb
  obtain ⟨k, n, d, s⟩ := a
  obtain ⟨k', n', d', s'⟩ := b
  simp only [Val.mk.injEq] at *
  rcases h with ⟨h1, h2⟩ | ⟨h1, h3, h2⟩ | ⟨h1, h3, h2⟩ | ⟨h1, h3, h2⟩ <;> rw [h2]
  · rw [icmp_zero]; simp [h1]
  · rw [icmp_zero]
    have c1 := (ca.resolve_right (by omega)); have c2 := (cb.resolve_right (by omega))
    simp [h1, h3, c1.2.1, c1.2.2, c2.2.1, c2.2.2]
  · rw [sg_zero]
    have c1 := (ca.resolve_left (by omega)).resolve_right (by omega); have c2 := (cb.resolve_left (by omega)).resolve_right (by omega)
    rw [same_law c1.2.2 c2.2.2]
    simp [h1, h3, c1.2.1, c2.2.1]
  · rw [scmp_zero]
    have c1 := (ca.resolve_left (by omega)).resolve_left (by omega); have c2 := (cb.resolve_left (by omega)).resolve_left (by omega)
    simp [h1, h3, c1.2.1, c1.2.2.1, c2.2.1, c2.2.2.1]
theorem vcmp_range {a b : Val} (ha : chkV a = 0) (hb : chkV b = 0) : -1 ≤ vcmp a b ∧ vcmp a b ≤ 1 := by
  rcases vcmp_ok ha hb with ⟨_, h⟩ | ⟨_, _, h⟩ | ⟨_, _, h⟩ | ⟨_, _, h⟩ <;> rw [h]
  · exact icmp_range _ _
  · exact icmp_range _ _
  · exact sg_range _
  · exact scmp_range _ _
theorem vcmp_trans {a b c : Val} (ha : chkV a = 0) (hb : chkV b = 0) (hc : chkV c = 0) (h1 : vcmp a b ≤ 0) (h2 : vcmp b c ≤ 0) : vcmp a c ≤ 0 ∧ (vcmp a c = 0 ↔ vcmp a b = 0 ∧ vcmp b c = 0) := by
  have ca := chk_cases ha
  have cb := chk_cases hb
  have cc := chk_cases hc
  rcases vcmp_ok ha hb with ⟨p1, p2⟩ | ⟨p1, p3, p2⟩ | ⟨p1, p3, p2⟩ | ⟨p1, p3, p2⟩ <;> rcases vcmp_ok hb hc with ⟨q1, q2⟩ | ⟨q1, q3, q2⟩ | ⟨q1, q3, q2⟩ | ⟨q1, q3, q2⟩ <;>
    rcases vcmp_ok ha hc with ⟨r1, r2⟩ | ⟨r1, r3, r2⟩ | ⟨r1, r3, r2⟩ | ⟨r1, r3, r2⟩ <;> (try omega) <;> rw [p2] at h1 ⊢ <;> rw [q2] at h2 ⊢ <;> rw [r2]
  all_goals try (rw [icmp_le] at h1 h2)
  all_goals try (rw [icmp_le] at h1)
  all_goals try (rw [icmp_le] at h2)
  all_goals try omega
  all_goals try (rw [icmp_le, icmp_zero, icmp_zero, icmp_zero]; omega)
  all_goals try (rw [icmp_le, icmp_zero, icmp_zero]; refine ⟨by omega, ⟨fun h => by omega, fun h => by omega⟩⟩)
  · have c1 := (ca.resolve_left (by omega)).resolve_right (by omega); have c2 := (cb.resolve_left (by omega)).resolve_right (by omega); have c3 := (cc.resolve_left (by omega)).resolve_right (by omega)
    rw [sg_le] at h1 h2 ⊢
    rw [sg_zero, sg_zero, sg_zero]
    exact on_law (may_pos c1.2.2) (may_pos c2.2.2) (may_pos c3.2.2) h1 h2
  · exact scmp_trans h1 h2
end Go.Proofs.YtgbmobfjanajaaaDoor.Sx.T
namespace Go.Proofs.YtgbmobfjanajaaaDoor.Sx.T
open Go Go.Proofs.YtgbmobfjanajaaaDoor.Sx
set_option maxRecDepth 100000
set_option maxHeartbeats 8000000
theorem isRow1 (vs : List Val) : IsRow (.lst .tight 4 (vs.map Val.cells)) vs := .inr ⟨.tight, .inr rfl, rfl⟩
theorem row1 (a b : Val) : rowcmp [a] [b] = vcmp a b := by
  simp only [rowcmp]
  split <;> simp_all
theorem row2 (a b c : Val) (h : vcmp c c = 0) : rowcmp [c, a] [c, b] = vcmp a b := by
  rw [rowcmp, if_neg (by simp [h]), row1]
theorem row3 (a b : Val) (h : vcmp a a = 0) : rowcmp [a] [a, b] = -1 := by
  rw [rowcmp, if_neg (by simp [h]), rowcmp]
theorem row4 (a b c : Val) (h : vcmp a b ≠ 0) : rowcmp [a, c] [b] = vcmp a b := by
  rw [rowcmp, if_pos h]
theorem v_ValueOrder (ak an ad : Int) (as : List UInt8) (bk bn bd : Int) (bs : List UInt8) (ck cn cd : Int) (cs : List UInt8) (h1 : I64 ak) (h2 : I64 an) (h3 : I64 ad) (h4 : I64 bk) (h5 : I64 bn) (h6 : I64 bd) (h7 : I64 ck) (h8 : I64 cn) (h9 : I64 cd) (hp : Heap) :
    CL X GV 5 [vA ak an ad as, vA bk bn bd bs, vA ck cn cd cs] hp = some (.bool true, hp) := by
  have oa : Val.ok ⟨ak, an, ad, as⟩ := ⟨h1, h2, h3⟩
  have ob : Val.ok ⟨bk, bn, bd, bs⟩ := ⟨h4, h5, h6⟩
  have oc : Val.ok ⟨ck, cn, cd, cs⟩ := ⟨h7, h8, h9⟩
  have ka := fun hp => v_check ak an ad as h2 h3 hp
  have kb := fun hp => v_check bk bn bd bs h5 h6 hp
  have kc := fun hp => v_check ck cn cd cs h8 h9 hp
  have mab := fun hp => v_cmp _ _ oa ob hp
  have mbc := fun hp => v_cmp _ _ ob oc hp
  have mac := fun hp => v_cmp _ _ oa oc hp
  have mba := fun hp => v_cmp _ _ ob oa hp
  have sab := fun hp => v_same ⟨ak, an, ad, as⟩ ⟨bk, bn, bd, bs⟩ hp
  have r1 := fun hp => v_row [⟨ak, an, ad, as⟩] [⟨bk, bn, bd, bs⟩] _ _ (isRow1 _) (isRow1 _) (by simp [oa]) (by simp [ob]) (by simp) hp
  have r2 := fun hp => v_row [⟨ck, cn, cd, cs⟩, ⟨ak, an, ad, as⟩] [⟨ck, cn, cd, cs⟩, ⟨bk, bn, bd, bs⟩] _ _ (isRow1 _) (isRow1 _) (by simp [oa, oc]) (by simp [ob, oc]) (by simp) hp
  have r3 := fun hp => v_row [⟨ak, an, ad, as⟩] [⟨ak, an, ad, as⟩, ⟨bk, bn, bd, bs⟩] _ _ (isRow1 _) (isRow1 _) (by simp [oa]) (by simp [oa, ob]) (by simp) hp
  have r4 := fun hp => v_row [⟨ak, an, ad, as⟩, ⟨ck, cn, cd, cs⟩] [⟨bk, bn, bd, bs⟩] _ _ (isRow1 _) (isRow1 _) (by simp [oa, oc]) (by simp [ob]) (by simp) hp
  have hl := liveTold
  simp only [Val.av, Val.cells, List.map_cons, List.map_nil, vA] at ka kb kc mab mbc mac mba sab r1 r2 r3 r4 ⊢
  rw [CL_eq (fn := x5) rfl]
  by_cases za : chk ak an ad as = 0
  · by_cases zb : chk bk bn bd bs = 0
    · by_cases zc : chk ck cn cd cs = 0
      · have ca : chkV ⟨ak, an, ad, as⟩ = 0 := za
        have cb : chkV ⟨bk, bn, bd, bs⟩ = 0 := zb
        have cc : chkV ⟨ck, cn, cd, cs⟩ = 0 := zc
        have f1 := vcmp_flip ca cb
        have f2 := vcmp_zero ca cb
        have f3 := vcmp_range ca cb
        have f4 := fun x y => vcmp_trans ca cb cc x y
        have f5 := (vcmp_zero ca ca).2 rfl
        have f6 := (vcmp_zero cc cc).2 rfl
        have g1 := row1 ⟨ak, an, ad, as⟩ ⟨bk, bn, bd, bs⟩
        have g2 := row2 ⟨ak, an, ad, as⟩ ⟨bk, bn, bd, bs⟩ _ f6
        have g3 := row3 ⟨ak, an, ad, as⟩ ⟨bk, bn, bd, bs⟩ f5
        have g4 := row4 ⟨ak, an, ad, as⟩ ⟨bk, bn, bd, bs⟩ ⟨ck, cn, cd, cs⟩
        rw [g1] at r1
        rw [g2] at r2
        rw [g3] at r3
        rw [f1] at mba
        have f2' : (decide ((⟨ak, an, ad, as⟩ : Val) = ⟨bk, bn, bd, bs⟩)) = decide (vcmp ⟨ak, an, ad, as⟩ ⟨bk, bn, bd, bs⟩ = 0) := by simp only [f2]
        rw [f2'] at sab
        generalize vcmp ⟨ak, an, ad, as⟩ ⟨bk, bn, bd, bs⟩ = ab at *
        generalize vcmp ⟨bk, bn, bd, bs⟩ ⟨ck, cn, cd, cs⟩ = bc at *
        generalize vcmp ⟨ak, an, ad, as⟩ ⟨ck, cn, cd, cs⟩ = ac at *
        generalize rowcmp [⟨ak, an, ad, as⟩, ⟨ck, cn, cd, cs⟩] [⟨bk, bn, bd, bs⟩] = rw4 at *
        clear f2 f2' f1 g1 g2 g3 f5 f6
        have w1 : wr .i64 (0 - ab) = -ab := by rw [wr_i64 _ (by omega)]; omega
        have w2 : wr .i64 (-ab) = -ab := wr_i64 _ (by omega)
        by_cases zab : ab = 0
        · subst zab
          simp (config := {contextual := true, maxSteps := 10000000, implicitDefEqProofs := false}) only [x5, go_sem, ↓reduceIte, reduceCtorEq, Nat.reduceEqDiff, Nat.reduceAdd, Nat.reduceLeDiff, Nat.reduceMul, Int.reduceEq, Int.reduceLT, Int.reduceLE, Int.reduceAdd, Int.reduceSub, Int.reduceMul, Int.reduceNeg, Int.reduceToNat, Int.reduceNe, Int.reduceBEq, Int.reduceBNe, Nat.reduceLT, Nat.reduceSub, Nat.reduceDiv, Nat.reduceMod, Int.reduceTDiv, Int.reduceTMod, ka, kb, kc, za, zb, zc, mab, mbc, mac, mba, sab, r1, r2, r3, r4, hl, w1, w2]
          congr 3
          rw [decide_eq_true_eq]
          by_cases hb : 0 < bc
          · exact .inl hb
          · obtain ⟨q1, q2⟩ := f4 (by omega) (by omega)
            refine .inr ⟨q1, ?_⟩
            by_cases e : bc = 0
            · simp [e, q2.2 ⟨rfl, e⟩]
            · have : ac ≠ 0 := fun h => e (q2.1 h).2
              have e1 : (ac == 0) = false := by simpa using this
              have e2 : (bc == 0) = false := by simpa using e
              rw [e1, e2]
        · have g5 := g4 zab
          subst g5
          simp (config := {contextual := true, maxSteps := 10000000, implicitDefEqProofs := false}) only [x5, go_sem, ↓reduceIte, reduceCtorEq, Nat.reduceEqDiff, Nat.reduceAdd, Nat.reduceLeDiff, Nat.reduceMul, Int.reduceEq, Int.reduceLT, Int.reduceLE, Int.reduceAdd, Int.reduceSub, Int.reduceMul, Int.reduceNeg, Int.reduceToNat, Int.reduceNe, Int.reduceBEq, Int.reduceBNe, Nat.reduceLT, Nat.reduceSub, Nat.reduceDiv, Nat.reduceMod, Int.reduceTDiv, Int.reduceTMod, ka, kb, kc, za, zb, zc, mab, mbc, mac, mba, sab, r1, r2, r3, r4, hl, w1, w2, zab]
          congr 3
          rw [Bool.and_eq_true, decide_eq_true_eq, decide_eq_true_eq]
          refine ⟨f3, ?_⟩
          by_cases ha : 0 < rw4
          · exact .inl ha
          · by_cases hb : 0 < bc
            · exact .inr (.inl hb)
            · obtain ⟨q1, q2⟩ := f4 (by omega) (by omega)
              exact .inr (.inr ⟨q1, fun e => zab (q2.1 e).1⟩)
      · simp (config := {contextual := true, maxSteps := 10000000, implicitDefEqProofs := false}) only [x5, go_sem, ↓reduceIte, reduceCtorEq, Nat.reduceEqDiff, Nat.reduceAdd, Nat.reduceLeDiff, Nat.reduceMul, Int.reduceEq, Int.reduceLT, Int.reduceLE, Int.reduceAdd, Int.reduceSub, Int.reduceMul, Int.reduceNeg, Int.reduceToNat, Int.reduceNe, Int.reduceBEq, Int.reduceBNe, Nat.reduceLT, Nat.reduceSub, Nat.reduceDiv, Nat.reduceMod, Int.reduceTDiv, Int.reduceTMod, ka, kb, kc, za, zb, zc, hl]
    · simp (config := {contextual := true, maxSteps := 10000000, implicitDefEqProofs := false}) only [x5, go_sem, ↓reduceIte, reduceCtorEq, Nat.reduceEqDiff, Nat.reduceAdd, Nat.reduceLeDiff, Nat.reduceMul, Int.reduceEq, Int.reduceLT, Int.reduceLE, Int.reduceAdd, Int.reduceSub, Int.reduceMul, Int.reduceNeg, Int.reduceToNat, Int.reduceNe, Int.reduceBEq, Int.reduceBNe, Nat.reduceLT, Nat.reduceSub, Nat.reduceDiv, Nat.reduceMod, Int.reduceTDiv, Int.reduceTMod, ka, kb, kc, za, zb, hl]
  · simp (config := {contextual := true, maxSteps := 10000000, implicitDefEqProofs := false}) only [x5, go_sem, ↓reduceIte, reduceCtorEq, Nat.reduceEqDiff, Nat.reduceAdd, Nat.reduceLeDiff, Nat.reduceMul, Int.reduceEq, Int.reduceLT, Int.reduceLE, Int.reduceAdd, Int.reduceSub, Int.reduceMul, Int.reduceNeg, Int.reduceToNat, Int.reduceNe, Int.reduceBEq, Int.reduceBNe, Nat.reduceLT, Nat.reduceSub, Nat.reduceDiv, Nat.reduceMod, Int.reduceTDiv, Int.reduceTMod, ka, kb, kc, za, hl]
end Go.Proofs.YtgbmobfjanajaaaDoor.Sx.T
namespace Go.Proofs.YtgbmobfjanajaaaDoor.Sx.T
open Go Go.Proofs.YtgbmobfjanajaaaDoor.Sx
set_option maxRecDepth 100000
set_option maxHeartbeats 8000000
def opR (op : Nat) (a b c d : Int) : Int × Int × Int := match op with | 0 => addR a b c d | 1 => subR a b c d | _ => mulR a b c d
def recV (op : Nat) (a b : Val) : Val × Int :=
  if chkV a ≠ 0 then (⟨0, 0, 0, []⟩, chkV a) else if chkV b ≠ 0 then (⟨0, 0, 0, []⟩, chkV b)
  else if a.k ≠ b.k ∨ a.k = 3 then (⟨0, 0, 0, []⟩, 20)
  else if a.k = 1 then (let r := opR op a.n 1 b.n 1; if r.2.2 ≠ 0 then (⟨0, 0, 0, []⟩, r.2.2) else (⟨1, r.1, 0, []⟩, 0))
  else (let r := opR op a.n a.d b.n b.d; if r.2.2 ≠ 0 then (⟨0, 0, 0, []⟩, r.2.2) else (⟨2, r.1, r.2.1, []⟩, 0))
def rv (x : Val × Int) : AV := .tup [x.1.av, .int .i64 x.2]
theorem shut_fn0 (hp : Heap) (lev n f : Nat) : shut hp lev (n + 1) (.fn f [] []) = some (.fn f [] []) := rfl
theorem v_does (hp : Heap) : CL X GV 38 [] hp = some (.agg [.fn 55 [] [], .fn 56 [] [], .fn 57 [] []], hp) := by
  rw [CL_eq (fn := x38) rfl]
  simp (config := {contextual := true, maxSteps := 10000000, implicitDefEqProofs := false}) only [x38, go_sem, ↓reduceIte, reduceCtorEq, Nat.reduceEqDiff, Nat.reduceAdd, Nat.reduceLeDiff, Nat.reduceMul, Int.reduceEq, Int.reduceLT, Int.reduceLE, Int.reduceAdd, Int.reduceSub, Int.reduceMul, Int.reduceNeg, Int.reduceToNat, Int.reduceNe, Int.reduceBEq, Int.reduceBNe, Nat.reduceLT, Nat.reduceSub, Nat.reduceDiv, Nat.reduceMod, Int.reduceTDiv, Int.reduceTMod, shut_fn0, shutDepth]
  done
theorem v_reckon (op : Nat) (hop : op < 3) (a b : Val) (ha : a.ok) (hb : b.ok) (hp : Heap) : CL X GV 22 [.int .i64 op, a.av, b.av] hp = some (rv (recV op a b), hp) := by
  obtain ⟨k, n, d, s⟩ := a
  obtain ⟨k', n', d', s'⟩ := b
  simp only [Val.ok, Val.av, chkV, rv, recV] at *
  have h1 := fun k s => v_check k n d s ha.2.1 ha.2.2
  have h2 := fun k s => v_check k n' d' s hb.2.1 hb.2.2
  have h3 := fun k s => v_frac k n d s
  have h4 := fun k s => v_frac k n' d' s
  have i1 : I64 1 := by unfold I64; omega
  have q1 := r11 n d n' d' ha.2.1 ha.2.2 hb.2.1 hb.2.2
  have q2 := r19 n d n' d' ha.2.1 ha.2.2 hb.2.1 hb.2.2
  have q3 := r22 n d n' d' ha.2.1 ha.2.2 hb.2.1 hb.2.2
  have p1 := r11 n 1 n' 1 ha.2.1 i1 hb.2.1 i1
  have p2 := r19 n 1 n' 1 ha.2.1 i1 hb.2.1 i1
  have p3 := r22 n 1 n' 1 ha.2.1 i1 hb.2.1 i1
  simp only [vA, rt_eq] at h1 h2 h3 h4 q1 q2 q3 p1 p2 p3 ⊢
  rw [CL_eq (fn := x22) rfl]
  by_cases c1 : chk k n d s = 0
  · by_cases c2 : chk k' n' d' s' = 0
    · by_cases e : k = k'
      · subst e
        by_cases k3 : k = 3
        · subst k3
          simp (config := {contextual := true, maxSteps := 10000000, implicitDefEqProofs := false}) only [x22, go_sem, ↓reduceIte, reduceCtorEq, Nat.reduceEqDiff, Nat.reduceAdd, Nat.reduceLeDiff, Nat.reduceMul, Int.reduceEq, Int.reduceLT, Int.reduceLE, Int.reduceAdd, Int.reduceSub, Int.reduceMul, Int.reduceNeg, Int.reduceToNat, Int.reduceNe, Int.reduceBEq, Int.reduceBNe, Nat.reduceLT, Nat.reduceSub, Nat.reduceDiv, Nat.reduceMod, Int.reduceTDiv, Int.reduceTMod, h1, h2, c1, c2]
          simp
        · by_cases k1 : k = 1
          · subst k1
            match op, hop with
            | 0, _ => simp (config := {contextual := true, maxSteps := 10000000, implicitDefEqProofs := false}) only [x22, go_sem, ↓reduceIte, reduceCtorEq, Nat.reduceEqDiff, Nat.reduceAdd, Nat.reduceLeDiff, Nat.reduceMul, Int.reduceEq, Int.reduceLT, Int.reduceLE, Int.reduceAdd, Int.reduceSub, Int.reduceMul, Int.reduceNeg, Int.reduceToNat, Int.reduceNe, Int.reduceBEq, Int.reduceBNe, Nat.reduceLT, Nat.reduceSub, Nat.reduceDiv, Nat.reduceMod, Int.reduceTDiv, Int.reduceTMod, h1, h2, h3, h4, c1, c2, v_does, p1, opR]; (split <;> simp_all)
            | 1, _ => simp (config := {contextual := true, maxSteps := 10000000, implicitDefEqProofs := false}) only [x22, go_sem, ↓reduceIte, reduceCtorEq, Nat.reduceEqDiff, Nat.reduceAdd, Nat.reduceLeDiff, Nat.reduceMul, Int.reduceEq, Int.reduceLT, Int.reduceLE, Int.reduceAdd, Int.reduceSub, Int.reduceMul, Int.reduceNeg, Int.reduceToNat, Int.reduceNe, Int.reduceBEq, Int.reduceBNe, Nat.reduceLT, Nat.reduceSub, Nat.reduceDiv, Nat.reduceMod, Int.reduceTDiv, Int.reduceTMod, h1, h2, h3, h4, c1, c2, v_does, p2, opR]; (split <;> simp_all)
            | 2, _ => simp (config := {contextual := true, maxSteps := 10000000, implicitDefEqProofs := false}) only [x22, go_sem, ↓reduceIte, reduceCtorEq, Nat.reduceEqDiff, Nat.reduceAdd, Nat.reduceLeDiff, Nat.reduceMul, Int.reduceEq, Int.reduceLT, Int.reduceLE, Int.reduceAdd, Int.reduceSub, Int.reduceMul, Int.reduceNeg, Int.reduceToNat, Int.reduceNe, Int.reduceBEq, Int.reduceBNe, Nat.reduceLT, Nat.reduceSub, Nat.reduceDiv, Nat.reduceMod, Int.reduceTDiv, Int.reduceTMod, h1, h2, h3, h4, c1, c2, v_does, p3, opR]; (split <;> simp_all)
          · match op, hop with
            | 0, _ => simp (config := {contextual := true, maxSteps := 10000000, implicitDefEqProofs := false}) only [x22, go_sem, ↓reduceIte, reduceCtorEq, Nat.reduceEqDiff, Nat.reduceAdd, Nat.reduceLeDiff, Nat.reduceMul, Int.reduceEq, Int.reduceLT, Int.reduceLE, Int.reduceAdd, Int.reduceSub, Int.reduceMul, Int.reduceNeg, Int.reduceToNat, Int.reduceNe, Int.reduceBEq, Int.reduceBNe, Nat.reduceLT, Nat.reduceSub, Nat.reduceDiv, Nat.reduceMod, Int.reduceTDiv, Int.reduceTMod, h1, h2, h3, h4, c1, c2, k1, k3, v_does, q1, opR]; (split <;> simp_all)
            | 1, _ => simp (config := {contextual := true, maxSteps := 10000000, implicitDefEqProofs := false}) only [x22, go_sem, ↓reduceIte, reduceCtorEq, Nat.reduceEqDiff, Nat.reduceAdd, Nat.reduceLeDiff, Nat.reduceMul, Int.reduceEq, Int.reduceLT, Int.reduceLE, Int.reduceAdd, Int.reduceSub, Int.reduceMul, Int.reduceNeg, Int.reduceToNat, Int.reduceNe, Int.reduceBEq, Int.reduceBNe, Nat.reduceLT, Nat.reduceSub, Nat.reduceDiv, Nat.reduceMod, Int.reduceTDiv, Int.reduceTMod, h1, h2, h3, h4, c1, c2, k1, k3, v_does, q2, opR]; (split <;> simp_all)
            | 2, _ => simp (config := {contextual := true, maxSteps := 10000000, implicitDefEqProofs := false}) only [x22, go_sem, ↓reduceIte, reduceCtorEq, Nat.reduceEqDiff, Nat.reduceAdd, Nat.reduceLeDiff, Nat.reduceMul, Int.reduceEq, Int.reduceLT, Int.reduceLE, Int.reduceAdd, Int.reduceSub, Int.reduceMul, Int.reduceNeg, Int.reduceToNat, Int.reduceNe, Int.reduceBEq, Int.reduceBNe, Nat.reduceLT, Nat.reduceSub, Nat.reduceDiv, Nat.reduceMod, Int.reduceTDiv, Int.reduceTMod, h1, h2, h3, h4, c1, c2, k1, k3, v_does, q3, opR]; (split <;> simp_all)
      · simp (config := {contextual := true, maxSteps := 10000000, implicitDefEqProofs := false}) only [x22, go_sem, ↓reduceIte, reduceCtorEq, Nat.reduceEqDiff, Nat.reduceAdd, Nat.reduceLeDiff, Nat.reduceMul, Int.reduceEq, Int.reduceLT, Int.reduceLE, Int.reduceAdd, Int.reduceSub, Int.reduceMul, Int.reduceNeg, Int.reduceToNat, Int.reduceNe, Int.reduceBEq, Int.reduceBNe, Nat.reduceLT, Nat.reduceSub, Nat.reduceDiv, Nat.reduceMod, Int.reduceTDiv, Int.reduceTMod, h1, h2, c1, c2, e]
        all_goals simp [e]
    · simp (config := {contextual := true, maxSteps := 10000000, implicitDefEqProofs := false}) only [x22, go_sem, ↓reduceIte, reduceCtorEq, Nat.reduceEqDiff, Nat.reduceAdd, Nat.reduceLeDiff, Nat.reduceMul, Int.reduceEq, Int.reduceLT, Int.reduceLE, Int.reduceAdd, Int.reduceSub, Int.reduceMul, Int.reduceNeg, Int.reduceToNat, Int.reduceNe, Int.reduceBEq, Int.reduceBNe, Nat.reduceLT, Nat.reduceSub, Nat.reduceDiv, Nat.reduceMod, Int.reduceTDiv, Int.reduceTMod, h1, h2, c1, c2]
      all_goals simp [c2]
  · simp (config := {contextual := true, maxSteps := 10000000, implicitDefEqProofs := false}) only [x22, go_sem, ↓reduceIte, reduceCtorEq, Nat.reduceEqDiff, Nat.reduceAdd, Nat.reduceLeDiff, Nat.reduceMul, Int.reduceEq, Int.reduceLT, Int.reduceLE, Int.reduceAdd, Int.reduceSub, Int.reduceMul, Int.reduceNeg, Int.reduceToNat, Int.reduceNe, Int.reduceBEq, Int.reduceBNe, Nat.reduceLT, Nat.reduceSub, Nat.reduceDiv, Nat.reduceMod, Int.reduceTDiv, Int.reduceTMod, h1, h2, c1]
    all_goals simp [c1]
end Go.Proofs.YtgbmobfjanajaaaDoor.Sx.T
namespace Go.Proofs.YtgbmobfjanajaaaDoor.Sx.T
open Go Go.Proofs.YtgbmobfjanajaaaDoor.Sx
set_option maxRecDepth 100000
set_option maxHeartbeats 8000000
theorem v_add (a b : Val) (ha : a.ok) (hb : b.ok) (hp : Heap) : CL X GV 8 [a.av, b.av] hp = some (rv (recV 0 a b), hp) := by
  have h := v_reckon 0 (by omega) a b ha hb
  generalize recV 0 a b = r at h ⊢
  obtain ⟨⟨k, n, d, s⟩, e⟩ := r
  simp only [Val.av, vA, rv, Int.natCast_zero] at h ⊢
  rw [CL_eq (fn := x8) rfl]
  simp (config := {contextual := true, maxSteps := 10000000, implicitDefEqProofs := false}) only [x8, go_sem, ↓reduceIte, reduceCtorEq, Nat.reduceEqDiff, Nat.reduceAdd, Nat.reduceLeDiff, Nat.reduceMul, Int.reduceEq, Int.reduceLT, Int.reduceLE, Int.reduceAdd, Int.reduceSub, Int.reduceMul, Int.reduceNeg, Int.reduceToNat, Int.reduceNe, Int.reduceBEq, Int.reduceBNe, Nat.reduceLT, Nat.reduceSub, Nat.reduceDiv, Nat.reduceMod, Int.reduceTDiv, Int.reduceTMod, h]
theorem v_sub (a b : Val) (ha : a.ok) (hb : b.ok) (hp : Heap) : CL X GV 20 [a.av, b.av] hp = some (rv (recV 1 a b), hp) := by
  have h := v_reckon 1 (by omega) a b ha hb
  generalize recV 1 a b = r at h ⊢
  obtain ⟨⟨k, n, d, s⟩, e⟩ := r
  simp only [Val.av, vA, rv, Int.natCast_one] at h ⊢
  rw [CL_eq (fn := x20) rfl]
  simp (config := {contextual := true, maxSteps := 10000000, implicitDefEqProofs := false}) only [x20, go_sem, ↓reduceIte, reduceCtorEq, Nat.reduceEqDiff, Nat.reduceAdd, Nat.reduceLeDiff, Nat.reduceMul, Int.reduceEq, Int.reduceLT, Int.reduceLE, Int.reduceAdd, Int.reduceSub, Int.reduceMul, Int.reduceNeg, Int.reduceToNat, Int.reduceNe, Int.reduceBEq, Int.reduceBNe, Nat.reduceLT, Nat.reduceSub, Nat.reduceDiv, Nat.reduceMod, Int.reduceTDiv, Int.reduceTMod, h]
theorem v_mul (a b : Val) (ha : a.ok) (hb : b.ok) (hp : Heap) : CL X GV 21 [a.av, b.av] hp = some (rv (recV 2 a b), hp) := by
  have h := v_reckon 2 (by omega) a b ha hb
  generalize recV 2 a b = r at h ⊢
  obtain ⟨⟨k, n, d, s⟩, e⟩ := r
  simp only [Val.av, vA, rv, show ((2 : Nat) : Int) = 2 from rfl] at h ⊢
  rw [CL_eq (fn := x21) rfl]
  simp (config := {contextual := true, maxSteps := 10000000, implicitDefEqProofs := false}) only [x21, go_sem, ↓reduceIte, reduceCtorEq, Nat.reduceEqDiff, Nat.reduceAdd, Nat.reduceLeDiff, Nat.reduceMul, Int.reduceEq, Int.reduceLT, Int.reduceLE, Int.reduceAdd, Int.reduceSub, Int.reduceMul, Int.reduceNeg, Int.reduceToNat, Int.reduceNe, Int.reduceBEq, Int.reduceBNe, Nat.reduceLT, Nat.reduceSub, Nat.reduceDiv, Nat.reduceMod, Int.reduceTDiv, Int.reduceTMod, h]
theorem v_whole (n : Int) (hp : Heap) : CL X GV 9 [.int .i64 n] hp = some (vA 1 n 0 [], hp) := by
  rw [CL_eq (fn := x9) rfl]
  simp (config := {contextual := true, maxSteps := 10000000, implicitDefEqProofs := false}) only [x9, go_sem, ↓reduceIte, reduceCtorEq, Nat.reduceEqDiff, Nat.reduceAdd, Nat.reduceLeDiff, Nat.reduceMul, Int.reduceEq, Int.reduceLT, Int.reduceLE, Int.reduceAdd, Int.reduceSub, Int.reduceMul, Int.reduceNeg, Int.reduceToNat, Int.reduceNe, Int.reduceBEq, Int.reduceBNe, Nat.reduceLT, Nat.reduceSub, Nat.reduceDiv, Nat.reduceMod, Int.reduceTDiv, Int.reduceTMod, vA]
theorem v_part (n d : Int) (hp : Heap) : CL X GV 12 [.int .i64 n, .int .i64 d] hp = some (vA 2 n d [], hp) := by
  rw [CL_eq (fn := x12) rfl]
  simp (config := {contextual := true, maxSteps := 10000000, implicitDefEqProofs := false}) only [x12, go_sem, ↓reduceIte, reduceCtorEq, Nat.reduceEqDiff, Nat.reduceAdd, Nat.reduceLeDiff, Nat.reduceMul, Int.reduceEq, Int.reduceLT, Int.reduceLE, Int.reduceAdd, Int.reduceSub, Int.reduceMul, Int.reduceNeg, Int.reduceToNat, Int.reduceNe, Int.reduceBEq, Int.reduceBNe, Nat.reduceLT, Nat.reduceSub, Nat.reduceDiv, Nat.reduceMod, Int.reduceTDiv, Int.reduceTMod, vA]
theorem may_one (n : Int) : mayR n 1 = true := by simp [mayR]
theorem frc_one (T : Int) : (frc T 1).2.2 ≠ 0 ∨ (frc T 1).2.1 = 1 := by
  unfold frc mk
  simp only [Nat.gcd_one_right, Nat.div_one]
  split
  · left; simp
  · right; split <;> rfl
theorem opR_one (op : Nat) (n m : Int) : (opR op n 1 m 1).2.2 ≠ 0 ∨ (opR op n 1 m 1).2.1 = 1 := by
  have hb : both n 1 m 1 = true := by simp [both, may_one]
  match op with
  | 0 => simp only [opR, addR]; rw [if_pos hb]; exact frc_one _
  | 1 => simp only [opR, subR]; rw [if_pos hb]; exact frc_one _
  | op + 2 => simp only [opR, mulR]; rw [if_pos hb]; exact frc_one _
theorem whole_part (op : Nat) (n m : Int) : ∃ ka kb N da db e, recV op ⟨1, n, 0, []⟩ ⟨1, m, 0, []⟩ = (⟨ka, N, da, []⟩, e) ∧ recV op ⟨2, n, 1, []⟩ ⟨2, m, 1, []⟩ = (⟨kb, N, db, []⟩, e) ∧ (e ≠ 0 ∨ db = 1) := by
  have c1 : ∀ x, chkV ⟨1, x, 0, []⟩ = 0 := fun x => by simp [chkV, chk]
  have c2 : ∀ x, chkV ⟨2, x, 1, []⟩ = 0 := fun x => by simp [chkV, chk, may_one]
  have h := opR_one op n m
  simp only [recV, c1, c2]
  simp only [ne_eq, not_true_eq_false, if_false, Int.reduceEq, or_self, if_true]
  by_cases e : (opR op n 1 m 1).2.2 = 0
  · rw [if_neg (by simp [e]), if_neg (by simp [e])]
    exact ⟨_, _, _, _, _, _, rfl, rfl, .inr (h.resolve_left (by simp [e]))⟩
  · rw [if_pos e, if_pos e]
    exact ⟨_, _, _, _, _, _, rfl, rfl, .inl e⟩
theorem v_ValueWhole (n m : Int) (hn : I64 n) (hm : I64 m) (hp : Heap) : CL X GV 7 [.int .i64 n, .int .i64 m] hp = some (.bool true, hp) := by
  have i0 : I64 0 := by unfold I64; omega
  have i1 : I64 1 := by unfold I64; omega
  have i2 : I64 2 := by unfold I64; omega
  have ow : ∀ x, I64 x → Val.ok ⟨1, x, 0, []⟩ := fun x h => ⟨i1, h, i0⟩
  have op : ∀ x, I64 x → Val.ok ⟨2, x, 1, []⟩ := fun x h => ⟨i2, h, i1⟩
  have a1 := v_add _ _ (ow n hn) (ow m hm)
  have a2 := v_add _ _ (op n hn) (op m hm)
  have s1 := v_sub _ _ (ow n hn) (ow m hm)
  have s2 := v_sub _ _ (op n hn) (op m hm)
  have m1 := v_mul _ _ (ow n hn) (ow m hm)
  have m2 := v_mul _ _ (op n hn) (op m hm)
  have q1 := v_cmp _ _ (ow n hn) (ow m hm)
  have q2 := v_cmp _ _ (op n hn) (op m hm)
  have c1 : ∀ x, chkV ⟨1, x, 0, []⟩ = 0 := fun x => by simp [chkV, chk]
  have c2 : ∀ x, chkV ⟨2, x, 1, []⟩ = 0 := fun x => by simp [chkV, chk, may_one]
  have e1 : vcmp ⟨1, n, 0, []⟩ ⟨1, m, 0, []⟩ = icmp n m := by simp [vcmp, c1]
  have e2 : vcmp ⟨2, n, 1, []⟩ ⟨2, m, 1, []⟩ = icmp n m := by simp [vcmp, c2, cmpR, both, may_one, icmp]
  obtain ⟨ka, kb, N, da, db, e, w1, w2, w3⟩ := whole_part 0 n m
  obtain ⟨kc, kd, M, dc, dd, f, x1, x2, x3⟩ := whole_part 1 n m
  obtain ⟨ke, kf, K, de, df, g, y1, y2, y3⟩ := whole_part 2 n m
  rw [w1] at a1; rw [w2] at a2; rw [x1] at s1; rw [x2] at s2; rw [y1] at m1; rw [y2] at m2
  rw [e1] at q1; rw [e2] at q2
  have hl := liveTold
  have hw := v_whole
  have hpt := v_part
  simp only [Val.av, vA, rv] at a1 a2 s1 s2 m1 m2 q1 q2 hw hpt
  rw [CL_eq (fn := x7) rfl]
  simp (config := {contextual := true, maxSteps := 10000000, implicitDefEqProofs := false}) only [x7, go_sem, ↓reduceIte, reduceCtorEq, Nat.reduceEqDiff, Nat.reduceAdd, Nat.reduceLeDiff, Nat.reduceMul, Int.reduceEq, Int.reduceLT, Int.reduceLE, Int.reduceAdd, Int.reduceSub, Int.reduceMul, Int.reduceNeg, Int.reduceToNat, Int.reduceNe, Int.reduceBEq, Int.reduceBNe, Nat.reduceLT, Nat.reduceSub, Nat.reduceDiv, Nat.reduceMod, Int.reduceTDiv, Int.reduceTMod, hw, hpt, a1, a2, s1, s2, m1, m2, q1, q2, hl]
  rcases w3 with w3 | rfl <;> rcases x3 with x3 | rfl <;> rcases y3 with y3 | rfl <;> simp [*]
end Go.Proofs.YtgbmobfjanajaaaDoor.Sx.T
