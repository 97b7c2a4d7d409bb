/- Layer 2, part 1: checks and orders of values. -/
import Derived.Test.YtgbmobfjanajaaaGreatDoorR
import Derived.Test.YtgbmobfjanajaaaGreatDoorTold
set_option linter.unusedVariables false
set_option linter.unusedSimpArgs false
namespace Go.Proofs.YtgbmobfjanajaaaGreatDoor.Sx.T
open Go Go.Proofs.YtgbmobfjanajaaaGreatDoor.Sx
set_option maxRecDepth 100000
set_option maxHeartbeats 4000000
/-- A value's form. -/
def vA (k n d : Int) (s : List UInt8) : AV := .agg [.int .i64 k, .int .i64 n, .int .i64 d, .str s]
/-- Why a value may not be. -/
def chk (k n d : Int) (s : List UInt8) : Int :=
  if k = 1 then (if d = 0 ∧ s = [] then 0 else 20) else if k = 2 then (if s = [] ∧ mayR n d = true then 0 else 20) else if k = 3 then (if n = 0 ∧ d = 0 then (if s.length ≤ 64 then 0 else 2) else 20) else 20
theorem v_frac (k n d : Int) (s : List UInt8) (hp : Heap) : CL X GV 35 [vA k n d s] hp = some (.agg [.int .i64 n, .int .i64 d], hp) := by
  rw [CL_eq (fn := x35) rfl]
  simp (config := {contextual := true, maxSteps := 10000000, implicitDefEqProofs := false}) only [x35, vA, go_sem, ↓reduceIte, reduceCtorEq, Nat.reduceEqDiff, Nat.reduceAdd, Nat.reduceLeDiff, Nat.reduceMul, Int.reduceEq, Int.reduceLT, Int.reduceLE, Int.reduceAdd, Int.reduceSub, Int.reduceMul, Int.reduceNeg, Int.reduceToNat, Int.reduceNe, Int.reduceBEq, Int.reduceBNe, Nat.reduceLT, Nat.reduceSub, Nat.reduceDiv, Nat.reduceMod, Int.reduceTDiv, Int.reduceTMod]
theorem v_rfrac (k n d : Int) (s : List UInt8) (hp : Heap) : CL X GV 26 [vA k n d s] hp = some (.agg [.int .i64 n, .int .i64 d], hp) := by
  rw [CL_eq (fn := x26) rfl]
  simp (config := {contextual := true, maxSteps := 10000000, implicitDefEqProofs := false}) only [x26, vA, go_sem, ↓reduceIte, reduceCtorEq, Nat.reduceEqDiff, Nat.reduceAdd, Nat.reduceLeDiff, Nat.reduceMul, Int.reduceEq, Int.reduceLT, Int.reduceLE, Int.reduceAdd, Int.reduceSub, Int.reduceMul, Int.reduceNeg, Int.reduceToNat, Int.reduceNe, Int.reduceBEq, Int.reduceBNe, Nat.reduceLT, Nat.reduceSub, Nat.reduceDiv, Nat.reduceMod, Int.reduceTDiv, Int.reduceTMod]
theorem may_eq' (n d : Int) (hn : I64 n) (hd : I64 d) : ((ofR n d).2.2 = 0 ∧ (ofR n d).1 = n ∧ (ofR n d).2.1 = d) ↔ mayR n d = true := by
  by_cases h : 0 < d
  · have := may_eq n d hn hd h
    rw [← this]
    simp
  · have hm : mayR n d = false := by simp [mayR, h]
    rw [hm]
    constructor
    · rintro ⟨h1, _, h3⟩
      exfalso
      unfold ofR at h1 h3
      by_cases h0 : d = 0
      · rw [if_pos h0] at h1; simp at h1
      · rw [if_neg h0] at h3 h1
        unfold frc mk at h3 h1
        generalize d.natAbs / Nat.gcd (n * d.sign).natAbs d.natAbs = q at h3 h1
        generalize (n * d.sign).natAbs / Nat.gcd (n * d.sign).natAbs d.natAbs = p at h3 h1
        simp only at h3 h1
        split at h3
        · rename_i hc; rw [if_pos hc] at h1; simp at h1
        · split at h3 <;> simp at h3 <;> omega
    · intro h; cases h
theorem v_check (k n d : Int) (s : List UInt8) (hn : I64 n) (hd : I64 d) (hp : Heap) : CL X GV 31 [vA k n d s] hp = some (.int .i64 (chk k n d s), hp) := by
  have h1 := r10 n d hn hd
  have h2 := fun s => v_frac 2 n d s
  have h3 := may_eq' n d hn hd
  simp only [rt_eq, vA] at h1 h2
  rw [CL_eq (fn := x31) rfl]
  by_cases k1 : k = 1
  · subst k1
    simp (config := {contextual := true, maxSteps := 10000000, implicitDefEqProofs := false}) only [x31, vA, chk, go_sem, ↓reduceIte, reduceCtorEq, Nat.reduceEqDiff, Nat.reduceAdd, Nat.reduceLeDiff, Nat.reduceMul, Int.reduceEq, Int.reduceLT, Int.reduceLE, Int.reduceAdd, Int.reduceSub, Int.reduceMul, Int.reduceNeg, Int.reduceToNat, Int.reduceNe, Int.reduceBEq, Int.reduceBNe, Nat.reduceLT, Nat.reduceSub, Nat.reduceDiv, Nat.reduceMod, Int.reduceTDiv, Int.reduceTMod, h1, h2]
    by_cases hd0 : d = 0 <;> by_cases hs : s = [] <;> simp [hd0, hs]
  · by_cases k2 : k = 2
    · subst k2
      simp (config := {contextual := true, maxSteps := 10000000, implicitDefEqProofs := false}) only [x31, vA, chk, go_sem, ↓reduceIte, reduceCtorEq, Nat.reduceEqDiff, Nat.reduceAdd, Nat.reduceLeDiff, Nat.reduceMul, Int.reduceEq, Int.reduceLT, Int.reduceLE, Int.reduceAdd, Int.reduceSub, Int.reduceMul, Int.reduceNeg, Int.reduceToNat, Int.reduceNe, Int.reduceBEq, Int.reduceBNe, Nat.reduceLT, Nat.reduceSub, Nat.reduceDiv, Nat.reduceMod, Int.reduceTDiv, Int.reduceTMod, h1, h2]
      by_cases hs : s = []
      · subst hs
        by_cases hm : mayR n d = true
        · obtain ⟨e1, e2, e3⟩ := h3.2 hm
          simp [e1, e2, e3, hm]
        · have hx : ¬ ((ofR n d).2.2 = 0 ∧ (ofR n d).1 = n ∧ (ofR n d).2.1 = d) := fun e => hm (h3.1 e)
          by_cases e1 : (ofR n d).2.2 = 0 <;> by_cases e2 : (ofR n d).1 = n <;> by_cases e3 : (ofR n d).2.1 = d <;> simp_all
      · simp [hs]
    · simp (config := {contextual := true, maxSteps := 10000000, implicitDefEqProofs := false}) only [x31, vA, chk, go_sem, ↓reduceIte, reduceCtorEq, Nat.reduceEqDiff, Nat.reduceAdd, Nat.reduceLeDiff, Nat.reduceMul, Int.reduceEq, Int.reduceLT, Int.reduceLE, Int.reduceAdd, Int.reduceSub, Int.reduceMul, Int.reduceNeg, Int.reduceToNat, Int.reduceNe, Int.reduceBEq, Int.reduceBNe, Nat.reduceLT, Nat.reduceSub, Nat.reduceDiv, Nat.reduceMod, Int.reduceTDiv, Int.reduceTMod, h1, h2, k1, k2]
      by_cases k3 : k = 3 <;> by_cases hn0 : n = 0 <;> by_cases hd0 : d = 0 <;> by_cases hl : s.length ≤ 64 <;> simp [k3, hn0, hd0, hl] <;> omega
theorem v_rcheck (k n d : Int) (s : List UInt8) (hn : I64 n) (hd : I64 d) (hp : Heap) : CL X GV 24 [vA k n d s] hp = some (.int .i64 (chk k n d s), hp) := by
  have h1 := r33 n d hn hd
  have h2 := fun s => v_rfrac 2 n d s
  simp only [vA] at h1 h2
  rw [CL_eq (fn := x24) rfl]
  by_cases k1 : k = 1
  · subst k1
    simp (config := {contextual := true, maxSteps := 10000000, implicitDefEqProofs := false}) only [x24, vA, chk, go_sem, ↓reduceIte, reduceCtorEq, Nat.reduceEqDiff, Nat.reduceAdd, Nat.reduceLeDiff, Nat.reduceMul, Int.reduceEq, Int.reduceLT, Int.reduceLE, Int.reduceAdd, Int.reduceSub, Int.reduceMul, Int.reduceNeg, Int.reduceToNat, Int.reduceNe, Int.reduceBEq, Int.reduceBNe, Nat.reduceLT, Nat.reduceSub, Nat.reduceDiv, Nat.reduceMod, Int.reduceTDiv, Int.reduceTMod, h1, h2]
    by_cases hd0 : d = 0 <;> by_cases hs : s = [] <;> simp [hd0, hs]
  · by_cases k2 : k = 2
    · subst k2
      simp (config := {contextual := true, maxSteps := 10000000, implicitDefEqProofs := false}) only [x24, vA, chk, go_sem, ↓reduceIte, reduceCtorEq, Nat.reduceEqDiff, Nat.reduceAdd, Nat.reduceLeDiff, Nat.reduceMul, Int.reduceEq, Int.reduceLT, Int.reduceLE, Int.reduceAdd, Int.reduceSub, Int.reduceMul, Int.reduceNeg, Int.reduceToNat, Int.reduceNe, Int.reduceBEq, Int.reduceBNe, Nat.reduceLT, Nat.reduceSub, Nat.reduceDiv, Nat.reduceMod, Int.reduceTDiv, Int.reduceTMod, h1, h2]
      by_cases hs : s = [] <;> by_cases hm : mayR n d = true <;> simp [hs, hm]
    · simp (config := {contextual := true, maxSteps := 10000000, implicitDefEqProofs := false}) only [x24, vA, chk, go_sem, ↓reduceIte, reduceCtorEq, Nat.reduceEqDiff, Nat.reduceAdd, Nat.reduceLeDiff, Nat.reduceMul, Int.reduceEq, Int.reduceLT, Int.reduceLE, Int.reduceAdd, Int.reduceSub, Int.reduceMul, Int.reduceNeg, Int.reduceToNat, Int.reduceNe, Int.reduceBEq, Int.reduceBNe, Nat.reduceLT, Nat.reduceSub, Nat.reduceDiv, Nat.reduceMod, Int.reduceTDiv, Int.reduceTMod, h1, h2, k1, k2]
      by_cases k3 : k = 3 <;> by_cases hn0 : n = 0 <;> by_cases hd0 : d = 0 <;> by_cases hl : s.length ≤ 64 <;> simp [k3, hn0, hd0, hl] <;> omega
end Go.Proofs.YtgbmobfjanajaaaGreatDoor.Sx.T
namespace Go.Proofs.YtgbmobfjanajaaaGreatDoor.Sx.T
open Go Go.Proofs.YtgbmobfjanajaaaGreatDoor.Sx
set_option maxRecDepth 100000
set_option maxHeartbeats 4000000
structure Val where
  k : Int
  n : Int
  d : Int
  s : List UInt8
  deriving DecidableEq, Inhabited
def Val.cells (v : Val) : List AV := [.int .i64 v.k, .int .i64 v.n, .int .i64 v.d, .str v.s]
def Val.av (v : Val) : AV := vA v.k v.n v.d v.s
def Val.ok (v : Val) : Prop := I64 v.k ∧ I64 v.n ∧ I64 v.d
def chkV (v : Val) : Int := chk v.k v.n v.d v.s
def icmp (x y : Int) : Int := if x < y then -1 else if y < x then 1 else 0
def scmp (s t : List UInt8) : Int := if s = t then 0 else if bless s t = true then -1 else 1
def vcmp (a b : Val) : Int :=
  if chkV a ≠ 0 ∨ chkV b ≠ 0 then 0 else if a.k ≠ b.k then icmp a.k b.k else if a.k = 1 then icmp a.n b.n else if a.k = 2 then cmpR a.n a.d b.n b.d else scmp a.s b.s
theorem v_nan (x : Int) (hp : Heap) : CL X GV 57 [.int .i64 x] hp = some (.bool false, hp) := by
  rw [CL_eq (fn := x57) rfl]
  simp (config := {contextual := true, maxSteps := 10000000, implicitDefEqProofs := false}) only [x57, go_sem, ↓reduceIte, reduceCtorEq, Nat.reduceEqDiff, Nat.reduceAdd, Nat.reduceLeDiff, Nat.reduceMul, Int.reduceEq, Int.reduceLT, Int.reduceLE, Int.reduceAdd, Int.reduceSub, Int.reduceMul, Int.reduceNeg, Int.reduceToNat, Int.reduceNe, Int.reduceBEq, Int.reduceBNe, Nat.reduceLT, Nat.reduceSub, Nat.reduceDiv, Nat.reduceMod, Int.reduceTDiv, Int.reduceTMod]
  simp
theorem v_nan64 (x : Int) (hp : Heap) : CL X GV 58 [.int .i64 x] hp = some (.bool false, hp) := by
  rw [CL_eq (fn := x58) rfl]
  simp (config := {contextual := true, maxSteps := 10000000, implicitDefEqProofs := false}) only [x58, go_sem, ↓reduceIte, reduceCtorEq, Nat.reduceEqDiff, Nat.reduceAdd, Nat.reduceLeDiff, Nat.reduceMul, Int.reduceEq, Int.reduceLT, Int.reduceLE, Int.reduceAdd, Int.reduceSub, Int.reduceMul, Int.reduceNeg, Int.reduceToNat, Int.reduceNe, Int.reduceBEq, Int.reduceBNe, Nat.reduceLT, Nat.reduceSub, Nat.reduceDiv, Nat.reduceMod, Int.reduceTDiv, Int.reduceTMod]
  simp
theorem v_icmp (x y : Int) (hp : Heap) : CL X GV 32 [.int .i64 x, .int .i64 y] hp = some (.int .i64 (icmp x y), hp) := by
  rw [CL_eq (fn := x32) rfl]
  simp (config := {contextual := true, maxSteps := 10000000, implicitDefEqProofs := false}) only [x32, go_sem, ↓reduceIte, reduceCtorEq, Nat.reduceEqDiff, Nat.reduceAdd, Nat.reduceLeDiff, Nat.reduceMul, Int.reduceEq, Int.reduceLT, Int.reduceLE, Int.reduceAdd, Int.reduceSub, Int.reduceMul, Int.reduceNeg, Int.reduceToNat, Int.reduceNe, Int.reduceBEq, Int.reduceBNe, Nat.reduceLT, Nat.reduceSub, Nat.reduceDiv, Nat.reduceMod, Int.reduceTDiv, Int.reduceTMod, v_nan, icmp]
  repeat' split
  all_goals rfl
theorem v_icmp64 (x y : Int) (hp : Heap) : CL X GV 33 [.int .i64 x, .int .i64 y] hp = some (.int .i64 (icmp x y), hp) := by
  rw [CL_eq (fn := x33) rfl]
  simp (config := {contextual := true, maxSteps := 10000000, implicitDefEqProofs := false}) only [x33, go_sem, ↓reduceIte, reduceCtorEq, Nat.reduceEqDiff, Nat.reduceAdd, Nat.reduceLeDiff, Nat.reduceMul, Int.reduceEq, Int.reduceLT, Int.reduceLE, Int.reduceAdd, Int.reduceSub, Int.reduceMul, Int.reduceNeg, Int.reduceToNat, Int.reduceNe, Int.reduceBEq, Int.reduceBNe, Nat.reduceLT, Nat.reduceSub, Nat.reduceDiv, Nat.reduceMod, Int.reduceTDiv, Int.reduceTMod, v_nan64, icmp]
  repeat' split
  all_goals rfl
theorem primX_cmp (s t : List UInt8) : primX 3 [.str s, .str t] = some (.int .i64 (scmp s t)) := by
  simp only [primX, scmp]
  congr 2
  by_cases h : s = t <;> simp [h]
theorem v_bcmp (s t : List UInt8) (hp : Heap) : CL X GV 62 [.str s, .str t] hp = some (.int .i64 (scmp s t), hp) := by
  rw [CL_eq (fn := x62) rfl]
  simp (config := {contextual := true, maxSteps := 10000000, implicitDefEqProofs := false}) only [x62, go_sem, ↓reduceIte, reduceCtorEq, Nat.reduceEqDiff, Nat.reduceAdd, Nat.reduceLeDiff, Nat.reduceMul, Int.reduceEq, Int.reduceLT, Int.reduceLE, Int.reduceAdd, Int.reduceSub, Int.reduceMul, Int.reduceNeg, Int.reduceToNat, Int.reduceNe, Int.reduceBEq, Int.reduceBNe, Nat.reduceLT, Nat.reduceSub, Nat.reduceDiv, Nat.reduceMod, Int.reduceTDiv, Int.reduceTMod, primX_cmp]
theorem v_scmp (s t : List UInt8) (hp : Heap) : CL X GV 36 [.str s, .str t] hp = some (.int .i64 (scmp s t), hp) := by
  rw [CL_eq (fn := x36) rfl]
  simp (config := {contextual := true, maxSteps := 10000000, implicitDefEqProofs := false}) only [x36, go_sem, ↓reduceIte, reduceCtorEq, Nat.reduceEqDiff, Nat.reduceAdd, Nat.reduceLeDiff, Nat.reduceMul, Int.reduceEq, Int.reduceLT, Int.reduceLE, Int.reduceAdd, Int.reduceSub, Int.reduceMul, Int.reduceNeg, Int.reduceToNat, Int.reduceNe, Int.reduceBEq, Int.reduceBNe, Nat.reduceLT, Nat.reduceSub, Nat.reduceDiv, Nat.reduceMod, Int.reduceTDiv, Int.reduceTMod, v_bcmp]
theorem v_cmp (a b : Val) (ha : a.ok) (hb : b.ok) (hp : Heap) : CL X GV 11 [a.av, b.av] hp = some (.int .i64 (vcmp a b), hp) := by
  obtain ⟨k, n, d, s⟩ := a
  obtain ⟨k', n', d', s'⟩ := b
  simp only [Val.ok, Val.av, vcmp, chkV] at *
  have h1 := fun k s => v_check k n d s ha.2.1 ha.2.2
  have h2 := fun k s => v_check k n' d' s hb.2.1 hb.2.2
  have h3 := fun k s => v_frac k n d s
  have h4 := fun k s => v_frac k n' d' s
  have h5 := r17 n d n' d' ha.2.1 ha.2.2 hb.2.1 hb.2.2
  simp only [vA] at h1 h2 h3 h4 ⊢
  rw [CL_eq (fn := x11) rfl]
  by_cases c1 : chk k n d s = 0
  · by_cases c2 : chk k' n' d' s' = 0
    · by_cases e : k = k'
      · subst e
        simp (config := {contextual := true, maxSteps := 10000000, implicitDefEqProofs := false}) only [x11, go_sem, ↓reduceIte, reduceCtorEq, Nat.reduceEqDiff, Nat.reduceAdd, Nat.reduceLeDiff, Nat.reduceMul, Int.reduceEq, Int.reduceLT, Int.reduceLE, Int.reduceAdd, Int.reduceSub, Int.reduceMul, Int.reduceNeg, Int.reduceToNat, Int.reduceNe, Int.reduceBEq, Int.reduceBNe, Nat.reduceLT, Nat.reduceSub, Nat.reduceDiv, Nat.reduceMod, Int.reduceTDiv, Int.reduceTMod, h1, h2, h3, h4, h5, v_icmp, v_icmp64, v_scmp, c1, c2]
        by_cases k1 : k = 1
        · simp [k1]
        · by_cases k2 : k = 2 <;> simp [k1, k2]
      · simp (config := {contextual := true, maxSteps := 10000000, implicitDefEqProofs := false}) only [x11, go_sem, ↓reduceIte, reduceCtorEq, Nat.reduceEqDiff, Nat.reduceAdd, Nat.reduceLeDiff, Nat.reduceMul, Int.reduceEq, Int.reduceLT, Int.reduceLE, Int.reduceAdd, Int.reduceSub, Int.reduceMul, Int.reduceNeg, Int.reduceToNat, Int.reduceNe, Int.reduceBEq, Int.reduceBNe, Nat.reduceLT, Nat.reduceSub, Nat.reduceDiv, Nat.reduceMod, Int.reduceTDiv, Int.reduceTMod, h1, h2, h3, h4, h5, v_icmp, v_icmp64, v_scmp, c1, c2, e]
        simp [e]
    · simp (config := {contextual := true, maxSteps := 10000000, implicitDefEqProofs := false}) only [x11, go_sem, ↓reduceIte, reduceCtorEq, Nat.reduceEqDiff, Nat.reduceAdd, Nat.reduceLeDiff, Nat.reduceMul, Int.reduceEq, Int.reduceLT, Int.reduceLE, Int.reduceAdd, Int.reduceSub, Int.reduceMul, Int.reduceNeg, Int.reduceToNat, Int.reduceNe, Int.reduceBEq, Int.reduceBNe, Nat.reduceLT, Nat.reduceSub, Nat.reduceDiv, Nat.reduceMod, Int.reduceTDiv, Int.reduceTMod, h1, h2, h3, h4, h5, v_icmp, v_icmp64, v_scmp, c1, c2]
      simp [c2]
  · simp (config := {contextual := true, maxSteps := 10000000, implicitDefEqProofs := false}) only [x11, go_sem, ↓reduceIte, reduceCtorEq, Nat.reduceEqDiff, Nat.reduceAdd, Nat.reduceLeDiff, Nat.reduceMul, Int.reduceEq, Int.reduceLT, Int.reduceLE, Int.reduceAdd, Int.reduceSub, Int.reduceMul, Int.reduceNeg, Int.reduceToNat, Int.reduceNe, Int.reduceBEq, Int.reduceBNe, Nat.reduceLT, Nat.reduceSub, Nat.reduceDiv, Nat.reduceMod, Int.reduceTDiv, Int.reduceTMod, h1, h2, h3, h4, h5, v_icmp, v_icmp64, v_scmp, c1]
    simp [c1]
theorem v_same (a b : Val) (hp : Heap) : CL X GV 12 [a.av, b.av] hp = some (.bool (decide (a = b)), hp) := by
  obtain ⟨k, n, d, s⟩ := a
  obtain ⟨k', n', d', s'⟩ := b
  simp only [Val.av, vA]
  rw [CL_eq (fn := x12) rfl]
  simp (config := {contextual := true, maxSteps := 10000000, implicitDefEqProofs := false}) only [x12, go_sem, ↓reduceIte, reduceCtorEq, Nat.reduceEqDiff, Nat.reduceAdd, Nat.reduceLeDiff, Nat.reduceMul, Int.reduceEq, Int.reduceLT, Int.reduceLE, Int.reduceAdd, Int.reduceSub, Int.reduceMul, Int.reduceNeg, Int.reduceToNat, Int.reduceNe, Int.reduceBEq, Int.reduceBNe, Nat.reduceLT, Nat.reduceSub, Nat.reduceDiv, Nat.reduceMod, Int.reduceTDiv, Int.reduceTMod]
  congr 3
  rw [Bool.eq_iff_iff]
  simp
end Go.Proofs.YtgbmobfjanajaaaGreatDoor.Sx.T
namespace Go.Proofs.YtgbmobfjanajaaaGreatDoor.Sx.T
open Go Go.Proofs.YtgbmobfjanajaaaGreatDoor.Sx
set_option maxRecDepth 100000
set_option maxHeartbeats 4000000
def rowcmp : List Val → List Val → Int
  | [], [] => 0
  | [], _ :: _ => -1
  | _ :: _, [] => 1
  | a :: l, b :: m => if vcmp a b ≠ 0 then vcmp a b else rowcmp l m
/-- A row, as it is handed. -/
def IsRow (x : AV) (vs : List Val) : Prop := (x = .nilsl ∧ vs = []) ∨ ∃ o, (o = .none ∨ o = .tight) ∧ x = .lst o 4 (vs.map Val.cells)
theorem IsRow.uf {x : AV} {vs : List Val} (h : IsRow x vs) : uf x = x := by
  rcases h with ⟨rfl, _⟩ | ⟨o, ho, rfl⟩
  · rfl
  · rcases ho with rfl | rfl <;> rfl
theorem IsRow.lens {x : AV} {vs : List Val} (h : IsRow x vs) : lensK false x = some (.int .i64 vs.length) := by
  rcases h with ⟨rfl, rfl⟩ | ⟨o, _, rfl⟩
  · rfl
  · simp [lensK_lst]
theorem IsRow.at {x : AV} {vs : List Val} (h : IsRow x vs) {k : Nat} (hk : k < vs.length) : iaddrK 4 x (some k) = some (.elp (vs.getD k default).cells) := by
  rcases h with ⟨rfl, rfl⟩ | ⟨o, _, rfl⟩
  · simp at hk
  · rw [iaddrK_lst, List.length_map, if_pos ⟨rfl, hk⟩]
    simp [List.getD, hk]
theorem IsRow.free {x : AV} {vs : List Val} (h : IsRow x vs) : refFree x = true := by
  rcases h with ⟨rfl, rfl⟩ | ⟨o, _, rfl⟩ <;> rfl
theorem IsRow.drop1 {x : AV} {vs : List Val} (h : IsRow x vs) (fr : List AV) (t : Nat) : drop1K x fr t = fr := by
  rcases h with ⟨rfl, rfl⟩ | ⟨o, ho, rfl⟩
  · rfl
  · rcases ho with rfl | rfl <;> rfl
theorem rowcmp_drop (a b : List Val) (i : Nat) (h : i < min a.length b.length) : rowcmp (a.drop i) (b.drop i) =
    if vcmp (a.getD i default) (b.getD i default) ≠ 0 then vcmp (a.getD i default) (b.getD i default) else rowcmp (a.drop (i + 1)) (b.drop (i + 1)) := by
  have ha : i < a.length := by omega
  have hb : i < b.length := by omega
  rw [List.drop_eq_getElem_cons ha, List.drop_eq_getElem_cons hb, rowcmp]
  simp [List.getD, ha, hb]
theorem rowcmp_end (a b : List Val) (i : Nat) (h : i = min a.length b.length) : rowcmp (a.drop i) (b.drop i) = icmp a.length b.length := by
  unfold icmp
  rcases Nat.lt_trichotomy a.length b.length with h1 | h1 | h1
  · obtain rfl : i = a.length := by omega
    rw [List.drop_length, List.drop_eq_getElem_cons h1, rowcmp, if_pos (by omega)]
  · obtain rfl : i = a.length := by omega
    rw [List.drop_length, h1, List.drop_length, rowcmp, if_neg (by omega), if_neg (by omega)]
  · obtain rfl : i = b.length := by omega
    rw [List.drop_length, List.drop_eq_getElem_cons h1, rowcmp, if_neg (by omega), if_pos (by omega)]
def ORow (a b : List Val) (x y : AV) (hp : Heap) (R : Int) (r : Option (XExit × St)) : Prop :=
  (∃ fr', r = some (.exit 0, ⟨fr', hp⟩) ∧ fget fr' 0 = x ∧ fget fr' 1 = y ∧ R = icmp a.length b.length) ∨ (∃ fr', r = some (.ret, ⟨fr', hp⟩) ∧ fget fr' 4 = .int .i64 R)
theorem l_row (a b : List Val) (x y : AV) (hx : IsRow x a) (hy : IsRow y b) (ha : ∀ v ∈ a, v.ok) (hb : ∀ v ∈ b, v.ok) (hl : a.length < 9223372036854775807) (hp : Heap) :
    ∀ (m i : Nat) (_ : i + m = min a.length b.length) (fr : List AV), fget fr 0 = x → fget fr 1 = y → fget fr 12 = .int .i64 i → fget fr 11 = .int .i64 (min a.length b.length : Nat) →
    ORow a b x y hp (rowcmp (a.drop i) (b.drop i)) (LC X GV (.loop x13_l0) ⟨fr, hp⟩) := by
  have u1 := hx.uf
  have u2 := hy.uf
  have d1 := hx.drop1
  have d2 := hy.drop1
  intro m
  induction m with
  | zero =>
    intro i hi fr h0 h1 h12 h11
    rw [LC_loop]
    have e : i = min a.length b.length := by omega
    have hc : ((i : Int) < ((min a.length b.length : Nat) : Int)) = False := by simp; omega
    simp (config := {contextual := true, maxSteps := 10000000, implicitDefEqProofs := false}) only [x13_l0_run, go_sem, ↓reduceIte, reduceCtorEq, Nat.reduceEqDiff, Nat.reduceAdd, Nat.reduceLeDiff, Nat.reduceMul, Int.reduceEq, Int.reduceLT, Int.reduceLE, Int.reduceAdd, Int.reduceSub, Int.reduceMul, Int.reduceNeg, Int.reduceToNat, Int.reduceNe, Int.reduceBEq, Int.reduceBNe, Nat.reduceLT, Nat.reduceSub, Nat.reduceDiv, Nat.reduceMod, Int.reduceTDiv, Int.reduceTMod, h0, h1, h12, h11, hc]
    exact .inl ⟨_, rfl, by simp only [go_sem, ↓reduceIte, reduceCtorEq, Nat.reduceEqDiff, Nat.reduceAdd, Nat.reduceLeDiff, Nat.reduceMul, Int.reduceEq, Int.reduceLT, Int.reduceLE, Int.reduceAdd, Int.reduceSub, Int.reduceMul, Int.reduceNeg, Int.reduceToNat, Int.reduceNe, Int.reduceBEq, Int.reduceBNe, Nat.reduceLT, Nat.reduceSub, Nat.reduceDiv, Nat.reduceMod, Int.reduceTDiv, Int.reduceTMod, h0], by simp only [go_sem, ↓reduceIte, reduceCtorEq, Nat.reduceEqDiff, Nat.reduceAdd, Nat.reduceLeDiff, Nat.reduceMul, Int.reduceEq, Int.reduceLT, Int.reduceLE, Int.reduceAdd, Int.reduceSub, Int.reduceMul, Int.reduceNeg, Int.reduceToNat, Int.reduceNe, Int.reduceBEq, Int.reduceBNe, Nat.reduceLT, Nat.reduceSub, Nat.reduceDiv, Nat.reduceMod, Int.reduceTDiv, Int.reduceTMod, h1], rowcmp_end a b i e⟩
  | succ m ih =>
    intro i hi fr h0 h1 h12 h11
    rw [LC_loop]
    have hc : ((i : Int) < ((min a.length b.length : Nat) : Int)) = True := by simp; omega
    have ka : i < a.length := by omega
    have kb : i < b.length := by omega
    have a1 := hx.at ka
    have a2 := hy.at kb
    have oa : (a.getD i default).ok := ha _ (by simp [List.getD, ka])
    have ob : (b.getD i default).ok := hb _ (by simp [List.getD, kb])
    have hcmp := v_cmp _ _ oa ob
    have hr := rowcmp_drop a b i (by omega)
    generalize a.getD i default = va at *
    generalize b.getD i default = vb at *
    obtain ⟨k, n, d, s⟩ := va
    obtain ⟨k', n', d', s'⟩ := vb
    simp only [Val.av, Val.cells, vA] at hcmp a1 a2
    have wi : wr .i64 ((i : Int) + 1) = ((i + 1 : Nat) : Int) := by rw [wr_i64 _ (by omega)]; omega
    by_cases hz : vcmp ⟨k, n, d, s⟩ ⟨k', n', d', s'⟩ = 0
    · rw [hz] at hcmp
      simp (config := {contextual := true, maxSteps := 10000000, implicitDefEqProofs := false}) only [x13_l0_run, go_sem, ↓reduceIte, reduceCtorEq, Nat.reduceEqDiff, Nat.reduceAdd, Nat.reduceLeDiff, Nat.reduceMul, Int.reduceEq, Int.reduceLT, Int.reduceLE, Int.reduceAdd, Int.reduceSub, Int.reduceMul, Int.reduceNeg, Int.reduceToNat, Int.reduceNe, Int.reduceBEq, Int.reduceBNe, Nat.reduceLT, Nat.reduceSub, Nat.reduceDiv, Nat.reduceMod, Int.reduceTDiv, Int.reduceTMod, h0, h1, h12, h11, hc, u1, u2, d1, d2, a1, a2, hcmp, wi]
      rw [hr, if_neg (by simp [hz])]
      refine ih (i + 1) (by omega) _ ?_ ?_ ?_ ?_ <;> simp only [go_sem, ↓reduceIte, reduceCtorEq, Nat.reduceEqDiff, Nat.reduceAdd, Nat.reduceLeDiff, Nat.reduceMul, Int.reduceEq, Int.reduceLT, Int.reduceLE, Int.reduceAdd, Int.reduceSub, Int.reduceMul, Int.reduceNeg, Int.reduceToNat, Int.reduceNe, Int.reduceBEq, Int.reduceBNe, Nat.reduceLT, Nat.reduceSub, Nat.reduceDiv, Nat.reduceMod, Int.reduceTDiv, Int.reduceTMod, h0, h1, h12, h11]
    · simp (config := {contextual := true, maxSteps := 10000000, implicitDefEqProofs := false}) only [x13_l0_run, go_sem, ↓reduceIte, reduceCtorEq, Nat.reduceEqDiff, Nat.reduceAdd, Nat.reduceLeDiff, Nat.reduceMul, Int.reduceEq, Int.reduceLT, Int.reduceLE, Int.reduceAdd, Int.reduceSub, Int.reduceMul, Int.reduceNeg, Int.reduceToNat, Int.reduceNe, Int.reduceBEq, Int.reduceBNe, Nat.reduceLT, Nat.reduceSub, Nat.reduceDiv, Nat.reduceMod, Int.reduceTDiv, Int.reduceTMod, h0, h1, h12, h11, hc, u1, u2, d1, d2, a1, a2, hcmp, wi, hz]
      exact .inr ⟨_, rfl, by simp only [go_sem, ↓reduceIte, reduceCtorEq, Nat.reduceEqDiff, Nat.reduceAdd, Nat.reduceLeDiff, Nat.reduceMul, Int.reduceEq, Int.reduceLT, Int.reduceLE, Int.reduceAdd, Int.reduceSub, Int.reduceMul, Int.reduceNeg, Int.reduceToNat, Int.reduceNe, Int.reduceBEq, Int.reduceBNe, Nat.reduceLT, Nat.reduceSub, Nat.reduceDiv, Nat.reduceMod, Int.reduceTDiv, Int.reduceTMod]; rw [hr, if_pos hz]⟩
theorem v_row (a b : List Val) (x y : AV) (hx : IsRow x a) (hy : IsRow y b) (ha : ∀ v ∈ a, v.ok) (hb : ∀ v ∈ b, v.ok) (hl : a.length < 9223372036854775807) (hp : Heap) :
    CL X GV 13 [x, y] hp = some (.int .i64 (rowcmp a b), hp) := by
  have u1 := hx.uf
  have u2 := hy.uf
  have d1 := hx.drop1
  have d2 := hy.drop1
  have n1 := hx.lens
  have n2 := hy.lens
  have hm : (if (b.length : Int) < (a.length : Int) then (b.length : Int) else (a.length : Int)) = ((min a.length b.length : Nat) : Int) := by split <;> omega
  rw [CL_eq (fn := x13) rfl]
  simp (config := {contextual := true, maxSteps := 10000000, implicitDefEqProofs := false}) only [x13, go_sem, ↓reduceIte, reduceCtorEq, Nat.reduceEqDiff, Nat.reduceAdd, Nat.reduceLeDiff, Nat.reduceMul, Int.reduceEq, Int.reduceLT, Int.reduceLE, Int.reduceAdd, Int.reduceSub, Int.reduceMul, Int.reduceNeg, Int.reduceToNat, Int.reduceNe, Int.reduceBEq, Int.reduceBNe, Nat.reduceLT, Nat.reduceSub, Nat.reduceDiv, Nat.reduceMod, Int.reduceTDiv, Int.reduceTMod, u1, u2, d1, d2, n1, n2, hm]
  refine elimL (fun r => finK _ (seqK (blockK 0 r) _) = _) (l_row a b x y hx hy ha hb hl ([] :: hp) (min a.length b.length) 0 (by omega) _ ?_ ?_ ?_ ?_) ?_
  all_goals try simp only [go_sem, ↓reduceIte, reduceCtorEq, Nat.reduceEqDiff, Nat.reduceAdd, Nat.reduceLeDiff, Nat.reduceMul, Int.reduceEq, Int.reduceLT, Int.reduceLE, Int.reduceAdd, Int.reduceSub, Int.reduceMul, Int.reduceNeg, Int.reduceToNat, Int.reduceNe, Int.reduceBEq, Int.reduceBNe, Nat.reduceLT, Nat.reduceSub, Nat.reduceDiv, Nat.reduceMod, Int.reduceTDiv, Int.reduceTMod]
  · rfl
  · rintro r (⟨fr', rfl, f0, f1, hR⟩ | ⟨fr', rfl, f4⟩)
    · simp (config := {contextual := true, maxSteps := 10000000, implicitDefEqProofs := false}) only [go_sem, ↓reduceIte, reduceCtorEq, Nat.reduceEqDiff, Nat.reduceAdd, Nat.reduceLeDiff, Nat.reduceMul, Int.reduceEq, Int.reduceLT, Int.reduceLE, Int.reduceAdd, Int.reduceSub, Int.reduceMul, Int.reduceNeg, Int.reduceToNat, Int.reduceNe, Int.reduceBEq, Int.reduceBNe, Nat.reduceLT, Nat.reduceSub, Nat.reduceDiv, Nat.reduceMod, Int.reduceTDiv, Int.reduceTMod, f0, f1, u1, u2, d1, d2, n1, n2, v_icmp]
      rw [hR]
    · simp (config := {contextual := true, maxSteps := 10000000, implicitDefEqProofs := false}) only [go_sem, ↓reduceIte, reduceCtorEq, Nat.reduceEqDiff, Nat.reduceAdd, Nat.reduceLeDiff, Nat.reduceMul, Int.reduceEq, Int.reduceLT, Int.reduceLE, Int.reduceAdd, Int.reduceSub, Int.reduceMul, Int.reduceNeg, Int.reduceToNat, Int.reduceNe, Int.reduceBEq, Int.reduceBNe, Nat.reduceLT, Nat.reduceSub, Nat.reduceDiv, Nat.reduceMod, Int.reduceTDiv, Int.reduceTMod, f4]
end Go.Proofs.YtgbmobfjanajaaaGreatDoor.Sx.T
namespace Go.Proofs.YtgbmobfjanajaaaGreatDoor.Sx.T
open Go Go.Proofs.YtgbmobfjanajaaaGreatDoor.Sx
set_option maxRecDepth 100000
set_option maxHeartbeats 8000000
def opR (op : Nat) (a b c d : Int) : Int × Int × Int := match op with | 0 => addR a b c d | 1 => subR a b c d | _ => mulR a b c d
def recV (op : Nat) (a b : Val) : Val × Int :=
  if chkV a ≠ 0 then (⟨0, 0, 0, []⟩, chkV a) else if chkV b ≠ 0 then (⟨0, 0, 0, []⟩, chkV b)
  else if a.k ≠ b.k ∨ a.k = 3 then (⟨0, 0, 0, []⟩, 20)
  else if a.k = 1 then (let r := opR op a.n 1 b.n 1; if r.2.2 ≠ 0 then (⟨0, 0, 0, []⟩, r.2.2) else (⟨1, r.1, 0, []⟩, 0))
  else (let r := opR op a.n a.d b.n b.d; if r.2.2 ≠ 0 then (⟨0, 0, 0, []⟩, r.2.2) else (⟨2, r.1, r.2.1, []⟩, 0))
def rv (x : Val × Int) : AV := .tup [x.1.av, .int .i64 x.2]
theorem shut_fn0 (hp : Heap) (lev n f : Nat) : shut hp lev (n + 1) (.fn f [] []) = some (.fn f [] []) := rfl
theorem v_does (hp : Heap) : CL X GV 71 [] hp = some (.agg [.fn 93 [] [], .fn 94 [] [], .fn 95 [] []], hp) := by
  rw [CL_eq (fn := x71) rfl]
  simp (config := {contextual := true, maxSteps := 10000000, implicitDefEqProofs := false}) only [x71, go_sem, ↓reduceIte, reduceCtorEq, Nat.reduceEqDiff, Nat.reduceAdd, Nat.reduceLeDiff, Nat.reduceMul, Int.reduceEq, Int.reduceLT, Int.reduceLE, Int.reduceAdd, Int.reduceSub, Int.reduceMul, Int.reduceNeg, Int.reduceToNat, Int.reduceNe, Int.reduceBEq, Int.reduceBNe, Nat.reduceLT, Nat.reduceSub, Nat.reduceDiv, Nat.reduceMod, Int.reduceTDiv, Int.reduceTMod, shut_fn0, shutDepth]
  done
theorem v_reckon (op : Nat) (hop : op < 3) (a b : Val) (ha : a.ok) (hb : b.ok) (hp : Heap) : CL X GV 48 [.int .i64 op, a.av, b.av] hp = some (rv (recV op a b), hp) := by
  obtain ⟨k, n, d, s⟩ := a
  obtain ⟨k', n', d', s'⟩ := b
  simp only [Val.ok, Val.av, chkV, rv, recV] at *
  have h1 := fun k s => v_check k n d s ha.2.1 ha.2.2
  have h2 := fun k s => v_check k n' d' s hb.2.1 hb.2.2
  have h3 := fun k s => v_frac k n d s
  have h4 := fun k s => v_frac k n' d' s
  have i1 : I64 1 := by unfold I64; omega
  have q1 := r11 n d n' d' ha.2.1 ha.2.2 hb.2.1 hb.2.2
  have q2 := r19 n d n' d' ha.2.1 ha.2.2 hb.2.1 hb.2.2
  have q3 := r22 n d n' d' ha.2.1 ha.2.2 hb.2.1 hb.2.2
  have p1 := r11 n 1 n' 1 ha.2.1 i1 hb.2.1 i1
  have p2 := r19 n 1 n' 1 ha.2.1 i1 hb.2.1 i1
  have p3 := r22 n 1 n' 1 ha.2.1 i1 hb.2.1 i1
  simp only [vA, rt_eq] at h1 h2 h3 h4 q1 q2 q3 p1 p2 p3 ⊢
  rw [CL_eq (fn := x48) rfl]
  by_cases c1 : chk k n d s = 0
  · by_cases c2 : chk k' n' d' s' = 0
    · by_cases e : k = k'
      · subst e
        by_cases k3 : k = 3
        · subst k3
          simp (config := {contextual := true, maxSteps := 10000000, implicitDefEqProofs := false}) only [x48, go_sem, ↓reduceIte, reduceCtorEq, Nat.reduceEqDiff, Nat.reduceAdd, Nat.reduceLeDiff, Nat.reduceMul, Int.reduceEq, Int.reduceLT, Int.reduceLE, Int.reduceAdd, Int.reduceSub, Int.reduceMul, Int.reduceNeg, Int.reduceToNat, Int.reduceNe, Int.reduceBEq, Int.reduceBNe, Nat.reduceLT, Nat.reduceSub, Nat.reduceDiv, Nat.reduceMod, Int.reduceTDiv, Int.reduceTMod, h1, h2, c1, c2]
          simp
        · by_cases k1 : k = 1
          · subst k1
            match op, hop with
            | 0, _ => simp (config := {contextual := true, maxSteps := 10000000, implicitDefEqProofs := false}) only [x48, go_sem, ↓reduceIte, reduceCtorEq, Nat.reduceEqDiff, Nat.reduceAdd, Nat.reduceLeDiff, Nat.reduceMul, Int.reduceEq, Int.reduceLT, Int.reduceLE, Int.reduceAdd, Int.reduceSub, Int.reduceMul, Int.reduceNeg, Int.reduceToNat, Int.reduceNe, Int.reduceBEq, Int.reduceBNe, Nat.reduceLT, Nat.reduceSub, Nat.reduceDiv, Nat.reduceMod, Int.reduceTDiv, Int.reduceTMod, h1, h2, h3, h4, c1, c2, v_does, p1, opR]; (split <;> simp_all)
            | 1, _ => simp (config := {contextual := true, maxSteps := 10000000, implicitDefEqProofs := false}) only [x48, go_sem, ↓reduceIte, reduceCtorEq, Nat.reduceEqDiff, Nat.reduceAdd, Nat.reduceLeDiff, Nat.reduceMul, Int.reduceEq, Int.reduceLT, Int.reduceLE, Int.reduceAdd, Int.reduceSub, Int.reduceMul, Int.reduceNeg, Int.reduceToNat, Int.reduceNe, Int.reduceBEq, Int.reduceBNe, Nat.reduceLT, Nat.reduceSub, Nat.reduceDiv, Nat.reduceMod, Int.reduceTDiv, Int.reduceTMod, h1, h2, h3, h4, c1, c2, v_does, p2, opR]; (split <;> simp_all)
            | 2, _ => simp (config := {contextual := true, maxSteps := 10000000, implicitDefEqProofs := false}) only [x48, go_sem, ↓reduceIte, reduceCtorEq, Nat.reduceEqDiff, Nat.reduceAdd, Nat.reduceLeDiff, Nat.reduceMul, Int.reduceEq, Int.reduceLT, Int.reduceLE, Int.reduceAdd, Int.reduceSub, Int.reduceMul, Int.reduceNeg, Int.reduceToNat, Int.reduceNe, Int.reduceBEq, Int.reduceBNe, Nat.reduceLT, Nat.reduceSub, Nat.reduceDiv, Nat.reduceMod, Int.reduceTDiv, Int.reduceTMod, h1, h2, h3, h4, c1, c2, v_does, p3, opR]; (split <;> simp_all)
          · match op, hop with
            | 0, _ => simp (config := {contextual := true, maxSteps := 10000000, implicitDefEqProofs := false}) only [x48, go_sem, ↓reduceIte, reduceCtorEq, Nat.reduceEqDiff, Nat.reduceAdd, Nat.reduceLeDiff, Nat.reduceMul, Int.reduceEq, Int.reduceLT, Int.reduceLE, Int.reduceAdd, Int.reduceSub, Int.reduceMul, Int.reduceNeg, Int.reduceToNat, Int.reduceNe, Int.reduceBEq, Int.reduceBNe, Nat.reduceLT, Nat.reduceSub, Nat.reduceDiv, Nat.reduceMod, Int.reduceTDiv, Int.reduceTMod, h1, h2, h3, h4, c1, c2, k1, k3, v_does, q1, opR]; (split <;> simp_all)
            | 1, _ => simp (config := {contextual := true, maxSteps := 10000000, implicitDefEqProofs := false}) only [x48, go_sem, ↓reduceIte, reduceCtorEq, Nat.reduceEqDiff, Nat.reduceAdd, Nat.reduceLeDiff, Nat.reduceMul, Int.reduceEq, Int.reduceLT, Int.reduceLE, Int.reduceAdd, Int.reduceSub, Int.reduceMul, Int.reduceNeg, Int.reduceToNat, Int.reduceNe, Int.reduceBEq, Int.reduceBNe, Nat.reduceLT, Nat.reduceSub, Nat.reduceDiv, Nat.reduceMod, Int.reduceTDiv, Int.reduceTMod, h1, h2, h3, h4, c1, c2, k1, k3, v_does, q2, opR]; (split <;> simp_all)
            | 2, _ => simp (config := {contextual := true, maxSteps := 10000000, implicitDefEqProofs := false}) only [x48, go_sem, ↓reduceIte, reduceCtorEq, Nat.reduceEqDiff, Nat.reduceAdd, Nat.reduceLeDiff, Nat.reduceMul, Int.reduceEq, Int.reduceLT, Int.reduceLE, Int.reduceAdd, Int.reduceSub, Int.reduceMul, Int.reduceNeg, Int.reduceToNat, Int.reduceNe, Int.reduceBEq, Int.reduceBNe, Nat.reduceLT, Nat.reduceSub, Nat.reduceDiv, Nat.reduceMod, Int.reduceTDiv, Int.reduceTMod, h1, h2, h3, h4, c1, c2, k1, k3, v_does, q3, opR]; (split <;> simp_all)
      · simp (config := {contextual := true, maxSteps := 10000000, implicitDefEqProofs := false}) only [x48, go_sem, ↓reduceIte, reduceCtorEq, Nat.reduceEqDiff, Nat.reduceAdd, Nat.reduceLeDiff, Nat.reduceMul, Int.reduceEq, Int.reduceLT, Int.reduceLE, Int.reduceAdd, Int.reduceSub, Int.reduceMul, Int.reduceNeg, Int.reduceToNat, Int.reduceNe, Int.reduceBEq, Int.reduceBNe, Nat.reduceLT, Nat.reduceSub, Nat.reduceDiv, Nat.reduceMod, Int.reduceTDiv, Int.reduceTMod, h1, h2, c1, c2, e]
        all_goals simp [e]
    · simp (config := {contextual := true, maxSteps := 10000000, implicitDefEqProofs := false}) only [x48, go_sem, ↓reduceIte, reduceCtorEq, Nat.reduceEqDiff, Nat.reduceAdd, Nat.reduceLeDiff, Nat.reduceMul, Int.reduceEq, Int.reduceLT, Int.reduceLE, Int.reduceAdd, Int.reduceSub, Int.reduceMul, Int.reduceNeg, Int.reduceToNat, Int.reduceNe, Int.reduceBEq, Int.reduceBNe, Nat.reduceLT, Nat.reduceSub, Nat.reduceDiv, Nat.reduceMod, Int.reduceTDiv, Int.reduceTMod, h1, h2, c1, c2]
      all_goals simp [c2]
  · simp (config := {contextual := true, maxSteps := 10000000, implicitDefEqProofs := false}) only [x48, go_sem, ↓reduceIte, reduceCtorEq, Nat.reduceEqDiff, Nat.reduceAdd, Nat.reduceLeDiff, Nat.reduceMul, Int.reduceEq, Int.reduceLT, Int.reduceLE, Int.reduceAdd, Int.reduceSub, Int.reduceMul, Int.reduceNeg, Int.reduceToNat, Int.reduceNe, Int.reduceBEq, Int.reduceBNe, Nat.reduceLT, Nat.reduceSub, Nat.reduceDiv, Nat.reduceMod, Int.reduceTDiv, Int.reduceTMod, h1, h2, c1]
    all_goals simp [c1]
end Go.Proofs.YtgbmobfjanajaaaGreatDoor.Sx.T
namespace Go.Proofs.YtgbmobfjanajaaaGreatDoor.Sx.T
open Go Go.Proofs.YtgbmobfjanajaaaGreatDoor.Sx
set_option maxRecDepth 100000
set_option maxHeartbeats 8000000
theorem v_sizes (x y : Int) (hp : Heap) : CL X GV 37 [.int .i64 x, .int .i64 y] hp = some (.int .i64 (icmp x y), hp) := by
  rw [CL_eq (fn := x37) rfl]
  simp (config := {contextual := true, maxSteps := 10000000, implicitDefEqProofs := false}) only [x37, go_sem, ↓reduceIte, reduceCtorEq, Nat.reduceEqDiff, Nat.reduceAdd, Nat.reduceLeDiff, Nat.reduceMul, Int.reduceEq, Int.reduceLT, Int.reduceLE, Int.reduceAdd, Int.reduceSub, Int.reduceMul, Int.reduceNeg, Int.reduceToNat, Int.reduceNe, Int.reduceBEq, Int.reduceBNe, Nat.reduceLT, Nat.reduceSub, Nat.reduceDiv, Nat.reduceMod, Int.reduceTDiv, Int.reduceTMod, icmp]
  repeat' split
  all_goals rfl
theorem scmp_cons (a b : UInt8) (s t : List UInt8) : scmp (a :: s) (b :: t) = if a.toNat < b.toNat then -1 else if b.toNat < a.toNat then 1 else scmp s t := by
  unfold scmp
  simp only [← UInt8.lt_iff_toNat_lt]
  by_cases h1 : a < b
  · have hne : a ≠ b := fun e => by subst e; exact absurd h1 (UInt8.lt_irrefl a)
    simp [h1, bless, hne]
  · by_cases h2 : b < a
    · have hne : a ≠ b := fun e => by subst e; exact absurd h2 (UInt8.lt_irrefl a)
      simp [h1, h2, bless, hne]
    · have e : a = b := UInt8.le_antisymm (UInt8.not_lt.1 h2) (UInt8.not_lt.1 h1)
      subst e
      simp [bless, UInt8.lt_irrefl]
theorem scmp_end (s t : List UInt8) (i : Nat) (h : ¬ (i < s.length ∧ i < t.length)) (hi : i ≤ s.length ∧ i ≤ t.length) : scmp (s.drop i) (t.drop i) = icmp s.length t.length := by
  unfold icmp
  rcases Nat.lt_trichotomy s.length t.length with h1 | h1 | h1
  · obtain rfl : i = s.length := by omega
    rw [List.drop_length, List.drop_eq_getElem_cons h1, if_pos (by omega)]
    simp [scmp, bless, h1]
  · obtain rfl : i = s.length := by omega
    rw [List.drop_length, h1, List.drop_length, if_neg (by omega), if_neg (by omega)]
    simp [scmp]
  · obtain rfl : i = t.length := by omega
    rw [List.drop_length, List.drop_eq_getElem_cons h1, if_neg (by omega), if_pos (by omega)]
    simp [scmp, bless, h1]
theorem scmp_step (s t : List UInt8) (i : Nat) (h1 : i < s.length) (h2 : i < t.length) : scmp (s.drop i) (t.drop i) =
    if (s.getD i 0).toNat < (t.getD i 0).toNat then -1 else if (t.getD i 0).toNat < (s.getD i 0).toNat then 1 else scmp (s.drop (i + 1)) (t.drop (i + 1)) := by
  rw [List.drop_eq_getElem_cons h1, List.drop_eq_getElem_cons h2, scmp_cons]
  simp [List.getD, h1, h2]
def OTxt (s t : List UInt8) (hp : Heap) (R : Int) (r : Option (XExit × St)) : Prop :=
  (∃ fr', r = some (.exit 0, ⟨fr', hp⟩) ∧ fget fr' 0 = .str s ∧ fget fr' 1 = .str t ∧ R = icmp s.length t.length) ∨ (∃ fr', r = some (.ret, ⟨fr', hp⟩) ∧ fget fr' 4 = .int .i64 R)
theorem l_texts (s t : List UInt8) (hl : s.length < 9223372036854775807) (hp : Heap) : ∀ (m i : Nat) (_ : i + m = s.length) (_ : i ≤ t.length) (fr : List AV), fget fr 0 = .str s → fget fr 1 = .str t → fget fr 5 = .int .i64 i →
    OTxt s t hp (scmp (s.drop i) (t.drop i)) (LC X GV (.loop x27_l0) ⟨fr, hp⟩) := by
  intro m
  induction m with
  | zero =>
    intro i hi ht fr h0 h1 h5
    rw [LC_loop]
    have hc : ((i : Int) < (s.length : Int)) = False := by simp; omega
    simp (config := {contextual := true, maxSteps := 10000000, implicitDefEqProofs := false}) only [x27_l0_run, go_sem, ↓reduceIte, reduceCtorEq, Nat.reduceEqDiff, Nat.reduceAdd, Nat.reduceLeDiff, Nat.reduceMul, Int.reduceEq, Int.reduceLT, Int.reduceLE, Int.reduceAdd, Int.reduceSub, Int.reduceMul, Int.reduceNeg, Int.reduceToNat, Int.reduceNe, Int.reduceBEq, Int.reduceBNe, Nat.reduceLT, Nat.reduceSub, Nat.reduceDiv, Nat.reduceMod, Int.reduceTDiv, Int.reduceTMod, h0, h1, h5, hc]
    exact .inl ⟨_, rfl, by simp only [go_sem, ↓reduceIte, reduceCtorEq, Nat.reduceEqDiff, Nat.reduceAdd, Nat.reduceLeDiff, Nat.reduceMul, Int.reduceEq, Int.reduceLT, Int.reduceLE, Int.reduceAdd, Int.reduceSub, Int.reduceMul, Int.reduceNeg, Int.reduceToNat, Int.reduceNe, Int.reduceBEq, Int.reduceBNe, Nat.reduceLT, Nat.reduceSub, Nat.reduceDiv, Nat.reduceMod, Int.reduceTDiv, Int.reduceTMod, h0], by simp only [go_sem, ↓reduceIte, reduceCtorEq, Nat.reduceEqDiff, Nat.reduceAdd, Nat.reduceLeDiff, Nat.reduceMul, Int.reduceEq, Int.reduceLT, Int.reduceLE, Int.reduceAdd, Int.reduceSub, Int.reduceMul, Int.reduceNeg, Int.reduceToNat, Int.reduceNe, Int.reduceBEq, Int.reduceBNe, Nat.reduceLT, Nat.reduceSub, Nat.reduceDiv, Nat.reduceMod, Int.reduceTDiv, Int.reduceTMod, h1], scmp_end s t i (by omega) (by omega)⟩
  | succ m ih =>
    intro i hi ht fr h0 h1 h5
    rw [LC_loop]
    have hc : ((i : Int) < (s.length : Int)) = True := by simp; omega
    have ks : i < s.length := by omega
    by_cases kt : i < t.length
    · have hd : ((i : Int) < (t.length : Int)) = True := by simp; omega
      have wi : wr .i64 ((i : Int) + 1) = ((i + 1 : Nat) : Int) := by rw [wr_i64 _ (by omega)]; omega
      rw [scmp_step s t i ks kt]
      obtain ⟨x, hx⟩ : ∃ x, (s.getD i 0).toNat = x := ⟨_, rfl⟩
      obtain ⟨y, hy⟩ : ∃ y, (t.getD i 0).toNat = y := ⟨_, rfl⟩
      rw [hx, hy]
      by_cases h2 : x < y
      · have q1 : ((x : Int) < (y : Int)) = True := by simp; omega
        simp (config := {contextual := true, maxSteps := 10000000, implicitDefEqProofs := false}) only [x27_l0_run, go_sem, ↓reduceIte, reduceCtorEq, Nat.reduceEqDiff, Nat.reduceAdd, Nat.reduceLeDiff, Nat.reduceMul, Int.reduceEq, Int.reduceLT, Int.reduceLE, Int.reduceAdd, Int.reduceSub, Int.reduceMul, Int.reduceNeg, Int.reduceToNat, Int.reduceNe, Int.reduceBEq, Int.reduceBNe, Nat.reduceLT, Nat.reduceSub, Nat.reduceDiv, Nat.reduceMod, Int.reduceTDiv, Int.reduceTMod, h0, h1, h5, hc, hd, ks, kt, wi, hx, hy, q1, h2]
        exact .inr ⟨_, rfl, by simp only [go_sem, ↓reduceIte, reduceCtorEq, Nat.reduceEqDiff, Nat.reduceAdd, Nat.reduceLeDiff, Nat.reduceMul, Int.reduceEq, Int.reduceLT, Int.reduceLE, Int.reduceAdd, Int.reduceSub, Int.reduceMul, Int.reduceNeg, Int.reduceToNat, Int.reduceNe, Int.reduceBEq, Int.reduceBNe, Nat.reduceLT, Nat.reduceSub, Nat.reduceDiv, Nat.reduceMod, Int.reduceTDiv, Int.reduceTMod, h2]⟩
      · have q1 : ((x : Int) < (y : Int)) = False := by simp; omega
        by_cases h3 : y < x
        · have q2 : ((y : Int) < (x : Int)) = True := by simp; omega
          simp (config := {contextual := true, maxSteps := 10000000, implicitDefEqProofs := false}) only [x27_l0_run, go_sem, ↓reduceIte, reduceCtorEq, Nat.reduceEqDiff, Nat.reduceAdd, Nat.reduceLeDiff, Nat.reduceMul, Int.reduceEq, Int.reduceLT, Int.reduceLE, Int.reduceAdd, Int.reduceSub, Int.reduceMul, Int.reduceNeg, Int.reduceToNat, Int.reduceNe, Int.reduceBEq, Int.reduceBNe, Nat.reduceLT, Nat.reduceSub, Nat.reduceDiv, Nat.reduceMod, Int.reduceTDiv, Int.reduceTMod, h0, h1, h5, hc, hd, ks, kt, wi, hx, hy, q1, q2, h2, h3]
          exact .inr ⟨_, rfl, by simp only [go_sem, ↓reduceIte, reduceCtorEq, Nat.reduceEqDiff, Nat.reduceAdd, Nat.reduceLeDiff, Nat.reduceMul, Int.reduceEq, Int.reduceLT, Int.reduceLE, Int.reduceAdd, Int.reduceSub, Int.reduceMul, Int.reduceNeg, Int.reduceToNat, Int.reduceNe, Int.reduceBEq, Int.reduceBNe, Nat.reduceLT, Nat.reduceSub, Nat.reduceDiv, Nat.reduceMod, Int.reduceTDiv, Int.reduceTMod, h2, h3]⟩
        · have q2 : ((y : Int) < (x : Int)) = False := by simp; omega
          simp (config := {contextual := true, maxSteps := 10000000, implicitDefEqProofs := false}) only [x27_l0_run, go_sem, ↓reduceIte, reduceCtorEq, Nat.reduceEqDiff, Nat.reduceAdd, Nat.reduceLeDiff, Nat.reduceMul, Int.reduceEq, Int.reduceLT, Int.reduceLE, Int.reduceAdd, Int.reduceSub, Int.reduceMul, Int.reduceNeg, Int.reduceToNat, Int.reduceNe, Int.reduceBEq, Int.reduceBNe, Nat.reduceLT, Nat.reduceSub, Nat.reduceDiv, Nat.reduceMod, Int.reduceTDiv, Int.reduceTMod, h0, h1, h5, hc, hd, ks, kt, wi, hx, hy, q1, q2, h2, h3]
          refine ih (i + 1) (by omega) (by omega) _ ?_ ?_ ?_ <;> simp only [go_sem, ↓reduceIte, reduceCtorEq, Nat.reduceEqDiff, Nat.reduceAdd, Nat.reduceLeDiff, Nat.reduceMul, Int.reduceEq, Int.reduceLT, Int.reduceLE, Int.reduceAdd, Int.reduceSub, Int.reduceMul, Int.reduceNeg, Int.reduceToNat, Int.reduceNe, Int.reduceBEq, Int.reduceBNe, Nat.reduceLT, Nat.reduceSub, Nat.reduceDiv, Nat.reduceMod, Int.reduceTDiv, Int.reduceTMod, h0, h1, h5]
    · have hd : ((i : Int) < (t.length : Int)) = False := by simp; omega
      simp (config := {contextual := true, maxSteps := 10000000, implicitDefEqProofs := false}) only [x27_l0_run, go_sem, ↓reduceIte, reduceCtorEq, Nat.reduceEqDiff, Nat.reduceAdd, Nat.reduceLeDiff, Nat.reduceMul, Int.reduceEq, Int.reduceLT, Int.reduceLE, Int.reduceAdd, Int.reduceSub, Int.reduceMul, Int.reduceNeg, Int.reduceToNat, Int.reduceNe, Int.reduceBEq, Int.reduceBNe, Nat.reduceLT, Nat.reduceSub, Nat.reduceDiv, Nat.reduceMod, Int.reduceTDiv, Int.reduceTMod, h0, h1, h5, hc, hd]
      exact .inl ⟨_, rfl, by simp only [go_sem, ↓reduceIte, reduceCtorEq, Nat.reduceEqDiff, Nat.reduceAdd, Nat.reduceLeDiff, Nat.reduceMul, Int.reduceEq, Int.reduceLT, Int.reduceLE, Int.reduceAdd, Int.reduceSub, Int.reduceMul, Int.reduceNeg, Int.reduceToNat, Int.reduceNe, Int.reduceBEq, Int.reduceBNe, Nat.reduceLT, Nat.reduceSub, Nat.reduceDiv, Nat.reduceMod, Int.reduceTDiv, Int.reduceTMod, h0], by simp only [go_sem, ↓reduceIte, reduceCtorEq, Nat.reduceEqDiff, Nat.reduceAdd, Nat.reduceLeDiff, Nat.reduceMul, Int.reduceEq, Int.reduceLT, Int.reduceLE, Int.reduceAdd, Int.reduceSub, Int.reduceMul, Int.reduceNeg, Int.reduceToNat, Int.reduceNe, Int.reduceBEq, Int.reduceBNe, Nat.reduceLT, Nat.reduceSub, Nat.reduceDiv, Nat.reduceMod, Int.reduceTDiv, Int.reduceTMod, h1], scmp_end s t i (by omega) (by omega)⟩
theorem v_texts (s t : List UInt8) (hl : s.length < 9223372036854775807) (hp : Heap) : CL X GV 27 [.str s, .str t] hp = some (.int .i64 (scmp s t), hp) := by
  rw [CL_eq (fn := x27) rfl]
  simp (config := {contextual := true, maxSteps := 10000000, implicitDefEqProofs := false}) only [x27, go_sem, ↓reduceIte, reduceCtorEq, Nat.reduceEqDiff, Nat.reduceAdd, Nat.reduceLeDiff, Nat.reduceMul, Int.reduceEq, Int.reduceLT, Int.reduceLE, Int.reduceAdd, Int.reduceSub, Int.reduceMul, Int.reduceNeg, Int.reduceToNat, Int.reduceNe, Int.reduceBEq, Int.reduceBNe, Nat.reduceLT, Nat.reduceSub, Nat.reduceDiv, Nat.reduceMod, Int.reduceTDiv, Int.reduceTMod]
  refine elimL (fun r => finK _ (seqK (blockK 0 r) _) = _) (l_texts s t hl ([] :: hp) s.length 0 (by omega) (by omega) _ ?_ ?_ ?_) ?_
  all_goals try simp only [go_sem, ↓reduceIte, reduceCtorEq, Nat.reduceEqDiff, Nat.reduceAdd, Nat.reduceLeDiff, Nat.reduceMul, Int.reduceEq, Int.reduceLT, Int.reduceLE, Int.reduceAdd, Int.reduceSub, Int.reduceMul, Int.reduceNeg, Int.reduceToNat, Int.reduceNe, Int.reduceBEq, Int.reduceBNe, Nat.reduceLT, Nat.reduceSub, Nat.reduceDiv, Nat.reduceMod, Int.reduceTDiv, Int.reduceTMod]
  · rfl
  · rintro r (⟨fr', rfl, f0, f1, hR⟩ | ⟨fr', rfl, f4⟩)
    · simp (config := {contextual := true, maxSteps := 10000000, implicitDefEqProofs := false}) only [go_sem, ↓reduceIte, reduceCtorEq, Nat.reduceEqDiff, Nat.reduceAdd, Nat.reduceLeDiff, Nat.reduceMul, Int.reduceEq, Int.reduceLT, Int.reduceLE, Int.reduceAdd, Int.reduceSub, Int.reduceMul, Int.reduceNeg, Int.reduceToNat, Int.reduceNe, Int.reduceBEq, Int.reduceBNe, Nat.reduceLT, Nat.reduceSub, Nat.reduceDiv, Nat.reduceMod, Int.reduceTDiv, Int.reduceTMod, f0, f1, v_sizes]
      rw [hR]
    · simp (config := {contextual := true, maxSteps := 10000000, implicitDefEqProofs := false}) only [go_sem, ↓reduceIte, reduceCtorEq, Nat.reduceEqDiff, Nat.reduceAdd, Nat.reduceLeDiff, Nat.reduceMul, Int.reduceEq, Int.reduceLT, Int.reduceLE, Int.reduceAdd, Int.reduceSub, Int.reduceMul, Int.reduceNeg, Int.reduceToNat, Int.reduceNe, Int.reduceBEq, Int.reduceBNe, Nat.reduceLT, Nat.reduceSub, Nat.reduceDiv, Nat.reduceMod, Int.reduceTDiv, Int.reduceTMod, f4]
theorem v_rcmp (a b : Val) (ha : a.ok) (hb : b.ok) (hp : Heap) : CL X GV 8 [a.av, b.av] hp = some (.int .i64 (vcmp a b), hp) := by
  obtain ⟨k, n, d, s⟩ := a
  obtain ⟨k', n', d', s'⟩ := b
  simp only [Val.ok, Val.av, vcmp, chkV] at *
  have h1 := fun k s => v_rcheck k n d s ha.2.1 ha.2.2
  have h2 := fun k s => v_rcheck k n' d' s hb.2.1 hb.2.2
  have h3 := fun k s => v_rfrac k n d s
  have h4 := fun k s => v_rfrac k n' d' s
  have h5 := r15 n d n' d' ha.2.1 ha.2.2 hb.2.1 hb.2.2
  simp only [vA] at h1 h2 h3 h4 ⊢
  rw [CL_eq (fn := x8) rfl]
  by_cases c1 : chk k n d s = 0
  · by_cases c2 : chk k' n' d' s' = 0
    · by_cases e : k = k'
      · subst e
        by_cases k2 : k = 2
        · subst k2
          simp (config := {contextual := true, maxSteps := 10000000, implicitDefEqProofs := false}) only [x8, go_sem, ↓reduceIte, reduceCtorEq, Nat.reduceEqDiff, Nat.reduceAdd, Nat.reduceLeDiff, Nat.reduceMul, Int.reduceEq, Int.reduceLT, Int.reduceLE, Int.reduceAdd, Int.reduceSub, Int.reduceMul, Int.reduceNeg, Int.reduceToNat, Int.reduceNe, Int.reduceBEq, Int.reduceBNe, Nat.reduceLT, Nat.reduceSub, Nat.reduceDiv, Nat.reduceMod, Int.reduceTDiv, Int.reduceTMod, h1, h2, h3, h4, h5, c1, c2, or_self]
        · by_cases k1 : k = 1
          · subst k1
            simp (config := {contextual := true, maxSteps := 10000000, implicitDefEqProofs := false}) only [x8, go_sem, ↓reduceIte, reduceCtorEq, Nat.reduceEqDiff, Nat.reduceAdd, Nat.reduceLeDiff, Nat.reduceMul, Int.reduceEq, Int.reduceLT, Int.reduceLE, Int.reduceAdd, Int.reduceSub, Int.reduceMul, Int.reduceNeg, Int.reduceToNat, Int.reduceNe, Int.reduceBEq, Int.reduceBNe, Nat.reduceLT, Nat.reduceSub, Nat.reduceDiv, Nat.reduceMod, Int.reduceTDiv, Int.reduceTMod, h1, h2, h3, h4, h5, c1, c2, icmp, or_self]
            repeat' split
            all_goals rfl
          · have hl : s.length < 9223372036854775807 := by
              unfold chk at c1
              rw [if_neg k1, if_neg k2] at c1
              split at c1
              · split at c1
                · split at c1
                  · omega
                  · simp at c1
                · simp at c1
              · simp at c1
            have h6 := v_texts s s' hl
            simp (config := {contextual := true, maxSteps := 10000000, implicitDefEqProofs := false}) only [x8, go_sem, ↓reduceIte, reduceCtorEq, Nat.reduceEqDiff, Nat.reduceAdd, Nat.reduceLeDiff, Nat.reduceMul, Int.reduceEq, Int.reduceLT, Int.reduceLE, Int.reduceAdd, Int.reduceSub, Int.reduceMul, Int.reduceNeg, Int.reduceToNat, Int.reduceNe, Int.reduceBEq, Int.reduceBNe, Nat.reduceLT, Nat.reduceSub, Nat.reduceDiv, Nat.reduceMod, Int.reduceTDiv, Int.reduceTMod, h1, h2, h3, h4, h6, c1, c2, k1, k2, or_self]
      · have e2 : ∀ (P : Prop), (k = 2 ∧ k' = 2) = False := fun _ => by simp; omega
        simp (config := {contextual := true, maxSteps := 10000000, implicitDefEqProofs := false}) only [x8, go_sem, ↓reduceIte, reduceCtorEq, Nat.reduceEqDiff, Nat.reduceAdd, Nat.reduceLeDiff, Nat.reduceMul, Int.reduceEq, Int.reduceLT, Int.reduceLE, Int.reduceAdd, Int.reduceSub, Int.reduceMul, Int.reduceNeg, Int.reduceToNat, Int.reduceNe, Int.reduceBEq, Int.reduceBNe, Nat.reduceLT, Nat.reduceSub, Nat.reduceDiv, Nat.reduceMod, Int.reduceTDiv, Int.reduceTMod, h1, h2, c1, c2, e, icmp, or_self, e2]
        by_cases k2 : k = 2
        · subst k2
          have e' : ¬ k' = 2 := fun h => e h.symm
          by_cases lt : 2 < k'
          · simp [lt, e, e']
          · have g : k' < 2 := by omega
            simp [lt, g, e, e']
        · by_cases lt : k < k'
          · simp [lt, e, k2]
          · have g : k' < k := by omega
            simp [lt, g, e, k2]
    · simp (config := {contextual := true, maxSteps := 10000000, implicitDefEqProofs := false}) only [x8, go_sem, ↓reduceIte, reduceCtorEq, Nat.reduceEqDiff, Nat.reduceAdd, Nat.reduceLeDiff, Nat.reduceMul, Int.reduceEq, Int.reduceLT, Int.reduceLE, Int.reduceAdd, Int.reduceSub, Int.reduceMul, Int.reduceNeg, Int.reduceToNat, Int.reduceNe, Int.reduceBEq, Int.reduceBNe, Nat.reduceLT, Nat.reduceSub, Nat.reduceDiv, Nat.reduceMod, Int.reduceTDiv, Int.reduceTMod, h1, h2, c1, c2]
      all_goals simp [c2]
  · simp (config := {contextual := true, maxSteps := 10000000, implicitDefEqProofs := false}) only [x8, go_sem, ↓reduceIte, reduceCtorEq, Nat.reduceEqDiff, Nat.reduceAdd, Nat.reduceLeDiff, Nat.reduceMul, Int.reduceEq, Int.reduceLT, Int.reduceLE, Int.reduceAdd, Int.reduceSub, Int.reduceMul, Int.reduceNeg, Int.reduceToNat, Int.reduceNe, Int.reduceBEq, Int.reduceBNe, Nat.reduceLT, Nat.reduceSub, Nat.reduceDiv, Nat.reduceMod, Int.reduceTDiv, Int.reduceTMod, h1, h2, c1]
    all_goals simp [c1]
theorem v_rsame (a b : Val) (hp : Heap) : CL X GV 9 [a.av, b.av] hp = some (.bool (decide (a = b)), hp) := by
  obtain ⟨k, n, d, s⟩ := a
  obtain ⟨k', n', d', s'⟩ := b
  simp only [Val.av, vA]
  rw [CL_eq (fn := x9) rfl]
  simp (config := {contextual := true, maxSteps := 10000000, implicitDefEqProofs := false}) only [x9, go_sem, ↓reduceIte, reduceCtorEq, Nat.reduceEqDiff, Nat.reduceAdd, Nat.reduceLeDiff, Nat.reduceMul, Int.reduceEq, Int.reduceLT, Int.reduceLE, Int.reduceAdd, Int.reduceSub, Int.reduceMul, Int.reduceNeg, Int.reduceToNat, Int.reduceNe, Int.reduceBEq, Int.reduceBNe, Nat.reduceLT, Nat.reduceSub, Nat.reduceDiv, Nat.reduceMod, Int.reduceTDiv, Int.reduceTMod]
  congr 3
  rw [Bool.eq_iff_iff]
  simp
end Go.Proofs.YtgbmobfjanajaaaGreatDoor.Sx.T
namespace Go.Proofs.YtgbmobfjanajaaaGreatDoor.Sx.T
open Go Go.Proofs.YtgbmobfjanajaaaGreatDoor.Sx
set_option maxRecDepth 100000
set_option maxHeartbeats 8000000
theorem rowcmp_end' (a b : List Val) (i : Nat) (h : ¬ (i < a.length ∧ i < b.length)) (hi : i ≤ a.length ∧ i ≤ b.length) : rowcmp (a.drop i) (b.drop i) = icmp a.length b.length :=
  rowcmp_end a b i (by omega)
theorem l_rrow (a b : List Val) (x y : AV) (hx : IsRow x a) (hy : IsRow y b) (ha : ∀ v ∈ a, v.ok) (hb : ∀ v ∈ b, v.ok) (hl : a.length < 9223372036854775807) (hp : Heap) :
    ∀ (m i : Nat) (_ : i + m = a.length) (_ : i ≤ b.length) (fr : List AV), fget fr 0 = x → fget fr 1 = y → fget fr 5 = .int .i64 i →
    ORow a b x y hp (rowcmp (a.drop i) (b.drop i)) (LC X GV (.loop x14_l0) ⟨fr, hp⟩) := by
  have u1 := hx.uf
  have u2 := hy.uf
  have d1 := hx.drop1
  have d2 := hy.drop1
  have n1 := hx.lens
  have n2 := hy.lens
  intro m
  induction m with
  | zero =>
    intro i hi hib fr h0 h1 h5
    rw [LC_loop]
    have hc : ((i : Int) < (a.length : Int)) = False := by simp; omega
    simp (config := {contextual := true, maxSteps := 10000000, implicitDefEqProofs := false}) only [x14_l0_run, go_sem, ↓reduceIte, reduceCtorEq, Nat.reduceEqDiff, Nat.reduceAdd, Nat.reduceLeDiff, Nat.reduceMul, Int.reduceEq, Int.reduceLT, Int.reduceLE, Int.reduceAdd, Int.reduceSub, Int.reduceMul, Int.reduceNeg, Int.reduceToNat, Int.reduceNe, Int.reduceBEq, Int.reduceBNe, Nat.reduceLT, Nat.reduceSub, Nat.reduceDiv, Nat.reduceMod, Int.reduceTDiv, Int.reduceTMod, h0, h1, h5, hc, u1, u2, d1, d2, n1, n2]
    exact .inl ⟨_, rfl, by simp only [go_sem, ↓reduceIte, reduceCtorEq, Nat.reduceEqDiff, Nat.reduceAdd, Nat.reduceLeDiff, Nat.reduceMul, Int.reduceEq, Int.reduceLT, Int.reduceLE, Int.reduceAdd, Int.reduceSub, Int.reduceMul, Int.reduceNeg, Int.reduceToNat, Int.reduceNe, Int.reduceBEq, Int.reduceBNe, Nat.reduceLT, Nat.reduceSub, Nat.reduceDiv, Nat.reduceMod, Int.reduceTDiv, Int.reduceTMod, h0], by simp only [go_sem, ↓reduceIte, reduceCtorEq, Nat.reduceEqDiff, Nat.reduceAdd, Nat.reduceLeDiff, Nat.reduceMul, Int.reduceEq, Int.reduceLT, Int.reduceLE, Int.reduceAdd, Int.reduceSub, Int.reduceMul, Int.reduceNeg, Int.reduceToNat, Int.reduceNe, Int.reduceBEq, Int.reduceBNe, Nat.reduceLT, Nat.reduceSub, Nat.reduceDiv, Nat.reduceMod, Int.reduceTDiv, Int.reduceTMod, h1], rowcmp_end' a b i (by omega) (by omega)⟩
  | succ m ih =>
    intro i hi hib fr h0 h1 h5
    rw [LC_loop]
    have hc : ((i : Int) < (a.length : Int)) = True := by simp; omega
    have ka : i < a.length := by omega
    by_cases kb : i < b.length
    · have hd : ((i : Int) < (b.length : Int)) = True := by simp; omega
      have a1 := hx.at ka
      have a2 := hy.at kb
      have oa : (a.getD i default).ok := ha _ (by simp [List.getD, ka])
      have ob : (b.getD i default).ok := hb _ (by simp [List.getD, kb])
      have hcmp := v_rcmp _ _ oa ob
      have hr := rowcmp_drop a b i (by omega)
      generalize a.getD i default = va at *
      generalize b.getD i default = vb at *
      obtain ⟨k, n, d, s⟩ := va
      obtain ⟨k', n', d', s'⟩ := vb
      simp only [Val.av, Val.cells, vA] at hcmp a1 a2
      have wi : wr .i64 ((i : Int) + 1) = ((i + 1 : Nat) : Int) := by rw [wr_i64 _ (by omega)]; omega
      by_cases hz : vcmp ⟨k, n, d, s⟩ ⟨k', n', d', s'⟩ = 0
      · rw [hz] at hcmp
        simp (config := {contextual := true, maxSteps := 10000000, implicitDefEqProofs := false}) only [x14_l0_run, go_sem, ↓reduceIte, reduceCtorEq, Nat.reduceEqDiff, Nat.reduceAdd, Nat.reduceLeDiff, Nat.reduceMul, Int.reduceEq, Int.reduceLT, Int.reduceLE, Int.reduceAdd, Int.reduceSub, Int.reduceMul, Int.reduceNeg, Int.reduceToNat, Int.reduceNe, Int.reduceBEq, Int.reduceBNe, Nat.reduceLT, Nat.reduceSub, Nat.reduceDiv, Nat.reduceMod, Int.reduceTDiv, Int.reduceTMod, h0, h1, h5, hc, hd, u1, u2, d1, d2, n1, n2, a1, a2, hcmp, wi]
        rw [hr, if_neg (by simp [hz])]
        refine ih (i + 1) (by omega) (by omega) _ ?_ ?_ ?_ <;> simp only [go_sem, ↓reduceIte, reduceCtorEq, Nat.reduceEqDiff, Nat.reduceAdd, Nat.reduceLeDiff, Nat.reduceMul, Int.reduceEq, Int.reduceLT, Int.reduceLE, Int.reduceAdd, Int.reduceSub, Int.reduceMul, Int.reduceNeg, Int.reduceToNat, Int.reduceNe, Int.reduceBEq, Int.reduceBNe, Nat.reduceLT, Nat.reduceSub, Nat.reduceDiv, Nat.reduceMod, Int.reduceTDiv, Int.reduceTMod, h0, h1, h5]
      · simp (config := {contextual := true, maxSteps := 10000000, implicitDefEqProofs := false}) only [x14_l0_run, go_sem, ↓reduceIte, reduceCtorEq, Nat.reduceEqDiff, Nat.reduceAdd, Nat.reduceLeDiff, Nat.reduceMul, Int.reduceEq, Int.reduceLT, Int.reduceLE, Int.reduceAdd, Int.reduceSub, Int.reduceMul, Int.reduceNeg, Int.reduceToNat, Int.reduceNe, Int.reduceBEq, Int.reduceBNe, Nat.reduceLT, Nat.reduceSub, Nat.reduceDiv, Nat.reduceMod, Int.reduceTDiv, Int.reduceTMod, h0, h1, h5, hc, hd, u1, u2, d1, d2, n1, n2, a1, a2, hcmp, wi, hz]
        exact .inr ⟨_, rfl, by simp only [go_sem, ↓reduceIte, reduceCtorEq, Nat.reduceEqDiff, Nat.reduceAdd, Nat.reduceLeDiff, Nat.reduceMul, Int.reduceEq, Int.reduceLT, Int.reduceLE, Int.reduceAdd, Int.reduceSub, Int.reduceMul, Int.reduceNeg, Int.reduceToNat, Int.reduceNe, Int.reduceBEq, Int.reduceBNe, Nat.reduceLT, Nat.reduceSub, Nat.reduceDiv, Nat.reduceMod, Int.reduceTDiv, Int.reduceTMod]; rw [hr, if_pos hz]⟩
    · have hd : ((i : Int) < (b.length : Int)) = False := by simp; omega
      simp (config := {contextual := true, maxSteps := 10000000, implicitDefEqProofs := false}) only [x14_l0_run, go_sem, ↓reduceIte, reduceCtorEq, Nat.reduceEqDiff, Nat.reduceAdd, Nat.reduceLeDiff, Nat.reduceMul, Int.reduceEq, Int.reduceLT, Int.reduceLE, Int.reduceAdd, Int.reduceSub, Int.reduceMul, Int.reduceNeg, Int.reduceToNat, Int.reduceNe, Int.reduceBEq, Int.reduceBNe, Nat.reduceLT, Nat.reduceSub, Nat.reduceDiv, Nat.reduceMod, Int.reduceTDiv, Int.reduceTMod, h0, h1, h5, hc, hd, u1, u2, d1, d2, n1, n2]
      exact .inl ⟨_, rfl, by simp only [go_sem, ↓reduceIte, reduceCtorEq, Nat.reduceEqDiff, Nat.reduceAdd, Nat.reduceLeDiff, Nat.reduceMul, Int.reduceEq, Int.reduceLT, Int.reduceLE, Int.reduceAdd, Int.reduceSub, Int.reduceMul, Int.reduceNeg, Int.reduceToNat, Int.reduceNe, Int.reduceBEq, Int.reduceBNe, Nat.reduceLT, Nat.reduceSub, Nat.reduceDiv, Nat.reduceMod, Int.reduceTDiv, Int.reduceTMod, h0], by simp only [go_sem, ↓reduceIte, reduceCtorEq, Nat.reduceEqDiff, Nat.reduceAdd, Nat.reduceLeDiff, Nat.reduceMul, Int.reduceEq, Int.reduceLT, Int.reduceLE, Int.reduceAdd, Int.reduceSub, Int.reduceMul, Int.reduceNeg, Int.reduceToNat, Int.reduceNe, Int.reduceBEq, Int.reduceBNe, Nat.reduceLT, Nat.reduceSub, Nat.reduceDiv, Nat.reduceMod, Int.reduceTDiv, Int.reduceTMod, h1], rowcmp_end' a b i (by omega) (by omega)⟩
theorem v_rrow (a b : List Val) (x y : AV) (hx : IsRow x a) (hy : IsRow y b) (ha : ∀ v ∈ a, v.ok) (hb : ∀ v ∈ b, v.ok) (hl : a.length < 9223372036854775807) (hp : Heap) :
    CL X GV 14 [x, y] hp = some (.int .i64 (rowcmp a b), hp) := by
  have u1 := hx.uf
  have u2 := hy.uf
  have d1 := hx.drop1
  have d2 := hy.drop1
  have n1 := hx.lens
  have n2 := hy.lens
  rw [CL_eq (fn := x14) rfl]
  simp (config := {contextual := true, maxSteps := 10000000, implicitDefEqProofs := false}) only [x14, go_sem, ↓reduceIte, reduceCtorEq, Nat.reduceEqDiff, Nat.reduceAdd, Nat.reduceLeDiff, Nat.reduceMul, Int.reduceEq, Int.reduceLT, Int.reduceLE, Int.reduceAdd, Int.reduceSub, Int.reduceMul, Int.reduceNeg, Int.reduceToNat, Int.reduceNe, Int.reduceBEq, Int.reduceBNe, Nat.reduceLT, Nat.reduceSub, Nat.reduceDiv, Nat.reduceMod, Int.reduceTDiv, Int.reduceTMod, u1, u2, d1, d2, n1, n2]
  refine elimL (fun r => finK _ (seqK (blockK 0 r) _) = _) (l_rrow a b x y hx hy ha hb hl ([] :: hp) a.length 0 (by omega) (by omega) _ ?_ ?_ ?_) ?_
  all_goals try simp only [go_sem, ↓reduceIte, reduceCtorEq, Nat.reduceEqDiff, Nat.reduceAdd, Nat.reduceLeDiff, Nat.reduceMul, Int.reduceEq, Int.reduceLT, Int.reduceLE, Int.reduceAdd, Int.reduceSub, Int.reduceMul, Int.reduceNeg, Int.reduceToNat, Int.reduceNe, Int.reduceBEq, Int.reduceBNe, Nat.reduceLT, Nat.reduceSub, Nat.reduceDiv, Nat.reduceMod, Int.reduceTDiv, Int.reduceTMod]
  · rfl
  · rintro r (⟨fr', rfl, f0, f1, hR⟩ | ⟨fr', rfl, f4⟩)
    · simp (config := {contextual := true, maxSteps := 10000000, implicitDefEqProofs := false}) only [go_sem, ↓reduceIte, reduceCtorEq, Nat.reduceEqDiff, Nat.reduceAdd, Nat.reduceLeDiff, Nat.reduceMul, Int.reduceEq, Int.reduceLT, Int.reduceLE, Int.reduceAdd, Int.reduceSub, Int.reduceMul, Int.reduceNeg, Int.reduceToNat, Int.reduceNe, Int.reduceBEq, Int.reduceBNe, Nat.reduceLT, Nat.reduceSub, Nat.reduceDiv, Nat.reduceMod, Int.reduceTDiv, Int.reduceTMod, f0, f1, u1, u2, d1, d2, n1, n2, v_sizes]
      rw [hR]
    · simp (config := {contextual := true, maxSteps := 10000000, implicitDefEqProofs := false}) only [go_sem, ↓reduceIte, reduceCtorEq, Nat.reduceEqDiff, Nat.reduceAdd, Nat.reduceLeDiff, Nat.reduceMul, Int.reduceEq, Int.reduceLT, Int.reduceLE, Int.reduceAdd, Int.reduceSub, Int.reduceMul, Int.reduceNeg, Int.reduceToNat, Int.reduceNe, Int.reduceBEq, Int.reduceBNe, Nat.reduceLT, Nat.reduceSub, Nat.reduceDiv, Nat.reduceMod, Int.reduceTDiv, Int.reduceTMod, f4]
theorem v_rreckon (op : Nat) (hop : op < 3) (a b : Val) (ha : a.ok) (hb : b.ok) (hp : Heap) : CL X GV 21 [.int .i64 ((op + 1 : Nat) : Int), a.av, b.av] hp = some (rv (recV op a b), hp) := by
  obtain ⟨k, n, d, s⟩ := a
  obtain ⟨k', n', d', s'⟩ := b
  simp only [Val.ok, Val.av, chkV, rv, recV] at *
  have h1 := fun k s => v_rcheck k n d s ha.2.1 ha.2.2
  have h2 := fun k s => v_rcheck k n' d' s hb.2.1 hb.2.2
  have h3 := fun k s => v_rfrac k n d s
  have h4 := fun k s => v_rfrac k n' d' s
  have i1 : I64 1 := by unfold I64; omega
  have q1 := r18 n d n' d' ha.2.1 ha.2.2 hb.2.1 hb.2.2
  have q2 := r20 n d n' d' ha.2.1 ha.2.2 hb.2.1 hb.2.2
  have q3 := r23 n d n' d' ha.2.1 ha.2.2 hb.2.1 hb.2.2
  have p1 := r18 n 1 n' 1 ha.2.1 i1 hb.2.1 i1
  have p2 := r20 n 1 n' 1 ha.2.1 i1 hb.2.1 i1
  have p3 := r23 n 1 n' 1 ha.2.1 i1 hb.2.1 i1
  simp only [vA, rt_eq] at h1 h2 h3 h4 q1 q2 q3 p1 p2 p3 ⊢
  rw [CL_eq (fn := x21) rfl]
  by_cases c1 : chk k n d s = 0
  · by_cases c2 : chk k' n' d' s' = 0
    · by_cases e : k = k'
      · subst e
        by_cases k3 : k = 3
        · subst k3
          simp (config := {contextual := true, maxSteps := 10000000, implicitDefEqProofs := false}) only [x21, go_sem, ↓reduceIte, reduceCtorEq, Nat.reduceEqDiff, Nat.reduceAdd, Nat.reduceLeDiff, Nat.reduceMul, Int.reduceEq, Int.reduceLT, Int.reduceLE, Int.reduceAdd, Int.reduceSub, Int.reduceMul, Int.reduceNeg, Int.reduceToNat, Int.reduceNe, Int.reduceBEq, Int.reduceBNe, Nat.reduceLT, Nat.reduceSub, Nat.reduceDiv, Nat.reduceMod, Int.reduceTDiv, Int.reduceTMod, h1, h2, c1, c2]
          simp
        · by_cases k1 : k = 1
          · subst k1
            match op, hop with
            | 0, _ => simp (config := {contextual := true, maxSteps := 10000000, implicitDefEqProofs := false}) only [x21, go_sem, ↓reduceIte, reduceCtorEq, Nat.reduceEqDiff, Nat.reduceAdd, Nat.reduceLeDiff, Nat.reduceMul, Int.reduceEq, Int.reduceLT, Int.reduceLE, Int.reduceAdd, Int.reduceSub, Int.reduceMul, Int.reduceNeg, Int.reduceToNat, Int.reduceNe, Int.reduceBEq, Int.reduceBNe, Nat.reduceLT, Nat.reduceSub, Nat.reduceDiv, Nat.reduceMod, Int.reduceTDiv, Int.reduceTMod, h1, h2, h3, h4, c1, c2, p1, opR]; ((repeat' split) <;> simp_all)
            | 1, _ => simp (config := {contextual := true, maxSteps := 10000000, implicitDefEqProofs := false}) only [x21, go_sem, ↓reduceIte, reduceCtorEq, Nat.reduceEqDiff, Nat.reduceAdd, Nat.reduceLeDiff, Nat.reduceMul, Int.reduceEq, Int.reduceLT, Int.reduceLE, Int.reduceAdd, Int.reduceSub, Int.reduceMul, Int.reduceNeg, Int.reduceToNat, Int.reduceNe, Int.reduceBEq, Int.reduceBNe, Nat.reduceLT, Nat.reduceSub, Nat.reduceDiv, Nat.reduceMod, Int.reduceTDiv, Int.reduceTMod, h1, h2, h3, h4, c1, c2, p2, opR]; ((repeat' split) <;> simp_all)
            | 2, _ => simp (config := {contextual := true, maxSteps := 10000000, implicitDefEqProofs := false}) only [x21, go_sem, ↓reduceIte, reduceCtorEq, Nat.reduceEqDiff, Nat.reduceAdd, Nat.reduceLeDiff, Nat.reduceMul, Int.reduceEq, Int.reduceLT, Int.reduceLE, Int.reduceAdd, Int.reduceSub, Int.reduceMul, Int.reduceNeg, Int.reduceToNat, Int.reduceNe, Int.reduceBEq, Int.reduceBNe, Nat.reduceLT, Nat.reduceSub, Nat.reduceDiv, Nat.reduceMod, Int.reduceTDiv, Int.reduceTMod, h1, h2, h3, h4, c1, c2, p3, opR]; ((repeat' split) <;> simp_all)
          · match op, hop with
            | 0, _ => simp (config := {contextual := true, maxSteps := 10000000, implicitDefEqProofs := false}) only [x21, go_sem, ↓reduceIte, reduceCtorEq, Nat.reduceEqDiff, Nat.reduceAdd, Nat.reduceLeDiff, Nat.reduceMul, Int.reduceEq, Int.reduceLT, Int.reduceLE, Int.reduceAdd, Int.reduceSub, Int.reduceMul, Int.reduceNeg, Int.reduceToNat, Int.reduceNe, Int.reduceBEq, Int.reduceBNe, Nat.reduceLT, Nat.reduceSub, Nat.reduceDiv, Nat.reduceMod, Int.reduceTDiv, Int.reduceTMod, h1, h2, h3, h4, c1, c2, k1, k3, q1, opR]; ((repeat' split) <;> simp_all)
            | 1, _ => simp (config := {contextual := true, maxSteps := 10000000, implicitDefEqProofs := false}) only [x21, go_sem, ↓reduceIte, reduceCtorEq, Nat.reduceEqDiff, Nat.reduceAdd, Nat.reduceLeDiff, Nat.reduceMul, Int.reduceEq, Int.reduceLT, Int.reduceLE, Int.reduceAdd, Int.reduceSub, Int.reduceMul, Int.reduceNeg, Int.reduceToNat, Int.reduceNe, Int.reduceBEq, Int.reduceBNe, Nat.reduceLT, Nat.reduceSub, Nat.reduceDiv, Nat.reduceMod, Int.reduceTDiv, Int.reduceTMod, h1, h2, h3, h4, c1, c2, k1, k3, q2, opR]; ((repeat' split) <;> simp_all)
            | 2, _ => simp (config := {contextual := true, maxSteps := 10000000, implicitDefEqProofs := false}) only [x21, go_sem, ↓reduceIte, reduceCtorEq, Nat.reduceEqDiff, Nat.reduceAdd, Nat.reduceLeDiff, Nat.reduceMul, Int.reduceEq, Int.reduceLT, Int.reduceLE, Int.reduceAdd, Int.reduceSub, Int.reduceMul, Int.reduceNeg, Int.reduceToNat, Int.reduceNe, Int.reduceBEq, Int.reduceBNe, Nat.reduceLT, Nat.reduceSub, Nat.reduceDiv, Nat.reduceMod, Int.reduceTDiv, Int.reduceTMod, h1, h2, h3, h4, c1, c2, k1, k3, q3, opR]; ((repeat' split) <;> simp_all)
      · simp (config := {contextual := true, maxSteps := 10000000, implicitDefEqProofs := false}) only [x21, go_sem, ↓reduceIte, reduceCtorEq, Nat.reduceEqDiff, Nat.reduceAdd, Nat.reduceLeDiff, Nat.reduceMul, Int.reduceEq, Int.reduceLT, Int.reduceLE, Int.reduceAdd, Int.reduceSub, Int.reduceMul, Int.reduceNeg, Int.reduceToNat, Int.reduceNe, Int.reduceBEq, Int.reduceBNe, Nat.reduceLT, Nat.reduceSub, Nat.reduceDiv, Nat.reduceMod, Int.reduceTDiv, Int.reduceTMod, h1, h2, c1, c2, e]
        all_goals simp [e]
    · simp (config := {contextual := true, maxSteps := 10000000, implicitDefEqProofs := false}) only [x21, go_sem, ↓reduceIte, reduceCtorEq, Nat.reduceEqDiff, Nat.reduceAdd, Nat.reduceLeDiff, Nat.reduceMul, Int.reduceEq, Int.reduceLT, Int.reduceLE, Int.reduceAdd, Int.reduceSub, Int.reduceMul, Int.reduceNeg, Int.reduceToNat, Int.reduceNe, Int.reduceBEq, Int.reduceBNe, Nat.reduceLT, Nat.reduceSub, Nat.reduceDiv, Nat.reduceMod, Int.reduceTDiv, Int.reduceTMod, h1, h2, c1, c2]
      all_goals simp [c2]
  · simp (config := {contextual := true, maxSteps := 10000000, implicitDefEqProofs := false}) only [x21, go_sem, ↓reduceIte, reduceCtorEq, Nat.reduceEqDiff, Nat.reduceAdd, Nat.reduceLeDiff, Nat.reduceMul, Int.reduceEq, Int.reduceLT, Int.reduceLE, Int.reduceAdd, Int.reduceSub, Int.reduceMul, Int.reduceNeg, Int.reduceToNat, Int.reduceNe, Int.reduceBEq, Int.reduceBNe, Nat.reduceLT, Nat.reduceSub, Nat.reduceDiv, Nat.reduceMod, Int.reduceTDiv, Int.reduceTMod, h1, h2, c1]
    all_goals simp [c1]
end Go.Proofs.YtgbmobfjanajaaaGreatDoor.Sx.T
namespace Go.Proofs.YtgbmobfjanajaaaGreatDoor.Sx.T
open Go Go.Proofs.YtgbmobfjanajaaaGreatDoor.Sx
set_option maxRecDepth 100000
set_option maxHeartbeats 8000000
theorem v_lsame (a b : Val) (hp : Heap) : CL X GV 15 [a.av, b.av] hp = some (.bool (decide (a = b)), hp) := by
  obtain ⟨k, n, d, s⟩ := a
  obtain ⟨k', n', d', s'⟩ := b
  simp only [Val.av, vA]
  rw [CL_eq (fn := x15) rfl]
  simp (config := {contextual := true, maxSteps := 10000000, implicitDefEqProofs := false}) only [x15, go_sem, ↓reduceIte, reduceCtorEq, Nat.reduceEqDiff, Nat.reduceAdd, Nat.reduceLeDiff, Nat.reduceMul, Int.reduceEq, Int.reduceLT, Int.reduceLE, Int.reduceAdd, Int.reduceSub, Int.reduceMul, Int.reduceNeg, Int.reduceToNat, Int.reduceNe, Int.reduceBEq, Int.reduceBNe, Nat.reduceLT, Nat.reduceSub, Nat.reduceDiv, Nat.reduceMod, Int.reduceTDiv, Int.reduceTMod]
  congr 3
  rw [Bool.eq_iff_iff]
  simp
theorem IsRow.list {x : AV} {vs : List Val} (h : IsRow x vs) (hp : Heap) : listOf hp 4 x = some (vs.map Val.cells) := by
  rcases h with ⟨rfl, rfl⟩ | ⟨o, _, rfl⟩
  · rfl
  · simp [listOf]
theorem cells_free : ∀ vs : List Val, refFreeL (vs.map Val.cells).flatten = true
  | [] => rfl
  | v :: vs => by
    have := cells_free vs
    simp only [List.map_cons, List.flatten_cons, Val.cells, List.cons_append, List.nil_append, refFreeL, refFree, this, Bool.and_true, Bool.and_self]
theorem cells_plain : ∀ vs : List Val, (vs.map Val.cells).flatten.all plain1 = true
  | [] => rfl
  | v :: vs => by
    have := cells_plain vs
    simp only [List.map_cons, List.flatten_cons, Val.cells, List.cons_append, List.nil_append, List.all_cons, plain1, this, Bool.and_true, Bool.and_self]
def OWh (c6 c7 : AV) (hp : Heap) (r : Option (XExit × St)) : Prop := ∃ fr', r = some (.exit 0, ⟨fr', hp⟩) ∧ fget fr' 6 = c6 ∧ fget fr' 7 = c7
theorem l_wrows (a : List Val) (x y y5 c6 c7 : AV) (hx : IsRow x a) (hy : IsRow y a) (hu : uf y5 = y) (hl : a.length < 9223372036854775807) (hp : Heap) :
    ∀ (m i : Nat) (_ : i + m = a.length) (fr : List AV), fget fr 0 = x → fget fr 5 = y5 → fget fr 6 = c6 → fget fr 7 = c7 → fget fr 8 = .int .i64 i →
    OWh c6 c7 hp (LC X GV (.loop x4_l0) ⟨fr, hp⟩) := by
  have u1 := hx.uf
  have d1 := hx.drop1
  have d2 := hy.drop1
  have u2 := hy.uf
  have n1 := hx.lens
  intro m
  induction m with
  | zero =>
    intro i hi fr h0 h5 h6 h7 h8
    rw [LC_loop]
    have hc : ((i : Int) < (a.length : Int)) = False := by simp; omega
    simp (config := {contextual := true, maxSteps := 10000000, implicitDefEqProofs := false}) only [x4_l0_run, go_sem, ↓reduceIte, reduceCtorEq, Nat.reduceEqDiff, Nat.reduceAdd, Nat.reduceLeDiff, Nat.reduceMul, Int.reduceEq, Int.reduceLT, Int.reduceLE, Int.reduceAdd, Int.reduceSub, Int.reduceMul, Int.reduceNeg, Int.reduceToNat, Int.reduceNe, Int.reduceBEq, Int.reduceBNe, Nat.reduceLT, Nat.reduceSub, Nat.reduceDiv, Nat.reduceMod, Int.reduceTDiv, Int.reduceTMod, h0, h5, h6, h7, h8, hc, u1, d1, n1]
    exact ⟨_, rfl, by simp only [go_sem, ↓reduceIte, reduceCtorEq, Nat.reduceEqDiff, Nat.reduceAdd, Nat.reduceLeDiff, Nat.reduceMul, Int.reduceEq, Int.reduceLT, Int.reduceLE, Int.reduceAdd, Int.reduceSub, Int.reduceMul, Int.reduceNeg, Int.reduceToNat, Int.reduceNe, Int.reduceBEq, Int.reduceBNe, Nat.reduceLT, Nat.reduceSub, Nat.reduceDiv, Nat.reduceMod, Int.reduceTDiv, Int.reduceTMod, h6], by simp only [go_sem, ↓reduceIte, reduceCtorEq, Nat.reduceEqDiff, Nat.reduceAdd, Nat.reduceLeDiff, Nat.reduceMul, Int.reduceEq, Int.reduceLT, Int.reduceLE, Int.reduceAdd, Int.reduceSub, Int.reduceMul, Int.reduceNeg, Int.reduceToNat, Int.reduceNe, Int.reduceBEq, Int.reduceBNe, Nat.reduceLT, Nat.reduceSub, Nat.reduceDiv, Nat.reduceMod, Int.reduceTDiv, Int.reduceTMod, h7]⟩
  | succ m ih =>
    intro i hi fr h0 h5 h6 h7 h8
    rw [LC_loop]
    have hc : ((i : Int) < (a.length : Int)) = True := by simp; omega
    have ka : i < a.length := by omega
    have a1 := hx.at ka
    have a2 := hy.at ka
    have hs := fun hp => v_lsame (a.getD i default) (a.getD i default) hp
    have wi : wr .i64 ((i : Int) + 1) = ((i + 1 : Nat) : Int) := by rw [wr_i64 _ (by omega)]; omega
    generalize a.getD i default = va at a1 a2 hs
    obtain ⟨k, n, d, s⟩ := va
    simp only [Val.av, Val.cells, vA, decide_true] at hs a1 a2
    simp (config := {contextual := true, maxSteps := 10000000, implicitDefEqProofs := false}) only [x4_l0_run, go_sem, ↓reduceIte, reduceCtorEq, Nat.reduceEqDiff, Nat.reduceAdd, Nat.reduceLeDiff, Nat.reduceMul, Int.reduceEq, Int.reduceLT, Int.reduceLE, Int.reduceAdd, Int.reduceSub, Int.reduceMul, Int.reduceNeg, Int.reduceToNat, Int.reduceNe, Int.reduceBEq, Int.reduceBNe, Nat.reduceLT, Nat.reduceSub, Nat.reduceDiv, Nat.reduceMod, Int.reduceTDiv, Int.reduceTMod, h0, h5, h6, h7, h8, hc, u1, u2, hu, d1, d2, n1, a1, a2, hs, wi]
    refine ih (i + 1) (by omega) _ ?_ ?_ ?_ ?_ ?_ <;> simp only [go_sem, ↓reduceIte, reduceCtorEq, Nat.reduceEqDiff, Nat.reduceAdd, Nat.reduceLeDiff, Nat.reduceMul, Int.reduceEq, Int.reduceLT, Int.reduceLE, Int.reduceAdd, Int.reduceSub, Int.reduceMul, Int.reduceNeg, Int.reduceToNat, Int.reduceNe, Int.reduceBEq, Int.reduceBNe, Nat.reduceLT, Nat.reduceSub, Nat.reduceDiv, Nat.reduceMod, Int.reduceTDiv, Int.reduceTMod, h0, h5, h6, h7, h8]
theorem v_ValueRows (a b : List Val) (x y : AV) (hx : IsRow x a) (hy : IsRow y b) (ha : ∀ v ∈ a, v.ok) (hb : ∀ v ∈ b, v.ok) (hl : a.length * 40 ≤ 140737488355328) (hp : Heap) :
    CL X GV 4 [x, y] hp = some (.bool true, hp) := by
  have u1 := hx.uf
  have u2 := hy.uf
  have d1 := hx.drop1
  have d2 := hy.drop1
  have f1 := hx.free
  have f2 := hy.free
  have hL := hx.list
  have hlt := liveTold
  have m1 := fun hp => v_row a b x y hx hy ha hb (by omega) hp
  have z4 : 0 / 4 = 0 := rfl
  by_cases hn : a = []
  · subst hn
    have hz : IsRow (.lst .tight 4 []) [] := .inr ⟨.tight, .inr rfl, rfl⟩
    have m2 := fun hp => v_rrow [] b _ y hz hy ha hb (by simp) hp
    rw [CL_eq (fn := x4) rfl]
    simp (config := {contextual := true, maxSteps := 10000000, implicitDefEqProofs := false}) only [x4, go_sem, ↓reduceIte, reduceCtorEq, Nat.reduceEqDiff, Nat.reduceAdd, Nat.reduceLeDiff, Nat.reduceMul, Int.reduceEq, Int.reduceLT, Int.reduceLE, Int.reduceAdd, Int.reduceSub, Int.reduceMul, Int.reduceNeg, Int.reduceToNat, Int.reduceNe, Int.reduceBEq, Int.reduceBNe, Nat.reduceLT, Nat.reduceSub, Nat.reduceDiv, Nat.reduceMod, Int.reduceTDiv, Int.reduceTMod, u1, u2, d1, d2, f1, f2, hL, m1, m2, z4, Nat.reduceLT]
    refine elimL (fun r => finK _ (seqK (blockK 0 r) _) = _) (l_wrows [] x (.lst .tight 4 []) (.lst .tight 4 []) (.int .i64 (rowcmp [] b)) (.int .i64 (rowcmp [] b)) hx hz rfl (by simp) ([] :: hp) 0 0 rfl _ ?_ ?_ ?_ ?_ ?_) ?_
    all_goals try simp only [go_sem, ↓reduceIte, reduceCtorEq, Nat.reduceEqDiff, Nat.reduceAdd, Nat.reduceLeDiff, Nat.reduceMul, Int.reduceEq, Int.reduceLT, Int.reduceLE, Int.reduceAdd, Int.reduceSub, Int.reduceMul, Int.reduceNeg, Int.reduceToNat, Int.reduceNe, Int.reduceBEq, Int.reduceBNe, Nat.reduceLT, Nat.reduceSub, Nat.reduceDiv, Nat.reduceMod, Int.reduceTDiv, Int.reduceTMod]
    · rfl
    · rintro r ⟨fr', rfl, h6, h7⟩
      simp (config := {contextual := true, maxSteps := 10000000, implicitDefEqProofs := false}) only [go_sem, ↓reduceIte, reduceCtorEq, Nat.reduceEqDiff, Nat.reduceAdd, Nat.reduceLeDiff, Nat.reduceMul, Int.reduceEq, Int.reduceLT, Int.reduceLE, Int.reduceAdd, Int.reduceSub, Int.reduceMul, Int.reduceNeg, Int.reduceToNat, Int.reduceNe, Int.reduceBEq, Int.reduceBNe, Nat.reduceLT, Nat.reduceSub, Nat.reduceDiv, Nat.reduceMod, Int.reduceTDiv, Int.reduceTMod, h6, h7, hlt]
  · have hz : IsRow (.lst .none 4 (a.map Val.cells)) a := .inr ⟨.none, .inl rfl, rfl⟩
    have m2 := fun hp => v_rrow a b _ y hz hy ha hb (by omega) hp
    have hne : (a.map Val.cells = []) = False := by simp [hn]
    have rm : ((a.map Val.cells).length * 40 ≤ room) = True := by unfold room; simp; exact hl
    have c1 := cells_free a
    have c2 := cells_plain a
    rw [CL_eq (fn := x4) rfl]
    simp (config := {contextual := true, maxSteps := 10000000, implicitDefEqProofs := false}) only [x4, go_sem, ↓reduceIte, reduceCtorEq, Nat.reduceEqDiff, Nat.reduceAdd, Nat.reduceLeDiff, Nat.reduceMul, Int.reduceEq, Int.reduceLT, Int.reduceLE, Int.reduceAdd, Int.reduceSub, Int.reduceMul, Int.reduceNeg, Int.reduceToNat, Int.reduceNe, Int.reduceBEq, Int.reduceBNe, Nat.reduceLT, Nat.reduceSub, Nat.reduceDiv, Nat.reduceMod, Int.reduceTDiv, Int.reduceTMod, u1, u2, d1, d2, f1, f2, hL, m1, m2, z4, Nat.reduceLT, hne, rm, c1, c2]
    refine elimL (fun r => finK _ (seqK (blockK 0 r) _) = _) (l_wrows a x (.lst .none 4 (a.map Val.cells)) (.lst .own 4 (a.map Val.cells)) (.int .i64 (rowcmp a b)) (.int .i64 (rowcmp a b)) hx hz rfl (by omega) ([] :: hp) a.length 0 (by omega) _ ?_ ?_ ?_ ?_ ?_) ?_
    all_goals try simp only [go_sem, ↓reduceIte, reduceCtorEq, Nat.reduceEqDiff, Nat.reduceAdd, Nat.reduceLeDiff, Nat.reduceMul, Int.reduceEq, Int.reduceLT, Int.reduceLE, Int.reduceAdd, Int.reduceSub, Int.reduceMul, Int.reduceNeg, Int.reduceToNat, Int.reduceNe, Int.reduceBEq, Int.reduceBNe, Nat.reduceLT, Nat.reduceSub, Nat.reduceDiv, Nat.reduceMod, Int.reduceTDiv, Int.reduceTMod]
    · rfl
    · rintro r ⟨fr', rfl, h6, h7⟩
      simp (config := {contextual := true, maxSteps := 10000000, implicitDefEqProofs := false}) only [go_sem, ↓reduceIte, reduceCtorEq, Nat.reduceEqDiff, Nat.reduceAdd, Nat.reduceLeDiff, Nat.reduceMul, Int.reduceEq, Int.reduceLT, Int.reduceLE, Int.reduceAdd, Int.reduceSub, Int.reduceMul, Int.reduceNeg, Int.reduceToNat, Int.reduceNe, Int.reduceBEq, Int.reduceBNe, Nat.reduceLT, Nat.reduceSub, Nat.reduceDiv, Nat.reduceMod, Int.reduceTDiv, Int.reduceTMod, h6, h7, hlt]
end Go.Proofs.YtgbmobfjanajaaaGreatDoor.Sx.T
