/- Layer 2, part 1: checks and orders of values. -/
import Derived.Test.YtafeikbbjhmlaaaGreatDoorR
set_option linter.unusedVariables false
set_option linter.unusedSimpArgs false
namespace Go.Proofs.YtafeikbbjhmlaaaGreatDoor.Sx.T
open Go Go.Proofs.YtafeikbbjhmlaaaGreatDoor.Sx
set_option maxRecDepth 100000
set_option maxHeartbeats 4000000
def vA (k n d : Int) (s : List UInt8) : AV := .agg [.int .i64 k, .int .i64 n, .int .i64 d, .str s]
def chk (k n d : Int) (s : List UInt8) : Int :=
  if k = 1 then (if d = 0 ∧ s = [] then 0 else 20) else if k = 2 then (if s = [] ∧ mayR n d = true then 0 else 20) else if k = 3 then (if n = 0 ∧ d = 0 then (if s.length ≤ 64 then 0 else 2) else 20) else 20
theorem v_frac (k n d : Int) (s : List UInt8) (hp : Heap) : CL X GV 81 [vA k n d s] hp = some (.agg [.int .i64 n, .int .i64 d], hp) := by
  rw [CL_eq (fn := x81) rfl]
  simp +contextual -implicitDefEqProofs (maxSteps := 10000000) only [x81, vA, go_sem, ↓reduceIte, Nat.reduceEqDiff, Nat.reduceAdd, Nat.reduceLeDiff]
theorem v_rfrac (k n d : Int) (s : List UInt8) (hp : Heap) : CL X GV 85 [vA k n d s] hp = some (.agg [.int .i64 n, .int .i64 d], hp) := by
  rw [CL_eq (fn := x85) rfl]
  simp +contextual -implicitDefEqProofs (maxSteps := 10000000) only [x85, vA, go_sem, ↓reduceIte, Nat.reduceEqDiff, Nat.reduceAdd, Nat.reduceLeDiff]
theorem may_eq' (n d : Int) (hn : I64 n) (hd : I64 d) : ((ofR n d).2.2 = 0 ∧ (ofR n d).1 = n ∧ (ofR n d).2.1 = d) ↔ mayR n d = true := by
  by_cases h : 0 < d
  · have := may_eq n d hn hd h
    rw [← this]
    simp
  · have hm : mayR n d = false := by simp [mayR, h]
    rw [hm]
    constructor
    · rintro ⟨h1, _, h3⟩
      exfalso
      unfold ofR at h1 h3
      by_cases h0 : d = 0
      · rw [if_pos h0] at h1; simp at h1
      · rw [if_neg h0] at h3 h1
        unfold frc mk at h3 h1
        generalize d.natAbs / Nat.gcd (n * d.sign).natAbs d.natAbs = q at h3 h1
        generalize (n * d.sign).natAbs / Nat.gcd (n * d.sign).natAbs d.natAbs = p at h3 h1
        simp only at h3 h1
        split at h3
        · rename_i hc; rw [if_pos hc] at h1; simp at h1
        · split at h3 <;> simp at h3 <;> omega
    · intro h; cases h
theorem v_check (k n d : Int) (s : List UInt8) (hn : I64 n) (hd : I64 d) (hp : Heap) : CL X GV 52 [vA k n d s] hp = some (.int .i64 (chk k n d s), hp) := by
  have h1 := r10 n d hn hd
  have h2 := fun s => v_frac 2 n d s
  have h3 := may_eq' n d hn hd
  simp only [rt_eq, vA] at h1 h2
  rw [CL_eq (fn := x52) rfl]
  by_cases k1 : k = 1
  · subst k1
    simp +contextual -implicitDefEqProofs (maxSteps := 10000000) only [x52, vA, chk, go_sem, ↓reduceIte, Nat.reduceEqDiff, Nat.reduceAdd, Int.reduceBEq, Int.reduceBNe, h1]
    by_cases hd0 : d = 0 <;> by_cases hs : s = [] <;> simp [hd0, hs]
  · by_cases k2 : k = 2
    · subst k2
      simp +contextual -implicitDefEqProofs (maxSteps := 10000000) only [x52, vA, chk, go_sem, ↓reduceIte, Nat.reduceEqDiff, Nat.reduceAdd, Int.reduceEq, Int.reduceBEq, Int.reduceBNe, h1, h2]
      by_cases hs : s = []
      · subst hs
        by_cases hm : mayR n d = true
        · obtain ⟨e1, e2, e3⟩ := h3.2 hm
          simp [e1, e2, e3, hm]
        · have hx : ¬ ((ofR n d).2.2 = 0 ∧ (ofR n d).1 = n ∧ (ofR n d).2.1 = d) := fun e => hm (h3.1 e)
          by_cases e1 : (ofR n d).2.2 = 0 <;> by_cases e2 : (ofR n d).1 = n <;> by_cases e3 : (ofR n d).2.1 = d <;> simp_all
      · simp [hs]
    · simp +contextual -implicitDefEqProofs (maxSteps := 10000000) only [x52, vA, chk, go_sem, ↓reduceIte, Nat.reduceEqDiff, Nat.reduceAdd, Int.reduceBEq, Int.reduceBNe, h1, k1, k2]
      by_cases k3 : k = 3 <;> by_cases hn0 : n = 0 <;> by_cases hd0 : d = 0 <;> by_cases hl : s.length ≤ 64 <;> simp [k3, hn0, hd0, hl] <;> omega
theorem v_rcheck (k n d : Int) (s : List UInt8) (hn : I64 n) (hd : I64 d) (hp : Heap) : CL X GV 58 [vA k n d s] hp = some (.int .i64 (chk k n d s), hp) := by
  have h1 := r33 n d hn hd
  have h2 := fun s => v_rfrac 2 n d s
  simp only [vA] at h1 h2
  rw [CL_eq (fn := x58) rfl]
  by_cases k1 : k = 1
  · subst k1
    simp +contextual -implicitDefEqProofs (maxSteps := 10000000) only [x58, vA, chk, go_sem, ↓reduceIte, Nat.reduceEqDiff, Nat.reduceAdd, Int.reduceBEq, Int.reduceBNe]
    by_cases hd0 : d = 0 <;> by_cases hs : s = [] <;> simp [hd0, hs]
  · by_cases k2 : k = 2
    · subst k2
      simp +contextual -implicitDefEqProofs (maxSteps := 10000000) only [x58, vA, chk, go_sem, ↓reduceIte, Nat.reduceEqDiff, Nat.reduceAdd, Int.reduceEq, Int.reduceBEq, Int.reduceBNe, h1, h2]
      by_cases hs : s = [] <;> by_cases hm : mayR n d = true <;> simp [hs, hm]
    · simp +contextual -implicitDefEqProofs (maxSteps := 10000000) only [x58, vA, chk, go_sem, ↓reduceIte, Nat.reduceEqDiff, Nat.reduceAdd, Int.reduceBEq, Int.reduceBNe, k1, k2]
      by_cases k3 : k = 3 <;> by_cases hn0 : n = 0 <;> by_cases hd0 : d = 0 <;> by_cases hl : s.length ≤ 64 <;> simp [k3, hn0, hd0, hl] <;> omega
end Go.Proofs.YtafeikbbjhmlaaaGreatDoor.Sx.T
namespace Go.Proofs.YtafeikbbjhmlaaaGreatDoor.Sx.T
open Go Go.Proofs.YtafeikbbjhmlaaaGreatDoor.Sx
set_option maxRecDepth 100000
set_option maxHeartbeats 4000000
structure Val where
  k : Int
  n : Int
  d : Int
  s : List UInt8
  deriving DecidableEq, Inhabited
def Val.cells (v : Val) : List AV := [.int .i64 v.k, .int .i64 v.n, .int .i64 v.d, .str v.s]
def Val.av (v : Val) : AV := vA v.k v.n v.d v.s
def Val.ok (v : Val) : Prop := I64 v.k ∧ I64 v.n ∧ I64 v.d
def chkV (v : Val) : Int := chk v.k v.n v.d v.s
def icmp (x y : Int) : Int := if x < y then -1 else if y < x then 1 else 0
def scmp (s t : List UInt8) : Int := if s = t then 0 else if bless s t = true then -1 else 1
def vcmp (a b : Val) : Int :=
  if chkV a ≠ 0 ∨ chkV b ≠ 0 then 0 else if a.k ≠ b.k then icmp a.k b.k else if a.k = 1 then icmp a.n b.n else if a.k = 2 then cmpR a.n a.d b.n b.d else scmp a.s b.s
theorem v_nan (x : Int) (hp : Heap) : CL X GV 104 [.int .i64 x] hp = some (.bool false, hp) := by
  rw [CL_eq (fn := x104) rfl]
  simp +contextual -implicitDefEqProofs (maxSteps := 10000000) only [x104, go_sem, ↓reduceIte, reduceCtorEq, Nat.reduceEqDiff]
  simp
theorem v_nan64 (x : Int) (hp : Heap) : CL X GV 129 [.int .i64 x] hp = some (.bool false, hp) := by
  rw [CL_eq (fn := x129) rfl]
  simp +contextual -implicitDefEqProofs (maxSteps := 10000000) only [x129, go_sem, ↓reduceIte, reduceCtorEq, Nat.reduceEqDiff]
  simp
theorem v_icmp (x y : Int) (hp : Heap) : CL X GV 78 [.int .i64 x, .int .i64 y] hp = some (.int .i64 (icmp x y), hp) := by
  rw [CL_eq (fn := x78) rfl]
  simp +contextual -implicitDefEqProofs (maxSteps := 10000000) only [x78, go_sem, ↓reduceIte, reduceCtorEq, Nat.reduceEqDiff, Int.reduceNeg, v_nan, icmp]
  repeat' split
  all_goals rfl
theorem v_icmp64 (x y : Int) (hp : Heap) : CL X GV 101 [.int .i64 x, .int .i64 y] hp = some (.int .i64 (icmp x y), hp) := by
  rw [CL_eq (fn := x101) rfl]
  simp +contextual -implicitDefEqProofs (maxSteps := 10000000) only [x101, go_sem, ↓reduceIte, reduceCtorEq, Nat.reduceEqDiff, Int.reduceNeg, v_nan64, icmp]
  repeat' split
  all_goals rfl
theorem primX_cmp (s t : List UInt8) : primX 3 [.str s, .str t] = some (.int .i64 (scmp s t)) := by
  simp only [primX, scmp]
  congr 2
  by_cases h : s = t <;> simp [h]
theorem v_bcmp (s t : List UInt8) (hp : Heap) : CL X GV 133 [.str s, .str t] hp = some (.int .i64 (scmp s t), hp) := by
  rw [CL_eq (fn := x133) rfl]
  simp +contextual -implicitDefEqProofs (maxSteps := 10000000) only [x133, go_sem, ↓reduceIte, reduceCtorEq, Nat.reduceEqDiff, primX_cmp]
theorem v_scmp (s t : List UInt8) (hp : Heap) : CL X GV 103 [.str s, .str t] hp = some (.int .i64 (scmp s t), hp) := by
  rw [CL_eq (fn := x103) rfl]
  simp +contextual -implicitDefEqProofs (maxSteps := 10000000) only [x103, go_sem, ↓reduceIte, reduceCtorEq, Nat.reduceEqDiff, v_bcmp]
theorem v_cmp (a b : Val) (ha : a.ok) (hb : b.ok) (hp : Heap) : CL X GV 77 [a.av, b.av] hp = some (.int .i64 (vcmp a b), hp) := by
  obtain ⟨k, n, d, s⟩ := a
  obtain ⟨k', n', d', s'⟩ := b
  simp only [Val.ok, Val.av, vcmp, chkV] at *
  have h1 := fun k s => v_check k n d s ha.2.1 ha.2.2
  have h2 := fun k s => v_check k n' d' s hb.2.1 hb.2.2
  have h3 := fun k s => v_frac k n d s
  have h4 := fun k s => v_frac k n' d' s
  have h5 := r17 n d n' d' ha.2.1 ha.2.2 hb.2.1 hb.2.2
  simp only [vA] at h1 h2 h3 h4 ⊢
  rw [CL_eq (fn := x77) rfl]
  by_cases c1 : chk k n d s = 0
  · by_cases c2 : chk k' n' d' s' = 0
    · by_cases e : k = k'
      · subst e
        simp +contextual -implicitDefEqProofs (maxSteps := 10000000) only [x77, go_sem, ↓reduceIte, Nat.reduceEqDiff, Nat.reduceAdd, Int.reduceBEq, Int.reduceBNe, h1, h2, h3, h4, h5, v_icmp, v_icmp64, v_scmp, c1, c2]
        by_cases k1 : k = 1
        · simp [k1]
        · by_cases k2 : k = 2 <;> simp [k1, k2]
      · simp +contextual -implicitDefEqProofs (maxSteps := 10000000) only [x77, go_sem, ↓reduceIte, Nat.reduceEqDiff, Nat.reduceAdd, Int.reduceBEq, Int.reduceBNe, h1, h2, h3, h4, h5, v_icmp, v_icmp64, c1, c2, e]
        simp []
    · simp +contextual -implicitDefEqProofs (maxSteps := 10000000) only [x77, go_sem, ↓reduceIte, Nat.reduceEqDiff, Nat.reduceAdd, Int.reduceBEq, Int.reduceBNe, h1, h2, h3, h4, h5, v_icmp, v_icmp64, c1, c2]
      simp []
  · simp +contextual -implicitDefEqProofs (maxSteps := 10000000) only [x77, go_sem, ↓reduceIte, Nat.reduceEqDiff, Nat.reduceAdd, Int.reduceBEq, Int.reduceBNe, h1, h3, h4, h5, v_icmp, v_icmp64, c1]
    simp []
end Go.Proofs.YtafeikbbjhmlaaaGreatDoor.Sx.T
namespace Go.Proofs.YtafeikbbjhmlaaaGreatDoor.Sx.T
open Go Go.Proofs.YtafeikbbjhmlaaaGreatDoor.Sx
set_option maxRecDepth 100000
set_option maxHeartbeats 4000000
def rowcmp : List Val → List Val → Int
  | [], [] => 0
  | [], _ :: _ => -1
  | _ :: _, [] => 1
  | a :: l, b :: m => if vcmp a b ≠ 0 then vcmp a b else rowcmp l m
def IsRow (x : AV) (vs : List Val) : Prop := (x = .nilsl ∧ vs = []) ∨ ∃ o, (o = .none ∨ o = .tight) ∧ x = .lst o 4 (vs.map Val.cells)
theorem IsRow.uf {x : AV} {vs : List Val} (h : IsRow x vs) : uf x = x := by
  rcases h with ⟨rfl, _⟩ | ⟨o, ho, rfl⟩
  · rfl
  · rcases ho with rfl | rfl <;> rfl
theorem IsRow.lens {x : AV} {vs : List Val} (h : IsRow x vs) : lensK false x = some (.int .i64 vs.length) := by
  rcases h with ⟨rfl, rfl⟩ | ⟨o, ho, rfl⟩
  · rfl
  · rcases ho with rfl | rfl <;> simp [lensK_lst, lenB]
theorem IsRow.at {x : AV} {vs : List Val} (h : IsRow x vs) {k : Nat} (hk : k < vs.length) : iaddrK 4 x (some k) = some (.elp (vs.getD k default).cells) := by
  rcases h with ⟨rfl, rfl⟩ | ⟨o, _, rfl⟩
  · simp at hk
  · rw [iaddrK_lst, List.length_map, if_pos ⟨rfl, hk⟩]
    simp [List.getD, hk]
theorem IsRow.drop1 {x : AV} {vs : List Val} (h : IsRow x vs) (fr : List AV) (t : Nat) : drop1K x fr t = fr := by
  rcases h with ⟨rfl, rfl⟩ | ⟨o, ho, rfl⟩
  · rfl
  · rcases ho with rfl | rfl <;> rfl
theorem rowcmp_drop (a b : List Val) (i : Nat) (h : i < min a.length b.length) : rowcmp (a.drop i) (b.drop i) =
    if vcmp (a.getD i default) (b.getD i default) ≠ 0 then vcmp (a.getD i default) (b.getD i default) else rowcmp (a.drop (i + 1)) (b.drop (i + 1)) := by
  have ha : i < a.length := by omega
  have hb : i < b.length := by omega
  rw [List.drop_eq_getElem_cons ha, List.drop_eq_getElem_cons hb, rowcmp]
  simp [List.getD, ha, hb]
theorem rowcmp_end (a b : List Val) (i : Nat) (h : i = min a.length b.length) : rowcmp (a.drop i) (b.drop i) = icmp a.length b.length := by
  unfold icmp
  rcases Nat.lt_trichotomy a.length b.length with h1 | h1 | h1
  · obtain rfl : i = a.length := by omega
    rw [List.drop_length, List.drop_eq_getElem_cons h1, rowcmp, if_pos (by omega)]
  · obtain rfl : i = a.length := by omega
    rw [List.drop_length, h1, List.drop_length, rowcmp, if_neg (by omega), if_neg (by omega)]
  · obtain rfl : i = b.length := by omega
    rw [List.drop_length, List.drop_eq_getElem_cons h1, rowcmp, if_neg (by omega), if_pos (by omega)]
def ORow (a b : List Val) (x y : AV) (hp : Heap) (R : Int) (r : Option (XExit × St)) : Prop :=
  (∃ fr', r = some (.exit 0, ⟨fr', hp⟩) ∧ fget fr' 0 = x ∧ fget fr' 1 = y ∧ R = icmp a.length b.length) ∨ (∃ fr', r = some (.ret, ⟨fr', hp⟩) ∧ fget fr' 4 = .int .i64 R)
theorem l_row (a b : List Val) (x y : AV) (hx : IsRow x a) (hy : IsRow y b) (ha : ∀ v ∈ a, v.ok) (hb : ∀ v ∈ b, v.ok) (hl : a.length < 9223372036854775807) (hp : Heap) :
    ∀ (m i : Nat) (_ : i + m = min a.length b.length) (fr : List AV), fget fr 0 = x → fget fr 1 = y → fget fr 12 = .int .i64 i → fget fr 11 = .int .i64 (min a.length b.length : Nat) →
    ORow a b x y hp (rowcmp (a.drop i) (b.drop i)) (LC X GV (.loop x48_l0) ⟨fr, hp⟩) := by
  have u1 := hx.uf
  have u2 := hy.uf
  have d1 := hx.drop1
  have d2 := hy.drop1
  intro m
  induction m with
  | zero =>
    intro i hi fr h0 h1 h12 h11
    rw [LC_loop]
    have e : i = min a.length b.length := by omega
    have hc : ((i : Int) < ((min a.length b.length : Nat) : Int)) = False := by simp; omega
    simp +contextual -implicitDefEqProofs (maxSteps := 10000000) only [x48_l0_run, go_sem, ↓reduceIte, h12, h11, hc]
    exact .inl ⟨_, rfl, by simp only [go_sem, ↓reduceIte, reduceCtorEq, h0], by simp only [go_sem, ↓reduceIte, Nat.reduceEqDiff, h1], rowcmp_end a b i e⟩
  | succ m ih =>
    intro i hi fr h0 h1 h12 h11
    rw [LC_loop]
    have hc : ((i : Int) < ((min a.length b.length : Nat) : Int)) = True := by simp; omega
    have ka : i < a.length := by omega
    have kb : i < b.length := by omega
    have a1 := hx.at ka
    have a2 := hy.at kb
    have oa : (a.getD i default).ok := ha _ (by simp [List.getD, ka])
    have ob : (b.getD i default).ok := hb _ (by simp [List.getD, kb])
    have hcmp := v_cmp _ _ oa ob
    have hr := rowcmp_drop a b i (by omega)
    generalize a.getD i default = va at *
    generalize b.getD i default = vb at *
    obtain ⟨k, n, d, s⟩ := va
    obtain ⟨k', n', d', s'⟩ := vb
    simp only [Val.av, Val.cells, vA] at hcmp a1 a2
    have wi : wr .i64 ((i : Int) + 1) = ((i + 1 : Nat) : Int) := by rw [wr_i64 _ (by omega)]; omega
    by_cases hz : vcmp ⟨k, n, d, s⟩ ⟨k', n', d', s'⟩ = 0
    · rw [hz] at hcmp
      simp +contextual -implicitDefEqProofs (maxSteps := 10000000) only [x48_l0_run, go_sem, ↓reduceIte, reduceCtorEq, Nat.reduceEqDiff, Nat.reduceAdd, Int.reduceBNe, h0, h1, h12, h11, hc, u1, u2, a1, a2, hcmp, wi]
      rw [hr, if_neg (by simp [hz])]
      refine ih (i + 1) (by omega) _ ?_ ?_ ?_ ?_ <;> simp only [go_sem, ↓reduceIte, reduceCtorEq, Nat.reduceEqDiff, h0, h1, h11]
    · simp +contextual -implicitDefEqProofs (maxSteps := 10000000) only [x48_l0_run, go_sem, ↓reduceIte, reduceCtorEq, Nat.reduceEqDiff, Nat.reduceAdd, h0, h1, h12, h11, hc, u1, u2, a1, a2, hcmp, hz]
      exact .inr ⟨_, rfl, by simp only [go_sem, ↓reduceIte]; rw [hr, if_pos hz]⟩
theorem v_row (a b : List Val) (x y : AV) (hx : IsRow x a) (hy : IsRow y b) (ha : ∀ v ∈ a, v.ok) (hb : ∀ v ∈ b, v.ok) (hl : a.length < 9223372036854775807) (hp : Heap) :
    CL X GV 48 [x, y] hp = some (.int .i64 (rowcmp a b), hp) := by
  have u1 := hx.uf
  have u2 := hy.uf
  have d1 := hx.drop1
  have d2 := hy.drop1
  have n1 := hx.lens
  have n2 := hy.lens
  have hm : (if (b.length : Int) < (a.length : Int) then (b.length : Int) else (a.length : Int)) = ((min a.length b.length : Nat) : Int) := by split <;> omega
  rw [CL_eq (fn := x48) rfl]
  simp +contextual -implicitDefEqProofs (maxSteps := 10000000) only [x48, go_sem, ↓reduceIte, reduceCtorEq, Nat.reduceEqDiff, u1, u2, n1, n2, hm]
  refine elimL (fun r => finK _ (seqK (blockK 0 r) _) = _) (l_row a b x y hx hy ha hb hl ([] :: hp) (min a.length b.length) 0 (by omega) _ ?_ ?_ ?_ ?_) ?_
  all_goals try simp only [go_sem, ↓reduceIte, reduceCtorEq, Nat.reduceEqDiff]
  · rfl
  · rintro r (⟨fr', rfl, f0, f1, hR⟩ | ⟨fr', rfl, f4⟩)
    · simp +contextual -implicitDefEqProofs (maxSteps := 10000000) only [go_sem, ↓reduceIte, Nat.reduceEqDiff, f0, f1, u1, u2, n1, n2, v_icmp]
      rw [hR]
    · simp +contextual -implicitDefEqProofs (maxSteps := 10000000) only [go_sem, f4]
end Go.Proofs.YtafeikbbjhmlaaaGreatDoor.Sx.T
namespace Go.Proofs.YtafeikbbjhmlaaaGreatDoor.Sx.T
open Go Go.Proofs.YtafeikbbjhmlaaaGreatDoor.Sx
set_option maxRecDepth 100000
set_option maxHeartbeats 8000000
end Go.Proofs.YtafeikbbjhmlaaaGreatDoor.Sx.T
namespace Go.Proofs.YtafeikbbjhmlaaaGreatDoor.Sx.T
open Go Go.Proofs.YtafeikbbjhmlaaaGreatDoor.Sx
set_option maxRecDepth 100000
set_option maxHeartbeats 8000000
theorem v_sizes (x y : Int) (hp : Heap) : CL X GV 83 [.int .i64 x, .int .i64 y] hp = some (.int .i64 (icmp x y), hp) := by
  rw [CL_eq (fn := x83) rfl]
  simp +contextual -implicitDefEqProofs (maxSteps := 10000000) only [x83, go_sem, ↓reduceIte, reduceCtorEq, Nat.reduceEqDiff, Int.reduceNeg, icmp]
  repeat' split
  all_goals rfl
theorem scmp_cons (a b : UInt8) (s t : List UInt8) : scmp (a :: s) (b :: t) = if a.toNat < b.toNat then -1 else if b.toNat < a.toNat then 1 else scmp s t := by
  unfold scmp
  simp only [← UInt8.lt_iff_toNat_lt]
  by_cases h1 : a < b
  · have hne : a ≠ b := fun e => by subst e; exact absurd h1 (UInt8.lt_irrefl a)
    simp [h1, bless, hne]
  · by_cases h2 : b < a
    · have hne : a ≠ b := fun e => by subst e; exact absurd h2 (UInt8.lt_irrefl a)
      simp [h1, h2, bless, hne]
    · have e : a = b := UInt8.le_antisymm (UInt8.not_lt.1 h2) (UInt8.not_lt.1 h1)
      subst e
      simp [bless, UInt8.lt_irrefl]
theorem scmp_end (s t : List UInt8) (i : Nat) (h : ¬ (i < s.length ∧ i < t.length)) (hi : i ≤ s.length ∧ i ≤ t.length) : scmp (s.drop i) (t.drop i) = icmp s.length t.length := by
  unfold icmp
  rcases Nat.lt_trichotomy s.length t.length with h1 | h1 | h1
  · obtain rfl : i = s.length := by omega
    rw [List.drop_length, List.drop_eq_getElem_cons h1, if_pos (by omega)]
    simp [scmp, bless, h1]
  · obtain rfl : i = s.length := by omega
    rw [List.drop_length, h1, List.drop_length, if_neg (by omega), if_neg (by omega)]
    simp [scmp]
  · obtain rfl : i = t.length := by omega
    rw [List.drop_length, List.drop_eq_getElem_cons h1, if_neg (by omega), if_pos (by omega)]
    simp [scmp, bless, h1]
theorem scmp_step (s t : List UInt8) (i : Nat) (h1 : i < s.length) (h2 : i < t.length) : scmp (s.drop i) (t.drop i) =
    if (s.getD i 0).toNat < (t.getD i 0).toNat then -1 else if (t.getD i 0).toNat < (s.getD i 0).toNat then 1 else scmp (s.drop (i + 1)) (t.drop (i + 1)) := by
  rw [List.drop_eq_getElem_cons h1, List.drop_eq_getElem_cons h2, scmp_cons]
  simp [List.getD, h1, h2]
def OTxt (s t : List UInt8) (hp : Heap) (R : Int) (r : Option (XExit × St)) : Prop :=
  (∃ fr', r = some (.exit 0, ⟨fr', hp⟩) ∧ fget fr' 0 = .str s ∧ fget fr' 1 = .str t ∧ R = icmp s.length t.length) ∨ (∃ fr', r = some (.ret, ⟨fr', hp⟩) ∧ fget fr' 4 = .int .i64 R)
theorem l_texts (s t : List UInt8) (hl : s.length < 9223372036854775807) (hp : Heap) : ∀ (m i : Nat) (_ : i + m = s.length) (_ : i ≤ t.length) (fr : List AV), fget fr 0 = .str s → fget fr 1 = .str t → fget fr 5 = .int .i64 i →
    OTxt s t hp (scmp (s.drop i) (t.drop i)) (LC X GV (.loop x109_l0) ⟨fr, hp⟩) := by
  intro m
  induction m with
  | zero =>
    intro i hi ht fr h0 h1 h5
    rw [LC_loop]
    have hc : ((i : Int) < (s.length : Int)) = False := by simp; omega
    simp +contextual -implicitDefEqProofs (maxSteps := 10000000) only [x109_l0_run, go_sem, ↓reduceIte, reduceCtorEq, Nat.reduceEqDiff, Int.reduceNeg, h0, h1, h5, hc]
    exact .inl ⟨_, rfl, by simp only [go_sem, ↓reduceIte, reduceCtorEq, h0], by simp only [go_sem, ↓reduceIte, Nat.reduceEqDiff, h1], scmp_end s t i (by omega) (by omega)⟩
  | succ m ih =>
    intro i hi ht fr h0 h1 h5
    rw [LC_loop]
    have hc : ((i : Int) < (s.length : Int)) = True := by simp; omega
    have ks : i < s.length := by omega
    by_cases kt : i < t.length
    · have hd : ((i : Int) < (t.length : Int)) = True := by simp; omega
      have wi : wr .i64 ((i : Int) + 1) = ((i + 1 : Nat) : Int) := by rw [wr_i64 _ (by omega)]; omega
      rw [scmp_step s t i ks kt]
      obtain ⟨x, hx⟩ : ∃ x, (s.getD i 0).toNat = x := ⟨_, rfl⟩
      obtain ⟨y, hy⟩ : ∃ y, (t.getD i 0).toNat = y := ⟨_, rfl⟩
      rw [hx, hy]
      by_cases h2 : x < y
      · have q1 : ((x : Int) < (y : Int)) = True := by simp; omega
        simp +contextual -implicitDefEqProofs (maxSteps := 10000000) only [x109_l0_run, go_sem, ↓reduceIte, reduceCtorEq, Nat.reduceEqDiff, Int.reduceNeg, h0, h1, h5, hc, hd, ks, kt, hx, hy, q1, h2]
        exact .inr ⟨_, rfl, by simp only [go_sem, ↓reduceIte, Int.reduceNeg]⟩
      · have q1 : ((x : Int) < (y : Int)) = False := by simp; omega
        by_cases h3 : y < x
        · have q2 : ((y : Int) < (x : Int)) = True := by simp; omega
          simp +contextual -implicitDefEqProofs (maxSteps := 10000000) only [x109_l0_run, go_sem, ↓reduceIte, reduceCtorEq, Nat.reduceEqDiff, Int.reduceNeg, h0, h1, h5, hc, hd, ks, kt, hx, hy, q1, q2, h2, h3]
          exact .inr ⟨_, rfl, by simp only [go_sem, ↓reduceIte]⟩
        · have q2 : ((y : Int) < (x : Int)) = False := by simp; omega
          simp +contextual -implicitDefEqProofs (maxSteps := 10000000) only [x109_l0_run, go_sem, ↓reduceIte, reduceCtorEq, Nat.reduceEqDiff, Int.reduceNeg, h0, h1, h5, hc, hd, ks, kt, wi, hx, hy, q1, q2, h2, h3]
          refine ih (i + 1) (by omega) (by omega) _ ?_ ?_ ?_ <;> simp only [go_sem, ↓reduceIte, reduceCtorEq, Nat.reduceEqDiff, h0, h1]
    · have hd : ((i : Int) < (t.length : Int)) = False := by simp; omega
      simp +contextual -implicitDefEqProofs (maxSteps := 10000000) only [x109_l0_run, go_sem, ↓reduceIte, reduceCtorEq, Nat.reduceEqDiff, Int.reduceNeg, h0, h1, h5, hc, hd]
      exact .inl ⟨_, rfl, by simp only [go_sem, ↓reduceIte, reduceCtorEq, h0], by simp only [go_sem, ↓reduceIte, Nat.reduceEqDiff, h1], scmp_end s t i (by omega) (by omega)⟩
theorem v_texts (s t : List UInt8) (hl : s.length < 9223372036854775807) (hp : Heap) : CL X GV 109 [.str s, .str t] hp = some (.int .i64 (scmp s t), hp) := by
  rw [CL_eq (fn := x109) rfl]
  simp +contextual -implicitDefEqProofs (maxSteps := 10000000) only [x109, go_sem, ↓reduceIte]
  refine elimL (fun r => finK _ (seqK (blockK 0 r) _) = _) (l_texts s t hl ([] :: hp) s.length 0 (by omega) (by omega) _ ?_ ?_ ?_) ?_
  all_goals try simp only [go_sem, ↓reduceIte, reduceCtorEq, Nat.reduceEqDiff]
  · rfl
  · rintro r (⟨fr', rfl, f0, f1, hR⟩ | ⟨fr', rfl, f4⟩)
    · simp +contextual -implicitDefEqProofs (maxSteps := 10000000) only [go_sem, ↓reduceIte, Nat.reduceEqDiff, f0, f1, v_sizes]
      rw [hR]
    · simp +contextual -implicitDefEqProofs (maxSteps := 10000000) only [go_sem, f4]
theorem v_rcmp (a b : Val) (ha : a.ok) (hb : b.ok) (hp : Heap) : CL X GV 82 [a.av, b.av] hp = some (.int .i64 (vcmp a b), hp) := by
  obtain ⟨k, n, d, s⟩ := a
  obtain ⟨k', n', d', s'⟩ := b
  simp only [Val.ok, Val.av, vcmp, chkV] at *
  have h1 := fun k s => v_rcheck k n d s ha.2.1 ha.2.2
  have h2 := fun k s => v_rcheck k n' d' s hb.2.1 hb.2.2
  have h3 := fun k s => v_rfrac k n d s
  have h4 := fun k s => v_rfrac k n' d' s
  have h5 := r15 n d n' d' ha.2.1 ha.2.2 hb.2.1 hb.2.2
  simp only [vA] at h1 h2 h3 h4 ⊢
  rw [CL_eq (fn := x82) rfl]
  by_cases c1 : chk k n d s = 0
  · by_cases c2 : chk k' n' d' s' = 0
    · by_cases e : k = k'
      · subst e
        by_cases k2 : k = 2
        · subst k2
          simp +contextual -implicitDefEqProofs (maxSteps := 10000000) only [x82, go_sem, ↓reduceIte, Nat.reduceEqDiff, Nat.reduceAdd, Int.reduceEq, Int.reduceNeg, Int.reduceBNe, h1, h2, h3, h4, h5, c1, c2, or_self]
        · by_cases k1 : k = 1
          · subst k1
            simp +contextual -implicitDefEqProofs (maxSteps := 10000000) only [x82, go_sem, ↓reduceIte, Nat.reduceEqDiff, Nat.reduceAdd, Int.reduceLT, Int.reduceNeg, Int.reduceBEq, Int.reduceBNe, h1, h2, h3, h4, h5, c1, c2, icmp, or_self]
            repeat' split
            all_goals rfl
          · have hl : s.length < 9223372036854775807 := by
              unfold chk at c1
              rw [if_neg k1, if_neg k2] at c1
              split at c1
              · split at c1
                · split at c1
                  · omega
                  · simp at c1
                · simp at c1
              · simp at c1
            have h6 := v_texts s s' hl
            simp +contextual -implicitDefEqProofs (maxSteps := 10000000) only [x82, go_sem, ↓reduceIte, Nat.reduceEqDiff, Nat.reduceAdd, Int.reduceNeg, Int.reduceBNe, h1, h2, h3, h4, h6, c1, c2, k1, k2, or_self]
      · have e2 : ∀ (P : Prop), (k = 2 ∧ k' = 2) = False := fun _ => by simp; omega
        simp +contextual -implicitDefEqProofs (maxSteps := 10000000) only [x82, go_sem, ↓reduceIte, Nat.reduceEqDiff, Nat.reduceAdd, Int.reduceNeg, Int.reduceBEq, Int.reduceBNe, h1, h2, c1, c2, e, icmp, or_self]
        by_cases k2 : k = 2
        · subst k2
          have e' : ¬ k' = 2 := fun h => e h.symm
          by_cases lt : 2 < k'
          · simp [lt, e, e']
          · have g : k' < 2 := by omega
            simp [lt, g, e, e']
        · by_cases lt : k < k'
          · simp [lt, e, k2]
          · have g : k' < k := by omega
            simp [lt, g, e, k2]
    · simp +contextual -implicitDefEqProofs (maxSteps := 10000000) only [x82, go_sem, ↓reduceIte, Nat.reduceEqDiff, Nat.reduceAdd, Int.reduceNeg, Int.reduceBNe, h1, h2, c1, c2]
      all_goals simp []
  · simp +contextual -implicitDefEqProofs (maxSteps := 10000000) only [x82, go_sem, ↓reduceIte, Nat.reduceEqDiff, Nat.reduceAdd, Int.reduceNeg, h1, h2, c1]
    all_goals simp []
end Go.Proofs.YtafeikbbjhmlaaaGreatDoor.Sx.T
namespace Go.Proofs.YtafeikbbjhmlaaaGreatDoor.Sx.T
open Go Go.Proofs.YtafeikbbjhmlaaaGreatDoor.Sx
set_option maxRecDepth 100000
set_option maxHeartbeats 8000000
theorem rowcmp_end' (a b : List Val) (i : Nat) (h : ¬ (i < a.length ∧ i < b.length)) (hi : i ≤ a.length ∧ i ≤ b.length) : rowcmp (a.drop i) (b.drop i) = icmp a.length b.length :=
  rowcmp_end a b i (by omega)
theorem l_rrow (a b : List Val) (x y : AV) (hx : IsRow x a) (hy : IsRow y b) (ha : ∀ v ∈ a, v.ok) (hb : ∀ v ∈ b, v.ok) (hl : a.length < 9223372036854775807) (hp : Heap) :
    ∀ (m i : Nat) (_ : i + m = a.length) (_ : i ≤ b.length) (fr : List AV), fget fr 0 = x → fget fr 1 = y → fget fr 5 = .int .i64 i →
    ORow a b x y hp (rowcmp (a.drop i) (b.drop i)) (LC X GV (.loop x55_l0) ⟨fr, hp⟩) := by
  have u1 := hx.uf
  have u2 := hy.uf
  have d1 := hx.drop1
  have d2 := hy.drop1
  have n1 := hx.lens
  have n2 := hy.lens
  intro m
  induction m with
  | zero =>
    intro i hi hib fr h0 h1 h5
    rw [LC_loop]
    have hc : ((i : Int) < (a.length : Int)) = False := by simp; omega
    simp +contextual -implicitDefEqProofs (maxSteps := 10000000) only [x55_l0_run, go_sem, ↓reduceIte, reduceCtorEq, Nat.reduceEqDiff, h0, h1, h5, hc, u1, u2, n1]
    exact .inl ⟨_, rfl, by simp only [go_sem, ↓reduceIte, reduceCtorEq, h0], by simp only [go_sem, ↓reduceIte, Nat.reduceEqDiff, h1], rowcmp_end' a b i (by omega) (by omega)⟩
  | succ m ih =>
    intro i hi hib fr h0 h1 h5
    rw [LC_loop]
    have hc : ((i : Int) < (a.length : Int)) = True := by simp; omega
    have ka : i < a.length := by omega
    by_cases kb : i < b.length
    · have hd : ((i : Int) < (b.length : Int)) = True := by simp; omega
      have a1 := hx.at ka
      have a2 := hy.at kb
      have oa : (a.getD i default).ok := ha _ (by simp [List.getD, ka])
      have ob : (b.getD i default).ok := hb _ (by simp [List.getD, kb])
      have hcmp := v_rcmp _ _ oa ob
      have hr := rowcmp_drop a b i (by omega)
      generalize a.getD i default = va at *
      generalize b.getD i default = vb at *
      obtain ⟨k, n, d, s⟩ := va
      obtain ⟨k', n', d', s'⟩ := vb
      simp only [Val.av, Val.cells, vA] at hcmp a1 a2
      have wi : wr .i64 ((i : Int) + 1) = ((i + 1 : Nat) : Int) := by rw [wr_i64 _ (by omega)]; omega
      by_cases hz : vcmp ⟨k, n, d, s⟩ ⟨k', n', d', s'⟩ = 0
      · rw [hz] at hcmp
        simp +contextual -implicitDefEqProofs (maxSteps := 10000000) only [x55_l0_run, go_sem, ↓reduceIte, reduceCtorEq, Nat.reduceEqDiff, Nat.reduceAdd, Int.reduceBNe, h0, h1, h5, hc, hd, u1, u2, n1, n2, a1, a2, hcmp, wi]
        rw [hr, if_neg (by simp [hz])]
        refine ih (i + 1) (by omega) (by omega) _ ?_ ?_ ?_ <;> simp only [go_sem, ↓reduceIte, reduceCtorEq, Nat.reduceEqDiff, h0, h1]
      · simp +contextual -implicitDefEqProofs (maxSteps := 10000000) only [x55_l0_run, go_sem, ↓reduceIte, reduceCtorEq, Nat.reduceEqDiff, Nat.reduceAdd, h0, h1, h5, hc, hd, u1, u2, n1, n2, a1, a2, hcmp, hz]
        exact .inr ⟨_, rfl, by simp only [go_sem, ↓reduceIte]; rw [hr, if_pos hz]⟩
    · have hd : ((i : Int) < (b.length : Int)) = False := by simp; omega
      simp +contextual -implicitDefEqProofs (maxSteps := 10000000) only [x55_l0_run, go_sem, ↓reduceIte, reduceCtorEq, Nat.reduceEqDiff, h0, h1, h5, hc, hd, u1, u2, n1, n2]
      exact .inl ⟨_, rfl, by simp only [go_sem, ↓reduceIte, reduceCtorEq, h0], by simp only [go_sem, ↓reduceIte, Nat.reduceEqDiff, h1], rowcmp_end' a b i (by omega) (by omega)⟩
theorem v_rrow (a b : List Val) (x y : AV) (hx : IsRow x a) (hy : IsRow y b) (ha : ∀ v ∈ a, v.ok) (hb : ∀ v ∈ b, v.ok) (hl : a.length < 9223372036854775807) (hp : Heap) :
    CL X GV 55 [x, y] hp = some (.int .i64 (rowcmp a b), hp) := by
  have u1 := hx.uf
  have u2 := hy.uf
  have d1 := hx.drop1
  have d2 := hy.drop1
  have n1 := hx.lens
  have n2 := hy.lens
  rw [CL_eq (fn := x55) rfl]
  simp +contextual -implicitDefEqProofs (maxSteps := 10000000) only [x55, go_sem, ↓reduceIte]
  refine elimL (fun r => finK _ (seqK (blockK 0 r) _) = _) (l_rrow a b x y hx hy ha hb hl ([] :: hp) a.length 0 (by omega) (by omega) _ ?_ ?_ ?_) ?_
  all_goals try simp only [go_sem, ↓reduceIte, reduceCtorEq, Nat.reduceEqDiff]
  · rfl
  · rintro r (⟨fr', rfl, f0, f1, hR⟩ | ⟨fr', rfl, f4⟩)
    · simp +contextual -implicitDefEqProofs (maxSteps := 10000000) only [go_sem, ↓reduceIte, Nat.reduceEqDiff, f0, f1, u1, u2, n1, n2, v_sizes]
      rw [hR]
    · simp +contextual -implicitDefEqProofs (maxSteps := 10000000) only [go_sem, f4]
end Go.Proofs.YtafeikbbjhmlaaaGreatDoor.Sx.T
namespace Go.Proofs.YtafeikbbjhmlaaaGreatDoor.Sx.T
open Go Go.Proofs.YtafeikbbjhmlaaaGreatDoor.Sx
set_option maxRecDepth 100000
set_option maxHeartbeats 8000000
def digs : List UInt8 := [48, 49, 50, 51, 52, 53, 54, 55, 56, 57, 97, 98, 99, 100, 101, 102]
def hx (n : Nat) : UInt8 := digs.getD n 0
def qc (c : UInt8) : List UInt8 := if c.toNat = 34 ∨ c.toNat = 92 then [92, c] else if 32 ≤ c.toNat ∧ c.toNat ≤ 126 then [c] else [92, 120, hx (c.toNat / 16), hx (c.toNat % 16)]
def qt (s : List UInt8) : List UInt8 := 34 :: (s.flatMap qc ++ [34])
theorem qc_len (c : UInt8) : (qc c).length ≤ 4 := by
  unfold qc
  split
  · simp
  · split <;> simp
theorem flat_len (s : List UInt8) : (s.flatMap qc).length ≤ 4 * s.length := by
  induction s with
  | nil => simp
  | cons c s ih => have := qc_len c; rw [List.flatMap_cons, List.length_append, List.length_cons]; omega
theorem bytes_app (a b : List UInt8) : listOfBytes (a ++ b) = listOfBytes a ++ listOfBytes b := by simp [listOfBytes]
theorem bytes_cons (c : UInt8) (b : List UInt8) : listOfBytes (c :: b) = [.int .u8 (c.toNat : Int)] :: listOfBytes b := by simp [listOfBytes]
theorem bytes_nil : listOfBytes [] = [] := rfl
theorem bytes_getD (s : List UInt8) (i : Nat) (h : i < s.length) : (listOfBytes s).getD i [] = [.int .u8 ((s.getD i 0).toNat : Int)] := by
  simp [listOfBytes, List.getD, h]
theorem and15 : ∀ x : Nat, x < 256 → ints .u8 .and (x : Int) 15 = some (.int .u8 ((x % 16 : Nat) : Int)) := by
  intro x hx
  have h : ∀ y : Fin 256, wr .u8 ((BitVec.ofInt 8 (y.val : Int) &&& BitVec.ofInt 8 15).toNat : Int) = ((y.val % 16 : Nat) : Int) := by decide +kernel
  have := h ⟨x, hx⟩
  simp only [ints, bitsOf]
  exact congrArg (fun z => some (AV.int .u8 z)) this
theorem u92 : (((92 : UInt8).toNat : Nat) : Int) = 92 := rfl
theorem u120 : (((120 : UInt8).toNat : Nat) : Int) = 120 := rfl
theorem p48 : (2 : Nat) ^ min 4 8 = 16 := rfl
theorem drop_flat (s : List UInt8) (i : Nat) (h : i < s.length) (acc : List UInt8) : acc ++ (s.drop i).flatMap qc = (acc ++ qc (s.getD i 0)) ++ (s.drop (i + 1)).flatMap qc := by
  rw [List.drop_eq_getElem_cons h, List.flatMap_cons, List.append_assoc]
  simp [List.getD, h]
def OQ (R : List UInt8) (hp : Heap) (r : Option (XExit × St)) : Prop := ∃ fr' o, r = some (.exit 0, ⟨fr', hp⟩) ∧ (o = .own ∨ o = .tight) ∧ fget fr' 3 = .lst o 1 (listOfBytes R)
theorem l_quoted (s : List UInt8) (hl : 4 * s.length + 2 ≤ 140737488355328) (hp : Heap) : ∀ (m i : Nat) (_ : i + m = s.length) (fr : List AV) (acc : List UInt8) (o : Own), (o = .own ∨ o = .tight) → acc.length ≤ 4 * i + 1 →
    fget fr 8 = .lst .own 1 (listOfBytes s) → fget fr 9 = .int .i64 s.length → fget fr 10 = .int .i64 i → fget fr 3 = .lst o 1 (listOfBytes acc) →
    OQ (acc ++ (s.drop i).flatMap qc) hp (LC X GV (.loop x53_l0) ⟨fr, hp⟩) := by
  intro m
  induction m with
  | zero =>
    intro i hi fr acc o ho ha h8 h9 h10 h3
    rw [LC_loop]
    have hc : ((i : Int) < (s.length : Int)) = False := by simp; omega
    simp +contextual -implicitDefEqProofs (maxSteps := 10000000) only [x53_l0_run, go_sem, ↓reduceIte, h9, h10, hc]
    refine ⟨_, o, rfl, ho, ?_⟩
    simp only [go_sem, ↓reduceIte, Nat.reduceEqDiff, h3]
    rw [List.drop_of_length_le (by omega)]
    simp
  | succ m ih =>
    intro i hi fr acc o ho ha h8 h9 h10 h3
    rw [LC_loop]
    have hc : ((i : Int) < (s.length : Int)) = True := by simp; omega
    have ki : i < s.length := by omega
    have kb : i < (listOfBytes s).length := by rw [bytes_len]; exact ki
    have wi : wr .i64 ((i : Int) + 1) = ((i + 1 : Nat) : Int) := by rw [wr_i64 _ (by omega)]; omega
    have hg := bytes_getD s i ki
    rw [drop_flat s i ki acc]
    generalize s.getD i 0 = c at hg ⊢
    have c256 : c.toNat < 256 := c.toNat_lt
    have a15 := and15 c.toNat c256
    have sh : (c.toNat : Int).fdiv 16 = ((c.toNat / 16 : Nat) : Int) := by
      have := fdiv_pow c.toNat 4
      simpa using this
    have r1 : ((listOfBytes acc).length + 1 ≤ room) = True := by rw [bytes_len]; unfold room; simp; omega
    have r2 : ((listOfBytes acc).length + 2 ≤ room) = True := by rw [bytes_len]; unfold room; simp; omega
    have r4 : ((listOfBytes acc).length + 4 ≤ room) = True := by rw [bytes_len]; unfold room; simp; omega
    have d1 : c.toNat / 16 < 16 := by omega
    have d2 : c.toNat % 16 < 16 := Nat.mod_lt _ (by omega)
    have x1 : ([48, 49, 50, 51, 52, 53, 54, 55, 56, 57, 97, 98, 99, 100, 101, 102] : List UInt8).getD (c.toNat / 16) 0 = hx (c.toNat / 16) := rfl
    have x2 : ([48, 49, 50, 51, 52, 53, 54, 55, 56, 57, 97, 98, 99, 100, 101, 102] : List UInt8).getD (c.toNat % 16) 0 = hx (c.toNat % 16) := rfl
    have step : ∀ (fr' : List AV) (q : List UInt8), qc c = q → fget fr' 8 = .lst .own 1 (listOfBytes s) → fget fr' 9 = .int .i64 s.length → fget fr' 10 = .int .i64 ((i + 1 : Nat) : Int) → fget fr' 3 = .lst .own 1 (listOfBytes acc ++ listOfBytes q) →
        OQ ((acc ++ qc c) ++ (s.drop (i + 1)).flatMap qc) hp (LC X GV (.loop x53_l0) ⟨fr', hp⟩) := by
      intro fr' q hq g8 g9 g10 g3
      refine ih (i + 1) (by omega) fr' _ .own (.inl rfl) ?_ g8 g9 g10 ?_
      · have := qc_len c
        rw [List.length_append]; omega
      · rw [g3, hq, bytes_app]
    by_cases b1 : c.toNat = 34
    · have e1 : ((c.toNat : Int) = 34) = True := by simp; omega
      have hq : qc c = [92, c] := by unfold qc; rw [if_pos (.inl b1)]
      rcases ho with rfl | rfl
      all_goals
        simp +contextual -implicitDefEqProofs (maxSteps := 10000000) only [x53_l0_run, go_sem, ↓reduceIte, reduceCtorEq, Nat.reduceEqDiff, Nat.reduceAdd, Nat.reduceLeDiff, Int.reduceLT, Int.reduceToNat, Nat.reduceLT, Nat.reduceDiv, h8, h9, h10, h3, hc, kb, hg, wi, r1, r2, e1, List.flatten_cons, List.flatten_nil]
        refine step _ _ hq ?_ ?_ ?_ ?_ <;> simp only [go_sem, ↓reduceIte, Nat.reduceEqDiff, h8, h9, bytes_cons, bytes_nil, u92]
    by_cases b2 : c.toNat = 92
    · have e1 : ((c.toNat : Int) = 34) = False := by simp; omega
      have e2 : ((c.toNat : Int) = 92) = True := by simp; omega
      have hq : qc c = [92, c] := by unfold qc; rw [if_pos (.inr b2)]
      rcases ho with rfl | rfl
      all_goals
        simp +contextual -implicitDefEqProofs (maxSteps := 10000000) only [x53_l0_run, go_sem, ↓reduceIte, reduceCtorEq, Nat.reduceEqDiff, Nat.reduceAdd, Nat.reduceLeDiff, Int.reduceLT, Int.reduceToNat, Nat.reduceLT, Nat.reduceDiv, h8, h9, h10, h3, hc, kb, hg, wi, r1, r2, e1, e2, List.flatten_cons, List.flatten_nil]
        refine step _ _ hq ?_ ?_ ?_ ?_ <;> simp only [go_sem, ↓reduceIte, Nat.reduceEqDiff, h8, h9, bytes_cons, bytes_nil, u92]
    have e1 : ((c.toNat : Int) = 34) = False := by simp; omega
    have e2 : ((c.toNat : Int) = 92) = False := by simp; omega
    have n12 : ¬ (c.toNat = 34 ∨ c.toNat = 92) := by omega
    by_cases b3 : 32 ≤ c.toNat ∧ c.toNat ≤ 126
    · have e3 : ((32 : Int) ≤ (c.toNat : Int)) = True := by simp; omega
      have e4 : ((c.toNat : Int) ≤ 126) = True := by simp; omega
      have hq : qc c = [c] := by unfold qc; rw [if_neg n12, if_pos b3]
      rcases ho with rfl | rfl
      all_goals
        simp +contextual -implicitDefEqProofs (maxSteps := 10000000) only [x53_l0_run, go_sem, ↓reduceIte, reduceCtorEq, Nat.reduceEqDiff, Nat.reduceAdd, Nat.reduceLeDiff, Int.reduceLT, Int.reduceToNat, Nat.reduceLT, Nat.reduceDiv, h8, h9, h10, h3, hc, kb, hg, wi, r1, r2, e1, e2, e3, e4, List.flatten_cons, List.flatten_nil]
        refine step _ _ hq ?_ ?_ ?_ ?_ <;> simp only [go_sem, ↓reduceIte, Nat.reduceEqDiff, h8, h9, bytes_cons, bytes_nil]
    · have hq : qc c = [92, 120, hx (c.toNat / 16), hx (c.toNat % 16)] := by unfold qc; rw [if_neg n12, if_neg b3]
      by_cases b4 : 32 ≤ c.toNat
      · have e3 : ((32 : Int) ≤ (c.toNat : Int)) = True := by simp; omega
        have e4 : ((c.toNat : Int) ≤ 126) = False := by simp; omega
        rcases ho with rfl | rfl
        all_goals
          simp +contextual -implicitDefEqProofs (maxSteps := 10000000) only [x53_l0_run, go_sem, ↓reduceIte, reduceCtorEq, Nat.reduceEqDiff, Nat.reduceAdd, Nat.reduceLeDiff, Int.reduceLT, Int.reduceToNat, Nat.reduceLT, Nat.reduceDiv, h8, h9, h10, h3, hc, kb, hg, wi, r1, r2, r4, e1, e2, e3, e4, a15, p48, d1, d2, x1, x2, List.flatten_cons, List.flatten_nil]
          refine step _ _ hq ?_ ?_ ?_ ?_ <;> simp only [go_sem, ↓reduceIte, Nat.reduceEqDiff, h8, h9, bytes_cons, bytes_nil, u92, u120]
      · have e3 : ((32 : Int) ≤ (c.toNat : Int)) = False := by simp; omega
        rcases ho with rfl | rfl
        all_goals
          simp +contextual -implicitDefEqProofs (maxSteps := 10000000) only [x53_l0_run, go_sem, ↓reduceIte, reduceCtorEq, Nat.reduceEqDiff, Nat.reduceAdd, Nat.reduceLeDiff, Int.reduceLT, Int.reduceToNat, Nat.reduceLT, Nat.reduceDiv, h8, h9, h10, h3, hc, kb, hg, wi, r1, r2, r4, e1, e2, e3, a15, p48, d1, d2, x1, x2, List.flatten_cons, List.flatten_nil]
          refine step _ _ hq ?_ ?_ ?_ ?_ <;> simp only [go_sem, ↓reduceIte, Nat.reduceEqDiff, h8, h9, bytes_cons, bytes_nil, u92, u120]
theorem v_quoted (s : List UInt8) (hl : 4 * s.length + 2 ≤ 140737488355328) (hp : Heap) : CL X GV 53 [.str s] hp = some (.str (qt s), hp) := by
  have rs : (s.length ≤ room) = True := by unfold room; simp; omega
  have bl := bytes_len s
  rw [CL_eq (fn := x53) rfl]
  simp +contextual -implicitDefEqProofs (maxSteps := 10000000) only [x53, go_sem, ↓reduceIte, reduceCtorEq, Nat.reduceLT, Nat.reduceDiv, rs, bl]
  refine elimL (fun r => finK _ (seqK (blockK 0 r) _) = _) (l_quoted s hl ([] :: hp) s.length 0 (by omega) _ [34] .tight (.inr rfl) (by simp) ?_ ?_ ?_ ?_) ?_
  all_goals try simp only [go_sem, ↓reduceIte, Nat.reduceEqDiff]
  · rfl
  · rfl
  · rintro r ⟨fr', o, rfl, ho, h3⟩
    have hn : ∀ q : List UInt8, listOfBytes q ++ [[.int .u8 34]] = listOfBytes (q ++ [34]) := fun q => by rw [bytes_app]; rfl
    have r1 : ((listOfBytes (34 :: s.flatMap qc)).length + 1 ≤ room) = True := by
      have := flat_len s
      rw [bytes_len, List.length_cons]
      unfold room
      simp only [eq_iff_iff, iff_true]
      omega
    rcases ho with rfl | rfl
    all_goals
      simp +contextual -implicitDefEqProofs (maxSteps := 10000000) only [go_sem, ↓reduceIte, reduceCtorEq, Nat.reduceEqDiff, Nat.reduceLT, Nat.reduceDiv, h3, r1, hn, qt, List.flatten_cons, List.flatten_nil]
def OQ' (R : List UInt8) (hp : Heap) (r : Option (XExit × St)) : Prop := ∃ fr' o, r = some (.exit 0, ⟨fr', hp⟩) ∧ (o = .own ∨ o = .tight) ∧ fget fr' 3 = .lst o 1 (listOfBytes R)
theorem l_rquoted (s : List UInt8) (hl : 4 * s.length + 2 ≤ 140737488355328) (hp : Heap) : ∀ (m i : Nat) (_ : i + m = s.length) (fr : List AV) (acc : List UInt8) (o : Own), (o = .own ∨ o = .tight) → acc.length ≤ 4 * i + 1 →
    fget fr 0 = .str s → fget fr 4 = .int .i64 i → fget fr 3 = .lst o 1 (listOfBytes acc) →
    OQ' (acc ++ (s.drop i).flatMap qc) hp (LC X GV (.loop x60_l0) ⟨fr, hp⟩) := by
  intro m
  induction m with
  | zero =>
    intro i hi fr acc o ho ha h0 h4 h3
    rw [LC_loop]
    have hc : ((i : Int) < (s.length : Int)) = False := by simp; omega
    simp +contextual -implicitDefEqProofs (maxSteps := 10000000) only [x60_l0_run, go_sem, ↓reduceIte, reduceCtorEq, Nat.reduceEqDiff, h0, h4, hc]
    refine ⟨_, o, rfl, ho, ?_⟩
    simp only [go_sem, ↓reduceIte, Nat.reduceEqDiff, h3]
    rw [List.drop_of_length_le (by omega)]
    simp
  | succ m ih =>
    intro i hi fr acc o ho ha h0 h4 h3
    rw [LC_loop]
    have hc : ((i : Int) < (s.length : Int)) = True := by simp; omega
    have ki : i < s.length := by omega
    have wi : wr .i64 ((i : Int) + 1) = ((i + 1 : Nat) : Int) := by rw [wr_i64 _ (by omega)]; omega
    rw [drop_flat s i ki acc]
    obtain ⟨c, hg⟩ : ∃ c, s.getD i 0 = c := ⟨_, rfl⟩
    rw [hg]
    have c256 : c.toNat < 256 := c.toNat_lt
    have a15 := and15 c.toNat c256
    have sh : (c.toNat : Int).fdiv 16 = ((c.toNat / 16 : Nat) : Int) := by
      have := fdiv_pow c.toNat 4
      simpa using this
    have sh' : wr .u8 ((c.toNat / 16 : Nat) : Int) = ((c.toNat / 16 : Nat) : Int) := wr_u8_nat _ (by omega)
    have r1 : ((listOfBytes acc).length + 1 ≤ room) = True := by rw [bytes_len]; unfold room; simp; omega
    have r2 : ((listOfBytes acc).length + 2 ≤ room) = True := by rw [bytes_len]; unfold room; simp; omega
    have r4 : ((listOfBytes acc).length + 4 ≤ room) = True := by rw [bytes_len]; unfold room; simp; omega
    have d1 : c.toNat / 16 < 16 := by omega
    have d2 : c.toNat % 16 < 16 := Nat.mod_lt _ (by omega)
    have x1 : ([48, 49, 50, 51, 52, 53, 54, 55, 56, 57, 97, 98, 99, 100, 101, 102] : List UInt8).getD (c.toNat / 16) 0 = hx (c.toNat / 16) := rfl
    have x2 : ([48, 49, 50, 51, 52, 53, 54, 55, 56, 57, 97, 98, 99, 100, 101, 102] : List UInt8).getD (c.toNat % 16) 0 = hx (c.toNat % 16) := rfl
    have step : ∀ (fr' : List AV) (q : List UInt8), qc c = q → fget fr' 0 = .str s → fget fr' 4 = .int .i64 ((i + 1 : Nat) : Int) → fget fr' 3 = .lst .own 1 (listOfBytes acc ++ listOfBytes q) →
        OQ' ((acc ++ qc c) ++ (s.drop (i + 1)).flatMap qc) hp (LC X GV (.loop x60_l0) ⟨fr', hp⟩) := by
      intro fr' q hq g0 g4 g3
      refine ih (i + 1) (by omega) fr' _ .own (.inl rfl) ?_ g0 g4 ?_
      · have := qc_len c
        rw [List.length_append]; omega
      · rw [g3, hq, bytes_app]
    by_cases b1 : c.toNat = 34
    · have e1 : ((c.toNat : Int) = 34) = True := by simp; omega
      have hq : qc c = [92, c] := by unfold qc; rw [if_pos (.inl b1)]
      rcases ho with rfl | rfl
      all_goals
        simp +contextual -implicitDefEqProofs (maxSteps := 10000000) only [x60_l0_run, go_sem, ↓reduceIte, reduceCtorEq, Nat.reduceEqDiff, Nat.reduceAdd, Nat.reduceLeDiff, Int.reduceEq, Nat.reduceLT, Nat.reduceDiv, h0, h4, h3, hc, ki, hg, wi, r1, r2, e1, List.flatten_cons, List.flatten_nil]
        refine step _ _ hq ?_ ?_ ?_ <;> simp only [go_sem, ↓reduceIte, reduceCtorEq, Nat.reduceEqDiff, h0, bytes_cons, bytes_nil, u92]
    by_cases b2 : c.toNat = 92
    · have e1 : ((c.toNat : Int) = 34) = False := by simp; omega
      have e2 : ((c.toNat : Int) = 92) = True := by simp; omega
      have hq : qc c = [92, c] := by unfold qc; rw [if_pos (.inr b2)]
      rcases ho with rfl | rfl
      all_goals
        simp +contextual -implicitDefEqProofs (maxSteps := 10000000) only [x60_l0_run, go_sem, ↓reduceIte, reduceCtorEq, Nat.reduceEqDiff, Nat.reduceAdd, Nat.reduceLeDiff, Int.reduceEq, Nat.reduceLT, Nat.reduceDiv, h0, h4, h3, hc, ki, hg, wi, r1, r2, e1, e2, List.flatten_cons, List.flatten_nil]
        refine step _ _ hq ?_ ?_ ?_ <;> simp only [go_sem, ↓reduceIte, reduceCtorEq, Nat.reduceEqDiff, h0, bytes_cons, bytes_nil, u92]
    have e1 : ((c.toNat : Int) = 34) = False := by simp; omega
    have e2 : ((c.toNat : Int) = 92) = False := by simp; omega
    have n12 : ¬ (c.toNat = 34 ∨ c.toNat = 92) := by omega
    by_cases b3 : 32 ≤ c.toNat ∧ c.toNat ≤ 126
    · have e3 : ((32 : Int) ≤ (c.toNat : Int)) = True := by simp; omega
      have e4 : ((c.toNat : Int) ≤ 126) = True := by simp; omega
      have hq : qc c = [c] := by unfold qc; rw [if_neg n12, if_pos b3]
      rcases ho with rfl | rfl
      all_goals
        simp +contextual -implicitDefEqProofs (maxSteps := 10000000) only [x60_l0_run, go_sem, ↓reduceIte, reduceCtorEq, Nat.reduceEqDiff, Nat.reduceAdd, Nat.reduceLeDiff, Int.reduceEq, Nat.reduceLT, Nat.reduceDiv, h0, h4, h3, hc, ki, hg, wi, r1, r2, e1, e2, e3, e4, List.flatten_cons, List.flatten_nil]
        refine step _ _ hq ?_ ?_ ?_ <;> simp only [go_sem, ↓reduceIte, reduceCtorEq, Nat.reduceEqDiff, h0, bytes_cons, bytes_nil]
    · have hq : qc c = [92, 120, hx (c.toNat / 16), hx (c.toNat % 16)] := by unfold qc; rw [if_neg n12, if_neg b3]
      by_cases b4 : 32 ≤ c.toNat
      · have e3 : ((32 : Int) ≤ (c.toNat : Int)) = True := by simp; omega
        have e4 : ((c.toNat : Int) ≤ 126) = False := by simp; omega
        rcases ho with rfl | rfl
        all_goals
          simp +contextual -implicitDefEqProofs (maxSteps := 10000000) only [x60_l0_run, go_sem, ↓reduceIte, reduceCtorEq, Nat.reduceEqDiff, Nat.reduceAdd, Nat.reduceLeDiff, Int.reduceEq, Nat.reduceLT, Nat.reduceDiv, h0, h4, h3, hc, ki, hg, wi, r1, r2, r4, e1, e2, e3, e4, sh', d1, d2, x1, x2, List.flatten_cons, List.flatten_nil]
          refine step _ _ hq ?_ ?_ ?_ <;> simp only [go_sem, ↓reduceIte, reduceCtorEq, Nat.reduceEqDiff, h0, bytes_cons, bytes_nil, u92, u120]
      · have e3 : ((32 : Int) ≤ (c.toNat : Int)) = False := by simp; omega
        rcases ho with rfl | rfl
        all_goals
          simp +contextual -implicitDefEqProofs (maxSteps := 10000000) only [x60_l0_run, go_sem, ↓reduceIte, reduceCtorEq, Nat.reduceEqDiff, Nat.reduceAdd, Nat.reduceLeDiff, Int.reduceEq, Nat.reduceLT, Nat.reduceDiv, h0, h4, h3, hc, ki, hg, wi, r1, r2, r4, e1, e2, e3, sh', d1, d2, x1, x2, List.flatten_cons, List.flatten_nil]
          refine step _ _ hq ?_ ?_ ?_ <;> simp only [go_sem, ↓reduceIte, reduceCtorEq, Nat.reduceEqDiff, h0, bytes_cons, bytes_nil, u92, u120]
theorem v_rquoted (s : List UInt8) (hl : 4 * s.length + 2 ≤ 140737488355328) (hp : Heap) : CL X GV 60 [.str s] hp = some (.str (qt s), hp) := by
  rw [CL_eq (fn := x60) rfl]
  simp +contextual -implicitDefEqProofs (maxSteps := 10000000) only [x60, go_sem, ↓reduceIte, Nat.reduceLT, Nat.reduceDiv]
  refine elimL (fun r => finK _ (seqK (blockK 0 r) _) = _) (l_rquoted s hl ([] :: hp) s.length 0 (by omega) _ [34] .tight (.inr rfl) (by simp) ?_ ?_ ?_) ?_
  all_goals try simp only [go_sem, ↓reduceIte, reduceCtorEq, Nat.reduceEqDiff]
  · rfl
  · rfl
  · rintro r ⟨fr', o, rfl, ho, h3⟩
    have hn : ∀ q : List UInt8, listOfBytes q ++ [[.int .u8 34]] = listOfBytes (q ++ [34]) := fun q => by rw [bytes_app]; rfl
    have r1 : ((listOfBytes (34 :: s.flatMap qc)).length + 1 ≤ room) = True := by
      have := flat_len s
      rw [bytes_len, List.length_cons]
      unfold room
      simp only [eq_iff_iff, iff_true]
      omega
    rcases ho with rfl | rfl
    all_goals
      simp +contextual -implicitDefEqProofs (maxSteps := 10000000) only [go_sem, ↓reduceIte, reduceCtorEq, Nat.reduceEqDiff, Nat.reduceLT, Nat.reduceDiv, h3, r1, hn, qt, List.flatten_cons, List.flatten_nil]
end Go.Proofs.YtafeikbbjhmlaaaGreatDoor.Sx.T
namespace Go.Proofs.YtafeikbbjhmlaaaGreatDoor.Sx.T
open Go Go.Proofs.YtafeikbbjhmlaaaGreatDoor.Sx
set_option maxRecDepth 100000
set_option maxHeartbeats 8000000
theorem dig_at : ∀ d : Nat, d < 10 → ((([48, 49, 50, 51, 52, 53, 54, 55, 56, 57, 97, 98, 99, 100, 101, 102] : List UInt8).take (d + 1)).drop d) = [UInt8.ofNat (48 + d)] := by
  intro d hd
  have h : ∀ y : Fin 10, ((([48, 49, 50, 51, 52, 53, 54, 55, 56, 57, 97, 98, 99, 100, 101, 102] : List UInt8).take (y.val + 1)).drop y.val) = [UInt8.ofNat (48 + y.val)] := by decide
  exact h ⟨d, hd⟩
theorem decF_lo (k u : Nat) (h : u < 10) : decF (k + 1) u = [UInt8.ofNat (48 + u % 10)] := by rw [decF, if_pos h, Nat.mod_eq_of_lt h]
theorem decF_hi (k u : Nat) (h : ¬ u < 10) : decF (k + 1) u = decF k (u / 10) ++ [UInt8.ofNat (48 + u % 10)] := by rw [decF, if_neg h]
theorem t_div (r : Int) : r.tdiv 10 = if r < 0 then -((r.natAbs / 10 : Nat) : Int) else ((r.natAbs / 10 : Nat) : Int) := by
  split
  · obtain ⟨m, rfl⟩ : ∃ m : Nat, r = -(m : Int) := ⟨r.natAbs, by omega⟩
    rw [Int.neg_tdiv, show (10 : Int) = ((10 : Nat) : Int) from rfl, ← Int.ofNat_tdiv, Int.natAbs_neg, Int.natAbs_natCast]
  · obtain ⟨m, rfl⟩ : ∃ m : Nat, r = (m : Int) := ⟨r.natAbs, by omega⟩
    rw [show (10 : Int) = ((10 : Nat) : Int) from rfl, ← Int.ofNat_tdiv, Int.natAbs_natCast]
theorem t_mod (r : Int) : r.tmod 10 = if r < 0 then -((r.natAbs % 10 : Nat) : Int) else ((r.natAbs % 10 : Nat) : Int) := by
  split
  · obtain ⟨m, rfl⟩ : ∃ m : Nat, r = -(m : Int) := ⟨r.natAbs, by omega⟩
    rw [Int.neg_tmod, show (10 : Int) = ((10 : Nat) : Int) from rfl, ← Int.ofNat_tmod, Int.natAbs_neg, Int.natAbs_natCast]
  · obtain ⟨m, rfl⟩ : ∃ m : Nat, r = (m : Int) := ⟨r.natAbs, by omega⟩
    rw [show (10 : Int) = ((10 : Nat) : Int) from rfl, ← Int.ofNat_tmod, Int.natAbs_natCast]
def OD (R : List UInt8) (n : Int) (hp : Heap) (r : Option (XExit × St)) : Prop := ∃ fr', r = some (.exit 0, ⟨fr', hp⟩) ∧ fget fr' 3 = .str R ∧ fget fr' 0 = .int .i64 n
theorem d_step (n r : Int) (hr : I64 r) (hp : Heap) (fr : List AV) (acc : List UInt8) (hacc : acc.length ≤ 40) (h0 : fget fr 0 = .int .i64 n) (h3 : fget fr 3 = .str acc) (h4 : fget fr 4 = .int .i64 r) (R : List UInt8)
    (hz : r.tdiv 10 = 0 → R = UInt8.ofNat (48 + r.natAbs % 10) :: acc)
    (hn : r.tdiv 10 ≠ 0 → ∀ fr', fget fr' 0 = .int .i64 n → fget fr' 3 = .str (UInt8.ofNat (48 + r.natAbs % 10) :: acc) → fget fr' 4 = .int .i64 (r.tdiv 10) → OD R n hp (LC X GV (.loop x59_l0) ⟨fr', hp⟩)) :
    OD R n hp (LC X GV (.loop x59_l0) ⟨fr, hp⟩) := by
  have d10 : r.natAbs % 10 < 10 := Nat.mod_lt _ (by omega)
  have dd := dig_at _ d10
  have wd : wr .i64 (r.tdiv 10) = r.tdiv 10 := by
    refine wr_i64 _ ?_
    unfold I64 at hr
    rw [t_div]
    split <;> omega
  have tm := t_mod r
  obtain ⟨d, hd⟩ : ∃ d, r.natAbs % 10 = d := ⟨_, rfl⟩
  rw [hd] at dd d10 tm hz
  simp only [List.take_succ_cons] at dd
  simp only [hd] at hn
  have w1 : wr .i64 ((d : Int) + 1) = ((d + 1 : Nat) : Int) := by rw [wr_i64 _ (by omega)]; omega
  have c1 : (d ≤ d + 1 ∧ d ≤ 15) = True := by simp; omega
  have l1 : (1 + acc.length ≤ 140737488355328) = True := by simp; omega
  have wn : wr .i64 (-(-(d : Int))) = (d : Int) := by rw [Int.neg_neg]; exact wr_i64 _ (by omega)
  rw [LC_loop]
  by_cases hs : r.tmod 10 < 0
  · have tm' : r.tmod 10 = -(d : Int) := by rw [tm] at hs ⊢; split <;> simp_all; omega
    have hs' : (-(d : Int) < 0) = True := by rw [← tm']; simpa using hs
    by_cases z : r.tdiv 10 = 0
    · have hR := hz z
      simp +contextual -implicitDefEqProofs (maxSteps := 10000000) only [x59_l0_run, go_sem, ↓reduceIte, reduceCtorEq, Nat.reduceEqDiff, Nat.reduceAdd, Nat.reduceLeDiff, Int.reduceEq, Int.reduceLT, Int.reduceLE, Int.reduceNeg, h3, h4, tm', hs', wn, w1, c1, dd, l1, z]
      exact ⟨_, rfl, by simp only [go_sem, ↓reduceIte, Nat.reduceEqDiff, hR], by simp only [go_sem, ↓reduceIte, reduceCtorEq, h0]⟩
    · have hN := hn z
      simp +contextual -implicitDefEqProofs (maxSteps := 10000000) only [x59_l0_run, go_sem, ↓reduceIte, Nat.reduceEqDiff, Nat.reduceAdd, Nat.reduceLeDiff, Int.reduceEq, h3, h4, tm', hs', wn, w1, c1, dd, l1, wd, z]
      refine hN _ ?_ ?_ ?_ <;> simp only [go_sem, ↓reduceIte, reduceCtorEq, Nat.reduceEqDiff, h0]
  · have tm' : r.tmod 10 = (d : Int) := by rw [tm] at hs ⊢; split <;> simp_all
    by_cases z : r.tdiv 10 = 0
    · have hR := hz z
      simp +contextual -implicitDefEqProofs (maxSteps := 10000000) only [x59_l0_run, go_sem, ↓reduceIte, reduceCtorEq, Nat.reduceEqDiff, Nat.reduceAdd, Nat.reduceLeDiff, Int.reduceEq, Int.reduceLT, Int.reduceLE, Int.reduceNeg, h3, h4, tm', w1, c1, dd, l1, z]
      exact ⟨_, rfl, by simp only [go_sem, ↓reduceIte, Nat.reduceEqDiff, hR], by simp only [go_sem, ↓reduceIte, reduceCtorEq, h0]⟩
    · have hN := hn z
      simp +contextual -implicitDefEqProofs (maxSteps := 10000000) only [x59_l0_run, go_sem, ↓reduceIte, Nat.reduceEqDiff, Nat.reduceAdd, Nat.reduceLeDiff, Int.reduceEq, h3, h4, tm', w1, c1, dd, l1, wd, z]
      refine hN _ ?_ ?_ ?_ <;> simp only [go_sem, ↓reduceIte, reduceCtorEq, Nat.reduceEqDiff, h0]
theorem l_dec (n : Int) (hp : Heap) : ∀ (k : Nat) (r : Int) (_ : I64 r) (_ : r.natAbs < 10 ^ (k + 1)) (fr : List AV) (acc : List UInt8) (_ : k + acc.length ≤ 40), fget fr 0 = .int .i64 n → fget fr 3 = .str acc → fget fr 4 = .int .i64 r →
    OD (decF (k + 1) r.natAbs ++ acc) n hp (LC X GV (.loop x59_l0) ⟨fr, hp⟩) := by
  intro k
  induction k with
  | zero =>
    intro r hr hb fr acc hk h0 h3 h4
    have ht := t_div r
    refine d_step n r hr hp fr acc (by omega) h0 h3 h4 _ ?_ ?_
    · intro _
      rw [decF_lo _ _ (by simpa using hb)]
      rfl
    · intro hz
      exfalso
      apply hz
      rw [ht]
      split <;> omega
  | succ k ih =>
    intro r hr hb fr acc hk h0 h3 h4
    have ht := t_div r
    have ha : (r.tdiv 10).natAbs = r.natAbs / 10 := by rw [ht]; split <;> omega
    refine d_step n r hr hp fr acc (by omega) h0 h3 h4 _ ?_ ?_
    · intro hz
      rw [decF_lo _ _ (by omega)]
      rfl
    · intro hz fr' g0 g3 g4
      rw [decF_hi _ _ (by intro hc; apply hz; rw [ht]; split <;> omega), ← ha, List.append_assoc]
      refine ih (r.tdiv 10) ?_ ?_ fr' _ (by simp only [List.length_append, List.length_cons, List.length_nil]; omega) g0 g3 g4
      · unfold I64 at hr ⊢; rw [ht]; split <;> omega
      · rw [ha]; have : (10 : Nat) ^ (k + 1 + 1) = 10 ^ (k + 1) * 10 := Nat.pow_succ _ _
        omega
theorem decF_len : ∀ k u, (decF k u).length ≤ k
  | 0, _ => by simp [decF]
  | k + 1, u => by
    rw [decF]
    split
    · simp
    · have := decF_len k (u / 10)
      simp only [List.length_append, List.length_cons, List.length_nil]; omega
theorem decI_len (n : Int) : (decI n).length ≤ 21 := by
  have h1 := decF_len 20 n.natAbs
  have h2 := decF_len 20 n.toNat
  unfold decI
  split
  · rw [List.length_cons]; omega
  · omega
theorem v_dec (n : Int) (hn : I64 n) (hp : Heap) : CL X GV 59 [.int .i64 n] hp = some (.str (decI n), hp) := by
  have hb : n.natAbs < 10 ^ (19 + 1) := by unfold I64 at hn; omega
  rw [CL_eq (fn := x59) rfl]
  simp +contextual -implicitDefEqProofs (maxSteps := 10000000) only [x59, go_sem, ↓reduceIte, reduceCtorEq]
  refine elimL (fun r => finK _ (seqK (blockK 0 r) _) = _) (l_dec n ([] :: hp) 19 n hn hb _ [] (by simp) ?_ ?_ ?_) ?_
  all_goals try simp only [go_sem, ↓reduceIte, reduceCtorEq, Nat.reduceEqDiff, Nat.reduceAdd]
  rintro r ⟨fr', rfl, h3, h0⟩
  have dl : (1 + (decF 20 n.natAbs).length ≤ 140737488355328) = True := by have := decF_len 20 n.natAbs; simp; omega
  by_cases c : n < 0
  · have e : decI n = 45 :: decF 20 n.natAbs := by simp [decI, c]
    simp +contextual -implicitDefEqProofs (maxSteps := 10000000) only [go_sem, ↓reduceIte, Nat.reduceEqDiff, h3, h0, c, e, dl]
  · have e : decI n = decF 20 n.natAbs := by simp [decI, c]; congr 1; omega
    simp +contextual -implicitDefEqProofs (maxSteps := 10000000) only [go_sem, ↓reduceIte, Nat.reduceEqDiff, h3, h0, c, e, dl]
def prt (v : Val) : List UInt8 := if chkV v ≠ 0 then [] else if v.k = 1 then decI v.n else if v.k = 2 then decI v.n ++ 47 :: decI v.d else qt v.s
theorem primX_dec (n : Int) (hn : I64 n) : primX 5 [.int .i64 n, .int .i64 10] = some (.str (decI n)) := by
  unfold I64 at hn
  simp only [primX]
  rw [if_pos ⟨trivial, by omega, by omega⟩]
theorem chk_len (v : Val) (h : chkV v = 0) : 4 * v.s.length + 2 ≤ 140737488355328 := by
  unfold chkV chk at h
  split at h
  · split at h
    · rename_i g; rw [g.2]; simp
    · simp at h
  · split at h
    · split at h
      · rename_i g; rw [g.1]; simp
      · simp at h
    · split at h
      · split at h
        · split at h
          · omega
          · simp at h
        · simp at h
      · simp at h
theorem v_print (v : Val) (ho : v.ok) (hp : Heap) : CL X GV 26 [v.av] hp = some (.tup [.str (prt v), .int .i64 (chkV v)], hp) := by
  have h1 := v_check v.k v.n v.d v.s ho.2.1 ho.2.2
  have h2 := chk_len v
  have h3 := primX_dec v.n ho.2.1
  have h4 := primX_dec v.d ho.2.2
  have h5 := v_quoted v.s
  obtain ⟨k, n, d, s⟩ := v
  simp only [chkV, prt, Val.av, vA] at *
  have l1 : ((decI n).length + 1 ≤ 140737488355328) = True := by have := decI_len n; simp; omega
  have l2 : ((decI n ++ [47]).length + (decI d).length ≤ 140737488355328) = True := by have := decI_len n; have := decI_len d; simp; omega
  rw [CL_eq (fn := x26) rfl]
  by_cases hc : chk k n d s = 0
  · have hq := h5 (h2 hc)
    by_cases k1 : k = 1
    · subst k1
      simp +contextual -implicitDefEqProofs (maxSteps := 10000000) only [x26, go_sem, ↓reduceIte, Nat.reduceEqDiff, Nat.reduceAdd, Nat.reduceLeDiff, Int.reduceBEq, Int.reduceBNe, h1, hc, h3]
    by_cases k2 : k = 2
    · subst k2
      simp +contextual -implicitDefEqProofs (maxSteps := 10000000) only [x26, go_sem, ↓reduceIte, Nat.reduceEqDiff, Nat.reduceAdd, Int.reduceEq, Int.reduceBEq, Int.reduceBNe, h1, hc, h3, h4, List.append_assoc, l1, l2]
    · simp +contextual -implicitDefEqProofs (maxSteps := 10000000) only [x26, go_sem, ↓reduceIte, Nat.reduceEqDiff, Nat.reduceAdd, Int.reduceBNe, h1, hc, k1, k2, hq]
  · simp +contextual -implicitDefEqProofs (maxSteps := 10000000) only [x26, go_sem, ↓reduceIte, Nat.reduceEqDiff, Nat.reduceAdd, h1, hc]
theorem v_rprint (v : Val) (ho : v.ok) (hp : Heap) : CL X GV 30 [v.av] hp = some (.tup [.str (prt v), .int .i64 (chkV v)], hp) := by
  have h1 := v_rcheck v.k v.n v.d v.s ho.2.1 ho.2.2
  have h2 := chk_len v
  have h3 := v_dec v.n ho.2.1
  have h4 := v_dec v.d ho.2.2
  have h5 := v_rquoted v.s
  obtain ⟨k, n, d, s⟩ := v
  simp only [chkV, prt, Val.av, vA] at *
  have l1 : ((decI n).length + 1 ≤ 140737488355328) = True := by have := decI_len n; simp; omega
  have l2 : ((decI n ++ [47]).length + (decI d).length ≤ 140737488355328) = True := by have := decI_len n; have := decI_len d; simp; omega
  rw [CL_eq (fn := x30) rfl]
  by_cases hc : chk k n d s = 0
  · have hq := h5 (h2 hc)
    by_cases k1 : k = 1
    · subst k1
      simp +contextual -implicitDefEqProofs (maxSteps := 10000000) only [x30, go_sem, ↓reduceIte, Nat.reduceEqDiff, Nat.reduceAdd, Nat.reduceLeDiff, Int.reduceBEq, Int.reduceBNe, h1, hc, h3]
    by_cases k2 : k = 2
    · subst k2
      simp +contextual -implicitDefEqProofs (maxSteps := 10000000) only [x30, go_sem, ↓reduceIte, Nat.reduceEqDiff, Nat.reduceAdd, Int.reduceEq, Int.reduceBEq, Int.reduceBNe, h1, hc, h3, h4, List.append_assoc, l1, l2]
    · simp +contextual -implicitDefEqProofs (maxSteps := 10000000) only [x30, go_sem, ↓reduceIte, Nat.reduceEqDiff, Nat.reduceAdd, Int.reduceBNe, h1, hc, k1, k2, hq]
  · simp +contextual -implicitDefEqProofs (maxSteps := 10000000) only [x30, go_sem, ↓reduceIte, Nat.reduceEqDiff, Nat.reduceAdd, h1, hc]
end Go.Proofs.YtafeikbbjhmlaaaGreatDoor.Sx.T
