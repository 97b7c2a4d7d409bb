/- Layer 2, part 1: checks and orders of values. -/
import Derived.Test.YtafeikbbjhmlaaaGreatDoorR
import Derived.Test.YtafeikbbjhmlaaaGreatDoorEvX
import Derived.KernelRfl
import Derived.Test.YtafeikbbjhmlaaaGreatDoorTold
set_option linter.unusedVariables false
set_option linter.unusedSimpArgs false
namespace Go.Proofs.YtafeikbbjhmlaaaGreatDoor.Sx.T
open Go Go.Proofs.YtafeikbbjhmlaaaGreatDoor.Sx
set_option maxRecDepth 100000
set_option maxHeartbeats 4000000
def vA (k n d : Int) (s : List UInt8) : AV := .agg [.int .i64 k, .int .i64 n, .int .i64 d, .str s]
def chk (k n d : Int) (s : List UInt8) : Int :=
  if k = 1 then (if d = 0 ∧ s = [] then 0 else 20) else if k = 2 then (if s = [] ∧ mayR n d = true then 0 else 20) else if k = 3 then (if n = 0 ∧ d = 0 then (if s.length ≤ 64 then 0 else 2) else 20) else 20
theorem v_frac (k n d : Int) (s : List UInt8) (hp : Heap) : CL X GV 81 [vA k n d s] hp = some (.agg [.int .i64 n, .int .i64 d], hp) := by
  rw [CL_eq (fn := x81) rfl]
  simp +contextual -implicitDefEqProofs (maxSteps := 10000000) only [x81, vA, go_sem, ↓reduceIte, Nat.reduceEqDiff, Nat.reduceAdd, Nat.reduceLeDiff]
theorem may_eq' (n d : Int) (hn : I64 n) (hd : I64 d) : ((ofR n d).2.2 = 0 ∧ (ofR n d).1 = n ∧ (ofR n d).2.1 = d) ↔ mayR n d = true := by
  by_cases h : 0 < d
  · have := may_eq n d hn hd h
    rw [← this]
    simp
  · have hm : mayR n d = false := by simp [mayR, h]
    rw [hm]
    constructor
    · rintro ⟨h1, _, h3⟩
      exfalso
      unfold ofR at h1 h3
      by_cases h0 : d = 0
      · rw [if_pos h0] at h1; simp at h1
      · rw [if_neg h0] at h3 h1
        unfold frc mk at h3 h1
        generalize d.natAbs / Nat.gcd (n * d.sign).natAbs d.natAbs = q at h3 h1
        generalize (n * d.sign).natAbs / Nat.gcd (n * d.sign).natAbs d.natAbs = p at h3 h1
        simp only at h3 h1
        split at h3
        · rename_i hc; rw [if_pos hc] at h1; simp at h1
        · split at h3 <;> simp at h3 <;> omega
    · intro h; cases h
theorem v_check (k n d : Int) (s : List UInt8) (hn : I64 n) (hd : I64 d) (hp : Heap) : CL X GV 52 [vA k n d s] hp = some (.int .i64 (chk k n d s), hp) := by
  have h1 := r10 n d hn hd
  have h2 := fun s => v_frac 2 n d s
  have h3 := may_eq' n d hn hd
  simp only [rt_eq, vA] at h1 h2
  rw [CL_eq (fn := x52) rfl]
  by_cases k1 : k = 1
  · subst k1
    simp +contextual -implicitDefEqProofs (maxSteps := 10000000) only [x52, vA, chk, go_sem, ↓reduceIte, Nat.reduceEqDiff, Nat.reduceAdd, Int.reduceBEq, Int.reduceBNe, h1]
    by_cases hd0 : d = 0 <;> by_cases hs : s = [] <;> simp [hd0, hs]
  · by_cases k2 : k = 2
    · subst k2
      simp +contextual -implicitDefEqProofs (maxSteps := 10000000) only [x52, vA, chk, go_sem, ↓reduceIte, Nat.reduceEqDiff, Nat.reduceAdd, Int.reduceEq, Int.reduceBEq, Int.reduceBNe, h1, h2]
      by_cases hs : s = []
      · subst hs
        by_cases hm : mayR n d = true
        · obtain ⟨e1, e2, e3⟩ := h3.2 hm
          simp [e1, e2, e3, hm]
        · have hx : ¬ ((ofR n d).2.2 = 0 ∧ (ofR n d).1 = n ∧ (ofR n d).2.1 = d) := fun e => hm (h3.1 e)
          by_cases e1 : (ofR n d).2.2 = 0 <;> by_cases e2 : (ofR n d).1 = n <;> by_cases e3 : (ofR n d).2.1 = d <;> simp_all
      · simp [hs]
    · simp +contextual -implicitDefEqProofs (maxSteps := 10000000) only [x52, vA, chk, go_sem, ↓reduceIte, Nat.reduceEqDiff, Nat.reduceAdd, Int.reduceBEq, Int.reduceBNe, h1, k1, k2]
      by_cases k3 : k = 3 <;> by_cases hn0 : n = 0 <;> by_cases hd0 : d = 0 <;> by_cases hl : s.length ≤ 64 <;> simp [k3, hn0, hd0, hl] <;> omega
end Go.Proofs.YtafeikbbjhmlaaaGreatDoor.Sx.T
namespace Go.Proofs.YtafeikbbjhmlaaaGreatDoor.Sx.T
open Go Go.Proofs.YtafeikbbjhmlaaaGreatDoor.Sx
set_option maxRecDepth 100000
set_option maxHeartbeats 4000000
structure Val where
  k : Int
  n : Int
  d : Int
  s : List UInt8
  deriving DecidableEq, Inhabited
def Val.cells (v : Val) : List AV := [.int .i64 v.k, .int .i64 v.n, .int .i64 v.d, .str v.s]
def Val.av (v : Val) : AV := vA v.k v.n v.d v.s
def Val.ok (v : Val) : Prop := I64 v.k ∧ I64 v.n ∧ I64 v.d
def chkV (v : Val) : Int := chk v.k v.n v.d v.s
def icmp (x y : Int) : Int := if x < y then -1 else if y < x then 1 else 0
def scmp (s t : List UInt8) : Int := if s = t then 0 else if bless s t = true then -1 else 1
def vcmp (a b : Val) : Int :=
  if chkV a ≠ 0 ∨ chkV b ≠ 0 then 0 else if a.k ≠ b.k then icmp a.k b.k else if a.k = 1 then icmp a.n b.n else if a.k = 2 then cmpR a.n a.d b.n b.d else scmp a.s b.s
theorem v_nan (x : Int) (hp : Heap) : CL X GV 104 [.int .i64 x] hp = some (.bool false, hp) := by
  rw [CL_eq (fn := x104) rfl]
  simp +contextual -implicitDefEqProofs (maxSteps := 10000000) only [x104, go_sem, ↓reduceIte, reduceCtorEq, Nat.reduceEqDiff]
  simp
theorem v_nan64 (x : Int) (hp : Heap) : CL X GV 129 [.int .i64 x] hp = some (.bool false, hp) := by
  rw [CL_eq (fn := x129) rfl]
  simp +contextual -implicitDefEqProofs (maxSteps := 10000000) only [x129, go_sem, ↓reduceIte, reduceCtorEq, Nat.reduceEqDiff]
  simp
theorem v_icmp (x y : Int) (hp : Heap) : CL X GV 78 [.int .i64 x, .int .i64 y] hp = some (.int .i64 (icmp x y), hp) := by
  rw [CL_eq (fn := x78) rfl]
  simp +contextual -implicitDefEqProofs (maxSteps := 10000000) only [x78, go_sem, ↓reduceIte, reduceCtorEq, Nat.reduceEqDiff, Int.reduceNeg, v_nan, icmp]
  repeat' split
  all_goals rfl
theorem v_icmp64 (x y : Int) (hp : Heap) : CL X GV 101 [.int .i64 x, .int .i64 y] hp = some (.int .i64 (icmp x y), hp) := by
  rw [CL_eq (fn := x101) rfl]
  simp +contextual -implicitDefEqProofs (maxSteps := 10000000) only [x101, go_sem, ↓reduceIte, reduceCtorEq, Nat.reduceEqDiff, Int.reduceNeg, v_nan64, icmp]
  repeat' split
  all_goals rfl
theorem primX_cmp (s t : List UInt8) : primX 3 [.str s, .str t] = some (.int .i64 (scmp s t)) := by
  simp only [primX, scmp]
  congr 2
  by_cases h : s = t <;> simp [h]
theorem v_bcmp (s t : List UInt8) (hp : Heap) : CL X GV 133 [.str s, .str t] hp = some (.int .i64 (scmp s t), hp) := by
  rw [CL_eq (fn := x133) rfl]
  simp +contextual -implicitDefEqProofs (maxSteps := 10000000) only [x133, go_sem, ↓reduceIte, reduceCtorEq, Nat.reduceEqDiff, primX_cmp]
theorem v_scmp (s t : List UInt8) (hp : Heap) : CL X GV 103 [.str s, .str t] hp = some (.int .i64 (scmp s t), hp) := by
  rw [CL_eq (fn := x103) rfl]
  simp +contextual -implicitDefEqProofs (maxSteps := 10000000) only [x103, go_sem, ↓reduceIte, reduceCtorEq, Nat.reduceEqDiff, v_bcmp]
theorem v_cmp (a b : Val) (ha : a.ok) (hb : b.ok) (hp : Heap) : CL X GV 77 [a.av, b.av] hp = some (.int .i64 (vcmp a b), hp) := by
  obtain ⟨k, n, d, s⟩ := a
  obtain ⟨k', n', d', s'⟩ := b
  simp only [Val.ok, Val.av, vcmp, chkV] at *
  have h1 := fun k s => v_check k n d s ha.2.1 ha.2.2
  have h2 := fun k s => v_check k n' d' s hb.2.1 hb.2.2
  have h3 := fun k s => v_frac k n d s
  have h4 := fun k s => v_frac k n' d' s
  have h5 := r17 n d n' d' ha.2.1 ha.2.2 hb.2.1 hb.2.2
  simp only [vA] at h1 h2 h3 h4 ⊢
  rw [CL_eq (fn := x77) rfl]
  by_cases c1 : chk k n d s = 0
  · by_cases c2 : chk k' n' d' s' = 0
    · by_cases e : k = k'
      · subst e
        simp +contextual -implicitDefEqProofs (maxSteps := 10000000) only [x77, go_sem, ↓reduceIte, Nat.reduceEqDiff, Nat.reduceAdd, Int.reduceBEq, Int.reduceBNe, h1, h2, h3, h4, h5, v_icmp, v_icmp64, v_scmp, c1, c2]
        by_cases k1 : k = 1
        · simp [k1]
        · by_cases k2 : k = 2 <;> simp [k1, k2]
      · simp +contextual -implicitDefEqProofs (maxSteps := 10000000) only [x77, go_sem, ↓reduceIte, Nat.reduceEqDiff, Nat.reduceAdd, Int.reduceBEq, Int.reduceBNe, h1, h2, h3, h4, h5, v_icmp, v_icmp64, c1, c2, e]
        simp []
    · simp +contextual -implicitDefEqProofs (maxSteps := 10000000) only [x77, go_sem, ↓reduceIte, Nat.reduceEqDiff, Nat.reduceAdd, Int.reduceBEq, Int.reduceBNe, h1, h2, h3, h4, h5, v_icmp, v_icmp64, c1, c2]
      simp []
  · simp +contextual -implicitDefEqProofs (maxSteps := 10000000) only [x77, go_sem, ↓reduceIte, Nat.reduceEqDiff, Nat.reduceAdd, Int.reduceBEq, Int.reduceBNe, h1, h3, h4, h5, v_icmp, v_icmp64, c1]
    simp []
end Go.Proofs.YtafeikbbjhmlaaaGreatDoor.Sx.T
namespace Go.Proofs.YtafeikbbjhmlaaaGreatDoor.Sx.T
open Go Go.Proofs.YtafeikbbjhmlaaaGreatDoor.Sx
set_option maxRecDepth 100000
set_option maxHeartbeats 4000000
def rowcmp : List Val → List Val → Int
  | [], [] => 0
  | [], _ :: _ => -1
  | _ :: _, [] => 1
  | a :: l, b :: m => if vcmp a b ≠ 0 then vcmp a b else rowcmp l m
def IsRow (x : AV) (vs : List Val) : Prop := (x = .nilsl ∧ vs = []) ∨ ∃ o, (o = .none ∨ o = .tight) ∧ x = .lst o 4 (vs.map Val.cells)
theorem IsRow.uf {x : AV} {vs : List Val} (h : IsRow x vs) : uf x = x := by
  rcases h with ⟨rfl, _⟩ | ⟨o, ho, rfl⟩
  · rfl
  · rcases ho with rfl | rfl <;> rfl
theorem IsRow.lens {x : AV} {vs : List Val} (h : IsRow x vs) : lensK false x = some (.int .i64 vs.length) := by
  rcases h with ⟨rfl, rfl⟩ | ⟨o, ho, rfl⟩
  · rfl
  · rcases ho with rfl | rfl <;> simp [lensK_lst, lenB]
theorem IsRow.at {x : AV} {vs : List Val} (h : IsRow x vs) {k : Nat} (hk : k < vs.length) : iaddrK 4 x (some k) = some (.elp (vs.getD k default).cells) := by
  rcases h with ⟨rfl, rfl⟩ | ⟨o, _, rfl⟩
  · simp at hk
  · rw [iaddrK_lst, List.length_map, if_pos ⟨rfl, hk⟩]
    simp [List.getD, hk]
theorem IsRow.drop1 {x : AV} {vs : List Val} (h : IsRow x vs) (fr : List AV) (t : Nat) : drop1K x fr t = fr := by
  rcases h with ⟨rfl, rfl⟩ | ⟨o, ho, rfl⟩
  · rfl
  · rcases ho with rfl | rfl <;> rfl
theorem rowcmp_drop (a b : List Val) (i : Nat) (h : i < min a.length b.length) : rowcmp (a.drop i) (b.drop i) =
    if vcmp (a.getD i default) (b.getD i default) ≠ 0 then vcmp (a.getD i default) (b.getD i default) else rowcmp (a.drop (i + 1)) (b.drop (i + 1)) := by
  have ha : i < a.length := by omega
  have hb : i < b.length := by omega
  rw [List.drop_eq_getElem_cons ha, List.drop_eq_getElem_cons hb, rowcmp]
  simp [List.getD, ha, hb]
theorem rowcmp_end (a b : List Val) (i : Nat) (h : i = min a.length b.length) : rowcmp (a.drop i) (b.drop i) = icmp a.length b.length := by
  unfold icmp
  rcases Nat.lt_trichotomy a.length b.length with h1 | h1 | h1
  · obtain rfl : i = a.length := by omega
    rw [List.drop_length, List.drop_eq_getElem_cons h1, rowcmp, if_pos (by omega)]
  · obtain rfl : i = a.length := by omega
    rw [List.drop_length, h1, List.drop_length, rowcmp, if_neg (by omega), if_neg (by omega)]
  · obtain rfl : i = b.length := by omega
    rw [List.drop_length, List.drop_eq_getElem_cons h1, rowcmp, if_neg (by omega), if_pos (by omega)]
def ORow (a b : List Val) (x y : AV) (hp : Heap) (R : Int) (r : Option (XExit × St)) : Prop :=
  (∃ fr', r = some (.exit 0, ⟨fr', hp⟩) ∧ fget fr' 0 = x ∧ fget fr' 1 = y ∧ R = icmp a.length b.length) ∨ (∃ fr', r = some (.ret, ⟨fr', hp⟩) ∧ fget fr' 4 = .int .i64 R)
theorem l_row (a b : List Val) (x y : AV) (hx : IsRow x a) (hy : IsRow y b) (ha : ∀ v ∈ a, v.ok) (hb : ∀ v ∈ b, v.ok) (hl : a.length < 9223372036854775807) (hp : Heap) :
    ∀ (m i : Nat) (_ : i + m = min a.length b.length) (fr : List AV), fget fr 0 = x → fget fr 1 = y → fget fr 12 = .int .i64 i → fget fr 11 = .int .i64 (min a.length b.length : Nat) →
    ORow a b x y hp (rowcmp (a.drop i) (b.drop i)) (LC X GV (.loop x48_l0) ⟨fr, hp⟩) := by
  have u1 := hx.uf
  have u2 := hy.uf
  have d1 := hx.drop1
  have d2 := hy.drop1
  intro m
  induction m with
  | zero =>
    intro i hi fr h0 h1 h12 h11
    rw [LC_loop]
    have e : i = min a.length b.length := by omega
    have hc : ((i : Int) < ((min a.length b.length : Nat) : Int)) = False := by simp; omega
    simp +contextual -implicitDefEqProofs (maxSteps := 10000000) only [x48_l0_run, go_sem, ↓reduceIte, h12, h11, hc]
    exact .inl ⟨_, rfl, by simp only [go_sem, ↓reduceIte, reduceCtorEq, h0], by simp only [go_sem, ↓reduceIte, Nat.reduceEqDiff, h1], rowcmp_end a b i e⟩
  | succ m ih =>
    intro i hi fr h0 h1 h12 h11
    rw [LC_loop]
    have hc : ((i : Int) < ((min a.length b.length : Nat) : Int)) = True := by simp; omega
    have ka : i < a.length := by omega
    have kb : i < b.length := by omega
    have a1 := hx.at ka
    have a2 := hy.at kb
    have oa : (a.getD i default).ok := ha _ (by simp [List.getD, ka])
    have ob : (b.getD i default).ok := hb _ (by simp [List.getD, kb])
    have hcmp := v_cmp _ _ oa ob
    have hr := rowcmp_drop a b i (by omega)
    generalize a.getD i default = va at *
    generalize b.getD i default = vb at *
    obtain ⟨k, n, d, s⟩ := va
    obtain ⟨k', n', d', s'⟩ := vb
    simp only [Val.av, Val.cells, vA] at hcmp a1 a2
    have wi : wr .i64 ((i : Int) + 1) = ((i + 1 : Nat) : Int) := by rw [wr_i64 _ (by omega)]; omega
    by_cases hz : vcmp ⟨k, n, d, s⟩ ⟨k', n', d', s'⟩ = 0
    · rw [hz] at hcmp
      simp +contextual -implicitDefEqProofs (maxSteps := 10000000) only [x48_l0_run, go_sem, ↓reduceIte, reduceCtorEq, Nat.reduceEqDiff, Nat.reduceAdd, Int.reduceBNe, h0, h1, h12, h11, hc, u1, u2, a1, a2, hcmp, wi]
      rw [hr, if_neg (by simp [hz])]
      refine ih (i + 1) (by omega) _ ?_ ?_ ?_ ?_ <;> simp only [go_sem, ↓reduceIte, reduceCtorEq, Nat.reduceEqDiff, h0, h1, h11]
    · simp +contextual -implicitDefEqProofs (maxSteps := 10000000) only [x48_l0_run, go_sem, ↓reduceIte, reduceCtorEq, Nat.reduceEqDiff, Nat.reduceAdd, h0, h1, h12, h11, hc, u1, u2, a1, a2, hcmp, hz]
      exact .inr ⟨_, rfl, by simp only [go_sem, ↓reduceIte]; rw [hr, if_pos hz]⟩
theorem v_row (a b : List Val) (x y : AV) (hx : IsRow x a) (hy : IsRow y b) (ha : ∀ v ∈ a, v.ok) (hb : ∀ v ∈ b, v.ok) (hl : a.length < 9223372036854775807) (hp : Heap) :
    CL X GV 48 [x, y] hp = some (.int .i64 (rowcmp a b), hp) := by
  have u1 := hx.uf
  have u2 := hy.uf
  have d1 := hx.drop1
  have d2 := hy.drop1
  have n1 := hx.lens
  have n2 := hy.lens
  have hm : (if (b.length : Int) < (a.length : Int) then (b.length : Int) else (a.length : Int)) = ((min a.length b.length : Nat) : Int) := by split <;> omega
  rw [CL_eq (fn := x48) rfl]
  simp +contextual -implicitDefEqProofs (maxSteps := 10000000) only [x48, go_sem, ↓reduceIte, reduceCtorEq, Nat.reduceEqDiff, u1, u2, n1, n2, hm]
  refine elimL (fun r => finK _ (seqK (blockK 0 r) _) = _) (l_row a b x y hx hy ha hb hl ([] :: hp) (min a.length b.length) 0 (by omega) _ ?_ ?_ ?_ ?_) ?_
  all_goals try simp only [go_sem, ↓reduceIte, reduceCtorEq, Nat.reduceEqDiff]
  · rfl
  · rintro r (⟨fr', rfl, f0, f1, hR⟩ | ⟨fr', rfl, f4⟩)
    · simp +contextual -implicitDefEqProofs (maxSteps := 10000000) only [go_sem, ↓reduceIte, Nat.reduceEqDiff, f0, f1, u1, u2, n1, n2, v_icmp]
      rw [hR]
    · simp +contextual -implicitDefEqProofs (maxSteps := 10000000) only [go_sem, f4]
end Go.Proofs.YtafeikbbjhmlaaaGreatDoor.Sx.T
namespace Go.Proofs.YtafeikbbjhmlaaaGreatDoor.Sx.T
open Go Go.Proofs.YtafeikbbjhmlaaaGreatDoor.Sx
set_option maxRecDepth 100000
set_option maxHeartbeats 8000000
end Go.Proofs.YtafeikbbjhmlaaaGreatDoor.Sx.T
namespace Go.Proofs.YtafeikbbjhmlaaaGreatDoor.Sx.T
open Go Go.Proofs.YtafeikbbjhmlaaaGreatDoor.Sx
set_option maxRecDepth 100000
set_option maxHeartbeats 8000000
theorem v_rsame (a b : Val) (hp : Heap) : CL X GV 76 [a.av, b.av] hp = some (.bool (decide (a = b)), hp) := by
  obtain ⟨k, n, d, s⟩ := a
  obtain ⟨k', n', d', s'⟩ := b
  simp only [Val.av, vA]
  rw [CL_eq (fn := x76) rfl]
  simp +contextual -implicitDefEqProofs (maxSteps := 10000000) only [x76, go_sem, ↓reduceIte, Nat.reduceEqDiff, Nat.reduceAdd]
  congr 3
  rw [Bool.eq_iff_iff]
  simp
end Go.Proofs.YtafeikbbjhmlaaaGreatDoor.Sx.T
namespace Go.Proofs.YtafeikbbjhmlaaaGreatDoor.Sx.T
open Go Go.Proofs.YtafeikbbjhmlaaaGreatDoor.Sx
set_option maxRecDepth 100000
set_option maxHeartbeats 8000000
end Go.Proofs.YtafeikbbjhmlaaaGreatDoor.Sx.T
namespace Go.Proofs.YtafeikbbjhmlaaaGreatDoor.Sx.T
open Go Go.Proofs.YtafeikbbjhmlaaaGreatDoor.Sx
set_option maxRecDepth 100000
set_option maxHeartbeats 8000000
def digs : List UInt8 := [48, 49, 50, 51, 52, 53, 54, 55, 56, 57, 97, 98, 99, 100, 101, 102]
def hx (n : Nat) : UInt8 := digs.getD n 0
def qc (c : UInt8) : List UInt8 := if c.toNat = 34 ∨ c.toNat = 92 then [92, c] else if 32 ≤ c.toNat ∧ c.toNat ≤ 126 then [c] else [92, 120, hx (c.toNat / 16), hx (c.toNat % 16)]
def qt (s : List UInt8) : List UInt8 := 34 :: (s.flatMap qc ++ [34])
theorem qc_len (c : UInt8) : (qc c).length ≤ 4 := by
  unfold qc
  split
  · simp
  · split <;> simp
theorem flat_len (s : List UInt8) : (s.flatMap qc).length ≤ 4 * s.length := by
  induction s with
  | nil => simp
  | cons c s ih => have := qc_len c; rw [List.flatMap_cons, List.length_append, List.length_cons]; omega
theorem bytes_app (a b : List UInt8) : listOfBytes (a ++ b) = listOfBytes a ++ listOfBytes b := by simp [listOfBytes]
theorem bytes_cons (c : UInt8) (b : List UInt8) : listOfBytes (c :: b) = [.int .u8 (c.toNat : Int)] :: listOfBytes b := by simp [listOfBytes]
theorem bytes_nil : listOfBytes [] = [] := rfl
theorem bytes_getD (s : List UInt8) (i : Nat) (h : i < s.length) : (listOfBytes s).getD i [] = [.int .u8 ((s.getD i 0).toNat : Int)] := by
  simp [listOfBytes, List.getD, h]
theorem and15 : ∀ x : Nat, x < 256 → ints .u8 .and (x : Int) 15 = some (.int .u8 ((x % 16 : Nat) : Int)) := by
  intro x hx
  have h : ∀ y : Fin 256, wr .u8 ((BitVec.ofInt 8 (y.val : Int) &&& BitVec.ofInt 8 15).toNat : Int) = ((y.val % 16 : Nat) : Int) := by decide +kernel
  have := h ⟨x, hx⟩
  simp only [ints, bitsOf]
  exact congrArg (fun z => some (AV.int .u8 z)) this
theorem u92 : (((92 : UInt8).toNat : Nat) : Int) = 92 := rfl
theorem u120 : (((120 : UInt8).toNat : Nat) : Int) = 120 := rfl
theorem p48 : (2 : Nat) ^ min 4 8 = 16 := rfl
theorem drop_flat (s : List UInt8) (i : Nat) (h : i < s.length) (acc : List UInt8) : acc ++ (s.drop i).flatMap qc = (acc ++ qc (s.getD i 0)) ++ (s.drop (i + 1)).flatMap qc := by
  rw [List.drop_eq_getElem_cons h, List.flatMap_cons, List.append_assoc]
  simp [List.getD, h]
def OQ (R : List UInt8) (hp : Heap) (r : Option (XExit × St)) : Prop := ∃ fr' o, r = some (.exit 0, ⟨fr', hp⟩) ∧ (o = .own ∨ o = .tight) ∧ fget fr' 3 = .lst o 1 (listOfBytes R)
theorem l_quoted (s : List UInt8) (hl : 4 * s.length + 2 ≤ 140737488355328) (hp : Heap) : ∀ (m i : Nat) (_ : i + m = s.length) (fr : List AV) (acc : List UInt8) (o : Own), (o = .own ∨ o = .tight) → acc.length ≤ 4 * i + 1 →
    fget fr 8 = .lst .own 1 (listOfBytes s) → fget fr 9 = .int .i64 s.length → fget fr 10 = .int .i64 i → fget fr 3 = .lst o 1 (listOfBytes acc) →
    OQ (acc ++ (s.drop i).flatMap qc) hp (LC X GV (.loop x53_l0) ⟨fr, hp⟩) := by
  intro m
  induction m with
  | zero =>
    intro i hi fr acc o ho ha h8 h9 h10 h3
    rw [LC_loop]
    have hc : ((i : Int) < (s.length : Int)) = False := by simp; omega
    simp +contextual -implicitDefEqProofs (maxSteps := 10000000) only [x53_l0_run, go_sem, ↓reduceIte, h9, h10, hc]
    refine ⟨_, o, rfl, ho, ?_⟩
    simp only [go_sem, ↓reduceIte, Nat.reduceEqDiff, h3]
    rw [List.drop_of_length_le (by omega)]
    simp
  | succ m ih =>
    intro i hi fr acc o ho ha h8 h9 h10 h3
    rw [LC_loop]
    have hc : ((i : Int) < (s.length : Int)) = True := by simp; omega
    have ki : i < s.length := by omega
    have kb : i < (listOfBytes s).length := by rw [bytes_len]; exact ki
    have wi : wr .i64 ((i : Int) + 1) = ((i + 1 : Nat) : Int) := by rw [wr_i64 _ (by omega)]; omega
    have hg := bytes_getD s i ki
    rw [drop_flat s i ki acc]
    generalize s.getD i 0 = c at hg ⊢
    have c256 : c.toNat < 256 := c.toNat_lt
    have a15 := and15 c.toNat c256
    have sh : (c.toNat : Int).fdiv 16 = ((c.toNat / 16 : Nat) : Int) := by
      have := fdiv_pow c.toNat 4
      simpa using this
    have r1 : ((listOfBytes acc).length + 1 ≤ room) = True := by rw [bytes_len]; unfold room; simp; omega
    have r2 : ((listOfBytes acc).length + 2 ≤ room) = True := by rw [bytes_len]; unfold room; simp; omega
    have r4 : ((listOfBytes acc).length + 4 ≤ room) = True := by rw [bytes_len]; unfold room; simp; omega
    have d1 : c.toNat / 16 < 16 := by omega
    have d2 : c.toNat % 16 < 16 := Nat.mod_lt _ (by omega)
    have x1 : ([48, 49, 50, 51, 52, 53, 54, 55, 56, 57, 97, 98, 99, 100, 101, 102] : List UInt8).getD (c.toNat / 16) 0 = hx (c.toNat / 16) := rfl
    have x2 : ([48, 49, 50, 51, 52, 53, 54, 55, 56, 57, 97, 98, 99, 100, 101, 102] : List UInt8).getD (c.toNat % 16) 0 = hx (c.toNat % 16) := rfl
    have step : ∀ (fr' : List AV) (q : List UInt8), qc c = q → fget fr' 8 = .lst .own 1 (listOfBytes s) → fget fr' 9 = .int .i64 s.length → fget fr' 10 = .int .i64 ((i + 1 : Nat) : Int) → fget fr' 3 = .lst .own 1 (listOfBytes acc ++ listOfBytes q) →
        OQ ((acc ++ qc c) ++ (s.drop (i + 1)).flatMap qc) hp (LC X GV (.loop x53_l0) ⟨fr', hp⟩) := by
      intro fr' q hq g8 g9 g10 g3
      refine ih (i + 1) (by omega) fr' _ .own (.inl rfl) ?_ g8 g9 g10 ?_
      · have := qc_len c
        rw [List.length_append]; omega
      · rw [g3, hq, bytes_app]
    by_cases b1 : c.toNat = 34
    · have e1 : ((c.toNat : Int) = 34) = True := by simp; omega
      have hq : qc c = [92, c] := by unfold qc; rw [if_pos (.inl b1)]
      rcases ho with rfl | rfl
      all_goals
        simp +contextual -implicitDefEqProofs (maxSteps := 10000000) only [x53_l0_run, go_sem, ↓reduceIte, reduceCtorEq, Nat.reduceEqDiff, Nat.reduceAdd, Nat.reduceLeDiff, Int.reduceLT, Int.reduceToNat, Nat.reduceLT, Nat.reduceDiv, h8, h9, h10, h3, hc, kb, hg, wi, r1, r2, e1, List.flatten_cons, List.flatten_nil]
        refine step _ _ hq ?_ ?_ ?_ ?_ <;> simp only [go_sem, ↓reduceIte, Nat.reduceEqDiff, h8, h9, bytes_cons, bytes_nil, u92]
    by_cases b2 : c.toNat = 92
    · have e1 : ((c.toNat : Int) = 34) = False := by simp; omega
      have e2 : ((c.toNat : Int) = 92) = True := by simp; omega
      have hq : qc c = [92, c] := by unfold qc; rw [if_pos (.inr b2)]
      rcases ho with rfl | rfl
      all_goals
        simp +contextual -implicitDefEqProofs (maxSteps := 10000000) only [x53_l0_run, go_sem, ↓reduceIte, reduceCtorEq, Nat.reduceEqDiff, Nat.reduceAdd, Nat.reduceLeDiff, Int.reduceLT, Int.reduceToNat, Nat.reduceLT, Nat.reduceDiv, h8, h9, h10, h3, hc, kb, hg, wi, r1, r2, e1, e2, List.flatten_cons, List.flatten_nil]
        refine step _ _ hq ?_ ?_ ?_ ?_ <;> simp only [go_sem, ↓reduceIte, Nat.reduceEqDiff, h8, h9, bytes_cons, bytes_nil, u92]
    have e1 : ((c.toNat : Int) = 34) = False := by simp; omega
    have e2 : ((c.toNat : Int) = 92) = False := by simp; omega
    have n12 : ¬ (c.toNat = 34 ∨ c.toNat = 92) := by omega
    by_cases b3 : 32 ≤ c.toNat ∧ c.toNat ≤ 126
    · have e3 : ((32 : Int) ≤ (c.toNat : Int)) = True := by simp; omega
      have e4 : ((c.toNat : Int) ≤ 126) = True := by simp; omega
      have hq : qc c = [c] := by unfold qc; rw [if_neg n12, if_pos b3]
      rcases ho with rfl | rfl
      all_goals
        simp +contextual -implicitDefEqProofs (maxSteps := 10000000) only [x53_l0_run, go_sem, ↓reduceIte, reduceCtorEq, Nat.reduceEqDiff, Nat.reduceAdd, Nat.reduceLeDiff, Int.reduceLT, Int.reduceToNat, Nat.reduceLT, Nat.reduceDiv, h8, h9, h10, h3, hc, kb, hg, wi, r1, r2, e1, e2, e3, e4, List.flatten_cons, List.flatten_nil]
        refine step _ _ hq ?_ ?_ ?_ ?_ <;> simp only [go_sem, ↓reduceIte, Nat.reduceEqDiff, h8, h9, bytes_cons, bytes_nil]
    · have hq : qc c = [92, 120, hx (c.toNat / 16), hx (c.toNat % 16)] := by unfold qc; rw [if_neg n12, if_neg b3]
      by_cases b4 : 32 ≤ c.toNat
      · have e3 : ((32 : Int) ≤ (c.toNat : Int)) = True := by simp; omega
        have e4 : ((c.toNat : Int) ≤ 126) = False := by simp; omega
        rcases ho with rfl | rfl
        all_goals
          simp +contextual -implicitDefEqProofs (maxSteps := 10000000) only [x53_l0_run, go_sem, ↓reduceIte, reduceCtorEq, Nat.reduceEqDiff, Nat.reduceAdd, Nat.reduceLeDiff, Int.reduceLT, Int.reduceToNat, Nat.reduceLT, Nat.reduceDiv, h8, h9, h10, h3, hc, kb, hg, wi, r1, r2, r4, e1, e2, e3, e4, a15, p48, d1, d2, x1, x2, List.flatten_cons, List.flatten_nil]
          refine step _ _ hq ?_ ?_ ?_ ?_ <;> simp only [go_sem, ↓reduceIte, Nat.reduceEqDiff, h8, h9, bytes_cons, bytes_nil, u92, u120]
      · have e3 : ((32 : Int) ≤ (c.toNat : Int)) = False := by simp; omega
        rcases ho with rfl | rfl
        all_goals
          simp +contextual -implicitDefEqProofs (maxSteps := 10000000) only [x53_l0_run, go_sem, ↓reduceIte, reduceCtorEq, Nat.reduceEqDiff, Nat.reduceAdd, Nat.reduceLeDiff, Int.reduceLT, Int.reduceToNat, Nat.reduceLT, Nat.reduceDiv, h8, h9, h10, h3, hc, kb, hg, wi, r1, r2, r4, e1, e2, e3, a15, p48, d1, d2, x1, x2, List.flatten_cons, List.flatten_nil]
          refine step _ _ hq ?_ ?_ ?_ ?_ <;> simp only [go_sem, ↓reduceIte, Nat.reduceEqDiff, h8, h9, bytes_cons, bytes_nil, u92, u120]
theorem v_quoted (s : List UInt8) (hl : 4 * s.length + 2 ≤ 140737488355328) (hp : Heap) : CL X GV 53 [.str s] hp = some (.str (qt s), hp) := by
  have rs : (s.length ≤ room) = True := by unfold room; simp; omega
  have bl := bytes_len s
  rw [CL_eq (fn := x53) rfl]
  simp +contextual -implicitDefEqProofs (maxSteps := 10000000) only [x53, go_sem, ↓reduceIte, reduceCtorEq, Nat.reduceLT, Nat.reduceDiv, rs, bl]
  refine elimL (fun r => finK _ (seqK (blockK 0 r) _) = _) (l_quoted s hl ([] :: hp) s.length 0 (by omega) _ [34] .tight (.inr rfl) (by simp) ?_ ?_ ?_ ?_) ?_
  all_goals try simp only [go_sem, ↓reduceIte, Nat.reduceEqDiff]
  · rfl
  · rfl
  · rintro r ⟨fr', o, rfl, ho, h3⟩
    have hn : ∀ q : List UInt8, listOfBytes q ++ [[.int .u8 34]] = listOfBytes (q ++ [34]) := fun q => by rw [bytes_app]; rfl
    have r1 : ((listOfBytes (34 :: s.flatMap qc)).length + 1 ≤ room) = True := by
      have := flat_len s
      rw [bytes_len, List.length_cons]
      unfold room
      simp only [eq_iff_iff, iff_true]
      omega
    rcases ho with rfl | rfl
    all_goals
      simp +contextual -implicitDefEqProofs (maxSteps := 10000000) only [go_sem, ↓reduceIte, reduceCtorEq, Nat.reduceEqDiff, Nat.reduceLT, Nat.reduceDiv, h3, r1, hn, qt, List.flatten_cons, List.flatten_nil]
end Go.Proofs.YtafeikbbjhmlaaaGreatDoor.Sx.T
namespace Go.Proofs.YtafeikbbjhmlaaaGreatDoor.Sx.T
open Go Go.Proofs.YtafeikbbjhmlaaaGreatDoor.Sx
set_option maxRecDepth 100000
set_option maxHeartbeats 8000000
theorem decF_len : ∀ k u, (decF k u).length ≤ k
  | 0, _ => by simp [decF]
  | k + 1, u => by
    rw [decF]
    split
    · simp
    · have := decF_len k (u / 10)
      simp only [List.length_append, List.length_cons, List.length_nil]; omega
theorem decI_len (n : Int) : (decI n).length ≤ 21 := by
  have h1 := decF_len 20 n.natAbs
  have h2 := decF_len 20 n.toNat
  unfold decI
  split
  · rw [List.length_cons]; omega
  · omega
def prt (v : Val) : List UInt8 := if chkV v ≠ 0 then [] else if v.k = 1 then decI v.n else if v.k = 2 then decI v.n ++ 47 :: decI v.d else qt v.s
theorem primX_dec (n : Int) (hn : I64 n) : primX 5 [.int .i64 n, .int .i64 10] = some (.str (decI n)) := by
  unfold I64 at hn
  simp only [primX]
  rw [if_pos ⟨trivial, by omega, by omega⟩]
theorem chk_len (v : Val) (h : chkV v = 0) : 4 * v.s.length + 2 ≤ 140737488355328 := by
  unfold chkV chk at h
  split at h
  · split at h
    · rename_i g; rw [g.2]; simp
    · simp at h
  · split at h
    · split at h
      · rename_i g; rw [g.1]; simp
      · simp at h
    · split at h
      · split at h
        · split at h
          · omega
          · simp at h
        · simp at h
      · simp at h
theorem v_print (v : Val) (ho : v.ok) (hp : Heap) : CL X GV 26 [v.av] hp = some (.tup [.str (prt v), .int .i64 (chkV v)], hp) := by
  have h1 := v_check v.k v.n v.d v.s ho.2.1 ho.2.2
  have h2 := chk_len v
  have h3 := primX_dec v.n ho.2.1
  have h4 := primX_dec v.d ho.2.2
  have h5 := v_quoted v.s
  obtain ⟨k, n, d, s⟩ := v
  simp only [chkV, prt, Val.av, vA] at *
  have l1 : ((decI n).length + 1 ≤ 140737488355328) = True := by have := decI_len n; simp; omega
  have l2 : ((decI n ++ [47]).length + (decI d).length ≤ 140737488355328) = True := by have := decI_len n; have := decI_len d; simp; omega
  rw [CL_eq (fn := x26) rfl]
  by_cases hc : chk k n d s = 0
  · have hq := h5 (h2 hc)
    by_cases k1 : k = 1
    · subst k1
      simp +contextual -implicitDefEqProofs (maxSteps := 10000000) only [x26, go_sem, ↓reduceIte, Nat.reduceEqDiff, Nat.reduceAdd, Nat.reduceLeDiff, Int.reduceBEq, Int.reduceBNe, h1, hc, h3]
    by_cases k2 : k = 2
    · subst k2
      simp +contextual -implicitDefEqProofs (maxSteps := 10000000) only [x26, go_sem, ↓reduceIte, Nat.reduceEqDiff, Nat.reduceAdd, Int.reduceEq, Int.reduceBEq, Int.reduceBNe, h1, hc, h3, h4, List.append_assoc, l1, l2]
    · simp +contextual -implicitDefEqProofs (maxSteps := 10000000) only [x26, go_sem, ↓reduceIte, Nat.reduceEqDiff, Nat.reduceAdd, Int.reduceBNe, h1, hc, k1, k2, hq]
  · simp +contextual -implicitDefEqProofs (maxSteps := 10000000) only [x26, go_sem, ↓reduceIte, Nat.reduceEqDiff, Nat.reduceAdd, h1, hc]
end Go.Proofs.YtafeikbbjhmlaaaGreatDoor.Sx.T
namespace Go.Proofs.YtafeikbbjhmlaaaGreatDoor.Sx.T
open Go Go.Proofs.YtafeikbbjhmlaaaGreatDoor.Sx
set_option maxRecDepth 100000
set_option maxHeartbeats 8000000
def trimQ (s : List UInt8) : List UInt8 := if s.getLast? = some 34 then s.dropLast else s
def slash (s : List UInt8) : Option Nat := s.findIdx? (fun b => b == 47)
def cutS (s : List UInt8) : List UInt8 × List UInt8 × Bool := match slash s with | some i => (s.take i, s.drop (i + 1), true) | none => (s, [], false)
end Go.Proofs.YtafeikbbjhmlaaaGreatDoor.Sx.T
namespace Go.Proofs.YtafeikbbjhmlaaaGreatDoor.Sx.T
open Go Go.Proofs.YtafeikbbjhmlaaaGreatDoor.Sx
set_option maxRecDepth 100000
set_option maxHeartbeats 8000000
def lo (c : Nat) : Nat := c ||| 32
def hv (c : Nat) : Nat := if 48 ≤ c ∧ c ≤ 57 then c - 48 else if 97 ≤ lo c ∧ lo c ≤ 122 then lo c - 97 + 10 else 99
end Go.Proofs.YtafeikbbjhmlaaaGreatDoor.Sx.T
namespace Go.Proofs.YtafeikbbjhmlaaaGreatDoor.Sx.T
open Go Go.Proofs.YtafeikbbjhmlaaaGreatDoor.Sx
set_option maxRecDepth 100000
set_option maxHeartbeats 8000000
def hexV (a b : UInt8) : Nat := if hv a.toNat < 16 ∧ hv b.toNat < 16 then hv a.toNat * 16 + hv b.toNat else 0
end Go.Proofs.YtafeikbbjhmlaaaGreatDoor.Sx.T
namespace Go.Proofs.YtafeikbbjhmlaaaGreatDoor.Sx.T
open Go Go.Proofs.YtafeikbbjhmlaaaGreatDoor.Sx
set_option maxRecDepth 100000
set_option maxHeartbeats 8000000
def dP : Nat → List UInt8 → List UInt8
  | 0, _ => []
  | _ + 1, [] => []
  | _ + 1, [c] => [c]
  | n + 1, c :: c2 :: r => if c = 92 then (match c2, r with
      | c2, a :: b :: t => if c2 = 120 then UInt8.ofNat (hexV a b) :: dP n t else c2 :: dP n r
      | c2, _ => c2 :: dP n r) else c :: dP n (c2 :: r)
theorem dP_end (n : Nat) : dP n [] = [] := by cases n <;> rfl
def unP (s : List UInt8) : List UInt8 := dP s.length (trimQ (s.drop 1))
end Go.Proofs.YtafeikbbjhmlaaaGreatDoor.Sx.T
namespace Go.Proofs.YtafeikbbjhmlaaaGreatDoor.Sx.T
open Go Go.Proofs.YtafeikbbjhmlaaaGreatDoor.Sx
set_option maxRecDepth 100000
set_option maxHeartbeats 8000000
def wv (c : UInt8) : Nat := (digs.findIdx? (fun d => d == c)).getD 16
end Go.Proofs.YtafeikbbjhmlaaaGreatDoor.Sx.T
namespace Go.Proofs.YtafeikbbjhmlaaaGreatDoor.Sx.T
open Go Go.Proofs.YtafeikbbjhmlaaaGreatDoor.Sx
set_option maxRecDepth 100000
set_option maxHeartbeats 1000000
def isDig (c : UInt8) : Prop := 48 ≤ c.toNat ∧ c.toNat ≤ 57
instance (c : UInt8) : Decidable (isDig c) := by unfold isDig; infer_instance
def valD (acc : Nat) (l : List UInt8) : Nat := l.foldl (fun a c => a * 10 + (c.toNat - 48)) acc
theorem valD_cons (acc : Nat) (c : UInt8) (l : List UInt8) : valD acc (c :: l) = valD (acc * 10 + (c.toNat - 48)) l := by simp only [valD, List.foldl_cons]
theorem valD_nil (acc : Nat) : valD acc [] = acc := by simp only [valD, List.foldl_nil]
theorem valD_ge : ∀ (l : List UInt8) (acc : Nat), acc ≤ valD acc l
  | [], acc => by rw [valD_nil]; exact Nat.le_refl _
  | c :: l, acc => by
    rw [valD_cons]
    have := valD_ge l (acc * 10 + (c.toNat - 48))
    omega
theorem parse_dig (M : Nat) (hM : 9223372036854775808 ≤ M) : ∀ (l : List UInt8) (acc : Nat), (∀ c ∈ l, isDig c) → valD acc l ≤ 9223372036854775808 → Go.Lib.parseUintM M acc l = .ok (valD acc l)
  | [], acc, _, _ => by rw [Go.Lib.parseUintM, valD_nil]
  | c :: l, acc, hd, hv => by
    have hc := hd c (by simp)
    unfold isDig at hc
    rw [valD_cons] at hv ⊢
    have hg := valD_ge l (acc * 10 + (c.toNat - 48))
    rw [Go.Lib.parseUintM, if_pos hc, if_neg (by omega), if_neg (by omega)]
    exact parse_dig M hM l _ (fun x hx => hd x (by simp [hx])) hv
def numF : List UInt8 → Int → Int
  | [], n => n
  | c :: r, n => if 48 ≤ c.toNat ∧ c.toNat ≤ 57 then numF r (wr .i64 (wr .i64 (n * 10) - ((c.toNat - 48 : Nat) : Int))) else numF r n
def numR (s : List UInt8) : Int := if s.head? = some 45 then numF s 0 else wr .i64 (-(numF s 0))
theorem num_dig : ∀ (l : List UInt8) (acc : Nat), (∀ c ∈ l, isDig c) → valD acc l ≤ 9223372036854775808 → numF l (-(acc : Int)) = -((valD acc l : Nat) : Int)
  | [], acc, _, _ => by rw [numF, valD_nil]
  | c :: l, acc, hd, hv => by
    have hc := hd c (by simp)
    unfold isDig at hc
    rw [valD_cons] at hv ⊢
    have hg := valD_ge l (acc * 10 + (c.toNat - 48))
    have e1 : wr .i64 (-(acc : Int) * 10) = -(acc : Int) * 10 := wr_i64 _ (by omega)
    have e2 : wr .i64 (-(acc : Int) * 10 - ((c.toNat - 48 : Nat) : Int)) = -(acc : Int) * 10 - ((c.toNat - 48 : Nat) : Int) := wr_i64 _ (by omega)
    rw [numF, if_pos hc, e1, e2]
    have e : (-(acc : Int) * 10 - ((c.toNat - 48 : Nat) : Int)) = -((acc * 10 + (c.toNat - 48) : Nat) : Int) := by omega
    rw [e]
    exact num_dig l _ (fun x hx => hd x (by simp [hx])) hv
theorem digC (d : Nat) (h : d < 10) : (UInt8.ofNat (48 + d)).toNat = 48 + d := by
  rw [UInt8.toNat_ofNat']
  omega
theorem decF_dig : ∀ (k u : Nat), ∀ c ∈ decF k u, isDig c
  | 0, _ => by simp [decF]
  | k + 1, u => by
    intro c hc
    rw [decF] at hc
    split at hc
    · rename_i h
      simp only [List.mem_singleton] at hc
      subst hc
      unfold isDig
      rw [digC _ h]
      omega
    · rcases List.mem_append.1 hc with hc | hc
      · exact decF_dig k _ c hc
      · simp only [List.mem_singleton] at hc
        subst hc
        unfold isDig
        rw [digC _ (Nat.mod_lt _ (by omega))]
        omega
theorem decF_val : ∀ (k u : Nat), u < 10 ^ k → k ≠ 0 → valD 0 (decF k u) = u
  | 0, _, _, h => absurd rfl h
  | k + 1, u, hu, _ => by
    rw [decF]
    split
    · rename_i h
      rw [valD_cons, digC _ h]
      rw [valD_nil]
      omega
    · rename_i h
      have hp : (10 : Nat) ^ (k + 1) = 10 ^ k * 10 := Nat.pow_succ _ _
      have hk : k ≠ 0 := by rintro rfl; simp at hu; omega
      have ih := decF_val k (u / 10) (by omega) hk
      have : valD 0 (decF k (u / 10) ++ [UInt8.ofNat (48 + u % 10)]) = valD 0 (decF k (u / 10)) * 10 + ((UInt8.ofNat (48 + u % 10)).toNat - 48) := by
        simp only [valD, List.foldl_append, List.foldl_cons, List.foldl_nil]
      rw [this, ih, digC _ (Nat.mod_lt _ (by omega))]
      omega
theorem decF_ne (k u : Nat) (hk : k ≠ 0) : decF k u ≠ [] := by
  cases k with
  | zero => exact absurd rfl hk
  | succ k => rw [decF]; split <;> simp
theorem dig_ne (c : UInt8) (h : isDig c) (d : UInt8) (hd : d.toNat < 48) : c ≠ d := by
  rintro rfl
  unfold isDig at h
  omega
theorem u45 : ((45 : UInt8).toNat) = 45 := rfl
theorem numR_dec (n : Int) (hn : I64 n) : numR (decI n) = n := by
  unfold I64 at hn
  unfold numR decI
  by_cases h : n < 0
  · simp only [if_pos h, List.head?_cons, if_true]
    rw [numF, if_neg (by rw [u45]; omega)]
    have := num_dig (decF 20 n.natAbs) 0 (decF_dig 20 _) (by rw [decF_val 20 _ (by omega) (by omega)]; omega)
    rw [decF_val 20 _ (by omega) (by omega)] at this
    rw [show (0 : Int) = -((0 : Nat) : Int) from rfl, this]
    omega
  · rw [if_neg h]
    have := num_dig (decF 20 n.toNat) 0 (decF_dig 20 _) (by rw [decF_val 20 _ (by omega) (by omega)]; omega)
    rw [decF_val 20 _ (by omega) (by omega)] at this
    rw [if_neg, show (0 : Int) = -((0 : Nat) : Int) from rfl, this, wr_i64 _ (by omega)]
    · omega
    · intro h45
      have hm := List.mem_of_mem_head? h45
      exact dig_ne _ (decF_dig 20 _ _ hm) 45 (by rw [u45]; omega) rfl
theorem parI_dec (n : Int) (hn : I64 n) : parI (decI n) = n := by
  unfold I64 at hn
  have hU : ∀ m : Nat, m ≤ 9223372036854775808 → Go.Lib.parseUintB 64 (decF 20 m) = .ok m := by
    intro m hm
    unfold Go.Lib.parseUintB
    rw [if_neg (decF_ne 20 m (by omega)), parse_dig _ (by decide) _ 0 (decF_dig 20 m) (by rw [decF_val 20 _ (by omega) (by omega)]; omega), decF_val 20 _ (by omega) (by omega)]
  have key : Go.Lib.parseIntB 64 (decI n) = .ok n := by
    unfold decI
    by_cases h : n < 0
    · rw [if_pos h]
      unfold Go.Lib.parseIntB
      simp only [u45]
      simp only [or_true, if_true, hU n.natAbs (by omega)]
      rw [if_neg (by simp), if_neg (by omega)]
      congr 1
      omega
    · rw [if_neg h]
      have hm := hU n.toNat (by omega)
      have hd := decF_dig 20 n.toNat
      cases hl : decF 20 n.toNat with
      | nil => exact absurd hl (decF_ne 20 _ (by omega))
      | cons c r =>
        rw [hl] at hm hd
        have hc := hd c (by simp)
        unfold isDig at hc
        unfold Go.Lib.parseIntB
        simp only
        rw [if_neg (by omega), hm]
        simp only
        rw [if_neg (by omega), if_neg (by omega), if_neg (by omega)]
        congr 1
        omega
  unfold parI
  rw [key]
end Go.Proofs.YtafeikbbjhmlaaaGreatDoor.Sx.T
namespace Go.Proofs.YtafeikbbjhmlaaaGreatDoor.Sx.T
open Go Go.Proofs.YtafeikbbjhmlaaaGreatDoor.Sx
set_option maxRecDepth 100000
set_option maxHeartbeats 8000000
end Go.Proofs.YtafeikbbjhmlaaaGreatDoor.Sx.T
namespace Go.Proofs.YtafeikbbjhmlaaaGreatDoor.Sx.T
open Go Go.Proofs.YtafeikbbjhmlaaaGreatDoor.Sx
set_option maxRecDepth 100000
set_option maxHeartbeats 8000000
def zV : Val := ⟨0, 0, 0, []⟩
def rawP (s : List UInt8) : Val := if (cutS s).2.2 = true then ⟨2, parI (cutS s).1, parI (cutS s).2.1, []⟩ else ⟨1, parI (cutS s).1, 0, []⟩
def rawR (s : List UInt8) : Val := match slash s with | some i => ⟨2, numR (s.take i), numR (s.drop (i + 1)), []⟩ | none => ⟨1, numR s, 0, []⟩
def parQ (t s : List UInt8) : Val × Int := if qt t = s then (if 64 < t.length then (zV, 2) else (⟨3, 0, 0, t⟩, 0)) else (zV, 70)
def parN (v : Val) (s : List UInt8) : Val × Int := if chkV v = 0 ∧ prt v = s then (v, 0) else (zV, 70)
def parP (s : List UInt8) : Val × Int := if s.head? = some 34 then parQ (unP s) s else parN (rawP s) s
end Go.Proofs.YtafeikbbjhmlaaaGreatDoor.Sx.T
namespace Go.Proofs.YtafeikbbjhmlaaaGreatDoor.Sx.T
open Go Go.Proofs.YtafeikbbjhmlaaaGreatDoor.Sx
set_option maxRecDepth 100000
set_option maxHeartbeats 8000000
end Go.Proofs.YtafeikbbjhmlaaaGreatDoor.Sx.T
namespace Go.Proofs.YtafeikbbjhmlaaaGreatDoor.Sx.T
open Go Go.Proofs.YtafeikbbjhmlaaaGreatDoor.Sx
set_option maxRecDepth 100000
set_option maxHeartbeats 8000000
theorem hex_back (c : UInt8) : UInt8.ofNat (hexV (hx (c.toNat / 16)) (hx (c.toNat % 16))) = c ∧ UInt8.ofNat ((16 * wv (hx (c.toNat / 16)) + wv (hx (c.toNat % 16))) % 256) = c := by
  have h : ∀ x : Fin 256, hexV (hx (x.val / 16)) (hx (x.val % 16)) = x.val ∧ (16 * wv (hx (x.val / 16)) + wv (hx (x.val % 16))) % 256 = x.val := by decide +kernel
  have := h ⟨c.toNat, c.toNat_lt⟩
  simp only at this
  rw [this.1, this.2]
  simp
theorem dP_esc (n : Nat) (c : UInt8) (r : List UInt8) (hc : c ≠ 120) : dP (n + 1) (92 :: c :: r) = c :: dP n r := by
  match r with
  | [] => simp [dP]
  | [a] => simp [dP]
  | a :: b :: t => simp [dP, hc]
theorem qc_cases (c : UInt8) : (qc c = [92, c] ∧ c ≠ 120) ∨ (qc c = [c] ∧ c ≠ 92) ∨ qc c = [92, 120, hx (c.toNat / 16), hx (c.toNat % 16)] := by
  unfold qc
  split
  · rename_i h
    refine .inl ⟨rfl, ?_⟩
    rintro rfl
    have : ((120 : UInt8).toNat) = 120 := rfl
    omega
  · rename_i h
    split
    · refine .inr (.inl ⟨rfl, ?_⟩)
      rintro rfl
      have : ((92 : UInt8).toNat) = 92 := rfl
      omega
    · exact .inr (.inr rfl)
theorem dP_flat : ∀ (t : List UInt8) (n : Nat), (t.flatMap qc).length ≤ n → dP n (t.flatMap qc) = t
  | [], n, _ => by simp [dP_end]
  | c :: t, n, hn => by
    rw [List.flatMap_cons, List.length_append] at hn
    rw [List.flatMap_cons]
    have hb := hex_back c
    rcases qc_cases c with ⟨h, hc⟩ | ⟨h, hc⟩ | h
    · rw [h] at hn ⊢
      simp only [List.length_cons, List.length_nil] at hn
      obtain ⟨n, rfl⟩ : ∃ m, n = m + 1 := ⟨n - 1, by omega⟩
      have ih := dP_flat t n (by omega)
      show dP (n + 1) (92 :: c :: t.flatMap qc) = _
      rw [dP_esc n c _ hc, ih]
    · rw [h] at hn ⊢
      simp only [List.length_cons, List.length_nil] at hn
      obtain ⟨n, rfl⟩ : ∃ m, n = m + 1 := ⟨n - 1, by omega⟩
      have ih := dP_flat t n (by omega)
      show dP (n + 1) (c :: t.flatMap qc) = _
      generalize t.flatMap qc = F at ih
      cases F with
      | nil =>
        rw [dP_end] at ih
        rw [← ih]
        rfl
      | cons f F =>
        have : dP (n + 1) (c :: f :: F) = c :: dP n (f :: F) := by simp [dP, hc]
        rw [this, ih]
    · rw [h] at hn ⊢
      simp only [List.length_cons, List.length_nil] at hn
      obtain ⟨n, rfl⟩ : ∃ m, n = m + 1 := ⟨n - 1, by omega⟩
      have ih := dP_flat t n (by omega)
      show dP (n + 1) (92 :: 120 :: hx (c.toNat / 16) :: hx (c.toNat % 16) :: t.flatMap qc) = _
      have : ∀ a b F, dP (n + 1) (92 :: 120 :: a :: b :: F) = UInt8.ofNat (hexV a b) :: dP n F := fun a b F => by simp only [dP, if_true]
      rw [this, ih, hb.1]
theorem unP_qt (t : List UInt8) : unP (qt t) = t := by
  have e : (qt t).drop 1 = t.flatMap qc ++ [34] := rfl
  have e2 : trimQ (t.flatMap qc ++ [34]) = t.flatMap qc := by
    unfold trimQ
    rw [if_pos (by simp), List.dropLast_concat]
  unfold unP
  rw [e, e2]
  refine dP_flat t _ ?_
  simp only [qt, List.length_cons, List.length_append, List.length_nil]
  omega
theorem decI_no (n : Int) : ∀ c ∈ decI n, (c == 47) = false := by
  intro c hc
  have hd : isDig c ∨ c = 45 := by
    unfold decI at hc
    split at hc
    · rcases List.mem_cons.1 hc with h | h
      · exact .inr h
      · exact .inl (decF_dig 20 _ c h)
    · exact .inl (decF_dig 20 _ c hc)
  rcases hd with h | rfl
  · have := dig_ne c h 47 (by decide)
    simp [this]
  · rfl
theorem slash_dec (n : Int) : slash (decI n) = none := by
  unfold slash
  rw [List.findIdx?_eq_none_iff]
  exact decI_no n
theorem slash_two (n d : Int) : slash (decI n ++ 47 :: decI d) = some (decI n).length := by
  have h := slash_dec n
  unfold slash at h ⊢
  rw [List.findIdx?_append, h]
  simp [List.findIdx?_cons]
theorem raw_prt (v : Val) (ho : v.ok) (hc : chkV v = 0) (hk : v.k = 1 ∨ v.k = 2) : rawP (prt v) = v ∧ rawR (prt v) = v := by
  obtain ⟨k, n, d, s⟩ := v
  have hn := ho.2.1
  have hd := ho.2.2
  simp only at hk hn hd
  unfold prt
  rw [if_neg (by simp [hc])]
  unfold chkV chk at hc
  rcases hk with rfl | rfl
  · simp only [if_true] at hc ⊢
    have h : d = 0 ∧ s = [] := by
      split at hc
      · assumption
      · simp at hc
    obtain ⟨rfl, rfl⟩ := h
    constructor
    · unfold rawP cutS
      rw [slash_dec]
      simp only [Bool.false_eq_true, if_false, parI_dec n hn]
    · unfold rawR
      rw [slash_dec]
      simp only [numR_dec n hn]
  · have e21 : ((2 : Int) = 1) = False := by simp
    simp only [e21, if_false, if_true] at hc ⊢
    have h : s = [] := by
      split at hc
      · rename_i g; exact g.1
      · simp at hc
    subst h
    constructor
    · unfold rawP cutS
      rw [slash_two]
      simp only [if_true, List.take_left, parI_dec n hn]
      rw [show (decI n ++ 47 :: decI d).drop ((decI n).length + 1) = decI d by simp, parI_dec d hd]
    · unfold rawR
      rw [slash_two]
      simp only [List.take_left, numR_dec n hn]
      rw [show (decI n ++ 47 :: decI d).drop ((decI n).length + 1) = decI d by simp, numR_dec d hd]
end Go.Proofs.YtafeikbbjhmlaaaGreatDoor.Sx.T
namespace Go.Proofs.YtafeikbbjhmlaaaGreatDoor.Sx.T
open Go Go.Proofs.YtafeikbbjhmlaaaGreatDoor.Sx
set_option maxRecDepth 100000
set_option maxHeartbeats 8000000
theorem decI_head (n : Int) : (decI n).head? ≠ some 34 := by
  intro h
  have hm := List.mem_of_mem_head? h
  unfold decI at hm
  split at hm
  · rcases List.mem_cons.1 hm with h | h
    · cases h
    · exact dig_ne _ (decF_dig 20 _ _ h) 34 (by decide) rfl
  · exact dig_ne _ (decF_dig 20 _ _ hm) 34 (by decide) rfl
theorem decI_ne (n : Int) : decI n ≠ [] := by
  unfold decI
  split
  · simp
  · exact decF_ne 20 _ (by omega)
theorem head_app (a b : List UInt8) (h : a ≠ []) : (a ++ b).head? = a.head? := by
  cases a with
  | nil => exact absurd rfl h
  | cons x a => rfl
theorem chk_kind (v : Val) (h : chkV v = 0) : v.k = 1 ∨ v.k = 2 ∨ (v.k = 3 ∧ v.n = 0 ∧ v.d = 0 ∧ v.s.length ≤ 64) := by
  unfold chkV chk at h
  split at h
  · rename_i g; exact .inl g
  · split at h
    · rename_i g; exact .inr (.inl g)
    · split at h
      · rename_i g
        split at h
        · rename_i g2
          split at h
          · rename_i g3; exact .inr (.inr ⟨g, g2.1, g2.2, g3⟩)
          · simp at h
        · simp at h
      · simp at h
theorem par_prt (v : Val) (ho : v.ok) (h : chkV v = 0) : parP (prt v) = (v, 0) := by
  have hr := raw_prt v ho h
  have key : (v.k = 1 ∨ v.k = 2) → (prt v).head? ≠ some 34 → parP (prt v) = (v, 0) := by
    intro hk hh
    unfold parP
    rw [if_neg hh, (hr hk).1]
    unfold parN
    rw [if_pos ⟨h, rfl⟩]
  have hp : prt v = if v.k = 1 then decI v.n else if v.k = 2 then decI v.n ++ 47 :: decI v.d else qt v.s := by
    unfold prt
    rw [if_neg (by simp [h])]
  rcases chk_kind v h with k | k | ⟨k, n0, d0, l⟩
  · refine key (.inl k) ?_
    rw [hp, if_pos k]
    exact decI_head _
  · refine key (.inr k) ?_
    rw [hp, if_neg (by omega), if_pos k, head_app _ _ (decI_ne _)]
    exact decI_head _
  · rw [hp, if_neg (by omega), if_neg (by omega)]
    unfold parP
    rw [if_pos (by rfl), unP_qt]
    unfold parQ
    rw [if_pos rfl, if_neg (by omega)]
    obtain ⟨k', n, d, s⟩ := v
    simp only at k n0 d0
    subst k n0 d0
    rfl
theorem prt_inj (a b : Val) (ha : a.ok) (hb : b.ok) (h1 : chkV a = 0) (h2 : chkV b = 0) : prt a = prt b ↔ a = b := by
  constructor
  · intro h
    have e1 := par_prt a ha h1
    have e2 := par_prt b hb h2
    rw [h, e2] at e1
    exact (Prod.mk.inj e1).1.symm
  · rintro rfl; rfl
end Go.Proofs.YtafeikbbjhmlaaaGreatDoor.Sx.T
