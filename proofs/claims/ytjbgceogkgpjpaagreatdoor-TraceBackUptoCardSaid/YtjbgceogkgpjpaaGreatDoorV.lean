/- Layer 2, part 1: checks and orders of values. -/
import Derived.Test.YtjbgceogkgpjpaaGreatDoorR
import Derived.Test.YtjbgceogkgpjpaaGreatDoorEvX
import Derived.KernelRfl
import Derived.Test.YtjbgceogkgpjpaaGreatDoorTold
set_option linter.unusedVariables false
set_option linter.unusedSimpArgs false
namespace Go.Proofs.YtjbgceogkgpjpaaGreatDoor.Sx.T
open Go Go.Proofs.YtjbgceogkgpjpaaGreatDoor.Sx
set_option maxRecDepth 100000
set_option maxHeartbeats 4000000
def vA (k n d : Int) (s : List UInt8) : AV := .agg [.int .i64 k, .int .i64 n, .int .i64 d, .str s]
def chk (k n d : Int) (s : List UInt8) : Int :=
  if k = 1 then (if d = 0 ∧ s = [] then 0 else 20) else if k = 2 then (if s = [] ∧ mayR n d = true then 0 else 20) else if k = 3 then (if n = 0 ∧ d = 0 then (if s.length ≤ 64 then 0 else 2) else 20) else 20
theorem v_frac (k n d : Int) (s : List UInt8) (hp : Heap) : CL X GV 70 [vA k n d s] hp = some (.agg [.int .i64 n, .int .i64 d], hp) := by
  rw [CL_eq (fn := x70) rfl]
  simp +contextual -implicitDefEqProofs (maxSteps := 10000000) only [x70, vA, go_sem, ↓reduceIte, Nat.reduceEqDiff, Nat.reduceAdd, Nat.reduceLeDiff]
theorem may_eq' (n d : Int) (hn : I64 n) (hd : I64 d) : ((ofR n d).2.2 = 0 ∧ (ofR n d).1 = n ∧ (ofR n d).2.1 = d) ↔ mayR n d = true := by
  by_cases h : 0 < d
  · have := may_eq n d hn hd h
    rw [← this]
    simp
  · have hm : mayR n d = false := by simp [mayR, h]
    rw [hm]
    constructor
    · rintro ⟨h1, _, h3⟩
      exfalso
      unfold ofR at h1 h3
      by_cases h0 : d = 0
      · rw [if_pos h0] at h1; simp at h1
      · rw [if_neg h0] at h3 h1
        unfold frc mk at h3 h1
        generalize d.natAbs / Nat.gcd (n * d.sign).natAbs d.natAbs = q at h3 h1
        generalize (n * d.sign).natAbs / Nat.gcd (n * d.sign).natAbs d.natAbs = p at h3 h1
        simp only at h3 h1
        split at h3
        · rename_i hc; rw [if_pos hc] at h1; simp at h1
        · split at h3 <;> simp at h3 <;> omega
    · intro h; cases h
theorem v_check (k n d : Int) (s : List UInt8) (hn : I64 n) (hd : I64 d) (hp : Heap) : CL X GV 52 [vA k n d s] hp = some (.int .i64 (chk k n d s), hp) := by
  have h1 := r10 n d hn hd
  have h2 := fun s => v_frac 2 n d s
  have h3 := may_eq' n d hn hd
  simp only [rt_eq, vA] at h1 h2
  rw [CL_eq (fn := x52) rfl]
  by_cases k1 : k = 1
  · subst k1
    simp +contextual -implicitDefEqProofs (maxSteps := 10000000) only [x52, vA, chk, go_sem, ↓reduceIte, Nat.reduceEqDiff, Nat.reduceAdd, Int.reduceBEq, Int.reduceBNe, h1]
    by_cases hd0 : d = 0 <;> by_cases hs : s = [] <;> simp [hd0, hs]
  · by_cases k2 : k = 2
    · subst k2
      simp +contextual -implicitDefEqProofs (maxSteps := 10000000) only [x52, vA, chk, go_sem, ↓reduceIte, Nat.reduceEqDiff, Nat.reduceAdd, Int.reduceEq, Int.reduceBEq, Int.reduceBNe, h1, h2]
      by_cases hs : s = []
      · subst hs
        by_cases hm : mayR n d = true
        · obtain ⟨e1, e2, e3⟩ := h3.2 hm
          simp [e1, e2, e3, hm]
        · have hx : ¬ ((ofR n d).2.2 = 0 ∧ (ofR n d).1 = n ∧ (ofR n d).2.1 = d) := fun e => hm (h3.1 e)
          by_cases e1 : (ofR n d).2.2 = 0 <;> by_cases e2 : (ofR n d).1 = n <;> by_cases e3 : (ofR n d).2.1 = d <;> simp_all
      · simp [hs]
    · simp +contextual -implicitDefEqProofs (maxSteps := 10000000) only [x52, vA, chk, go_sem, ↓reduceIte, Nat.reduceEqDiff, Nat.reduceAdd, Int.reduceBEq, Int.reduceBNe, h1, k1, k2]
      by_cases k3 : k = 3 <;> by_cases hn0 : n = 0 <;> by_cases hd0 : d = 0 <;> by_cases hl : s.length ≤ 64 <;> simp [k3, hn0, hd0, hl] <;> omega
end Go.Proofs.YtjbgceogkgpjpaaGreatDoor.Sx.T
namespace Go.Proofs.YtjbgceogkgpjpaaGreatDoor.Sx.T
open Go Go.Proofs.YtjbgceogkgpjpaaGreatDoor.Sx
set_option maxRecDepth 100000
set_option maxHeartbeats 4000000
structure Val where
  k : Int
  n : Int
  d : Int
  s : List UInt8
  deriving DecidableEq, Inhabited
def Val.cells (v : Val) : List AV := [.int .i64 v.k, .int .i64 v.n, .int .i64 v.d, .str v.s]
def Val.av (v : Val) : AV := vA v.k v.n v.d v.s
def Val.ok (v : Val) : Prop := I64 v.k ∧ I64 v.n ∧ I64 v.d
def chkV (v : Val) : Int := chk v.k v.n v.d v.s
end Go.Proofs.YtjbgceogkgpjpaaGreatDoor.Sx.T
namespace Go.Proofs.YtjbgceogkgpjpaaGreatDoor.Sx.T
open Go Go.Proofs.YtjbgceogkgpjpaaGreatDoor.Sx
set_option maxRecDepth 100000
set_option maxHeartbeats 8000000
def digs : List UInt8 := [48, 49, 50, 51, 52, 53, 54, 55, 56, 57, 97, 98, 99, 100, 101, 102]
def hx (n : Nat) : UInt8 := digs.getD n 0
def qc (c : UInt8) : List UInt8 := if c.toNat = 34 ∨ c.toNat = 92 then [92, c] else if 32 ≤ c.toNat ∧ c.toNat ≤ 126 then [c] else [92, 120, hx (c.toNat / 16), hx (c.toNat % 16)]
def qt (s : List UInt8) : List UInt8 := 34 :: (s.flatMap qc ++ [34])
theorem qc_len (c : UInt8) : (qc c).length ≤ 4 := by
  unfold qc
  split
  · simp
  · split <;> simp
theorem flat_len (s : List UInt8) : (s.flatMap qc).length ≤ 4 * s.length := by
  induction s with
  | nil => simp
  | cons c s ih => have := qc_len c; rw [List.flatMap_cons, List.length_append, List.length_cons]; omega
theorem bytes_app (a b : List UInt8) : listOfBytes (a ++ b) = listOfBytes a ++ listOfBytes b := by simp [listOfBytes]
theorem bytes_cons (c : UInt8) (b : List UInt8) : listOfBytes (c :: b) = [.int .u8 (c.toNat : Int)] :: listOfBytes b := by simp [listOfBytes]
theorem bytes_nil : listOfBytes [] = [] := rfl
theorem bytes_getD (s : List UInt8) (i : Nat) (h : i < s.length) : (listOfBytes s).getD i [] = [.int .u8 ((s.getD i 0).toNat : Int)] := by
  simp [listOfBytes, List.getD, h]
theorem and15 : ∀ x : Nat, x < 256 → ints .u8 .and (x : Int) 15 = some (.int .u8 ((x % 16 : Nat) : Int)) := by
  intro x hx
  have h : ∀ y : Fin 256, wr .u8 ((BitVec.ofInt 8 (y.val : Int) &&& BitVec.ofInt 8 15).toNat : Int) = ((y.val % 16 : Nat) : Int) := by decide +kernel
  have := h ⟨x, hx⟩
  simp only [ints, bitsOf]
  exact congrArg (fun z => some (AV.int .u8 z)) this
theorem u92 : (((92 : UInt8).toNat : Nat) : Int) = 92 := rfl
theorem u120 : (((120 : UInt8).toNat : Nat) : Int) = 120 := rfl
theorem p48 : (2 : Nat) ^ min 4 8 = 16 := rfl
theorem drop_flat (s : List UInt8) (i : Nat) (h : i < s.length) (acc : List UInt8) : acc ++ (s.drop i).flatMap qc = (acc ++ qc (s.getD i 0)) ++ (s.drop (i + 1)).flatMap qc := by
  rw [List.drop_eq_getElem_cons h, List.flatMap_cons, List.append_assoc]
  simp [List.getD, h]
def OQ (R : List UInt8) (hp : Heap) (r : Option (XExit × St)) : Prop := ∃ fr' o, r = some (.exit 0, ⟨fr', hp⟩) ∧ (o = .own ∨ o = .tight) ∧ fget fr' 3 = .lst o 1 (listOfBytes R)
theorem l_quoted (s : List UInt8) (hl : 4 * s.length + 2 ≤ 140737488355328) (hp : Heap) : ∀ (m i : Nat) (_ : i + m = s.length) (fr : List AV) (acc : List UInt8) (o : Own), (o = .own ∨ o = .tight) → acc.length ≤ 4 * i + 1 →
    fget fr 8 = .lst .own 1 (listOfBytes s) → fget fr 9 = .int .i64 s.length → fget fr 10 = .int .i64 i → fget fr 3 = .lst o 1 (listOfBytes acc) →
    OQ (acc ++ (s.drop i).flatMap qc) hp (LC X GV (.loop x63_l0) ⟨fr, hp⟩) := by
  intro m
  induction m with
  | zero =>
    intro i hi fr acc o ho ha h8 h9 h10 h3
    rw [LC_loop]
    have hc : ((i : Int) < (s.length : Int)) = False := by simp; omega
    simp +contextual -implicitDefEqProofs (maxSteps := 10000000) only [x63_l0_run, go_sem, ↓reduceIte, h9, h10, hc]
    refine ⟨_, o, rfl, ho, ?_⟩
    simp only [go_sem, ↓reduceIte, Nat.reduceEqDiff, h3]
    rw [List.drop_of_length_le (by omega)]
    simp
  | succ m ih =>
    intro i hi fr acc o ho ha h8 h9 h10 h3
    rw [LC_loop]
    have hc : ((i : Int) < (s.length : Int)) = True := by simp; omega
    have ki : i < s.length := by omega
    have kb : i < (listOfBytes s).length := by rw [bytes_len]; exact ki
    have wi : wr .i64 ((i : Int) + 1) = ((i + 1 : Nat) : Int) := by rw [wr_i64 _ (by omega)]; omega
    have hg := bytes_getD s i ki
    rw [drop_flat s i ki acc]
    generalize s.getD i 0 = c at hg ⊢
    have c256 : c.toNat < 256 := c.toNat_lt
    have a15 := and15 c.toNat c256
    have sh : (c.toNat : Int).fdiv 16 = ((c.toNat / 16 : Nat) : Int) := by
      have := fdiv_pow c.toNat 4
      simpa using this
    have r1 : ((listOfBytes acc).length + 1 ≤ room) = True := by rw [bytes_len]; unfold room; simp; omega
    have r2 : ((listOfBytes acc).length + 2 ≤ room) = True := by rw [bytes_len]; unfold room; simp; omega
    have r4 : ((listOfBytes acc).length + 4 ≤ room) = True := by rw [bytes_len]; unfold room; simp; omega
    have d1 : c.toNat / 16 < 16 := by omega
    have d2 : c.toNat % 16 < 16 := Nat.mod_lt _ (by omega)
    have x1 : ([48, 49, 50, 51, 52, 53, 54, 55, 56, 57, 97, 98, 99, 100, 101, 102] : List UInt8).getD (c.toNat / 16) 0 = hx (c.toNat / 16) := rfl
    have x2 : ([48, 49, 50, 51, 52, 53, 54, 55, 56, 57, 97, 98, 99, 100, 101, 102] : List UInt8).getD (c.toNat % 16) 0 = hx (c.toNat % 16) := rfl
    have step : ∀ (fr' : List AV) (q : List UInt8), qc c = q → fget fr' 8 = .lst .own 1 (listOfBytes s) → fget fr' 9 = .int .i64 s.length → fget fr' 10 = .int .i64 ((i + 1 : Nat) : Int) → fget fr' 3 = .lst .own 1 (listOfBytes acc ++ listOfBytes q) →
        OQ ((acc ++ qc c) ++ (s.drop (i + 1)).flatMap qc) hp (LC X GV (.loop x63_l0) ⟨fr', hp⟩) := by
      intro fr' q hq g8 g9 g10 g3
      refine ih (i + 1) (by omega) fr' _ .own (.inl rfl) ?_ g8 g9 g10 ?_
      · have := qc_len c
        rw [List.length_append]; omega
      · rw [g3, hq, bytes_app]
    by_cases b1 : c.toNat = 34
    · have e1 : ((c.toNat : Int) = 34) = True := by simp; omega
      have hq : qc c = [92, c] := by unfold qc; rw [if_pos (.inl b1)]
      rcases ho with rfl | rfl
      all_goals
        simp +contextual -implicitDefEqProofs (maxSteps := 10000000) only [x63_l0_run, go_sem, ↓reduceIte, reduceCtorEq, Nat.reduceEqDiff, Nat.reduceAdd, Nat.reduceLeDiff, Int.reduceLT, Int.reduceToNat, Nat.reduceLT, Nat.reduceDiv, h8, h9, h10, h3, hc, kb, hg, wi, r1, r2, e1, List.flatten_cons, List.flatten_nil]
        refine step _ _ hq ?_ ?_ ?_ ?_ <;> simp only [go_sem, ↓reduceIte, Nat.reduceEqDiff, h8, h9, bytes_cons, bytes_nil, u92]
    by_cases b2 : c.toNat = 92
    · have e1 : ((c.toNat : Int) = 34) = False := by simp; omega
      have e2 : ((c.toNat : Int) = 92) = True := by simp; omega
      have hq : qc c = [92, c] := by unfold qc; rw [if_pos (.inr b2)]
      rcases ho with rfl | rfl
      all_goals
        simp +contextual -implicitDefEqProofs (maxSteps := 10000000) only [x63_l0_run, go_sem, ↓reduceIte, reduceCtorEq, Nat.reduceEqDiff, Nat.reduceAdd, Nat.reduceLeDiff, Int.reduceLT, Int.reduceToNat, Nat.reduceLT, Nat.reduceDiv, h8, h9, h10, h3, hc, kb, hg, wi, r1, r2, e1, e2, List.flatten_cons, List.flatten_nil]
        refine step _ _ hq ?_ ?_ ?_ ?_ <;> simp only [go_sem, ↓reduceIte, Nat.reduceEqDiff, h8, h9, bytes_cons, bytes_nil, u92]
    have e1 : ((c.toNat : Int) = 34) = False := by simp; omega
    have e2 : ((c.toNat : Int) = 92) = False := by simp; omega
    have n12 : ¬ (c.toNat = 34 ∨ c.toNat = 92) := by omega
    by_cases b3 : 32 ≤ c.toNat ∧ c.toNat ≤ 126
    · have e3 : ((32 : Int) ≤ (c.toNat : Int)) = True := by simp; omega
      have e4 : ((c.toNat : Int) ≤ 126) = True := by simp; omega
      have hq : qc c = [c] := by unfold qc; rw [if_neg n12, if_pos b3]
      rcases ho with rfl | rfl
      all_goals
        simp +contextual -implicitDefEqProofs (maxSteps := 10000000) only [x63_l0_run, go_sem, ↓reduceIte, reduceCtorEq, Nat.reduceEqDiff, Nat.reduceAdd, Nat.reduceLeDiff, Int.reduceLT, Int.reduceToNat, Nat.reduceLT, Nat.reduceDiv, h8, h9, h10, h3, hc, kb, hg, wi, r1, r2, e1, e2, e3, e4, List.flatten_cons, List.flatten_nil]
        refine step _ _ hq ?_ ?_ ?_ ?_ <;> simp only [go_sem, ↓reduceIte, Nat.reduceEqDiff, h8, h9, bytes_cons, bytes_nil]
    · have hq : qc c = [92, 120, hx (c.toNat / 16), hx (c.toNat % 16)] := by unfold qc; rw [if_neg n12, if_neg b3]
      by_cases b4 : 32 ≤ c.toNat
      · have e3 : ((32 : Int) ≤ (c.toNat : Int)) = True := by simp; omega
        have e4 : ((c.toNat : Int) ≤ 126) = False := by simp; omega
        rcases ho with rfl | rfl
        all_goals
          simp +contextual -implicitDefEqProofs (maxSteps := 10000000) only [x63_l0_run, go_sem, ↓reduceIte, reduceCtorEq, Nat.reduceEqDiff, Nat.reduceAdd, Nat.reduceLeDiff, Int.reduceLT, Int.reduceToNat, Nat.reduceLT, Nat.reduceDiv, h8, h9, h10, h3, hc, kb, hg, wi, r1, r2, r4, e1, e2, e3, e4, a15, p48, d1, d2, x1, x2, List.flatten_cons, List.flatten_nil]
          refine step _ _ hq ?_ ?_ ?_ ?_ <;> simp only [go_sem, ↓reduceIte, Nat.reduceEqDiff, h8, h9, bytes_cons, bytes_nil, u92, u120]
      · have e3 : ((32 : Int) ≤ (c.toNat : Int)) = False := by simp; omega
        rcases ho with rfl | rfl
        all_goals
          simp +contextual -implicitDefEqProofs (maxSteps := 10000000) only [x63_l0_run, go_sem, ↓reduceIte, reduceCtorEq, Nat.reduceEqDiff, Nat.reduceAdd, Nat.reduceLeDiff, Int.reduceLT, Int.reduceToNat, Nat.reduceLT, Nat.reduceDiv, h8, h9, h10, h3, hc, kb, hg, wi, r1, r2, r4, e1, e2, e3, a15, p48, d1, d2, x1, x2, List.flatten_cons, List.flatten_nil]
          refine step _ _ hq ?_ ?_ ?_ ?_ <;> simp only [go_sem, ↓reduceIte, Nat.reduceEqDiff, h8, h9, bytes_cons, bytes_nil, u92, u120]
theorem v_quoted (s : List UInt8) (hl : 4 * s.length + 2 ≤ 140737488355328) (hp : Heap) : CL X GV 63 [.str s] hp = some (.str (qt s), hp) := by
  have rs : (s.length ≤ room) = True := by unfold room; simp; omega
  have bl := bytes_len s
  rw [CL_eq (fn := x63) rfl]
  simp +contextual -implicitDefEqProofs (maxSteps := 10000000) only [x63, go_sem, ↓reduceIte, reduceCtorEq, Nat.reduceLT, Nat.reduceDiv, rs, bl]
  refine elimL (fun r => finK _ (seqK (blockK 0 r) _) = _) (l_quoted s hl ([] :: hp) s.length 0 (by omega) _ [34] .tight (.inr rfl) (by simp) ?_ ?_ ?_ ?_) ?_
  all_goals try simp only [go_sem, ↓reduceIte, Nat.reduceEqDiff]
  · rfl
  · rfl
  · rintro r ⟨fr', o, rfl, ho, h3⟩
    have hn : ∀ q : List UInt8, listOfBytes q ++ [[.int .u8 34]] = listOfBytes (q ++ [34]) := fun q => by rw [bytes_app]; rfl
    have r1 : ((listOfBytes (34 :: s.flatMap qc)).length + 1 ≤ room) = True := by
      have := flat_len s
      rw [bytes_len, List.length_cons]
      unfold room
      simp only [eq_iff_iff, iff_true]
      omega
    rcases ho with rfl | rfl
    all_goals
      simp +contextual -implicitDefEqProofs (maxSteps := 10000000) only [go_sem, ↓reduceIte, reduceCtorEq, Nat.reduceEqDiff, Nat.reduceLT, Nat.reduceDiv, h3, r1, hn, qt, List.flatten_cons, List.flatten_nil]
end Go.Proofs.YtjbgceogkgpjpaaGreatDoor.Sx.T
namespace Go.Proofs.YtjbgceogkgpjpaaGreatDoor.Sx.T
open Go Go.Proofs.YtjbgceogkgpjpaaGreatDoor.Sx
set_option maxRecDepth 100000
set_option maxHeartbeats 8000000
theorem decF_len : ∀ k u, (decF k u).length ≤ k
  | 0, _ => by simp [decF]
  | k + 1, u => by
    rw [decF]
    split
    · simp
    · have := decF_len k (u / 10)
      simp only [List.length_append, List.length_cons, List.length_nil]; omega
theorem decI_len (n : Int) : (decI n).length ≤ 21 := by
  have h1 := decF_len 20 n.natAbs
  have h2 := decF_len 20 n.toNat
  unfold decI
  split
  · rw [List.length_cons]; omega
  · omega
def prt (v : Val) : List UInt8 := if chkV v ≠ 0 then [] else if v.k = 1 then decI v.n else if v.k = 2 then decI v.n ++ 47 :: decI v.d else qt v.s
theorem primX_dec (n : Int) (hn : I64 n) : primX 5 [.int .i64 n, .int .i64 10] = some (.str (decI n)) := by
  unfold I64 at hn
  simp only [primX]
  rw [if_pos ⟨trivial, by omega, by omega⟩]
theorem chk_len (v : Val) (h : chkV v = 0) : 4 * v.s.length + 2 ≤ 140737488355328 := by
  unfold chkV chk at h
  split at h
  · split at h
    · rename_i g; rw [g.2]; simp
    · simp at h
  · split at h
    · split at h
      · rename_i g; rw [g.1]; simp
      · simp at h
    · split at h
      · split at h
        · split at h
          · omega
          · simp at h
        · simp at h
      · simp at h
theorem v_print (v : Val) (ho : v.ok) (hp : Heap) : CL X GV 40 [v.av] hp = some (.tup [.str (prt v), .int .i64 (chkV v)], hp) := by
  have h1 := v_check v.k v.n v.d v.s ho.2.1 ho.2.2
  have h2 := chk_len v
  have h3 := primX_dec v.n ho.2.1
  have h4 := primX_dec v.d ho.2.2
  have h5 := v_quoted v.s
  obtain ⟨k, n, d, s⟩ := v
  simp only [chkV, prt, Val.av, vA] at *
  have l1 : ((decI n).length + 1 ≤ 140737488355328) = True := by have := decI_len n; simp; omega
  have l2 : ((decI n ++ [47]).length + (decI d).length ≤ 140737488355328) = True := by have := decI_len n; have := decI_len d; simp; omega
  rw [CL_eq (fn := x40) rfl]
  by_cases hc : chk k n d s = 0
  · have hq := h5 (h2 hc)
    by_cases k1 : k = 1
    · subst k1
      simp +contextual -implicitDefEqProofs (maxSteps := 10000000) only [x40, go_sem, ↓reduceIte, Nat.reduceEqDiff, Nat.reduceAdd, Nat.reduceLeDiff, Int.reduceBEq, Int.reduceBNe, h1, hc, h3]
    by_cases k2 : k = 2
    · subst k2
      simp +contextual -implicitDefEqProofs (maxSteps := 10000000) only [x40, go_sem, ↓reduceIte, Nat.reduceEqDiff, Nat.reduceAdd, Int.reduceEq, Int.reduceBEq, Int.reduceBNe, h1, hc, h3, h4, List.append_assoc, l1, l2]
    · simp +contextual -implicitDefEqProofs (maxSteps := 10000000) only [x40, go_sem, ↓reduceIte, Nat.reduceEqDiff, Nat.reduceAdd, Int.reduceBNe, h1, hc, k1, k2, hq]
  · simp +contextual -implicitDefEqProofs (maxSteps := 10000000) only [x40, go_sem, ↓reduceIte, Nat.reduceEqDiff, Nat.reduceAdd, h1, hc]
end Go.Proofs.YtjbgceogkgpjpaaGreatDoor.Sx.T
namespace Go.Proofs.YtjbgceogkgpjpaaGreatDoor.Sx.T
open Go Go.Proofs.YtjbgceogkgpjpaaGreatDoor.Sx
set_option maxRecDepth 100000
set_option maxHeartbeats 8000000
theorem le10 : (((1 : Nat) : Int) ≤ ((0 : Nat) : Int)) = False := by simp
theorem sstr_one (c : UInt8) (r : List UInt8) : sstrK (.str (c :: r)) none (some (.int .i64 1)) = some (.str [c]) := by
  have := sstrK_hi (c :: r) .i64 1
  rw [if_pos (by simp)] at this
  exact this
theorem v_pre (s : List UInt8) (hp : Heap) : CL X GV 124 [.str s, .str [34]] hp = some (.bool (decide (s.head? = some 34)), hp) := by
  have h : ∀ hp, CL X GV 141 [.str s, .str [34]] hp = some (.bool (decide (s.head? = some 34)), hp) := by
    intro hp
    rw [CL_eq (fn := x141) rfl]
    have n1 : ((1 : Nat) : Int) = 1 := rfl
    cases s with
    | nil => simp +contextual -implicitDefEqProofs (maxSteps := 10000000) only [x141, go_sem, ↓reduceIte, reduceCtorEq, Nat.reduceEqDiff, List.head?_nil, reduceCtorEq, le10]
    | cons c r =>
      have e1 : ((1 : Int) ≤ (r.length : Int) + 1) = True := by simp; omega
      have e2 := sstr_one c r
      simp +contextual -implicitDefEqProofs (maxSteps := 10000000) only [x141, go_sem, ↓reduceIte, reduceCtorEq, Nat.reduceEqDiff, e2, n1]
      simp
      try omega
  rw [CL_eq (fn := x124) rfl]
  simp +contextual -implicitDefEqProofs (maxSteps := 10000000) only [x124, go_sem, ↓reduceIte, reduceCtorEq, Nat.reduceEqDiff, h]
def trimQ (s : List UInt8) : List UInt8 := if s.getLast? = some 34 then s.dropLast else s
theorem getLast_drop (s : List UInt8) (h : s ≠ []) : s.drop (s.length - 1) = [s.getLast h] := by
  have hl := List.length_pos_iff.2 h
  rw [List.drop_eq_getElem_cons (by omega), List.drop_of_length_le (by omega), List.getLast_eq_getElem h]
theorem v_suf (s : List UInt8) (hl : s.length < 9223372036854775807) (hp : Heap) : CL X GV 150 [.str s, .str [34]] hp = some (.bool (decide (s.getLast? = some 34)), hp) := by
  rw [CL_eq (fn := x150) rfl]
  have n1 : ((1 : Nat) : Int) = 1 := rfl
  by_cases hn : s = []
  · subst hn
    simp +contextual -implicitDefEqProofs (maxSteps := 10000000) only [x150, go_sem, ↓reduceIte, reduceCtorEq, Nat.reduceEqDiff, List.getLast?_nil, reduceCtorEq, le10]
  · have hl0 : 0 < s.length := List.length_pos_iff.2 hn
    have e1 : ((1 : Int) ≤ (s.length : Int)) = True := by simp; omega
    have w1 : wr .i64 ((s.length : Int) - 1) = ((s.length - 1 : Nat) : Int) := by rw [wr_i64 _ (by omega)]; omega
    have e2 : sstrK (.str s) (some (.int .i64 ((s.length - 1 : Nat) : Int))) none = some (.str [s.getLast hn]) := by
      rw [sstrK_lo, if_pos (by omega), getLast_drop s hn]
    have e3 : s.getLast? = some (s.getLast hn) := List.getLast?_eq_some_getLast hn
    simp +contextual -implicitDefEqProofs (maxSteps := 10000000) only [x150, go_sem, ↓reduceIte, reduceCtorEq, Nat.reduceEqDiff, e1, w1, e2, n1, e3]
    simp
theorem v_trim (s : List UInt8) (hl : s.length < 9223372036854775807) (hp : Heap) : CL X GV 123 [.str s, .str [34]] hp = some (.str (trimQ s), hp) := by
  have h : ∀ hp, CL X GV 140 [.str s, .str [34]] hp = some (.str (trimQ s), hp) := by
    intro hp
    have hs := fun hp => v_suf s hl hp
    have n1 : ((1 : Nat) : Int) = 1 := rfl
    rw [CL_eq (fn := x140) rfl]
    by_cases c : s.getLast? = some 34
    · have e : trimQ s = s.dropLast := by rw [trimQ, if_pos c]
      have hn : s ≠ [] := by rintro rfl; simp at c
      have hl0 : 0 < s.length := List.length_pos_iff.2 hn
      have w1 : wr .i64 ((s.length : Int) - 1) = ((s.length - 1 : Nat) : Int) := by rw [wr_i64 _ (by omega)]; omega
      have e2 : sstrK (.str s) none (some (.int .i64 ((s.length - 1 : Nat) : Int))) = some (.str s.dropLast) := by
        rw [sstrK_hi, if_pos (by omega), List.dropLast_eq_take]
      simp +contextual -implicitDefEqProofs (maxSteps := 10000000) only [x140, go_sem, ↓reduceIte, reduceCtorEq, Nat.reduceEqDiff, hs, c, w1, e2, e, n1]
    · have e : trimQ s = s := by rw [trimQ, if_neg c]
      simp +contextual -implicitDefEqProofs (maxSteps := 10000000) only [x140, go_sem, ↓reduceIte, reduceCtorEq, Nat.reduceEqDiff, hs, c, e, n1]
  rw [CL_eq (fn := x123) rfl]
  simp +contextual -implicitDefEqProofs (maxSteps := 10000000) only [x123, go_sem, ↓reduceIte, reduceCtorEq, Nat.reduceEqDiff, h]
def slash (s : List UInt8) : Option Nat := s.findIdx? (fun b => b == 47)
theorem primX_slash (s : List UInt8) : primX 2 [.str s, .int .u8 47] = some (.int .i64 (match slash s with | some i => (i : Int) | none => -1)) := by
  unfold slash
  rfl
theorem v_index (s : List UInt8) (hp : Heap) : CL X GV 115 [.str s, .str [47]] hp = some (.int .i64 (match slash s with | some i => (i : Int) | none => -1), hp) := by
  have h1 := primX_slash s
  have n1 : (((1 : Nat) : Int) = ((0 : Nat) : Int)) = False := by simp
  have h : ∀ hp, CL X GV 132 [.str s, .int .u8 47] hp = some (.int .i64 (match slash s with | some i => (i : Int) | none => -1), hp) := by
    intro hp
    rw [CL_eq (fn := x132) rfl]
    simp +contextual -implicitDefEqProofs (maxSteps := 10000000) only [x132, go_sem, ↓reduceIte, reduceCtorEq, Nat.reduceEqDiff, Int.reduceNeg, h1]
  obtain ⟨q, hq⟩ : ∃ q : Int, (match slash s with | some i => (i : Int) | none => -1) = q := ⟨_, rfl⟩
  simp only [hq] at h ⊢
  rw [CL_eq (fn := x115) rfl]
  have n2 : (((1 : Nat) : Int) = 1) = True := by simp
  have g47 : (((([47] : List UInt8).getD 0 0).toNat : Nat) : Int) = 47 := rfl
  by_cases hs : [47] = s
  · have q0 : q = 0 := by rw [← hq, ← hs]; rfl
    simp +contextual -implicitDefEqProofs (maxSteps := 10000000) only [x115, go_sem, ↓reduceIte, reduceCtorEq, Nat.reduceEqDiff, Int.reduceLE, Int.reduceNeg, Int.reduceToNat, hs, q0]
  · simp +contextual -implicitDefEqProofs (maxSteps := 10000000) only [x115, go_sem, ↓reduceIte, reduceCtorEq, Nat.reduceEqDiff, Int.reduceLE, Int.reduceNeg, Int.reduceToNat, Nat.reduceLT, n2, g47, h, hs]
def cutS (s : List UInt8) : List UInt8 × List UInt8 × Bool := match slash s with | some i => (s.take i, s.drop (i + 1), true) | none => (s, [], false)
theorem slash_lt (s : List UInt8) (i : Nat) (h : slash s = some i) : i < s.length := by
  unfold slash at h
  exact (List.findIdx?_eq_some_iff_getElem.1 h).1
theorem v_cut (s : List UInt8) (hl : s.length < 9223372036854775807) (hp : Heap) : CL X GV 122 [.str s, .str [47]] hp = some (.tup [.str (cutS s).1, .str (cutS s).2.1, .bool (cutS s).2.2], hp) := by
  have hi := v_index s
  have h : ∀ hp, CL X GV 139 [.str s, .str [47]] hp = some (.tup [.str (cutS s).1, .str (cutS s).2.1, .bool (cutS s).2.2], hp) := by
    intro hp
    unfold cutS
    have hlt := slash_lt s
    have n1 : ((1 : Nat) : Int) = 1 := rfl
    rw [CL_eq (fn := x139) rfl]
    cases hs : slash s with
    | none =>
      simp only [hs] at hi
      have e1 : ((0 : Int) ≤ -1) = False := by simp
      simp +contextual -implicitDefEqProofs (maxSteps := 10000000) only [x139, go_sem, ↓reduceIte, reduceCtorEq, Nat.reduceEqDiff, Nat.reduceAdd, Int.reduceNeg, hi, e1]
    | some i =>
      simp only [hs] at hi
      have ki := hlt i hs
      have e1 : ((0 : Int) ≤ (i : Int)) = True := by simp
      have k1 : (i ≤ s.length) = True := by simp; omega
      have k2 : (i + 1 ≤ s.length) = True := by simp; omega
      have w1 : wr .i64 ((i : Int) + 1) = ((i + 1 : Nat) : Int) := by rw [wr_i64 _ (by omega)]; omega
      simp +contextual -implicitDefEqProofs (maxSteps := 10000000) only [x139, go_sem, ↓reduceIte, reduceCtorEq, Nat.reduceEqDiff, Nat.reduceAdd, hi, e1, k1, k2, w1, n1]
  rw [CL_eq (fn := x122) rfl]
  simp +contextual -implicitDefEqProofs (maxSteps := 10000000) only [x122, go_sem, ↓reduceIte, reduceCtorEq, Nat.reduceEqDiff, Nat.reduceAdd, h]
end Go.Proofs.YtjbgceogkgpjpaaGreatDoor.Sx.T
namespace Go.Proofs.YtjbgceogkgpjpaaGreatDoor.Sx.T
open Go Go.Proofs.YtjbgceogkgpjpaaGreatDoor.Sx
set_option maxRecDepth 100000
set_option maxHeartbeats 8000000
def lo (c : Nat) : Nat := c ||| 32
def hv (c : Nat) : Nat := if 48 ≤ c ∧ c ≤ 57 then c - 48 else if 97 ≤ lo c ∧ lo c ≤ 122 then lo c - 97 + 10 else 99
theorem or32 : ∀ x : Nat, x < 256 → ints .u8 .or (x : Int) 32 = some (.int .u8 ((lo x : Nat) : Int)) := by
  intro x hx
  have h : ∀ y : Fin 256, wr .u8 ((BitVec.ofInt 8 (y.val : Int) ||| BitVec.ofInt 8 32).toNat : Int) = ((lo y.val : Nat) : Int) := by decide +kernel
  have := h ⟨x, hx⟩
  simp only [ints, bitsOf]
  exact congrArg (fun z => some (AV.int .u8 z)) this
theorem lo_lt : ∀ x : Nat, x < 256 → lo x < 256 := by
  intro x hx
  have h : ∀ y : Fin 256, lo y.val < 256 := by decide +kernel
  exact h ⟨x, hx⟩
theorem v_lower (c : Nat) (hc : c < 256) (hp : Heap) : CL X GV 156 [.int .u8 c] hp = some (.int .u8 (lo c : Nat), hp) := by
  have h := or32 c hc
  rw [CL_eq (fn := x156) rfl]
  simp +contextual -implicitDefEqProofs (maxSteps := 10000000) only [x156, go_sem, ↓reduceIte, reduceCtorEq, h]
def OPU (L : List (List AV)) (hp : Heap) (ok : Prop) (n i : Nat) (s0 : AV) (r : Option (XExit × St)) (K : List AV → Option (XExit × St)) : Prop :=
  (¬ ok ∧ ∃ fr', r = some (.ret, ⟨fr', hp⟩) ∧ fget fr' 6 = .int .u64 0 ∧ fget fr' 7 = .ifc 213 (.int .i64 2)) ∨
  (ok ∧ ∃ fr', r = K fr' ∧ fget fr' 0 = s0 ∧ fget fr' 1 = .int .i64 16 ∧ fget fr' 2 = .int .i64 8 ∧ fget fr' 8 = .bool false ∧ fget fr' 10 = .int .u64 1152921504606846976 ∧ fget fr' 11 = .int .u64 255 ∧ fget fr' 12 = .bool false ∧
    fget fr' 13 = .int .u64 (n : Nat) ∧ fget fr' 99 = .lst .own 1 L ∧ fget fr' 100 = .int .i64 2 ∧ fget fr' 101 = .int .i64 (i : Nat))
theorem p_step (L : List (List AV)) (hL : L.length = 2) (hp : Heap) (i c n : Nat) (hi : i < 2) (hc : c < 256) (hn : n < 16) (hg : L.getD i [] = [.int .u8 c]) (s0 : AV) (fr : List AV)
    (h0 : fget fr 0 = s0) (h1 : fget fr 1 = .int .i64 16) (h2 : fget fr 2 = .int .i64 8) (h8 : fget fr 8 = .bool false) (h10 : fget fr 10 = .int .u64 1152921504606846976) (h11 : fget fr 11 = .int .u64 255) (h12 : fget fr 12 = .bool false)
    (h13 : fget fr 13 = .int .u64 (n : Nat)) (h99 : fget fr 99 = .lst .own 1 L) (h100 : fget fr 100 = .int .i64 2) (h101 : fget fr 101 = .int .i64 (i : Nat)) :
    OPU L hp (hv c < 16) (n * 16 + hv c) (i + 1) s0 (LC X GV (.loop x151_l0) ⟨fr, hp⟩) (fun fr' => LC X GV (.loop x151_l0) ⟨fr', hp⟩) := by
  rw [LC_loop]
  have hlt : ((i : Int) < 2) = True := by simp; omega
  have hk : (i < L.length) = True := by simp; omega
  have vl := fun hp => v_lower c hc hp
  have wi : wr .i64 ((i : Int) + 1) = ((i + 1 : Nat) : Int) := by rw [wr_i64 _ (by omega)]; omega
  have x16 : wr .u8 16 = 16 := rfl
  have y16 : u64 16 = 16 := rfl
  have e5 : ((1152921504606846976 : Int) ≤ (n : Int)) = False := by simp; omega
  have m1 : n * 16 % 18446744073709551616 = n * 16 := by omega
  have fin : ∀ (d : Nat), d < 16 → hv c = d → ∀ fr', fget fr' 0 = s0 ∧ fget fr' 1 = .int .i64 16 ∧ fget fr' 2 = .int .i64 8 ∧ fget fr' 8 = .bool false ∧ fget fr' 10 = .int .u64 1152921504606846976 ∧ fget fr' 11 = .int .u64 255 ∧ fget fr' 12 = .bool false ∧
      fget fr' 13 = .int .u64 (n * 16 + d : Nat) ∧ fget fr' 99 = .lst .own 1 L ∧ fget fr' 100 = .int .i64 2 ∧ fget fr' 101 = .int .i64 (i + 1 : Nat) →
      OPU L hp (hv c < 16) (n * 16 + hv c) (i + 1) s0 (LC X GV (.loop x151_l0) ⟨fr', hp⟩) (fun fr' => LC X GV (.loop x151_l0) ⟨fr', hp⟩) := by
    intro d hd he fr' H
    rw [he]
    exact .inr ⟨hd, fr', rfl, H⟩
  by_cases a1 : 48 ≤ c ∧ c ≤ 57
  · have e1 : ((48 : Int) ≤ (c : Int)) = True := by simp; omega
    have e2 : ((c : Int) ≤ 57) = True := by simp; omega
    have e3 : ((c : Int) = 95) = False := by simp; omega
    have hd : hv c = c - 48 := by unfold hv; rw [if_pos a1]
    have w1 : wr .u8 ((c : Int) - 48) = ((c - 48 : Nat) : Int) := by simp only [wr]; omega
    have d16 : c - 48 < 16 := by omega
    obtain ⟨d, hdd⟩ : ∃ d, c - 48 = d := ⟨_, rfl⟩
    rw [hdd] at hd w1 d16
    have e4 : ((16 : Int) ≤ (d : Int)) = False := by simp; omega
    have m2 : d % 18446744073709551616 = d := by omega
    have m3 : (n * 16 + d) % 18446744073709551616 = n * 16 + d := by omega
    have e6 : (((n * 16 + d : Nat) : Int) < ((n * 16 : Nat) : Int)) = False := by simp; omega
    have e7 : ((255 : Int) < ((n * 16 + d : Nat) : Int)) = False := by simp; omega
    simp +contextual -implicitDefEqProofs (maxSteps := 10000000) only [x151_l0_run, go_sem, ↓reduceIte, Nat.reduceEqDiff, h1, h8, h10, h11, h13, h99, h100, h101, hlt, hk, hg, vl, wi, x16, y16, m1, e5, o_mkif, drop1K_ifc, e1, e2, e3, w1, e4, m2, m3, e6, e7]
    refine fin d (by omega) hd _ ⟨?_, ?_, ?_, ?_, ?_, ?_, ?_, ?_, ?_, ?_, ?_⟩ <;> simp only [go_sem, ↓reduceIte, reduceCtorEq, Nat.reduceEqDiff, h0, h1, h2, h8, h10, h11, h12, h99, h100]
  have l256 := lo_lt c hc
  obtain ⟨z, hz⟩ : ∃ z, lo c = z := ⟨_, rfl⟩
  have hvz : hv c = if 97 ≤ z ∧ z ≤ 122 then z - 97 + 10 else 99 := by unfold hv; rw [if_neg a1, hz]
  have c95 : c = 95 → z = 127 := by rintro rfl; rw [← hz]; rfl
  rw [hz] at l256
  simp only [hz] at vl
  have bad : ¬ hv c < 16 → ∀ fr', fget fr' 6 = .int .u64 0 ∧ fget fr' 7 = .ifc 213 (.int .i64 2) → OPU L hp (hv c < 16) (n * 16 + hv c) (i + 1) s0 (some (.ret, ⟨fr', hp⟩)) (fun fr' => LC X GV (.loop x151_l0) ⟨fr', hp⟩) :=
    fun h fr' g => .inl ⟨h, fr', rfl, g⟩
  by_cases b1 : 97 ≤ z ∧ z ≤ 122
  · have f1 : ((97 : Int) ≤ (z : Int)) = True := by simp; omega
    have f2 : ((z : Int) ≤ 122) = True := by simp; omega
    have e3 : ((c : Int) = 95) = False := by simp; intro h; have := c95 (by omega); omega
    have w1 : wr .u8 ((z : Int) - 97) = ((z - 97 : Nat) : Int) := by simp only [wr]; omega
    have w2 : wr .u8 (((z - 97 : Nat) : Int) + 10) = ((z - 97 + 10 : Nat) : Int) := by simp only [wr]; omega
    rw [if_pos b1] at hvz
    by_cases b2 : z - 97 + 10 < 16
    · have hd := hvz
      obtain ⟨d, hdd⟩ : ∃ d, z - 97 + 10 = d := ⟨_, rfl⟩
      rw [hdd] at hd w2 b2
      have e4 : ((16 : Int) ≤ (d : Int)) = False := by simp; omega
      have m2 : d % 18446744073709551616 = d := by omega
      have m3 : (n * 16 + d) % 18446744073709551616 = n * 16 + d := by omega
      have e6 : (((n * 16 + d : Nat) : Int) < ((n * 16 : Nat) : Int)) = False := by simp; omega
      have e7 : ((255 : Int) < ((n * 16 + d : Nat) : Int)) = False := by simp; omega
      by_cases a2 : 48 ≤ c
      · have e1 : ((48 : Int) ≤ (c : Int)) = True := by simp; omega
        have e2 : ((c : Int) ≤ 57) = False := by simp; omega
        simp +contextual -implicitDefEqProofs (maxSteps := 10000000) only [x151_l0_run, go_sem, ↓reduceIte, Nat.reduceEqDiff, h1, h8, h10, h11, h13, h99, h100, h101, hlt, hk, hg, vl, wi, x16, y16, m1, e5, o_mkif, drop1K_ifc, e1, e2, e3, f1, f2, w1, w2, e4, m2, m3, e6, e7]
        refine fin d (by omega) hd _ ⟨?_, ?_, ?_, ?_, ?_, ?_, ?_, ?_, ?_, ?_, ?_⟩ <;> simp only [go_sem, ↓reduceIte, reduceCtorEq, Nat.reduceEqDiff, h0, h1, h2, h8, h10, h11, h12, h99, h100]
      · have e1 : ((48 : Int) ≤ (c : Int)) = False := by simp; omega
        simp +contextual -implicitDefEqProofs (maxSteps := 10000000) only [x151_l0_run, go_sem, ↓reduceIte, Nat.reduceEqDiff, h1, h8, h10, h11, h13, h99, h100, h101, hlt, hk, hg, vl, wi, x16, y16, m1, e5, o_mkif, drop1K_ifc, e1, e3, f1, f2, w1, w2, e4, m2, m3, e6, e7]
        refine fin d (by omega) hd _ ⟨?_, ?_, ?_, ?_, ?_, ?_, ?_, ?_, ?_, ?_, ?_⟩ <;> simp only [go_sem, ↓reduceIte, reduceCtorEq, Nat.reduceEqDiff, h0, h1, h2, h8, h10, h11, h12, h99, h100]
    · have hb : ¬ hv c < 16 := by omega
      obtain ⟨d, hdd⟩ : ∃ d, z - 97 + 10 = d := ⟨_, rfl⟩
      rw [hdd] at w2 b2
      have e4 : ((16 : Int) ≤ (d : Int)) = True := by simp; omega
      by_cases a2 : 48 ≤ c
      · have e1 : ((48 : Int) ≤ (c : Int)) = True := by simp; omega
        have e2 : ((c : Int) ≤ 57) = False := by simp; omega
        simp +contextual -implicitDefEqProofs (maxSteps := 10000000) only [x151_l0_run, go_sem, ↓reduceIte, Nat.reduceEqDiff, h1, h8, h99, h100, h101, hlt, hk, hg, vl, x16, o_mkif, drop1K_ifc, e1, e2, e3, f1, f2, w1, w2, e4]
        refine bad hb _ ⟨?_, ?_⟩ <;> simp only [go_sem, ↓reduceIte, Nat.reduceEqDiff]
      · have e1 : ((48 : Int) ≤ (c : Int)) = False := by simp; omega
        simp +contextual -implicitDefEqProofs (maxSteps := 10000000) only [x151_l0_run, go_sem, ↓reduceIte, Nat.reduceEqDiff, h1, h8, h99, h100, h101, hlt, hk, hg, vl, x16, o_mkif, drop1K_ifc, e1, e3, f1, f2, w1, w2, e4]
        refine bad hb _ ⟨?_, ?_⟩ <;> simp only [go_sem, ↓reduceIte, Nat.reduceEqDiff]
  · rw [if_neg b1] at hvz
    have hb : ¬ hv c < 16 := by omega
    by_cases b3 : 97 ≤ z
    · have f1 : ((97 : Int) ≤ (z : Int)) = True := by simp; omega
      have f2 : ((z : Int) ≤ 122) = False := by simp; omega
      by_cases a2 : 48 ≤ c
      · have e1 : ((48 : Int) ≤ (c : Int)) = True := by simp; omega
        have e2 : ((c : Int) ≤ 57) = False := by simp; omega
        by_cases a3 : c = 95
        · have e3 : ((c : Int) = 95) = True := by simp; omega
          simp +contextual -implicitDefEqProofs (maxSteps := 10000000) only [x151_l0_run, go_sem, ↓reduceIte, Nat.reduceEqDiff, h8, h99, h100, h101, hlt, hk, hg, vl, o_mkif, drop1K_ifc, e1, e2, e3, f1, f2]
          refine bad hb _ ⟨?_, ?_⟩ <;> simp only [go_sem, ↓reduceIte, Nat.reduceEqDiff]
        · have e3 : ((c : Int) = 95) = False := by simp; omega
          simp +contextual -implicitDefEqProofs (maxSteps := 10000000) only [x151_l0_run, go_sem, ↓reduceIte, Nat.reduceEqDiff, h8, h99, h100, h101, hlt, hk, hg, vl, o_mkif, drop1K_ifc, e1, e2, e3, f1, f2]
          refine bad hb _ ⟨?_, ?_⟩ <;> simp only [go_sem, ↓reduceIte, Nat.reduceEqDiff]
      · have e1 : ((48 : Int) ≤ (c : Int)) = False := by simp; omega
        have e3 : ((c : Int) = 95) = False := by simp; omega
        simp +contextual -implicitDefEqProofs (maxSteps := 10000000) only [x151_l0_run, go_sem, ↓reduceIte, Nat.reduceEqDiff, h8, h99, h100, h101, hlt, hk, hg, vl, o_mkif, drop1K_ifc, e1, e3, f1, f2]
        refine bad hb _ ⟨?_, ?_⟩ <;> simp only [go_sem, ↓reduceIte, Nat.reduceEqDiff]
    · have f1 : ((97 : Int) ≤ (z : Int)) = False := by simp; omega
      have e3 : ((c : Int) = 95) = False := by simp; intro h; have := c95 (by omega); omega
      by_cases a2 : 48 ≤ c
      · have e1 : ((48 : Int) ≤ (c : Int)) = True := by simp; omega
        have e2 : ((c : Int) ≤ 57) = False := by simp; omega
        simp +contextual -implicitDefEqProofs (maxSteps := 10000000) only [x151_l0_run, go_sem, ↓reduceIte, Nat.reduceEqDiff, h8, h99, h100, h101, hlt, hk, hg, vl, o_mkif, drop1K_ifc, e1, e2, e3, f1]
        refine bad hb _ ⟨?_, ?_⟩ <;> simp only [go_sem, ↓reduceIte, Nat.reduceEqDiff]
      · have e1 : ((48 : Int) ≤ (c : Int)) = False := by simp; omega
        simp +contextual -implicitDefEqProofs (maxSteps := 10000000) only [x151_l0_run, go_sem, ↓reduceIte, Nat.reduceEqDiff, h8, h99, h100, h101, hlt, hk, hg, vl, o_mkif, drop1K_ifc, e1, e3, f1]
        refine bad hb _ ⟨?_, ?_⟩ <;> simp only [go_sem, ↓reduceIte, Nat.reduceEqDiff]
end Go.Proofs.YtjbgceogkgpjpaaGreatDoor.Sx.T
namespace Go.Proofs.YtjbgceogkgpjpaaGreatDoor.Sx.T
open Go Go.Proofs.YtjbgceogkgpjpaaGreatDoor.Sx
set_option maxRecDepth 100000
set_option maxHeartbeats 8000000
def hexV (a b : UInt8) : Nat := if hv a.toNat < 16 ∧ hv b.toNat < 16 then hv a.toNat * 16 + hv b.toNat else 0
def puE (a b : UInt8) : AV := if hv a.toNat < 16 ∧ hv b.toNat < 16 then .nilif else .ifc 213 (.int .i64 2)
def OPF (a b : UInt8) (hp : Heap) (r : Option (XExit × St)) : Prop :=
  (¬ (hv a.toNat < 16 ∧ hv b.toNat < 16) ∧ ∃ fr', r = some (.ret, ⟨fr', hp⟩) ∧ fget fr' 6 = .int .u64 0 ∧ fget fr' 7 = .ifc 213 (.int .i64 2)) ∨
  ((hv a.toNat < 16 ∧ hv b.toNat < 16) ∧ ∃ fr', r = some (.exit 3, ⟨fr', hp⟩) ∧ fget fr' 12 = .bool false ∧ fget fr' 13 = .int .u64 (hv a.toNat * 16 + hv b.toNat : Nat))
theorem l_pu (a b : UInt8) (hp : Heap) (fr : List AV)
    (h0 : fget fr 0 = .str [a, b]) (h1 : fget fr 1 = .int .i64 16) (h2 : fget fr 2 = .int .i64 8) (h8 : fget fr 8 = .bool false) (h10 : fget fr 10 = .int .u64 1152921504606846976) (h11 : fget fr 11 = .int .u64 255) (h12 : fget fr 12 = .bool false)
    (h13 : fget fr 13 = .int .u64 ((0 : Nat) : Int)) (h99 : fget fr 99 = .lst .own 1 (listOfBytes [a, b])) (h100 : fget fr 100 = .int .i64 2) (h101 : fget fr 101 = .int .i64 ((0 : Nat) : Int)) :
    OPF a b hp (LC X GV (.loop x151_l0) ⟨fr, hp⟩) := by
  have ha : a.toNat < 256 := a.toNat_lt
  have hb : b.toNat < 256 := b.toNat_lt
  have g0 : (listOfBytes [a, b]).getD 0 [] = [.int .u8 (a.toNat : Int)] := rfl
  have g1 : (listOfBytes [a, b]).getD 1 [] = [.int .u8 (b.toNat : Int)] := rfl
  have hL : (listOfBytes [a, b]).length = 2 := rfl
  rcases p_step (listOfBytes [a, b]) hL hp 0 a.toNat 0 (by omega) ha (by omega) g0 (.str [a, b]) fr h0 h1 h2 h8 h10 h11 h12 h13 h99 h100 h101 with ⟨k1, fr', e, k6, k7⟩ | ⟨k1, fr', e, j0, j1, j2, j8, j10, j11, j12, j13, j99, j100, j101⟩
  · exact .inl ⟨fun h => k1 h.1, fr', e, k6, k7⟩
  dsimp only at e
  rw [e]
  rw [Nat.zero_mul, Nat.zero_add] at j13
  rcases p_step (listOfBytes [a, b]) hL hp 1 b.toNat (hv a.toNat) (by omega) hb k1 g1 (.str [a, b]) fr' j0 j1 j2 j8 j10 j11 j12 j13 j99 j100 j101 with ⟨k2, fr2, e2, k6, k7⟩ | ⟨k2, fr2, e2, i0, i1, i2, i8, i10, i11, i12, i13, i99, i100, i101⟩
  · exact .inl ⟨fun h => k2 h.2, fr2, e2, k6, k7⟩
  dsimp only at e2
  rw [e2]
  refine .inr ⟨⟨k1, k2⟩, ?_⟩
  rw [LC_loop]
  have hlt : (((1 + 1 : Nat) : Int) < 2) = False := by simp
  simp +contextual -implicitDefEqProofs (maxSteps := 10000000) only [x151_l0_run, go_sem, ↓reduceIte, Nat.reduceAdd, i100, i101, hlt]
  exact ⟨_, rfl, by simp only [go_sem, ↓reduceIte, Nat.reduceEqDiff, i12], by simp only [go_sem, ↓reduceIte, Nat.reduceEqDiff, i13]⟩
theorem v_pu87 (a b : UInt8) (hp : Heap) : CL X GV 151 [.str [a, b], .int .i64 16, .int .i64 8] hp = some (.tup [.int .u64 (hexV a b : Nat), puE a b], hp) := by
  have rm : (2 ≤ room) = True := by unfold room; simp
  have n0 : (((2 : Nat) : Int)) = 2 := rfl
  have hL : (listOfBytes [a, b]).length = 2 := rfl
  have s1 : u64 8 = 8 := rfl
  have s2 : u64 (1 * 2 ^ min 8 64) = 256 := rfl
  have s3 : u64 (((256 : Nat) : Int) - 1) = 255 := rfl
  have n8 : (((8 : Nat) : Int)) = 8 := rfl
  have n255 : (((255 : Nat) : Int)) = 255 := rfl
  rw [CL_eq (fn := x151) rfl]
  simp +contextual -implicitDefEqProofs (maxSteps := 10000000) only [x151, go_sem, ↓reduceIte, reduceCtorEq, Nat.reduceEqDiff, Nat.reduceAdd, Int.reduceLT, Int.reduceLE, Int.reduceToNat, Int.reduceBEq, Nat.reduceLT, rm, n0, hL, s1, s2, s3, n255, o_mkif]
  refine elimL (fun r => finK _ (seqK (blockK 3 r) _) = _) (l_pu a b ([] :: hp) _ ?_ ?_ ?_ ?_ ?_ ?_ ?_ ?_ ?_ ?_ ?_) ?_
  all_goals try simp only [go_sem, ↓reduceIte, reduceCtorEq, Nat.reduceEqDiff]
  all_goals try rfl
  rintro r (⟨k, fr', rfl, h6, h7⟩ | ⟨k, fr', rfl, h12, h13⟩)
  · have e1 : hexV a b = 0 := by unfold hexV; rw [if_neg k]
    have e2 : puE a b = .ifc 213 (.int .i64 2) := by unfold puE; rw [if_neg k]
    simp +contextual -implicitDefEqProofs (maxSteps := 10000000) only [go_sem, ↓reduceIte, Nat.reduceAdd, h6, h7, e1, e2, shut_ifc]
    rfl
  · have e1 : hexV a b = hv a.toNat * 16 + hv b.toNat := by unfold hexV; rw [if_pos k]
    have e2 : puE a b = .nilif := by unfold puE; rw [if_pos k]
    simp +contextual -implicitDefEqProofs (maxSteps := 10000000) only [go_sem, ↓reduceIte, Nat.reduceEqDiff, Nat.reduceAdd, h12, h13, e1, e2, shut_nilif]
def puA (a b : UInt8) : List AV := [.str [80, 97, 114, 115, 101, 85, 105, 110, 116], .str [a, b], .int .i64 16, .int .i64 8, .ifc 213 (.int .i64 2)]
def puF (a b : UInt8) : AV := .ifc 214 (.elp [.str [80, 97, 114, 115, 101, 85, 105, 110, 116], .str [a, b], (GV 7).getD 0 .undef])
theorem v_toErr (a b : UInt8) (hp : Heap) : CL X GV 144 (puA a b) hp = some (puF a b, hp) := CL_iff.2 ⟨12, by kernel_rfl⟩
theorem v_pu (a b : UInt8) (hp : Heap) : ∃ e, uf e = e ∧ (∀ fr t, drop1K e fr t = fr) ∧ CL X GV 142 [.str [a, b], .int .i64 16, .int .i64 8] hp = some (.tup [.int .u64 (hexV a b : Nat), e], hp) := by
  have h1 := v_pu87 a b
  have h2 := v_toErr a b
  simp only [puA, puF] at h2
  by_cases k : hv a.toNat < 16 ∧ hv b.toNat < 16
  · have e2 : puE a b = .nilif := by unfold puE; rw [if_pos k]
    rw [e2] at h1
    refine ⟨.nilif, rfl, fun _ _ => rfl, ?_⟩
    rw [CL_eq (fn := x142) rfl]
    simp +contextual -implicitDefEqProofs (maxSteps := 10000000) only [x142, go_sem, ↓reduceIte, reduceCtorEq, Nat.reduceEqDiff, Nat.reduceAdd, h1, o_eqnil, nilK_nil, uf_nilif, drop1K_nilif, shut_nilif, bne_self_eq_false']
  · have e2 : puE a b = .ifc 213 (.int .i64 2) := by unfold puE; rw [if_neg k]
    have e1 : hexV a b = 0 := by unfold hexV; rw [if_neg k]
    rw [e2] at h1
    refine ⟨puF a b, rfl, fun _ _ => rfl, ?_⟩
    rw [CL_eq (fn := x142) rfl]
    simp +contextual -implicitDefEqProofs (maxSteps := 10000000) only [x142, go_sem, ↓reduceIte, reduceCtorEq, Nat.reduceEqDiff, Nat.reduceAdd, h1, h2, e1, o_eqnil, nilK_ifc, uf_ifc, drop1K_ifc, shut_ifc, o_callw, cwK_same, shut_elp, puF, Bool.bne_true, Bool.not_false]
end Go.Proofs.YtjbgceogkgpjpaaGreatDoor.Sx.T
namespace Go.Proofs.YtjbgceogkgpjpaaGreatDoor.Sx.T
open Go Go.Proofs.YtjbgceogkgpjpaaGreatDoor.Sx
set_option maxRecDepth 100000
set_option maxHeartbeats 8000000
def dP : Nat → List UInt8 → List UInt8
  | 0, _ => []
  | _ + 1, [] => []
  | _ + 1, [c] => [c]
  | n + 1, c :: c2 :: r => if c = 92 then (match c2, r with
      | c2, a :: b :: t => if c2 = 120 then UInt8.ofNat (hexV a b) :: dP n t else c2 :: dP n r
      | c2, _ => c2 :: dP n r) else c :: dP n (c2 :: r)
def accV (acc : List UInt8) (x : AV) : Prop := (acc = [] ∧ x = .nilsl) ∨ x = .lst .own 1 (listOfBytes acc)
def OUQ (R : List UInt8) (hp : Heap) (r : Option (XExit × St)) : Prop := ∃ fr' x, r = some (.exit 0, ⟨fr', hp⟩) ∧ fget fr' 3 = x ∧ accV R x
theorem sstr1 (c : UInt8) (r : List UInt8) : sstrK (.str (c :: r)) (some (.int .i64 1)) none = some (.str r) := by
  have := sstrK_lo (c :: r) .i64 1
  rw [if_pos (by simp)] at this
  exact this
theorem sstr2 (c d : UInt8) (r : List UInt8) : sstrK (.str (c :: d :: r)) (some (.int .i64 2)) none = some (.str r) := by
  have := sstrK_lo (c :: d :: r) .i64 2
  rw [if_pos (by simp)] at this
  exact this
theorem sstr4 (c d a b : UInt8) (r : List UInt8) : sstrK (.str (c :: d :: a :: b :: r)) (some (.int .i64 4)) none = some (.str r) := by
  have := sstrK_lo (c :: d :: a :: b :: r) .i64 4
  rw [if_pos (by simp)] at this
  exact this
theorem sstr24 (c d a b : UInt8) (r : List UInt8) : sstrK (.str (c :: d :: a :: b :: r)) (some (.int .i64 2)) (some (.int .i64 4)) = some (.str [a, b]) := by
  have := sstrK_two (c :: d :: a :: b :: r) .i64 .i64 2 4
  rw [if_pos (by simp)] at this
  exact this
theorem hexV_lt (a b : UInt8) : hexV a b < 256 := by
  unfold hexV
  split <;> omega
theorem u_step (hp : Heap) (R : List UInt8) (s r : List UInt8) (c : UInt8) (acc : List UInt8) (hr : 1 + acc.length ≤ 140737488355328) (fr : List AV) (x : AV) (h0 : fget fr 0 = .str s) (h3 : fget fr 3 = x) (hx : accV acc x)
    (step : s = c :: r ∧ (c ≠ 92 ∨ r = []) ∨ (∃ d, s = 92 :: d :: r ∧ c = d ∧ (d ≠ 120 ∨ r.length < 2)) ∨ (∃ a b, s = 92 :: 120 :: a :: b :: r ∧ c = UInt8.ofNat (hexV a b)))
    (go : ∀ fr' , fget fr' 0 = .str r → fget fr' 3 = .lst .own 1 (listOfBytes (acc ++ [c])) → OUQ R hp (LC X GV (.loop x125_l0) ⟨fr', hp⟩)) :
    OUQ R hp (LC X GV (.loop x125_l0) ⟨fr, hp⟩) := by
  rw [LC_loop]
  have rm : ((listOfBytes acc).length + 1 ≤ room) = True := by rw [bytes_len]; unfold room; simp; omega
  have rm1 : (1 ≤ room) = True := by unfold room; simp
  have hn : ∀ (q : List UInt8) (z : UInt8), listOfBytes q ++ [[.int .u8 (z.toNat : Int)]] = listOfBytes (q ++ [z]) := fun q z => by rw [bytes_app]; rfl
  have hn0 : ∀ (z : UInt8), ([[.int .u8 (z.toNat : Int)]] : List (List AV)) = listOfBytes [z] := fun z => rfl
  rcases step with ⟨rfl, hc⟩ | ⟨d, rfl, rfl, hd⟩ | ⟨a, b, rfl, rfl⟩
  · have f0 : ((0 : Int) < ((r.length + 1 : Nat) : Int)) = True := by simp <;> omega
    have n0 : (0 < r.length + 1) = True := by simp
    have s1 := sstr1 c r
    by_cases e : c = 92
    · have hr0 : r = [] := hc.resolve_left (fun h => h e)
      subst hr0
      have e1 : ((c.toNat : Int) = 92) = True := by rw [e]; simp only [u92]
      rcases hx with ⟨rfl, rfl⟩ | rfl
      · simp +contextual -implicitDefEqProofs (maxSteps := 10000000) only [x125_l0_run, go_sem, ↓reduceIte, reduceCtorEq, Nat.reduceEqDiff, Int.reduceLE, Int.reduceToNat, Nat.reduceLT, Nat.reduceDiv, h0, h3, e1, s1, rm1, List.getD_cons_zero, List.flatten_cons, List.flatten_nil]
        refine go _ ?_ ?_ <;> simp only [go_sem, ↓reduceIte, reduceCtorEq, Nat.reduceEqDiff, hn0]
      · simp +contextual -implicitDefEqProofs (maxSteps := 10000000) only [x125_l0_run, go_sem, ↓reduceIte, reduceCtorEq, Nat.reduceEqDiff, Int.reduceLE, Int.reduceToNat, Nat.reduceLT, Nat.reduceDiv, h0, h3, e1, s1, rm, List.getD_cons_zero, List.flatten_cons, List.flatten_nil]
        refine go _ ?_ ?_ <;> simp only [go_sem, ↓reduceIte, reduceCtorEq, Nat.reduceEqDiff, hn]
    · have e1 : ((c.toNat : Int) = 92) = False := by
        simp only [eq_iff_iff, iff_false]
        intro h
        exact e (UInt8.toNat_inj.1 (by rw [show c.toNat = 92 by omega]; rfl))
      rcases hx with ⟨rfl, rfl⟩ | rfl
      · simp +contextual -implicitDefEqProofs (maxSteps := 10000000) only [x125_l0_run, go_sem, ↓reduceIte, reduceCtorEq, Nat.reduceEqDiff, Int.reduceLE, Int.reduceToNat, Nat.reduceLT, Nat.reduceDiv, h0, h3, List.getD_cons_zero, List.getD_cons_succ, List.flatten_cons, List.flatten_nil, rm1, f0, n0, e1, s1]
        refine go _ ?_ ?_ <;> simp only [go_sem, ↓reduceIte, reduceCtorEq, Nat.reduceEqDiff, hn0]
      · simp +contextual -implicitDefEqProofs (maxSteps := 10000000) only [x125_l0_run, go_sem, ↓reduceIte, reduceCtorEq, Nat.reduceEqDiff, Int.reduceLE, Int.reduceToNat, Nat.reduceLT, Nat.reduceDiv, h0, h3, List.getD_cons_zero, List.getD_cons_succ, List.flatten_cons, List.flatten_nil, rm, f0, n0, e1, s1]
        refine go _ ?_ ?_ <;> simp only [go_sem, ↓reduceIte, reduceCtorEq, Nat.reduceEqDiff, hn]
  · have f0 : ((0 : Int) < ((r.length + 1 + 1 : Nat) : Int)) = True := by simp <;> omega
    have f1 : ((1 : Int) < ((r.length + 1 + 1 : Nat) : Int)) = True := by simp <;> omega
    have n0 : (0 < r.length + 1 + 1) = True := by simp
    have n1 : (1 < r.length + 1 + 1) = True := by simp
    have s2 := sstr2 92 c r
    by_cases e : c = 120
    · have hr2 : r.length < 2 := hd.resolve_left (fun h => h e)
      have e1 : ((c.toNat : Int) = 120) = True := by rw [e]; simp
      have f3 : ((3 : Int) < ((r.length + 1 + 1 : Nat) : Int)) = False := by simp; omega
      rcases hx with ⟨rfl, rfl⟩ | rfl
      · simp +contextual -implicitDefEqProofs (maxSteps := 10000000) only [x125_l0_run, go_sem, ↓reduceIte, reduceCtorEq, Nat.reduceEqDiff, Int.reduceLE, Int.reduceToNat, Nat.reduceLT, Nat.reduceDiv, h0, h3, List.getD_cons_zero, List.getD_cons_succ, List.flatten_cons, List.flatten_nil, rm1, f0, f1, f3, n0, n1, e1, s2, u92]
        refine go _ ?_ ?_ <;> simp only [go_sem, ↓reduceIte, reduceCtorEq, Nat.reduceEqDiff, hn0]
      · simp +contextual -implicitDefEqProofs (maxSteps := 10000000) only [x125_l0_run, go_sem, ↓reduceIte, reduceCtorEq, Nat.reduceEqDiff, Int.reduceLE, Int.reduceToNat, Nat.reduceLT, Nat.reduceDiv, h0, h3, List.getD_cons_zero, List.getD_cons_succ, List.flatten_cons, List.flatten_nil, rm, f0, f1, f3, n0, n1, e1, s2, u92]
        refine go _ ?_ ?_ <;> simp only [go_sem, ↓reduceIte, reduceCtorEq, Nat.reduceEqDiff, hn]
    · have e1 : ((c.toNat : Int) = 120) = False := by
        simp only [eq_iff_iff, iff_false]
        intro h
        exact e (UInt8.toNat_inj.1 (by rw [show c.toNat = 120 by omega]; rfl))
      rcases hx with ⟨rfl, rfl⟩ | rfl
      · simp +contextual -implicitDefEqProofs (maxSteps := 10000000) only [x125_l0_run, go_sem, ↓reduceIte, reduceCtorEq, Nat.reduceEqDiff, Int.reduceLE, Int.reduceToNat, Nat.reduceLT, Nat.reduceDiv, h0, h3, List.getD_cons_zero, List.getD_cons_succ, List.flatten_cons, List.flatten_nil, rm1, f0, f1, n0, n1, e1, s2, u92]
        refine go _ ?_ ?_ <;> simp only [go_sem, ↓reduceIte, reduceCtorEq, Nat.reduceEqDiff, hn0]
      · simp +contextual -implicitDefEqProofs (maxSteps := 10000000) only [x125_l0_run, go_sem, ↓reduceIte, reduceCtorEq, Nat.reduceEqDiff, Int.reduceLE, Int.reduceToNat, Nat.reduceLT, Nat.reduceDiv, h0, h3, List.getD_cons_zero, List.getD_cons_succ, List.flatten_cons, List.flatten_nil, rm, f0, f1, n0, n1, e1, s2, u92]
        refine go _ ?_ ?_ <;> simp only [go_sem, ↓reduceIte, reduceCtorEq, Nat.reduceEqDiff, hn]
  · have f0 : ((0 : Int) < ((r.length + 1 + 1 + 1 + 1 : Nat) : Int)) = True := by simp <;> omega
    have f1 : ((1 : Int) < ((r.length + 1 + 1 + 1 + 1 : Nat) : Int)) = True := by simp <;> omega
    have f3 : ((3 : Int) < ((r.length + 1 + 1 + 1 + 1 : Nat) : Int)) = True := by simp <;> omega
    have n0 : (0 < r.length + 1 + 1 + 1 + 1) = True := by simp
    have n1 : (1 < r.length + 1 + 1 + 1 + 1) = True := by simp
    have s4 := sstr4 92 120 a b r
    have s24 := sstr24 92 120 a b r
    obtain ⟨e, ue, de, he⟩ := v_pu a b []
    have hlt := hexV_lt a b
    have w8 : wr .u8 ((hexV a b : Nat) : Int) = (((UInt8.ofNat (hexV a b)).toNat : Nat) : Int) := by
      rw [wr_u8_nat _ hlt]
      simp [Nat.mod_eq_of_lt hlt]
    generalize UInt8.ofNat (hexV a b) = c at *
    rcases hx with ⟨rfl, rfl⟩ | rfl
    · simp +contextual -implicitDefEqProofs (maxSteps := 10000000) only [x125_l0_run, go_sem, ↓reduceIte, reduceCtorEq, Nat.reduceEqDiff, Int.reduceLE, Int.reduceToNat, Nat.reduceLT, Nat.reduceDiv, h0, h3, List.getD_cons_zero, List.getD_cons_succ, List.flatten_cons, List.flatten_nil, rm1, f0, f1, f3, n0, n1, s4, s24, he, ue, de, w8, u92, u120]
      refine go _ ?_ ?_ <;> simp only [go_sem, ↓reduceIte, reduceCtorEq, Nat.reduceEqDiff, hn0]
    · simp +contextual -implicitDefEqProofs (maxSteps := 10000000) only [x125_l0_run, go_sem, ↓reduceIte, reduceCtorEq, Nat.reduceEqDiff, Int.reduceLE, Int.reduceToNat, Nat.reduceLT, Nat.reduceDiv, h0, h3, List.getD_cons_zero, List.getD_cons_succ, List.flatten_cons, List.flatten_nil, rm, f0, f1, f3, n0, n1, s4, s24, he, ue, de, w8, u92, u120]
      refine go _ ?_ ?_ <;> simp only [go_sem, ↓reduceIte, reduceCtorEq, Nat.reduceEqDiff, hn]
theorem dP_end (n : Nat) : dP n [] = [] := by cases n <;> rfl
theorem l_unq (hp : Heap) : ∀ (n : Nat) (s acc : List UInt8) (_ : s.length ≤ n) (_ : s.length + acc.length ≤ 140737488355328) (fr : List AV) (x : AV), fget fr 0 = .str s → fget fr 3 = x → accV acc x →
    OUQ (acc ++ dP n s) hp (LC X GV (.loop x125_l0) ⟨fr, hp⟩) := by
  intro n
  induction n with
  | zero =>
    intro s acc hs hl fr x h0 h3 hx
    have : s = [] := List.eq_nil_of_length_eq_zero (by omega)
    subst this
    rw [LC_loop, dP_end, List.append_nil]
    have f0 : ((0 : Int) < ((0 : Nat) : Int)) = False := by simp
    simp +contextual -implicitDefEqProofs (maxSteps := 10000000) only [x125_l0_run, go_sem, ↓reduceIte, h0, f0]
    exact ⟨_, x, rfl, by simp only [go_sem, ↓reduceIte, Nat.reduceEqDiff, h3], hx⟩
  | succ n ih =>
    intro s acc hs hl fr x h0 h3 hx
    match s, hs, hl, h0 with
    | [], _, _, h0 =>
      rw [LC_loop, dP_end, List.append_nil]
      have f0 : ((0 : Int) < ((0 : Nat) : Int)) = False := by simp
      simp +contextual -implicitDefEqProofs (maxSteps := 10000000) only [x125_l0_run, go_sem, ↓reduceIte, h0, f0]
      exact ⟨_, x, rfl, by simp only [go_sem, ↓reduceIte, Nat.reduceEqDiff, h3], hx⟩
    | [c], hs, hl, h0 =>
      refine u_step hp _ _ [] c acc (by simp at hl; omega) fr x h0 h3 hx (.inl ⟨rfl, .inr rfl⟩) fun fr' g0 g3 => ?_
      have := ih [] (acc ++ [c]) (by simp) (by simp at hl ⊢; omega) fr' _ g0 g3 (.inr rfl)
      rw [dP_end, List.append_nil] at this
      exact this
    | c :: c2 :: r, hs, hl, h0 =>
      simp only [List.length_cons] at hs hl
      by_cases e : c = 92
      · subst e
        by_cases e2 : c2 = 120
        · subst e2
          match r, hs, hl, h0 with
          | a :: b :: t, hs, hl, h0 =>
            simp only [List.length_cons] at hs hl
            refine u_step hp _ _ t _ acc (by omega) fr x h0 h3 hx (.inr (.inr ⟨a, b, rfl, rfl⟩)) fun fr' g0 g3 => ?_
            have := ih t (acc ++ [UInt8.ofNat (hexV a b)]) (by omega) (by simp; omega) fr' _ g0 g3 (.inr rfl)
            simpa [dP] using this
          | [], hs, hl, h0 =>
            refine u_step hp _ _ [] 120 acc (by omega) fr x h0 h3 hx (.inr (.inl ⟨120, rfl, rfl, .inr (by simp)⟩)) fun fr' g0 g3 => ?_
            have := ih [] (acc ++ [120]) (by simp) (by simp at hl ⊢; omega) fr' _ g0 g3 (.inr rfl)
            simpa [dP] using this
          | [a], hs, hl, h0 =>
            refine u_step hp _ _ [a] 120 acc (by omega) fr x h0 h3 hx (.inr (.inl ⟨120, rfl, rfl, .inr (by simp)⟩)) fun fr' g0 g3 => ?_
            have := ih [a] (acc ++ [120]) (by simp at hs ⊢; omega) (by simp at hl ⊢; omega) fr' _ g0 g3 (.inr rfl)
            simpa [dP] using this
        · refine u_step hp _ _ r c2 acc (by omega) fr x h0 h3 hx (.inr (.inl ⟨c2, rfl, rfl, .inl e2⟩)) fun fr' g0 g3 => ?_
          have := ih r (acc ++ [c2]) (by omega) (by simp; omega) fr' _ g0 g3 (.inr rfl)
          have hd : dP (n + 1) (92 :: c2 :: r) = c2 :: dP n r := by
            match r with
            | [] => simp [dP]
            | [a] => simp [dP]
            | a :: b :: t => simp [dP, e2]
          rw [hd]
          simpa using this
      · refine u_step hp _ _ (c2 :: r) c acc (by omega) fr x h0 h3 hx (.inl ⟨rfl, .inl e⟩) fun fr' g0 g3 => ?_
        have := ih (c2 :: r) (acc ++ [c]) (by simp; omega) (by simp; omega) fr' _ g0 g3 (.inr rfl)
        have hd : dP (n + 1) (c :: c2 :: r) = c :: dP n (c2 :: r) := by simp [dP, e]
        rw [hd]
        simpa using this
def unP (s : List UInt8) : List UInt8 := dP s.length (trimQ (s.drop 1))
theorem trim_len (s : List UInt8) : (trimQ s).length ≤ s.length := by
  unfold trimQ
  split
  · simp
  · exact Nat.le_refl _
theorem v_unq (c : UInt8) (s : List UInt8) (hl : (c :: s).length ≤ 140737488355328) (hp : Heap) : CL X GV 125 [.str (c :: s)] hp = some (.str (unP (c :: s)), hp) := by
  simp only [List.length_cons] at hl
  have s1 := sstr1 c s
  have vt := fun hp => v_trim s (by omega) hp
  have tl := trim_len s
  rw [CL_eq (fn := x125) rfl]
  simp +contextual -implicitDefEqProofs (maxSteps := 10000000) only [x125, go_sem, ↓reduceIte, reduceCtorEq, s1, vt]
  refine elimL (fun r => finK _ (seqK (blockK 0 r) _) = _) (l_unq ([] :: hp) (s.length + 1) (trimQ s) [] (by omega) (by simp; omega) _ .nilsl ?_ ?_ (.inl ⟨rfl, rfl⟩)) ?_
  all_goals try simp only [go_sem, ↓reduceIte, reduceCtorEq]
  rintro r ⟨fr', x, rfl, h3, hx⟩
  have e : unP (c :: s) = dP (s.length + 1) (trimQ s) := rfl
  rw [← e] at hx
  rcases hx with ⟨h, rfl⟩ | rfl
  · simp +contextual -implicitDefEqProofs (maxSteps := 10000000) only [go_sem, ↓reduceIte, h3, h]
  · simp +contextual -implicitDefEqProofs (maxSteps := 10000000) only [go_sem, ↓reduceIte, h3]
end Go.Proofs.YtjbgceogkgpjpaaGreatDoor.Sx.T
namespace Go.Proofs.YtjbgceogkgpjpaaGreatDoor.Sx.T
open Go Go.Proofs.YtjbgceogkgpjpaaGreatDoor.Sx
set_option maxRecDepth 100000
set_option maxHeartbeats 8000000
def wv (c : UInt8) : Nat := (digs.findIdx? (fun d => d == c)).getD 16
end Go.Proofs.YtjbgceogkgpjpaaGreatDoor.Sx.T
namespace Go.Proofs.YtjbgceogkgpjpaaGreatDoor.Sx.T
open Go Go.Proofs.YtjbgceogkgpjpaaGreatDoor.Sx
set_option maxRecDepth 100000
set_option maxHeartbeats 1000000
def isDig (c : UInt8) : Prop := 48 ≤ c.toNat ∧ c.toNat ≤ 57
instance (c : UInt8) : Decidable (isDig c) := by unfold isDig; infer_instance
def valD (acc : Nat) (l : List UInt8) : Nat := l.foldl (fun a c => a * 10 + (c.toNat - 48)) acc
theorem valD_cons (acc : Nat) (c : UInt8) (l : List UInt8) : valD acc (c :: l) = valD (acc * 10 + (c.toNat - 48)) l := by simp only [valD, List.foldl_cons]
theorem valD_nil (acc : Nat) : valD acc [] = acc := by simp only [valD, List.foldl_nil]
theorem valD_ge : ∀ (l : List UInt8) (acc : Nat), acc ≤ valD acc l
  | [], acc => by rw [valD_nil]; exact Nat.le_refl _
  | c :: l, acc => by
    rw [valD_cons]
    have := valD_ge l (acc * 10 + (c.toNat - 48))
    omega
theorem parse_dig (M : Nat) (hM : 9223372036854775808 ≤ M) : ∀ (l : List UInt8) (acc : Nat), (∀ c ∈ l, isDig c) → valD acc l ≤ 9223372036854775808 → Go.Lib.parseUintM M acc l = .ok (valD acc l)
  | [], acc, _, _ => by rw [Go.Lib.parseUintM, valD_nil]
  | c :: l, acc, hd, hv => by
    have hc := hd c (by simp)
    unfold isDig at hc
    rw [valD_cons] at hv ⊢
    have hg := valD_ge l (acc * 10 + (c.toNat - 48))
    rw [Go.Lib.parseUintM, if_pos hc, if_neg (by omega), if_neg (by omega)]
    exact parse_dig M hM l _ (fun x hx => hd x (by simp [hx])) hv
def numF : List UInt8 → Int → Int
  | [], n => n
  | c :: r, n => if 48 ≤ c.toNat ∧ c.toNat ≤ 57 then numF r (wr .i64 (wr .i64 (n * 10) - ((c.toNat - 48 : Nat) : Int))) else numF r n
def numR (s : List UInt8) : Int := if s.head? = some 45 then numF s 0 else wr .i64 (-(numF s 0))
theorem num_dig : ∀ (l : List UInt8) (acc : Nat), (∀ c ∈ l, isDig c) → valD acc l ≤ 9223372036854775808 → numF l (-(acc : Int)) = -((valD acc l : Nat) : Int)
  | [], acc, _, _ => by rw [numF, valD_nil]
  | c :: l, acc, hd, hv => by
    have hc := hd c (by simp)
    unfold isDig at hc
    rw [valD_cons] at hv ⊢
    have hg := valD_ge l (acc * 10 + (c.toNat - 48))
    have e1 : wr .i64 (-(acc : Int) * 10) = -(acc : Int) * 10 := wr_i64 _ (by omega)
    have e2 : wr .i64 (-(acc : Int) * 10 - ((c.toNat - 48 : Nat) : Int)) = -(acc : Int) * 10 - ((c.toNat - 48 : Nat) : Int) := wr_i64 _ (by omega)
    rw [numF, if_pos hc, e1, e2]
    have e : (-(acc : Int) * 10 - ((c.toNat - 48 : Nat) : Int)) = -((acc * 10 + (c.toNat - 48) : Nat) : Int) := by omega
    rw [e]
    exact num_dig l _ (fun x hx => hd x (by simp [hx])) hv
theorem digC (d : Nat) (h : d < 10) : (UInt8.ofNat (48 + d)).toNat = 48 + d := by
  rw [UInt8.toNat_ofNat']
  omega
theorem decF_dig : ∀ (k u : Nat), ∀ c ∈ decF k u, isDig c
  | 0, _ => by simp [decF]
  | k + 1, u => by
    intro c hc
    rw [decF] at hc
    split at hc
    · rename_i h
      simp only [List.mem_singleton] at hc
      subst hc
      unfold isDig
      rw [digC _ h]
      omega
    · rcases List.mem_append.1 hc with hc | hc
      · exact decF_dig k _ c hc
      · simp only [List.mem_singleton] at hc
        subst hc
        unfold isDig
        rw [digC _ (Nat.mod_lt _ (by omega))]
        omega
theorem decF_val : ∀ (k u : Nat), u < 10 ^ k → k ≠ 0 → valD 0 (decF k u) = u
  | 0, _, _, h => absurd rfl h
  | k + 1, u, hu, _ => by
    rw [decF]
    split
    · rename_i h
      rw [valD_cons, digC _ h]
      rw [valD_nil]
      omega
    · rename_i h
      have hp : (10 : Nat) ^ (k + 1) = 10 ^ k * 10 := Nat.pow_succ _ _
      have hk : k ≠ 0 := by rintro rfl; simp at hu; omega
      have ih := decF_val k (u / 10) (by omega) hk
      have : valD 0 (decF k (u / 10) ++ [UInt8.ofNat (48 + u % 10)]) = valD 0 (decF k (u / 10)) * 10 + ((UInt8.ofNat (48 + u % 10)).toNat - 48) := by
        simp only [valD, List.foldl_append, List.foldl_cons, List.foldl_nil]
      rw [this, ih, digC _ (Nat.mod_lt _ (by omega))]
      omega
theorem decF_ne (k u : Nat) (hk : k ≠ 0) : decF k u ≠ [] := by
  cases k with
  | zero => exact absurd rfl hk
  | succ k => rw [decF]; split <;> simp
theorem dig_ne (c : UInt8) (h : isDig c) (d : UInt8) (hd : d.toNat < 48) : c ≠ d := by
  rintro rfl
  unfold isDig at h
  omega
theorem u45 : ((45 : UInt8).toNat) = 45 := rfl
theorem numR_dec (n : Int) (hn : I64 n) : numR (decI n) = n := by
  unfold I64 at hn
  unfold numR decI
  by_cases h : n < 0
  · simp only [if_pos h, List.head?_cons, if_true]
    rw [numF, if_neg (by rw [u45]; omega)]
    have := num_dig (decF 20 n.natAbs) 0 (decF_dig 20 _) (by rw [decF_val 20 _ (by omega) (by omega)]; omega)
    rw [decF_val 20 _ (by omega) (by omega)] at this
    rw [show (0 : Int) = -((0 : Nat) : Int) from rfl, this]
    omega
  · rw [if_neg h]
    have := num_dig (decF 20 n.toNat) 0 (decF_dig 20 _) (by rw [decF_val 20 _ (by omega) (by omega)]; omega)
    rw [decF_val 20 _ (by omega) (by omega)] at this
    rw [if_neg, show (0 : Int) = -((0 : Nat) : Int) from rfl, this, wr_i64 _ (by omega)]
    · omega
    · intro h45
      have hm := List.mem_of_mem_head? h45
      exact dig_ne _ (decF_dig 20 _ _ hm) 45 (by rw [u45]; omega) rfl
theorem parB_dec (n : Int) (hn : I64 n) : Go.Lib.parseIntB 64 (decI n) = .ok n := by
  unfold I64 at hn
  have hU : ∀ m : Nat, m ≤ 9223372036854775808 → Go.Lib.parseUintB 64 (decF 20 m) = .ok m := by
    intro m hm
    unfold Go.Lib.parseUintB
    rw [if_neg (decF_ne 20 m (by omega)), parse_dig _ (by decide) _ 0 (decF_dig 20 m) (by rw [decF_val 20 _ (by omega) (by omega)]; omega), decF_val 20 _ (by omega) (by omega)]
  unfold decI
  by_cases h : n < 0
  · rw [if_pos h]
    unfold Go.Lib.parseIntB
    simp only [u45]
    simp only [or_true, if_true, hU n.natAbs (by omega)]
    rw [if_neg (by simp), if_neg (by omega)]
    congr 1
    omega
  · rw [if_neg h]
    have hm := hU n.toNat (by omega)
    have hd := decF_dig 20 n.toNat
    cases hl : decF 20 n.toNat with
    | nil => exact absurd hl (decF_ne 20 _ (by omega))
    | cons c r =>
      rw [hl] at hm hd
      have hc := hd c (by simp)
      unfold isDig at hc
      unfold Go.Lib.parseIntB
      simp only
      rw [if_neg (by omega), hm]
      simp only
      rw [if_neg (by omega), if_neg (by omega), if_neg (by omega)]
      congr 1
      omega
theorem parI_dec (n : Int) (hn : I64 n) : parI (decI n) = n := by
  unfold parI
  rw [parB_dec n hn]
theorem parI_in (s : List UInt8) : I64 (parI s) := by
  unfold parI
  cases h : Go.Lib.parseIntB 64 s with
  | ok v =>
    simp only
    unfold Go.Lib.parseIntB at h
    split at h
    · cases h
    · simp only at h
      split at h
      · cases h
      · cases h
      · split at h
        · cases h
        · split at h
          · cases h
          · injection h with h
            unfold I64
            split at h <;> omega
  | range =>
    simp only [Go.Lib.intSat]
    unfold I64
    split <;> omega
  | _ => unfold I64; simp
end Go.Proofs.YtjbgceogkgpjpaaGreatDoor.Sx.T
namespace Go.Proofs.YtjbgceogkgpjpaaGreatDoor.Sx.T
open Go Go.Proofs.YtjbgceogkgpjpaaGreatDoor.Sx
set_option maxRecDepth 100000
set_option maxHeartbeats 8000000
end Go.Proofs.YtjbgceogkgpjpaaGreatDoor.Sx.T
namespace Go.Proofs.YtjbgceogkgpjpaaGreatDoor.Sx.T
open Go Go.Proofs.YtjbgceogkgpjpaaGreatDoor.Sx
set_option maxRecDepth 100000
set_option maxHeartbeats 8000000
def zV : Val := ⟨0, 0, 0, []⟩
def rawP (s : List UInt8) : Val := if (cutS s).2.2 = true then ⟨2, parI (cutS s).1, parI (cutS s).2.1, []⟩ else ⟨1, parI (cutS s).1, 0, []⟩
def rawR (s : List UInt8) : Val := match slash s with | some i => ⟨2, numR (s.take i), numR (s.drop (i + 1)), []⟩ | none => ⟨1, numR s, 0, []⟩
def parQ (t s : List UInt8) : Val × Int := if qt t = s then (if 64 < t.length then (zV, 2) else (⟨3, 0, 0, t⟩, 0)) else (zV, 70)
def parN (v : Val) (s : List UInt8) : Val × Int := if chkV v = 0 ∧ prt v = s then (v, 0) else (zV, 70)
def parP (s : List UInt8) : Val × Int := if s.head? = some 34 then parQ (unP s) s else parN (rawP s) s
theorem dP_len : ∀ (n : Nat) (s : List UInt8), (dP n s).length ≤ s.length
  | 0, s => by simp [dP]
  | n + 1, [] => by simp [dP]
  | n + 1, [c] => by simp [dP]
  | n + 1, c :: c2 :: r => by
    have h1 := dP_len n (c2 :: r)
    have h2 := dP_len n r
    simp only [List.length_cons] at h1 ⊢
    simp only [dP]
    split
    · split
      · rename_i a b t
        have h3 := dP_len n t
        simp only [List.length_cons] at h1 h2 ⊢
        split <;> simp only [List.length_cons] <;> omega
      · simp only [List.length_cons]; omega
    · simp only [List.length_cons]; omega
def parE (s : List UInt8) : AV := match Go.Lib.parseIntB 64 s with | .ok _ => .nilif | _ => .ifc 214 .undef
theorem primX_par (s : List UInt8) (hl : s.length ≤ 281474976710656) : primX 1214 [.str s, .int .i64 10, .int .i64 64] = some (.tup [.int .i64 (parI s), parE s]) := by
  simp only [primX, primY, primZ, Nat.reduceLT, Nat.reduceSub, if_false, if_true]
  rw [if_pos ⟨trivial, trivial, by first | exact hl | exact ⟨hl, trivial⟩ | exact ⟨hl, by decide⟩⟩]
  rfl
theorem cut_len (s : List UInt8) : (cutS s).1.length ≤ s.length ∧ (cutS s).2.1.length ≤ s.length := by
  unfold cutS
  split <;> simp <;> omega
theorem v_parse (s : List UInt8) (hl : 4 * s.length + 2 ≤ 140737488355328) (hp : Heap) : CL X GV 101 [.str s] hp = some (.tup [(parP s).1.av, .int .i64 (parP s).2], hp) := by
  have hpre := fun hp => v_pre s hp
  unfold parP
  by_cases hq : s.head? = some 34
  · rw [if_pos hq]
    have hpre : ∀ hp, CL X GV 124 [.str s, .str [34]] hp = some (.bool true, hp) := fun hp => by rw [hpre hp, decide_eq_true hq]
    cases s with
    | nil => cases hq
    | cons c r =>
      have hu := fun hp => v_unq c r (by omega) hp
      have hlen : (unP (c :: r)).length ≤ (c :: r).length := by
        refine Nat.le_trans (dP_len _ _) (Nat.le_trans (trim_len _) ?_)
        simp
      have hqt := fun hp => v_quoted (unP (c :: r)) (by omega) hp
      generalize unP (c :: r) = t at *
      generalize c :: r = s at *
      unfold parQ
      rw [CL_eq (fn := x101) rfl]
      by_cases e : qt t = s
      · by_cases l : 64 < t.length
        · have e1 : ((64 : Int) < (t.length : Int)) = True := by simp; omega
          rw [if_pos e, if_pos l]
          simp +contextual -implicitDefEqProofs (maxSteps := 10000000) only [x101, go_sem, ↓reduceIte, reduceCtorEq, Nat.reduceEqDiff, Nat.reduceAdd, hpre, hu, hqt, e, e1, zV, Val.av, vA]
        · have e1 : ((64 : Int) < (t.length : Int)) = False := by simp; omega
          rw [if_pos e, if_neg l]
          simp +contextual -implicitDefEqProofs (maxSteps := 10000000) only [x101, go_sem, ↓reduceIte, reduceCtorEq, Nat.reduceEqDiff, Nat.reduceAdd, Nat.reduceLeDiff, hpre, hu, hqt, e, e1, Val.av, vA]
      · rw [if_neg e]
        simp +contextual -implicitDefEqProofs (maxSteps := 10000000) only [x101, go_sem, ↓reduceIte, reduceCtorEq, Nat.reduceEqDiff, Nat.reduceAdd, hpre, hu, hqt, e, zV, Val.av, vA]
  · rw [if_neg hq]
    have hpre : ∀ hp, CL X GV 124 [.str s, .str [34]] hp = some (.bool false, hp) := fun hp => by rw [hpre hp, decide_eq_false hq]
    have hc := fun hp => v_cut s (by omega) hp
    obtain ⟨l1, l2⟩ := cut_len s
    have p1 := primX_par (cutS s).1 (by omega)
    have p2 := primX_par (cutS s).2.1 (by omega)
    have i1 := parI_in (cutS s).1
    have i2 := parI_in (cutS s).2.1
    unfold parN rawP
    obtain ⟨⟨x, y, b⟩, hcc⟩ : ∃ z, cutS s = z := ⟨_, rfl⟩
    rw [hcc] at p1 p2 i1 i2 ⊢
    simp only [hcc] at hc p1 p2 i1 i2 ⊢
    rw [CL_eq (fn := x101) rfl]
    have k1 : I64 1 := by unfold I64; omega
    have k2 : I64 2 := by unfold I64; omega
    have k0 : I64 0 := by unfold I64; omega
    cases b with
    | true =>
      have hv := fun hp => v_print ⟨2, parI x, parI y, []⟩ ⟨k2, i1, i2⟩ hp
      simp only [if_true]
      obtain ⟨cv, hcv⟩ : ∃ cv, chkV ⟨2, parI x, parI y, []⟩ = cv := ⟨_, rfl⟩
      obtain ⟨pv, hpv⟩ : ∃ pv, prt ⟨2, parI x, parI y, []⟩ = pv := ⟨_, rfl⟩
      rw [hcv, hpv]
      simp only [hcv, hpv] at hv
      simp only [Val.av, vA] at hv
      by_cases e1 : cv = 0
      · by_cases e2 : pv = s
        · rw [if_pos ⟨e1, e2⟩]
          simp +contextual -implicitDefEqProofs (maxSteps := 10000000) only [x101, go_sem, ↓reduceIte, reduceCtorEq, Nat.reduceEqDiff, Nat.reduceAdd, Nat.reduceLeDiff, Int.reduceBNe, hpre, hc, p1, p2, hv, e1, e2, Val.av, vA]
        · rw [if_neg (fun h => e2 h.2)]
          simp +contextual -implicitDefEqProofs (maxSteps := 10000000) only [x101, go_sem, ↓reduceIte, reduceCtorEq, Nat.reduceEqDiff, Nat.reduceAdd, Nat.reduceLeDiff, Int.reduceBNe, hpre, hc, p1, p2, hv, e1, e2, zV, Val.av, vA]
      · rw [if_neg (fun h => e1 h.1)]
        simp +contextual -implicitDefEqProofs (maxSteps := 10000000) only [x101, go_sem, ↓reduceIte, reduceCtorEq, Nat.reduceEqDiff, Nat.reduceAdd, Nat.reduceLeDiff, hpre, hc, p1, p2, hv, e1, zV, Val.av, vA]
    | false =>
      have hv := fun hp => v_print ⟨1, parI x, 0, []⟩ ⟨k1, i1, k0⟩ hp
      simp only [Bool.false_eq_true, if_false]
      obtain ⟨cv, hcv⟩ : ∃ cv, chkV ⟨1, parI x, 0, []⟩ = cv := ⟨_, rfl⟩
      obtain ⟨pv, hpv⟩ : ∃ pv, prt ⟨1, parI x, 0, []⟩ = pv := ⟨_, rfl⟩
      rw [hcv, hpv]
      simp only [hcv, hpv] at hv
      simp only [Val.av, vA] at hv
      by_cases e1 : cv = 0
      · by_cases e2 : pv = s
        · rw [if_pos ⟨e1, e2⟩]
          simp +contextual -implicitDefEqProofs (maxSteps := 10000000) only [x101, go_sem, ↓reduceIte, reduceCtorEq, Nat.reduceEqDiff, Nat.reduceAdd, Nat.reduceLeDiff, Int.reduceBNe, hpre, hc, p1, p2, hv, e1, e2, Val.av, vA]
        · rw [if_neg (fun h => e2 h.2)]
          simp +contextual -implicitDefEqProofs (maxSteps := 10000000) only [x101, go_sem, ↓reduceIte, reduceCtorEq, Nat.reduceEqDiff, Nat.reduceAdd, Nat.reduceLeDiff, Int.reduceBNe, hpre, hc, p1, p2, hv, e1, e2, zV, Val.av, vA]
      · rw [if_neg (fun h => e1 h.1)]
        simp +contextual -implicitDefEqProofs (maxSteps := 10000000) only [x101, go_sem, ↓reduceIte, reduceCtorEq, Nat.reduceEqDiff, Nat.reduceAdd, Nat.reduceLeDiff, hpre, hc, p1, p2, hv, e1, zV, Val.av, vA]
end Go.Proofs.YtjbgceogkgpjpaaGreatDoor.Sx.T
namespace Go.Proofs.YtjbgceogkgpjpaaGreatDoor.Sx.T
open Go Go.Proofs.YtjbgceogkgpjpaaGreatDoor.Sx
set_option maxRecDepth 100000
set_option maxHeartbeats 8000000
end Go.Proofs.YtjbgceogkgpjpaaGreatDoor.Sx.T
namespace Go.Proofs.YtjbgceogkgpjpaaGreatDoor.Sx.T
open Go Go.Proofs.YtjbgceogkgpjpaaGreatDoor.Sx
set_option maxRecDepth 100000
set_option maxHeartbeats 8000000
theorem hex_back (c : UInt8) : UInt8.ofNat (hexV (hx (c.toNat / 16)) (hx (c.toNat % 16))) = c ∧ UInt8.ofNat ((16 * wv (hx (c.toNat / 16)) + wv (hx (c.toNat % 16))) % 256) = c := by
  have h : ∀ x : Fin 256, hexV (hx (x.val / 16)) (hx (x.val % 16)) = x.val ∧ (16 * wv (hx (x.val / 16)) + wv (hx (x.val % 16))) % 256 = x.val := by decide +kernel
  have := h ⟨c.toNat, c.toNat_lt⟩
  simp only at this
  rw [this.1, this.2]
  simp
theorem dP_esc (n : Nat) (c : UInt8) (r : List UInt8) (hc : c ≠ 120) : dP (n + 1) (92 :: c :: r) = c :: dP n r := by
  match r with
  | [] => simp [dP]
  | [a] => simp [dP]
  | a :: b :: t => simp [dP, hc]
theorem qc_cases (c : UInt8) : (qc c = [92, c] ∧ c ≠ 120) ∨ (qc c = [c] ∧ c ≠ 92) ∨ qc c = [92, 120, hx (c.toNat / 16), hx (c.toNat % 16)] := by
  unfold qc
  split
  · rename_i h
    refine .inl ⟨rfl, ?_⟩
    rintro rfl
    have : ((120 : UInt8).toNat) = 120 := rfl
    omega
  · rename_i h
    split
    · refine .inr (.inl ⟨rfl, ?_⟩)
      rintro rfl
      have : ((92 : UInt8).toNat) = 92 := rfl
      omega
    · exact .inr (.inr rfl)
theorem dP_flat : ∀ (t : List UInt8) (n : Nat), (t.flatMap qc).length ≤ n → dP n (t.flatMap qc) = t
  | [], n, _ => by simp [dP_end]
  | c :: t, n, hn => by
    rw [List.flatMap_cons, List.length_append] at hn
    rw [List.flatMap_cons]
    have hb := hex_back c
    rcases qc_cases c with ⟨h, hc⟩ | ⟨h, hc⟩ | h
    · rw [h] at hn ⊢
      simp only [List.length_cons, List.length_nil] at hn
      obtain ⟨n, rfl⟩ : ∃ m, n = m + 1 := ⟨n - 1, by omega⟩
      have ih := dP_flat t n (by omega)
      show dP (n + 1) (92 :: c :: t.flatMap qc) = _
      rw [dP_esc n c _ hc, ih]
    · rw [h] at hn ⊢
      simp only [List.length_cons, List.length_nil] at hn
      obtain ⟨n, rfl⟩ : ∃ m, n = m + 1 := ⟨n - 1, by omega⟩
      have ih := dP_flat t n (by omega)
      show dP (n + 1) (c :: t.flatMap qc) = _
      generalize t.flatMap qc = F at ih
      cases F with
      | nil =>
        rw [dP_end] at ih
        rw [← ih]
        rfl
      | cons f F =>
        have : dP (n + 1) (c :: f :: F) = c :: dP n (f :: F) := by simp [dP, hc]
        rw [this, ih]
    · rw [h] at hn ⊢
      simp only [List.length_cons, List.length_nil] at hn
      obtain ⟨n, rfl⟩ : ∃ m, n = m + 1 := ⟨n - 1, by omega⟩
      have ih := dP_flat t n (by omega)
      show dP (n + 1) (92 :: 120 :: hx (c.toNat / 16) :: hx (c.toNat % 16) :: t.flatMap qc) = _
      have : ∀ a b F, dP (n + 1) (92 :: 120 :: a :: b :: F) = UInt8.ofNat (hexV a b) :: dP n F := fun a b F => by simp only [dP, if_true]
      rw [this, ih, hb.1]
theorem unP_qt (t : List UInt8) : unP (qt t) = t := by
  have e : (qt t).drop 1 = t.flatMap qc ++ [34] := rfl
  have e2 : trimQ (t.flatMap qc ++ [34]) = t.flatMap qc := by
    unfold trimQ
    rw [if_pos (by simp), List.dropLast_concat]
  unfold unP
  rw [e, e2]
  refine dP_flat t _ ?_
  simp only [qt, List.length_cons, List.length_append, List.length_nil]
  omega
theorem decI_no (n : Int) : ∀ c ∈ decI n, (c == 47) = false := by
  intro c hc
  have hd : isDig c ∨ c = 45 := by
    unfold decI at hc
    split at hc
    · rcases List.mem_cons.1 hc with h | h
      · exact .inr h
      · exact .inl (decF_dig 20 _ c h)
    · exact .inl (decF_dig 20 _ c hc)
  rcases hd with h | rfl
  · have := dig_ne c h 47 (by decide)
    simp [this]
  · rfl
theorem slash_dec (n : Int) : slash (decI n) = none := by
  unfold slash
  rw [List.findIdx?_eq_none_iff]
  exact decI_no n
theorem slash_two (n d : Int) : slash (decI n ++ 47 :: decI d) = some (decI n).length := by
  have h := slash_dec n
  unfold slash at h ⊢
  rw [List.findIdx?_append, h]
  simp [List.findIdx?_cons]
theorem raw_prt (v : Val) (ho : v.ok) (hc : chkV v = 0) (hk : v.k = 1 ∨ v.k = 2) : rawP (prt v) = v ∧ rawR (prt v) = v := by
  obtain ⟨k, n, d, s⟩ := v
  have hn := ho.2.1
  have hd := ho.2.2
  simp only at hk hn hd
  unfold prt
  rw [if_neg (by simp [hc])]
  unfold chkV chk at hc
  rcases hk with rfl | rfl
  · simp only [if_true] at hc ⊢
    have h : d = 0 ∧ s = [] := by
      split at hc
      · assumption
      · simp at hc
    obtain ⟨rfl, rfl⟩ := h
    constructor
    · unfold rawP cutS
      rw [slash_dec]
      simp only [Bool.false_eq_true, if_false, parI_dec n hn]
    · unfold rawR
      rw [slash_dec]
      simp only [numR_dec n hn]
  · have e21 : ((2 : Int) = 1) = False := by simp
    simp only [e21, if_false, if_true] at hc ⊢
    have h : s = [] := by
      split at hc
      · rename_i g; exact g.1
      · simp at hc
    subst h
    constructor
    · unfold rawP cutS
      rw [slash_two]
      simp only [if_true, List.take_left, parI_dec n hn]
      rw [show (decI n ++ 47 :: decI d).drop ((decI n).length + 1) = decI d by simp, parI_dec d hd]
    · unfold rawR
      rw [slash_two]
      simp only [List.take_left, numR_dec n hn]
      rw [show (decI n ++ 47 :: decI d).drop ((decI n).length + 1) = decI d by simp, numR_dec d hd]
theorem rawP_ok (s : List UInt8) : (rawP s).ok ∧ ((rawP s).k = 1 ∨ (rawP s).k = 2) := by
  have k1 : I64 1 := by unfold I64; omega
  have k2 : I64 2 := by unfold I64; omega
  have k0 : I64 0 := by unfold I64; omega
  unfold rawP
  split
  · exact ⟨⟨k2, parI_in _, parI_in _⟩, .inr rfl⟩
  · exact ⟨⟨k1, parI_in _, k0⟩, .inl rfl⟩
end Go.Proofs.YtjbgceogkgpjpaaGreatDoor.Sx.T
namespace Go.Proofs.YtjbgceogkgpjpaaGreatDoor.Sx.T
open Go Go.Proofs.YtjbgceogkgpjpaaGreatDoor.Sx
set_option maxRecDepth 100000
set_option maxHeartbeats 8000000
theorem decI_head (n : Int) : (decI n).head? ≠ some 34 := by
  intro h
  have hm := List.mem_of_mem_head? h
  unfold decI at hm
  split at hm
  · rcases List.mem_cons.1 hm with h | h
    · cases h
    · exact dig_ne _ (decF_dig 20 _ _ h) 34 (by decide) rfl
  · exact dig_ne _ (decF_dig 20 _ _ hm) 34 (by decide) rfl
theorem decI_ne (n : Int) : decI n ≠ [] := by
  unfold decI
  split
  · simp
  · exact decF_ne 20 _ (by omega)
theorem head_app (a b : List UInt8) (h : a ≠ []) : (a ++ b).head? = a.head? := by
  cases a with
  | nil => exact absurd rfl h
  | cons x a => rfl
theorem chk_kind (v : Val) (h : chkV v = 0) : v.k = 1 ∨ v.k = 2 ∨ (v.k = 3 ∧ v.n = 0 ∧ v.d = 0 ∧ v.s.length ≤ 64) := by
  unfold chkV chk at h
  split at h
  · rename_i g; exact .inl g
  · split at h
    · rename_i g; exact .inr (.inl g)
    · split at h
      · rename_i g
        split at h
        · rename_i g2
          split at h
          · rename_i g3; exact .inr (.inr ⟨g, g2.1, g2.2, g3⟩)
          · simp at h
        · simp at h
      · simp at h
theorem chk_three (s : List UInt8) (h : s.length ≤ 64) : chkV ⟨3, 0, 0, s⟩ = 0 := by
  unfold chkV chk
  simp [h]
theorem par_prt (v : Val) (ho : v.ok) (h : chkV v = 0) : parP (prt v) = (v, 0) := by
  have hr := raw_prt v ho h
  have key : (v.k = 1 ∨ v.k = 2) → (prt v).head? ≠ some 34 → parP (prt v) = (v, 0) := by
    intro hk hh
    unfold parP
    rw [if_neg hh, (hr hk).1]
    unfold parN
    rw [if_pos ⟨h, rfl⟩]
  have hp : prt v = if v.k = 1 then decI v.n else if v.k = 2 then decI v.n ++ 47 :: decI v.d else qt v.s := by
    unfold prt
    rw [if_neg (by simp [h])]
  rcases chk_kind v h with k | k | ⟨k, n0, d0, l⟩
  · refine key (.inl k) ?_
    rw [hp, if_pos k]
    exact decI_head _
  · refine key (.inr k) ?_
    rw [hp, if_neg (by omega), if_pos k, head_app _ _ (decI_ne _)]
    exact decI_head _
  · rw [hp, if_neg (by omega), if_neg (by omega)]
    unfold parP
    rw [if_pos (by rfl), unP_qt]
    unfold parQ
    rw [if_pos rfl, if_neg (by omega)]
    obtain ⟨k', n, d, s⟩ := v
    simp only at k n0 d0
    subst k n0 d0
    rfl
theorem prt_par (s : List UInt8) (h : (parP s).2 = 0) : chkV (parP s).1 = 0 ∧ prt (parP s).1 = s := by
  unfold parP at h ⊢
  split at h
  · rename_i hq
    rw [if_pos hq]
    unfold parQ at h ⊢
    split at h
    · rename_i e
      rw [if_pos e]
      split at h
      · simp at h
      · rename_i l
        rw [if_neg l]
        have hc := chk_three (unP s) (by omega)
        refine ⟨hc, ?_⟩
        unfold prt
        rw [if_neg (by simp [hc]), if_neg (by simp), if_neg (by simp), e]
    · simp at h
  · rename_i hq
    rw [if_neg hq]
    unfold parN at h ⊢
    split at h
    · rename_i e
      rw [if_pos e]
      exact e
    · simp at h
theorem par_ok (s : List UInt8) : (parP s).1.ok := by
  have k0 : I64 0 := by unfold I64; omega
  have k3 : I64 3 := by unfold I64; omega
  have hz : zV.ok := ⟨k0, k0, k0⟩
  unfold parP
  split
  · unfold parQ
    split
    · split
      · exact hz
      · exact ⟨k3, k0, k0⟩
    · exact hz
  · unfold parN
    split
    · exact (rawP_ok s).1
    · exact hz
end Go.Proofs.YtjbgceogkgpjpaaGreatDoor.Sx.T
