/- Layer 5, part 1: a text of blanks is cut into nothing, a longer one is refused. -/
import Derived.Test.YtjbgceogkgpjpaaGreatDoorEvB
import Derived.Test.YtjbgceogkgpjpaaGreatDoorEvR
import Derived.Test.YtjbgceogkgpjpaaGreatDoorEvP
import Derived.Test.YtjbgceogkgpjpaaGreatDoorEvS
import Derived.Test.YtjbgceogkgpjpaaGreatDoorEvL
import Derived.Test.YtjbgceogkgpjpaaGreatDoorGV
import Derived.Test.YtjbgceogkgpjpaaGreatDoorEvQ
import Derived.Test.YtjbgceogkgpjpaaGreatDoorSxRun
import Derived.Test.YtjbgceogkgpjpaaGreatDoorTold
import Derived.Test.YtjbgceogkgpjpaaGreatDoorV
set_option linter.unusedVariables false
set_option linter.unusedSimpArgs false
namespace Go.Proofs.YtjbgceogkgpjpaaGreatDoor.Sx.T
open Go Go.Proofs.YtjbgceogkgpjpaaGreatDoor.Sx
set_option maxRecDepth 100000
set_option maxHeartbeats 8000000
end Go.Proofs.YtjbgceogkgpjpaaGreatDoor.Sx.T
namespace Go.Proofs.YtjbgceogkgpjpaaGreatDoor.Sx.T
open Go Go.Proofs.YtjbgceogkgpjpaaGreatDoor.Sx
set_option maxRecDepth 100000
set_option maxHeartbeats 8000000
theorem g_suf (q : UInt8) (s : List UInt8) (hl : s.length < 9223372036854775807) (hp : Heap) : CL X GV 150 [.str s, .str [q]] hp = some (.bool (decide (s.getLast? = some q)), hp) := by
  rw [CL_eq (fn := x150) rfl]
  have n1 : ((1 : Nat) : Int) = 1 := rfl
  by_cases hn : s = []
  · subst hn
    simp +contextual -implicitDefEqProofs (maxSteps := 10000000) only [x150, go_sem, ↓reduceIte, reduceCtorEq, Nat.reduceEqDiff, List.getLast?_nil, reduceCtorEq, le10]
  · have hl0 : 0 < s.length := List.length_pos_iff.2 hn
    have e1 : ((1 : Int) ≤ (s.length : Int)) = True := by simp; omega
    have w1 : wr .i64 ((s.length : Int) - 1) = ((s.length - 1 : Nat) : Int) := by rw [wr_i64 _ (by omega)]; omega
    have e2 : sstrK (.str s) (some (.int .i64 ((s.length - 1 : Nat) : Int))) none = some (.str [s.getLast hn]) := by
      rw [sstrK_lo, if_pos (by omega), getLast_drop s hn]
    have e3 : s.getLast? = some (s.getLast hn) := List.getLast?_eq_some_getLast hn
    simp +contextual -implicitDefEqProofs (maxSteps := 10000000) only [x150, go_sem, ↓reduceIte, reduceCtorEq, Nat.reduceEqDiff, e1, w1, e2, n1, e3]
    simp
def trimG (q : UInt8) (s : List UInt8) : List UInt8 := if s.getLast? = some q then s.dropLast else s
theorem g_trim (q : UInt8) (s : List UInt8) (hl : s.length < 9223372036854775807) (hp : Heap) : CL X GV 123 [.str s, .str [q]] hp = some (.str (trimG q s), hp) := by
  have h : ∀ hp, CL X GV 140 [.str s, .str [q]] hp = some (.str (trimG q s), hp) := by
    intro hp
    have hs := fun hp => g_suf q s hl hp
    have n1 : ((1 : Nat) : Int) = 1 := rfl
    rw [CL_eq (fn := x140) rfl]
    by_cases c : s.getLast? = some q
    · have e : trimG q s = s.dropLast := by rw [trimG, if_pos c]
      have hn : s ≠ [] := by rintro rfl; simp at c
      have hl0 : 0 < s.length := List.length_pos_iff.2 hn
      have w1 : wr .i64 ((s.length : Int) - 1) = ((s.length - 1 : Nat) : Int) := by rw [wr_i64 _ (by omega)]; omega
      have e2 : sstrK (.str s) none (some (.int .i64 ((s.length - 1 : Nat) : Int))) = some (.str s.dropLast) := by
        rw [sstrK_hi, if_pos (by omega), List.dropLast_eq_take]
      simp +contextual -implicitDefEqProofs (maxSteps := 10000000) only [x140, go_sem, ↓reduceIte, reduceCtorEq, Nat.reduceEqDiff, hs, c, w1, e2, e, n1]
    · have e : trimG q s = s := by rw [trimG, if_neg c]
      simp +contextual -implicitDefEqProofs (maxSteps := 10000000) only [x140, go_sem, ↓reduceIte, reduceCtorEq, Nat.reduceEqDiff, hs, c, e, n1]
  rw [CL_eq (fn := x123) rfl]
  simp +contextual -implicitDefEqProofs (maxSteps := 10000000) only [x123, go_sem, ↓reduceIte, reduceCtorEq, Nat.reduceEqDiff, h]
def posG (q : UInt8) (s : List UInt8) : Option Nat := s.findIdx? (fun b => b == q)
theorem primX_pos (q : UInt8) (s : List UInt8) : primX 2 [.str s, .int .u8 (q.toNat : Nat)] = some (.int .i64 (match posG q s with | some i => (i : Int) | none => -1)) := by
  unfold posG
  simp [primX]
  cases List.findIdx? (fun b => b == q) s <;> rfl
theorem g_index (q : UInt8) (s : List UInt8) (hp : Heap) : CL X GV 115 [.str s, .str [q]] hp = some (.int .i64 (match posG q s with | some i => (i : Int) | none => -1), hp) := by
  have h1 := primX_pos q s
  have n1 : (((1 : Nat) : Int) = ((0 : Nat) : Int)) = False := by simp
  have h : ∀ hp, CL X GV 132 [.str s, .int .u8 (q.toNat : Nat)] hp = some (.int .i64 (match posG q s with | some i => (i : Int) | none => -1), hp) := by
    intro hp
    rw [CL_eq (fn := x132) rfl]
    simp +contextual -implicitDefEqProofs (maxSteps := 10000000) only [x132, go_sem, ↓reduceIte, reduceCtorEq, Nat.reduceEqDiff, Int.reduceNeg, h1]
  obtain ⟨z, hq⟩ : ∃ z : Int, (match posG q s with | some i => (i : Int) | none => -1) = z := ⟨_, rfl⟩
  simp only [hq] at h ⊢
  rw [CL_eq (fn := x115) rfl]
  have n2 : (((1 : Nat) : Int) = 1) = True := by simp
  have g47 : ((([q] : List UInt8).getD 0 0) = q) := rfl
  by_cases hs : [q] = s
  · have q0 : z = 0 := by rw [← hq, ← hs]; simp [posG]
    simp +contextual -implicitDefEqProofs (maxSteps := 10000000) only [x115, go_sem, ↓reduceIte, reduceCtorEq, Nat.reduceEqDiff, Int.reduceLE, Int.reduceNeg, Int.reduceToNat, hs, q0]
  · simp +contextual -implicitDefEqProofs (maxSteps := 10000000) only [x115, go_sem, ↓reduceIte, reduceCtorEq, Nat.reduceEqDiff, Int.reduceLE, Int.reduceNeg, Int.reduceToNat, Nat.reduceLT, n2, g47, h, hs]
def cutG (q : UInt8) (s : List UInt8) : List UInt8 × List UInt8 × Bool := match posG q s with | some i => (s.take i, s.drop (i + 1), true) | none => (s, [], false)
theorem posG_lt (q : UInt8) (s : List UInt8) (i : Nat) (h : posG q s = some i) : i < s.length := by
  unfold posG at h
  exact (List.findIdx?_eq_some_iff_getElem.1 h).1
theorem g_cut (q : UInt8) (s : List UInt8) (hl : s.length < 9223372036854775807) (hp : Heap) : CL X GV 122 [.str s, .str [q]] hp = some (.tup [.str (cutG q s).1, .str (cutG q s).2.1, .bool (cutG q s).2.2], hp) := by
  have hi := g_index q s
  have h : ∀ hp, CL X GV 139 [.str s, .str [q]] hp = some (.tup [.str (cutG q s).1, .str (cutG q s).2.1, .bool (cutG q s).2.2], hp) := by
    intro hp
    unfold cutG
    have hlt := posG_lt q s
    have n1 : ((1 : Nat) : Int) = 1 := rfl
    rw [CL_eq (fn := x139) rfl]
    cases hs : posG q s with
    | none =>
      simp only [hs] at hi
      have e1 : ((0 : Int) ≤ -1) = False := by simp
      simp +contextual -implicitDefEqProofs (maxSteps := 10000000) only [x139, go_sem, ↓reduceIte, reduceCtorEq, Nat.reduceEqDiff, Nat.reduceAdd, Int.reduceNeg, hi, e1]
    | some i =>
      simp only [hs] at hi
      have ki := hlt i hs
      have e1 : ((0 : Int) ≤ (i : Int)) = True := by simp
      have k1 : (i ≤ s.length) = True := by simp; omega
      have k2 : (i + 1 ≤ s.length) = True := by simp; omega
      have w1 : wr .i64 ((i : Int) + 1) = ((i + 1 : Nat) : Int) := by rw [wr_i64 _ (by omega)]; omega
      simp +contextual -implicitDefEqProofs (maxSteps := 10000000) only [x139, go_sem, ↓reduceIte, reduceCtorEq, Nat.reduceEqDiff, Nat.reduceAdd, hi, e1, k1, k2, w1, n1]
  rw [CL_eq (fn := x122) rfl]
  simp +contextual -implicitDefEqProofs (maxSteps := 10000000) only [x122, go_sem, ↓reduceIte, reduceCtorEq, Nat.reduceEqDiff, Nat.reduceAdd, h]
theorem g_has (q : UInt8) (s : List UInt8) (hp : Heap) : CL X GV 121 [.str s, .str [q]] hp = some (.bool (posG q s).isSome, hp) := by
  have hi := g_index q s
  have h : ∀ hp, CL X GV 95 [.str s, .str [q]] hp = some (.int .i64 (match posG q s with | some i => (i : Int) | none => -1), hp) := by
    intro hp
    rw [CL_eq (fn := x95) rfl]
    simp +contextual -implicitDefEqProofs (maxSteps := 10000000) only [x95, go_sem, ↓reduceIte, reduceCtorEq, Nat.reduceEqDiff, Int.reduceNeg, hi]
  rw [CL_eq (fn := x121) rfl]
  cases hs : posG q s with
  | none =>
    simp only [hs] at h
    have e1 : ((0 : Int) ≤ -1) = False := by simp
    simp +contextual -implicitDefEqProofs (maxSteps := 10000000) only [x121, go_sem, ↓reduceIte, reduceCtorEq, Nat.reduceEqDiff, Int.reduceNeg, h, e1, Option.isSome_none]
  | some i =>
    simp only [hs] at h
    have e1 : ((0 : Int) ≤ (i : Int)) = True := by simp
    simp +contextual -implicitDefEqProofs (maxSteps := 10000000) only [x121, go_sem, ↓reduceIte, reduceCtorEq, Nat.reduceEqDiff, h, e1, Option.isSome_some]
def sgn (c : UInt8) : Bool := c == 61 || c == 43 || c == 42 || c == 60 || c == 45
theorem sgn_pos : ∀ c : UInt8, (posG c [61, 43, 42, 60, 45]).isSome = sgn c := by
  have h : ∀ y : Fin 256, (posG (UInt8.ofNat y.val) [61, 43, 42, 60, 45]).isSome = sgn (UInt8.ofNat y.val) := by decide +kernel
  intro c
  have := h ⟨c.toNat, c.toNat_lt⟩
  simpa using this
theorem g_sgn (c : UInt8) : ∃ z : Int, (∀ hp, CL X GV 120 [.str [61, 43, 42, 60, 45], .int .u8 (c.toNat : Nat)] hp = some (.int .i64 z, hp)) ∧ ((0 : Int) ≤ z) = (sgn c = true) := by
  have h1 := primX_pos c [61, 43, 42, 60, 45]
  refine ⟨match posG c [61, 43, 42, 60, 45] with | some i => (i : Int) | none => -1, fun hp => ?_, ?_⟩
  · have h : ∀ hp, CL X GV 132 [.str [61, 43, 42, 60, 45], .int .u8 (c.toNat : Nat)] hp = some (.int .i64 (match posG c [61, 43, 42, 60, 45] with | some i => (i : Int) | none => -1), hp) := by
      intro hp
      rw [CL_eq (fn := x132) rfl]
      simp +contextual -implicitDefEqProofs (maxSteps := 10000000) only [x132, go_sem, ↓reduceIte, reduceCtorEq, Nat.reduceEqDiff, Int.reduceNeg, h1]
    rw [CL_eq (fn := x120) rfl]
    simp +contextual -implicitDefEqProofs (maxSteps := 10000000) only [x120, go_sem, ↓reduceIte, reduceCtorEq, Nat.reduceEqDiff, Int.reduceNeg, h]
  · have := sgn_pos c
    rw [← this]
    cases posG c [61, 43, 42, 60, 45] <;> simp
def dgB (c : UInt8) : Bool := decide (48 ≤ c.toNat) && decide (c.toNat ≤ 57)
theorem p_digit (c : UInt8) (hp : Heap) : CL X GV 119 [.int .u8 (c.toNat : Nat)] hp = some (.bool (dgB c), hp) := by
  have hc := c.toNat_lt
  unfold dgB
  generalize c.toNat = n at *
  rw [CL_eq (fn := x119) rfl]
  by_cases h1 : 48 ≤ n
  · have e1 : ((48 : Int) ≤ (n : Int)) = True := by simp; omega
    by_cases h2 : n ≤ 57
    · have e2 : ((n : Int) ≤ 57) = True := by simp; omega
      rw [decide_eq_true h1, decide_eq_true h2]
      simp +contextual -implicitDefEqProofs (maxSteps := 10000000) only [x119, go_sem, ↓reduceIte, reduceCtorEq, Nat.reduceEqDiff, e1, e2, Bool.and_self]
    · have e2 : ((n : Int) ≤ 57) = False := by simp; omega
      rw [decide_eq_true h1, decide_eq_false h2]
      simp +contextual -implicitDefEqProofs (maxSteps := 10000000) only [x119, go_sem, ↓reduceIte, reduceCtorEq, Nat.reduceEqDiff, e1, e2, Bool.and_false]
  · have e1 : ((48 : Int) ≤ (n : Int)) = False := by simp; omega
    rw [decide_eq_false h1]
    simp +contextual -implicitDefEqProofs (maxSteps := 10000000) only [x119, go_sem, ↓reduceIte, reduceCtorEq, Nat.reduceEqDiff, e1, Bool.false_and]
end Go.Proofs.YtjbgceogkgpjpaaGreatDoor.Sx.T
namespace Go.Proofs.YtjbgceogkgpjpaaGreatDoor.Sx.T
open Go Go.Proofs.YtjbgceogkgpjpaaGreatDoor.Sx
set_option maxRecDepth 100000
set_option maxHeartbeats 8000000
def smB (c : UInt8) : Bool := decide (97 ≤ c.toNat ∧ c.toNat ≤ 122)
def wcB (c : UInt8) : Bool := decide ((97 ≤ c.toNat ∧ c.toNat ≤ 122) ∨ (48 ≤ c.toNat ∧ c.toNat ≤ 57) ∨ c.toNat = 95)
theorem dgB_iff (c : UInt8) : dgB c = true ↔ 48 ≤ c.toNat ∧ c.toNat ≤ 57 := by simp [dgB]
def runL (p : UInt8 → Bool) : List UInt8 → Nat
  | [] => 0
  | c :: r => if p c = true then runL p r + 1 else 0
theorem runL_yes (p : UInt8 → Bool) (s : List UInt8) (e : Nat) (h : e < s.length) (hp : p (s.getD e 0) = true) : runL p (s.drop e) = runL p (s.drop (e + 1)) + 1 := by
  rw [List.drop_eq_getElem_cons h, runL, if_pos (by simpa [List.getD, h] using hp)]
theorem runL_no (p : UInt8 → Bool) (s : List UInt8) (e : Nat) (hp : e < s.length → p (s.getD e 0) = false) : runL p (s.drop e) = 0 := by
  by_cases h : e < s.length
  · rw [List.drop_eq_getElem_cons h, runL, if_neg]
    have := hp h
    simp [List.getD, h] at this
    simp [this]
  · rw [List.drop_of_length_le (by omega)]; rfl
def codeTail : Nat → XCode → XCode
  | n + 1, .seq _ b => codeTail n b
  | _, c => c
def scC : XCode → XCode
  | .seq _ (.scope c) => c
  | c => c
def bC : XCode := scC x99.body
def bC0 : XCode := codeTail 5 (scC x99.body)
def bC1 : XCode := codeTail 8 (scC x99.body)
def bC3 : XCode := codeTail 12 (scC x99.body)
def bC2 : XCode := codeTail 16 (scC x99.body)
theorem bC_run (s : St) : LC X GV bC s = LC X GV (scC x99.body) s := rfl
theorem bC0_run (s : St) : LC X GV bC0 s = LC X GV (codeTail 5 (scC x99.body)) s := rfl
theorem bC1_run (s : St) : LC X GV bC1 s = LC X GV (codeTail 8 (scC x99.body)) s := rfl
theorem bC2_run (s : St) : LC X GV bC2 s = LC X GV (codeTail 16 (scC x99.body)) s := rfl
theorem bC3_run (s : St) : LC X GV bC3 s = LC X GV (codeTail 12 (scC x99.body)) s := rfl
theorem b_lb0 (s : St) : LB X GV bC 0 s = LC X GV bC0 s := by
  simp only [bC, bC0, scC, codeTail, x99, LB_seq, LB_label, hasLab, Bool.or_false, Bool.false_eq_true, if_false, if_true, Nat.reduceBEq, seqK]
theorem b_lb1 (s : St) : LB X GV bC 1 s = LC X GV bC1 s := by
  simp only [bC, bC1, scC, codeTail, x99, LB_seq, LB_label, hasLab, Bool.or_false, Bool.false_eq_true, if_false, if_true, Nat.reduceBEq, seqK]
theorem b_lb2 (s : St) : LB X GV bC 2 s = LC X GV bC2 s := by
  simp only [bC, bC2, scC, codeTail, x99, LB_seq, LB_label, hasLab, Bool.or_false, Bool.false_eq_true, if_false, if_true, Nat.reduceBEq, seqK]
theorem b_lb3 (s : St) : LB X GV bC 3 s = LC X GV bC3 s := by
  simp only [bC, bC3, scC, codeTail, x99, LB_seq, LB_label, hasLab, Bool.or_false, Bool.false_eq_true, if_false, if_true, Nat.reduceBEq, seqK]
def EndB (hp : Heap) (k e : Nat) (r : Option (XExit × St)) : Prop := ∃ fr', r = some (.ret, ⟨fr', hp⟩) ∧ fget fr' 4 = .int .i64 (k : Nat) ∧ fget fr' 5 = .int .i64 (e : Nat)
theorem b_word (s : List UInt8) (hl : s.length ≤ 4611686018427387904) (hp : Heap) : ∀ (n e : Nat) (_ : e + n = s.length) (fr : List AV), fget fr 0 = .str s → fget fr 6 = .int .i64 (e : Nat) →
    EndB hp 3 (e + runL wcB (s.drop e)) (LJ X GV bC (some 0) ⟨fr, hp⟩) := by
  intro n
  induction n with
  | zero =>
    intro e he fr h0 h6
    have k1 : ((e : Int) < (s.length : Int)) = False := by simp; omega
    rw [runL_no _ _ _ (by omega), LJ_some, b_lb0]
    simp +contextual -implicitDefEqProofs (maxSteps := 10000000) only [bC0_run, codeTail, scC, x99, go_sem, ↓reduceIte, reduceCtorEq, Nat.reduceEqDiff, h0, h6, k1, LC_goto, jmpK_r]
    refine ⟨_, rfl, ?_, ?_⟩ <;> simp only [go_sem, ↓reduceIte, Nat.reduceEqDiff] <;> rfl
  | succ n ih =>
    intro e he fr h0 h6
    have k1 : ((e : Int) < (s.length : Int)) = True := by simp; omega
    have k2 : (e < s.length) = True := by simp; omega
    have w1 : wr .i64 ((e : Int) + 1) = ((e + 1 : Nat) : Int) := by rw [wr_i64 _ (by omega)]; omega
    obtain ⟨c, hc⟩ : ∃ c, s.getD e 0 = c := ⟨_, rfl⟩
    have hd := p_digit c
    have hy := runL_yes wcB s e (by omega)
    have hn := runL_no wcB s e
    rw [hc] at hy hn
    have go : wcB c = true → ∀ fr', fget fr' 0 = .str s → fget fr' 6 = .int .i64 ((e + 1 : Nat) : Int) → EndB hp 3 (e + runL wcB (s.drop e)) (LJ X GV bC (some 0) ⟨fr', hp⟩) := by
      intro hw fr' g0 g6
      rw [hy hw, show e + (runL wcB (s.drop (e + 1)) + 1) = e + 1 + runL wcB (s.drop (e + 1)) by omega]
      exact ih (e + 1) (by omega) fr' g0 g6
    have stop : wcB c = false → ∀ fr', fget fr' 4 = .int .i64 3 → fget fr' 5 = .int .i64 (e : Nat) → EndB hp 3 (e + runL wcB (s.drop e)) (some (.ret, ⟨fr', hp⟩)) := by
      intro hw fr' g4 g5
      rw [hn (fun _ => hw)]
      exact ⟨_, rfl, g4, g5⟩
    rw [LJ_some, b_lb0]
    by_cases a1 : 97 ≤ c.toNat
    · have e1 : ((97 : Int) ≤ (c.toNat : Int)) = True := by simp; omega
      by_cases a2 : c.toNat ≤ 122
      · have e2 : ((c.toNat : Int) ≤ 122) = True := by simp; omega
        simp +contextual -implicitDefEqProofs (maxSteps := 10000000) only [bC0_run, codeTail, scC, x99, go_sem, ↓reduceIte, reduceCtorEq, Nat.reduceEqDiff, h0, h6, k1, k2, w1, hc, e1, e2, LC_goto]
        refine go (by simp only [wcB, decide_eq_true_eq]; omega) _ ?_ ?_ <;> simp only [go_sem, ↓reduceIte, reduceCtorEq, h0]
      · have e2 : ((c.toNat : Int) ≤ 122) = False := by simp; omega
        have e3 : ((c.toNat : Int) = 95) = False := by simp; omega
        have e4 : dgB c = false := by simp [dgB]; omega
        rw [e4] at hd
        simp +contextual -implicitDefEqProofs (maxSteps := 10000000) only [bC0_run, codeTail, scC, x99, go_sem, ↓reduceIte, reduceCtorEq, Nat.reduceEqDiff, h0, h6, k1, k2, w1, hc, e1, e2, e3, hd, LC_goto, jmpK_r]
        refine stop (by simp only [wcB, decide_eq_false_iff_not]; omega) _ ?_ ?_ <;> simp only [go_sem, ↓reduceIte, Nat.reduceEqDiff]
    · have e1 : ((97 : Int) ≤ (c.toNat : Int)) = False := by simp; omega
      by_cases a2 : dgB c = true
      · have := (dgB_iff c).1 a2
        rw [a2] at hd
        simp +contextual -implicitDefEqProofs (maxSteps := 10000000) only [bC0_run, codeTail, scC, x99, go_sem, ↓reduceIte, reduceCtorEq, Nat.reduceEqDiff, h0, h6, k1, k2, w1, hc, e1, hd, LC_goto]
        refine go (by simp only [wcB, decide_eq_true_eq]; omega) _ ?_ ?_ <;> simp only [go_sem, ↓reduceIte, reduceCtorEq, h0]
      · have a3 : ¬ (48 ≤ c.toNat ∧ c.toNat ≤ 57) := fun h => a2 ((dgB_iff c).2 h)
        rw [Bool.not_eq_true] at a2
        rw [a2] at hd
        by_cases a4 : c.toNat = 95
        · have e3 : ((c.toNat : Int) = 95) = True := by simp; omega
          simp +contextual -implicitDefEqProofs (maxSteps := 10000000) only [bC0_run, codeTail, scC, x99, go_sem, ↓reduceIte, reduceCtorEq, Nat.reduceEqDiff, h0, h6, k1, k2, w1, hc, e1, e3, hd, LC_goto]
          refine go (by simp only [wcB, decide_eq_true_eq]; omega) _ ?_ ?_ <;> simp only [go_sem, ↓reduceIte, reduceCtorEq, h0]
        · have e3 : ((c.toNat : Int) = 95) = False := by simp; omega
          simp +contextual -implicitDefEqProofs (maxSteps := 10000000) only [bC0_run, codeTail, scC, x99, go_sem, ↓reduceIte, reduceCtorEq, Nat.reduceEqDiff, h0, h6, k1, k2, w1, hc, e1, e3, hd, LC_goto, jmpK_r]
          refine stop (by simp only [wcB, decide_eq_false_iff_not]; omega) _ ?_ ?_ <;> simp only [go_sem, ↓reduceIte, Nat.reduceEqDiff]
end Go.Proofs.YtjbgceogkgpjpaaGreatDoor.Sx.T
namespace Go.Proofs.YtjbgceogkgpjpaaGreatDoor.Sx.T
open Go Go.Proofs.YtjbgceogkgpjpaaGreatDoor.Sx
set_option maxRecDepth 100000
set_option maxHeartbeats 8000000
def DigF (s : List UInt8) (a k e : Nat) (fr : List AV) : Prop := fget fr 0 = .str s ∧ fget fr 1 = .int .i64 (a : Nat) ∧ fget fr 7 = .int .i64 (k : Nat) ∧ fget fr 6 = .int .i64 (e : Nat)
theorem b_dig (s : List UInt8) (hl : s.length ≤ 4611686018427387904) (hp : Heap) (a k : Nat) : ∀ (n e : Nat) (_ : e + n = s.length) (fr : List AV), DigF s a k e fr →
    ∃ fr', LJ X GV bC (some 1) ⟨fr, hp⟩ = LJ X GV bC (some 1) ⟨fr', hp⟩ ∧ DigF s a k (e + runL dgB (s.drop e)) fr' := by
  intro n
  induction n with
  | zero =>
    intro e he fr h
    exact ⟨fr, rfl, by rw [runL_no _ _ _ (by omega)]; exact h⟩
  | succ n ih =>
    intro e he fr h
    obtain ⟨c, hc⟩ : ∃ c, s.getD e 0 = c := ⟨_, rfl⟩
    have hy := runL_yes dgB s e (by omega)
    have hn := runL_no dgB s e
    rw [hc] at hy hn
    by_cases a1 : dgB c = true
    · obtain ⟨h0, h1, h7, h6⟩ := h
      have k1 : ((e : Int) < (s.length : Int)) = True := by simp; omega
      have k2 : (e < s.length) = True := by simp; omega
      have w1 : wr .i64 ((e : Int) + 1) = ((e + 1 : Nat) : Int) := by rw [wr_i64 _ (by omega)]; omega
      have hd := p_digit c
      rw [a1] at hd
      have go : ∀ fr1, DigF s a k (e + 1) fr1 → ∃ fr', LJ X GV bC (some 1) ⟨fr1, hp⟩ = LJ X GV bC (some 1) ⟨fr', hp⟩ ∧ DigF s a k (e + runL dgB (s.drop e)) fr' := by
        intro fr1 g
        rw [hy a1, show e + (runL dgB (s.drop (e + 1)) + 1) = e + 1 + runL dgB (s.drop (e + 1)) by omega]
        exact ih (e + 1) (by omega) fr1 g
      have st : ∃ fr1, LJ X GV bC (some 1) ⟨fr, hp⟩ = LJ X GV bC (some 1) ⟨fr1, hp⟩ ∧ DigF s a k (e + 1) fr1 := by
        rw [LJ_some, b_lb1]
        simp +contextual -implicitDefEqProofs (maxSteps := 10000000) only [bC1_run, codeTail, scC, x99, go_sem, ↓reduceIte, reduceCtorEq, Nat.reduceEqDiff, h0, h6, k1, k2, w1, hc, hd, LC_goto]
        refine ⟨_, rfl, ?_, ?_, ?_, ?_⟩ <;> simp only [go_sem, ↓reduceIte, reduceCtorEq, Nat.reduceEqDiff, h0, h1, h7]
      obtain ⟨fr1, e1, g⟩ := st
      rw [e1]
      exact go fr1 g
    · rw [Bool.not_eq_true] at a1
      exact ⟨fr, rfl, by rw [hn (fun _ => a1)]; exact h⟩
theorem b_dstop (s : List UInt8) (hl : s.length ≤ 4611686018427387904) (hp : Heap) (a k e : Nat) (ha : a ≤ e) (he : e ≤ s.length) (fr : List AV) (h : DigF s a k e fr) (hs : e < s.length → dgB (s.getD e 0) = false)
    (hk : k = 6 → e + 1 < s.length → s.getD e 0 = 47 → dgB (s.getD (e + 1) 0) = true → (posG 47 ((s.take e).drop a)).isSome = true) : EndB hp k e (LJ X GV bC (some 1) ⟨fr, hp⟩) := by
  obtain ⟨h0, h1, h7, h6⟩ := h
  obtain ⟨c, hc⟩ : ∃ c, s.getD e 0 = c := ⟨_, rfl⟩
  obtain ⟨d, hd⟩ : ∃ d, s.getD (e + 1) 0 = d := ⟨_, rfl⟩
  rw [hc] at hs hk
  rw [hd] at hk
  have pc := p_digit c
  have pd := p_digit d
  have w1 : wr .i64 ((e : Int) + 1) = ((e + 1 : Nat) : Int) := by rw [wr_i64 _ (by omega)]; omega
  have fin : ∀ fr', fget fr' 4 = .int .i64 (k : Nat) → fget fr' 5 = .int .i64 (e : Nat) → EndB hp k e (some (.ret, ⟨fr', hp⟩)) := fun fr' g4 g5 => ⟨_, rfl, g4, g5⟩
  rw [LJ_some, b_lb1]
  by_cases k6 : k = 6
  · have q6 : ((k : Int) = 6) = True := by simp; omega
    by_cases a1 : e < s.length
    · have k1 : ((e : Int) < (s.length : Int)) = True := by simp; omega
      have k2 : (e < s.length) = True := by simp; omega
      rw [hs a1] at pc
      by_cases a2 : e + 1 < s.length
      · have k3 : (((e + 1 : Nat) : Int) < (s.length : Int)) = True := by simp; omega
        have k4 : (e + 1 < s.length) = True := by simp; omega
        by_cases a3 : c = 47
        · have e3 : ((c.toNat : Int) = 47) = True := by rw [a3]; simp
          by_cases a4 : dgB d = true
          · have hh := hk k6 a2 a3 a4
            rw [a4] at pd
            have gh := g_has 47 ((s.take e).drop a)
            rw [hh] at gh
            have ss : sstrK (.str s) (some (.int .i64 (a : Nat))) (some (.int .i64 (e : Nat))) = some (.str ((s.take e).drop a)) := by
              rw [sstrK_two, if_pos ⟨ha, he⟩]
            simp +contextual -implicitDefEqProofs (maxSteps := 10000000) only [bC1_run, codeTail, scC, x99, go_sem, ↓reduceIte, reduceCtorEq, Nat.reduceEqDiff, h0, h1, h7, h6, k1, k2, k3, k4, w1, hc, hd, pc, pd, q6, e3, ss, gh, LC_goto, jmpK_r]
            refine fin _ ?_ ?_ <;> simp only [go_sem, ↓reduceIte, Nat.reduceEqDiff]
          · rw [Bool.not_eq_true] at a4
            rw [a4] at pd
            simp +contextual -implicitDefEqProofs (maxSteps := 10000000) only [bC1_run, codeTail, scC, x99, go_sem, ↓reduceIte, reduceCtorEq, Nat.reduceEqDiff, h0, h1, h7, h6, k1, k2, k3, k4, w1, hc, hd, pc, pd, q6, e3, LC_goto, jmpK_r]
            refine fin _ ?_ ?_ <;> simp only [go_sem, ↓reduceIte, Nat.reduceEqDiff]
        · have e3 : ((c.toNat : Int) = 47) = False := by
            simp only [eq_iff_iff, iff_false]
            intro h
            exact a3 (UInt8.toNat_inj.1 (by rw [show c.toNat = 47 by omega]; rfl))
          simp +contextual -implicitDefEqProofs (maxSteps := 10000000) only [bC1_run, codeTail, scC, x99, go_sem, ↓reduceIte, reduceCtorEq, Nat.reduceEqDiff, h0, h1, h7, h6, k1, k2, k3, w1, hc, pc, q6, e3, LC_goto, jmpK_r]
          refine fin _ ?_ ?_ <;> simp only [go_sem, ↓reduceIte, Nat.reduceEqDiff]
      · have k3 : (((e + 1 : Nat) : Int) < (s.length : Int)) = False := by simp; omega
        simp +contextual -implicitDefEqProofs (maxSteps := 10000000) only [bC1_run, codeTail, scC, x99, go_sem, ↓reduceIte, reduceCtorEq, Nat.reduceEqDiff, h0, h1, h7, h6, k1, k2, k3, w1, hc, pc, q6, LC_goto, jmpK_r]
        refine fin _ ?_ ?_ <;> simp only [go_sem, ↓reduceIte, Nat.reduceEqDiff]
    · have k1 : ((e : Int) < (s.length : Int)) = False := by simp; omega
      have k3 : (((e + 1 : Nat) : Int) < (s.length : Int)) = False := by simp; omega
      simp +contextual -implicitDefEqProofs (maxSteps := 10000000) only [bC1_run, codeTail, scC, x99, go_sem, ↓reduceIte, reduceCtorEq, Nat.reduceEqDiff, h0, h1, h7, h6, k1, k3, w1, q6, LC_goto, jmpK_r]
      refine fin _ ?_ ?_ <;> simp only [go_sem, ↓reduceIte, Nat.reduceEqDiff]
  · have q6 : ((k : Int) = 6) = False := by simp; omega
    by_cases a1 : e < s.length
    · have k1 : ((e : Int) < (s.length : Int)) = True := by simp; omega
      have k2 : (e < s.length) = True := by simp; omega
      rw [hs a1] at pc
      simp +contextual -implicitDefEqProofs (maxSteps := 10000000) only [bC1_run, codeTail, scC, x99, go_sem, ↓reduceIte, reduceCtorEq, Nat.reduceEqDiff, h0, h1, h7, h6, k1, k2, hc, pc, q6, LC_goto, jmpK_r]
      refine fin _ ?_ ?_ <;> simp only [go_sem, ↓reduceIte, Nat.reduceEqDiff]
    · have k1 : ((e : Int) < (s.length : Int)) = False := by simp; omega
      simp +contextual -implicitDefEqProofs (maxSteps := 10000000) only [bC1_run, codeTail, scC, x99, go_sem, ↓reduceIte, reduceCtorEq, Nat.reduceEqDiff, h0, h1, h7, h6, k1, q6, LC_goto, jmpK_r]
      refine fin _ ?_ ?_ <;> simp only [go_sem, ↓reduceIte, Nat.reduceEqDiff]
theorem b_dgo (s : List UInt8) (hl : s.length ≤ 4611686018427387904) (hp : Heap) (a e : Nat) (ha : a ≤ e) (fr : List AV) (h : DigF s a 6 e fr) (he : e + 1 < s.length) (hc : s.getD e 0 = 47) (hd1 : dgB (s.getD (e + 1) 0) = true)
    (hk : (posG 47 ((s.take e).drop a)).isSome = false) : ∃ fr', LJ X GV bC (some 1) ⟨fr, hp⟩ = LJ X GV bC (some 1) ⟨fr', hp⟩ ∧ DigF s a 6 (e + 1) fr' := by
  obtain ⟨h0, h1, h7, h6⟩ := h
  obtain ⟨d, hd⟩ : ∃ d, s.getD (e + 1) 0 = d := ⟨_, rfl⟩
  rw [hd] at hd1
  have pc := p_digit 47
  rw [show dgB 47 = false by decide] at pc
  have pd := p_digit d
  rw [hd1] at pd
  have w1 : wr .i64 ((e : Int) + 1) = ((e + 1 : Nat) : Int) := by rw [wr_i64 _ (by omega)]; omega
  have k1 : ((e : Int) < (s.length : Int)) = True := by simp; omega
  have k2 : (e < s.length) = True := by simp; omega
  have k3 : (((e + 1 : Nat) : Int) < (s.length : Int)) = True := by simp; omega
  have k4 : (e + 1 < s.length) = True := by simp; omega
  have e3 : (((47 : UInt8).toNat : Int) = 47) = True := by simp
  have q6 : (((6 : Nat) : Int) = 6) = True := by simp
  have gh := g_has 47 ((s.take e).drop a)
  rw [hk] at gh
  have ss : sstrK (.str s) (some (.int .i64 (a : Nat))) (some (.int .i64 (e : Nat))) = some (.str ((s.take e).drop a)) := by
    rw [sstrK_two, if_pos ⟨ha, by omega⟩]
  rw [LJ_some, b_lb1]
  simp +contextual -implicitDefEqProofs (maxSteps := 10000000) only [bC1_run, codeTail, scC, x99, go_sem, ↓reduceIte, reduceCtorEq, Nat.reduceEqDiff, h0, h1, h7, h6, k1, k2, k3, k4, w1, hc, hd, pc, pd, q6, e3, ss, gh, LC_goto]
  refine ⟨_, rfl, ?_, ?_, ?_, ?_⟩ <;> simp only [go_sem, ↓reduceIte, reduceCtorEq, Nat.reduceEqDiff, h0, h1, h7]
def quoL : List UInt8 → Option Nat
  | [] => none
  | c :: r => if c = 34 then some 1 else if c = 92 then (match r with | [] => none | _ :: r' => (quoL r').map (· + 2)) else (quoL r).map (· + 1)
theorem quoL_cons (c : UInt8) (r : List UInt8) : quoL (c :: r) = if c = 34 then some 1 else if c = 92 then (quoL (r.drop 1)).map (· + 2) else (quoL r).map (· + 1) := by
  cases r with
  | nil => rw [quoL.eq_def]; rfl
  | cons d r => rw [quoL.eq_def]; rfl
def EndO (hp : Heap) (k e : Nat) (o : Option Nat) (r : Option (XExit × St)) : Prop := EndB hp (match o with | some _ => k | none => 0) (match o with | some n => e + n | none => 0) r
theorem EndO_up {hp : Heap} {k e m : Nat} {o : Option Nat} {r : Option (XExit × St)} (h : EndO hp k (e + m) o r) : EndO hp k e (o.map (· + m)) r := by
  unfold EndO at h ⊢
  cases o with
  | none => exact h
  | some n =>
    simp only [Option.map_some] at h ⊢
    rw [show e + (n + m) = e + m + n by omega]
    exact h
theorem b_quo (s : List UInt8) (hl : s.length ≤ 4611686018427387904) (hp : Heap) : ∀ (n e : Nat) (_ : s.length ≤ e + n) (_ : e ≤ s.length + 1) (fr : List AV), fget fr 0 = .str s → fget fr 6 = .int .i64 (e : Nat) →
    EndO hp 6 e (quoL (s.drop e)) (LJ X GV bC (some 3) ⟨fr, hp⟩) := by
  have none0 : ∀ e, s.length ≤ e → e ≤ s.length + 1 → ∀ fr, fget fr 0 = .str s → fget fr 6 = .int .i64 (e : Nat) → EndO hp 6 e (quoL (s.drop e)) (LJ X GV bC (some 3) ⟨fr, hp⟩) := by
    intro e he he2 fr h0 h6
    have k1 : ((s.length : Int) ≤ (e : Int)) = True := by simp; omega
    rw [List.drop_of_length_le he, LJ_some, b_lb3]
    simp +contextual -implicitDefEqProofs (maxSteps := 10000000) only [bC3_run, codeTail, scC, x99, go_sem, ↓reduceIte, reduceCtorEq, Nat.reduceEqDiff, h0, h6, k1, jmpK_r]
    refine ⟨_, rfl, ?_, ?_⟩ <;> simp only [go_sem, ↓reduceIte, Nat.reduceEqDiff] <;> rfl
  intro n
  induction n using Nat.strongRecOn with
  | ind n ih =>
    intro e he he2 fr h0 h6
    by_cases a1 : e < s.length
    · have k1 : ((s.length : Int) ≤ (e : Int)) = False := by simp; omega
      have k2 : (e < s.length) = True := by simp; omega
      have w1 : wr .i64 ((e : Int) + 1) = ((e + 1 : Nat) : Int) := by rw [wr_i64 _ (by omega)]; omega
      have w2 : wr .i64 (((e + 1 : Nat) : Int) + 1) = ((e + 2 : Nat) : Int) := by rw [wr_i64 _ (by omega)]; omega
      obtain ⟨c, hc⟩ : ∃ c, s.getD e 0 = c := ⟨_, rfl⟩
      have hdr : s.drop e = c :: s.drop (e + 1) := by
        rw [List.drop_eq_getElem_cons a1]
        simp [List.getD, a1] at hc
        rw [hc]
      rw [hdr, quoL_cons]
      by_cases b1 : c = 34
      · have e1 : ((c.toNat : Int) = 34) = True := by rw [b1]; simp
        rw [if_pos b1, LJ_some, b_lb3]
        simp +contextual -implicitDefEqProofs (maxSteps := 10000000) only [bC3_run, codeTail, scC, x99, go_sem, ↓reduceIte, reduceCtorEq, Nat.reduceEqDiff, Int.reduceBNe, h0, h6, k1, k2, w1, hc, e1, LC_goto, jmpK_r]
        refine ⟨_, rfl, ?_, ?_⟩ <;> simp only [go_sem, ↓reduceIte, Nat.reduceEqDiff] <;> rfl
      · have e1 : ((c.toNat : Int) = 34) = False := by
          simp only [eq_iff_iff, iff_false]
          intro h
          exact b1 (UInt8.toNat_inj.1 (by rw [show c.toNat = 34 by omega]; rfl))
        rw [if_neg b1]
        by_cases b2 : c = 92
        · have e2 : ((c.toNat : Int) = 92) = True := by rw [b2]; simp
          rw [if_pos b2]
          rw [List.drop_drop, show e + 1 + 1 = e + 2 by omega]
          refine EndO_up ?_
          rw [LJ_some, b_lb3]
          simp +contextual -implicitDefEqProofs (maxSteps := 10000000) only [bC3_run, codeTail, scC, x99, go_sem, ↓reduceIte, reduceCtorEq, Nat.reduceEqDiff, h0, h6, k1, k2, w1, w2, hc, e1, e2, LC_goto]
          by_cases b3 : s.length ≤ e + 2
          · refine none0 (e + 2) b3 (by omega) _ ?_ ?_ <;> simp only [go_sem, ↓reduceIte, reduceCtorEq, h0]
          · refine ih (n - 2) (by omega) (e + 2) (by omega) (by omega) _ ?_ ?_ <;> simp only [go_sem, ↓reduceIte, reduceCtorEq, h0]
        · have e2 : ((c.toNat : Int) = 92) = False := by
            simp only [eq_iff_iff, iff_false]
            intro h
            exact b2 (UInt8.toNat_inj.1 (by rw [show c.toNat = 92 by omega]; rfl))
          rw [if_neg b2]
          refine EndO_up ?_
          rw [LJ_some, b_lb3]
          simp +contextual -implicitDefEqProofs (maxSteps := 10000000) only [bC3_run, codeTail, scC, x99, go_sem, ↓reduceIte, reduceCtorEq, Nat.reduceEqDiff, h0, h6, k1, k2, w1, hc, e1, e2, LC_goto]
          refine ih (n - 1) (by omega) (e + 1) (by omega) (by omega) _ ?_ ?_ <;> simp only [go_sem, ↓reduceIte, reduceCtorEq, h0]
    · exact none0 e (by omega) he2 fr h0 h6
def braL : List UInt8 → Option Nat
  | [] => none
  | c :: r => if c = 93 then some 1 else (braL r).map (· + 1)
theorem b_bra (s : List UInt8) (hl : s.length ≤ 4611686018427387904) (hp : Heap) : ∀ (n e : Nat) (_ : e + n = s.length) (fr : List AV), fget fr 0 = .str s → fget fr 6 = .int .i64 (e : Nat) →
    EndO hp 5 e (braL (s.drop e)) (LJ X GV bC (some 2) ⟨fr, hp⟩) := by
  intro n
  induction n with
  | zero =>
    intro e he fr h0 h6
    have k1 : ((e : Int) = (s.length : Int)) = True := by simp; omega
    rw [List.drop_of_length_le (by omega), LJ_some, b_lb2]
    simp +contextual -implicitDefEqProofs (maxSteps := 10000000) only [bC2_run, codeTail, scC, x99, go_sem, ↓reduceIte, reduceCtorEq, Nat.reduceEqDiff, h0, h6, k1, jmpK_r]
    refine ⟨_, rfl, ?_, ?_⟩ <;> simp only [go_sem, ↓reduceIte, Nat.reduceEqDiff] <;> rfl
  | succ n ih =>
    intro e he fr h0 h6
    have a1 : e < s.length := by omega
    have k1 : ((e : Int) = (s.length : Int)) = False := by simp; omega
    have k2 : (e < s.length) = True := by simp; omega
    have w1 : wr .i64 ((e : Int) + 1) = ((e + 1 : Nat) : Int) := by rw [wr_i64 _ (by omega)]; omega
    have w2 : wr .i64 (((e + 1 : Nat) : Int) - 1) = (e : Nat) := by rw [wr_i64 _ (by omega)]; omega
    obtain ⟨c, hc⟩ : ∃ c, s.getD e 0 = c := ⟨_, rfl⟩
    have hdr : s.drop e = c :: s.drop (e + 1) := by
      rw [List.drop_eq_getElem_cons a1]
      simp [List.getD, a1] at hc
      rw [hc]
    rw [hdr, braL]
    by_cases b1 : c = 93
    · have e1 : ((c.toNat : Int) = 93) = True := by rw [b1]; simp
      rw [if_pos b1, LJ_some, b_lb2]
      simp +contextual -implicitDefEqProofs (maxSteps := 10000000) only [bC2_run, codeTail, scC, x99, go_sem, ↓reduceIte, reduceCtorEq, Nat.reduceEqDiff, h0, h6, k1, k2, w1, w2, hc, e1, LC_goto, jmpK_r]
      refine ⟨_, rfl, ?_, ?_⟩ <;> simp only [go_sem, ↓reduceIte, Nat.reduceEqDiff] <;> rfl
    · have e1 : ((c.toNat : Int) = 93) = False := by
        simp only [eq_iff_iff, iff_false]
        intro h
        exact b1 (UInt8.toNat_inj.1 (by rw [show c.toNat = 93 by omega]; rfl))
      rw [if_neg b1]
      refine EndO_up ?_
      rw [LJ_some, b_lb2]
      simp +contextual -implicitDefEqProofs (maxSteps := 10000000) only [bC2_run, codeTail, scC, x99, go_sem, ↓reduceIte, reduceCtorEq, Nat.reduceEqDiff, h0, h6, k1, k2, w1, w2, hc, e1, LC_goto]
      refine ih (e + 1) (by omega) _ ?_ ?_ <;> simp only [go_sem, ↓reduceIte, reduceCtorEq, Nat.reduceEqDiff, h0]
end Go.Proofs.YtjbgceogkgpjpaaGreatDoor.Sx.T
namespace Go.Proofs.YtjbgceogkgpjpaaGreatDoor.Sx.T
open Go Go.Proofs.YtjbgceogkgpjpaaGreatDoor.Sx
set_option maxRecDepth 100000
set_option maxHeartbeats 8000000
theorem runL_le (p : UInt8 → Bool) : ∀ l : List UInt8, runL p l ≤ l.length
  | [] => by simp [runL]
  | c :: r => by
    have := runL_le p r
    rw [runL]
    split <;> simp <;> omega
theorem runL_at (p : UInt8 → Bool) : ∀ (l : List UInt8) (i : Nat), i < runL p l → p (l.getD i 0) = true
  | [], i, h => by simp [runL] at h
  | c :: r, i, h => by
    rw [runL] at h
    split at h
    · cases i with
      | zero => simpa using by assumption
      | succ i => simpa using runL_at p r i (by omega)
    · omega
theorem runL_stop (p : UInt8 → Bool) : ∀ (l : List UInt8), runL p l < l.length → p (l.getD (runL p l) 0) = false
  | [], h => by simp [runL] at h
  | c :: r, h => by
    rw [runL] at h ⊢
    split
    · rename_i hc
      rw [if_pos hc] at h
      simpa using runL_stop p r (by simpa using h)
    · rename_i hc
      simpa using hc
theorem getD_drop (s : List UInt8) (a i : Nat) : (s.drop a).getD i 0 = s.getD (a + i) 0 := by
  simp [List.getD, List.getElem?_drop]
theorem posG_none (q : UInt8) (l : List UInt8) : (posG q l).isSome = false ↔ ∀ i, i < l.length → l.getD i 0 ≠ q := by
  unfold posG
  rw [Option.isSome_eq_false_iff, Option.isNone_iff_eq_none, List.findIdx?_eq_none_iff]
  constructor
  · intro h i hi
    have := h l[i] (List.getElem_mem hi)
    simpa [List.getD, hi] using this
  · intro h x hx
    obtain ⟨i, hi, rfl⟩ := List.mem_iff_getElem.1 hx
    have := h i hi
    simpa [List.getD, hi] using this
theorem sub_getD (s : List UInt8) (a e i : Nat) (h : a + i < e) : ((s.take e).drop a).getD i 0 = s.getD (a + i) 0 := by
  simp [List.getD, h]
def fracL (r : List UInt8) (n : Nat) : Bool := (r.getD n 0 == 47) && dgB (r.getD (n + 1) 0)
def numL (r : List UInt8) : Nat := if fracL r (1 + runL dgB (r.drop 1)) = true then 1 + runL dgB (r.drop 1) + 1 + runL dgB (r.drop (1 + runL dgB (r.drop 1) + 1)) else 1 + runL dgB (r.drop 1)
theorem dgB0 : dgB 0 = false := by decide
theorem getD_lt (s : List UInt8) (i : Nat) (h : s.getD i 0 ≠ 0) : i < s.length := by
  rcases Nat.lt_or_ge i s.length with c | c
  · exact c
  · exact absurd (by simp [List.getD, c]) h
theorem b_num (s : List UInt8) (hl : s.length ≤ 4611686018427387904) (hp : Heap) (a : Nat) (ha : a < s.length) (h47 : s.getD a 0 ≠ 47) (fr : List AV) (h : DigF s a 6 (a + 1) fr) :
    EndB hp 6 (a + numL (s.drop a)) (LJ X GV bC (some 1) ⟨fr, hp⟩) := by
  obtain ⟨fr1, e1, h1⟩ := b_dig s hl hp a 6 (s.length - (a + 1)) (a + 1) (by omega) fr h
  rw [e1]
  have hd : (s.drop a).drop 1 = s.drop (a + 1) := by rw [List.drop_drop]
  obtain ⟨m, hm⟩ : ∃ m, runL dgB (s.drop (a + 1)) = m := ⟨_, rfl⟩
  have hle := runL_le dgB (s.drop (a + 1))
  have hst := runL_stop dgB (s.drop (a + 1))
  have hat := runL_at dgB (s.drop (a + 1))
  rw [hm] at h1 hle hst hat
  rw [List.length_drop] at hle hst
  rw [getD_drop] at hst
  have hno : (posG 47 ((s.take (a + 1 + m)).drop a)).isSome = false := by
    rw [posG_none]
    intro i hi
    simp only [List.length_drop, List.length_take] at hi
    rw [sub_getD _ _ _ _ (by omega)]
    rcases Nat.eq_zero_or_pos i with rfl | hi0
    · exact h47
    · have := hat (i - 1) (by omega)
      rw [getD_drop, show a + 1 + (i - 1) = a + i by omega] at this
      intro h
      rw [h] at this
      exact absurd this (by decide)
  have hfr : fracL (s.drop a) (1 + m) = ((s.getD (a + 1 + m) 0 == 47) && dgB (s.getD (a + 1 + m + 1) 0)) := by
    unfold fracL
    rw [getD_drop, getD_drop, show a + (1 + m) = a + 1 + m by omega, show a + (1 + m + 1) = a + 1 + m + 1 by omega]
  unfold numL
  rw [hd, hm, hfr]
  by_cases hf : ((s.getD (a + 1 + m) 0 == 47) && dgB (s.getD (a + 1 + m + 1) 0)) = true
  · rw [if_pos hf]
    rw [Bool.and_eq_true, beq_iff_eq] at hf
    have hlt : a + 1 + m + 1 < s.length := getD_lt s _ (fun h0 => by rw [h0] at hf; exact absurd hf.2 (by decide))
    obtain ⟨fr2, e2, h2⟩ := b_dgo s hl hp a (a + 1 + m) (by omega) fr1 h1 hlt hf.1 hf.2 hno
    rw [e2]
    obtain ⟨fr3, e3, h3⟩ := b_dig s hl hp a 6 (s.length - (a + 1 + m + 1)) (a + 1 + m + 1) (by omega) fr2 h2
    rw [e3]
    have hd2 : (s.drop a).drop (1 + m + 1) = s.drop (a + 1 + m + 1) := by rw [List.drop_drop, show a + (1 + m + 1) = a + 1 + m + 1 by omega]
    rw [hd2]
    obtain ⟨j, hj⟩ : ∃ j, runL dgB (s.drop (a + 1 + m + 1)) = j := ⟨_, rfl⟩
    have hle2 := runL_le dgB (s.drop (a + 1 + m + 1))
    have hst2 := runL_stop dgB (s.drop (a + 1 + m + 1))
    rw [hj] at h3 hle2 hst2
    rw [List.length_drop] at hle2 hst2
    rw [getD_drop] at hst2
    rw [hj]
    have := b_dstop s hl hp a 6 (a + 1 + m + 1 + j) (by omega) (by omega) fr3 h3 (fun hh => hst2 (by omega)) (fun _ _ _ _ => by
      rw [← Bool.not_eq_false]
      intro hh
      rw [posG_none] at hh
      refine hh (1 + m) (by simp only [List.length_drop, List.length_take]; omega) ?_
      rw [sub_getD _ _ _ _ (by omega), show a + (1 + m) = a + 1 + m by omega]
      exact hf.1)
    rw [show a + (1 + m + 1 + j) = a + 1 + m + 1 + j by omega]
    exact this
  · rw [if_neg hf]
    have := b_dstop s hl hp a 6 (a + 1 + m) (by omega) (by omega) fr1 h1 (fun hh => hst (by omega)) (fun _ _ h3 h4 => by
      exact absurd (by rw [Bool.and_eq_true, beq_iff_eq]; exact ⟨h3, h4⟩) hf)
    rw [show a + (1 + m) = a + 1 + m by omega]
    exact this
def kl : List UInt8 → Nat × Nat
  | [] => (0, 0)
  | c :: r => if c = 40 then (1, 1) else if c = 41 then (2, 1) else if smB c = true then (3, 1 + runL wcB r)
    else if dgB c = true ∨ (c = 45 ∧ dgB (r.getD 0 0) = true) then (6, numL (c :: r))
    else if c = 60 ∧ r.getD 0 0 = 61 then (4, 2) else if sgn c = true then (4, 1)
    else if c = 91 then (match braL r with | some n => (5, n + 1) | none => (0, 0))
    else if c = 34 then (match quoL r with | some n => (6, n + 1) | none => (0, 0))
    else if c = 64 then (7, 1 + runL dgB r) else (0, 0)
def endOf (a : Nat) (q : Nat × Nat) : Nat := if q.1 = 0 then 0 else a + q.2
theorem bFn : x99 = ⟨184, [.tmp 4, .tmp 5], .seq (.region false [⟨some 4, .mov (.cst (.int .i64 0)), none⟩, ⟨some 5, .mov (.cst (.int .i64 0)), none⟩] []) (.scope bC)⟩ := rfl
theorem EndB_fin {hp : Heap} {k e : Nat} {r : Option (XExit × St)} (h : EndB ([] :: hp) k e r) : finK [.tmp 4, .tmp 5] r = some (.tup [.int .i64 (k : Nat), .int .i64 (e : Nat)], hp) := by
  obtain ⟨fr', rfl, h4, h5⟩ := h
  simp +contextual -implicitDefEqProofs (maxSteps := 10000000) only [go_sem, ↓reduceIte, Nat.reduceAdd, h4, h5]
theorem u8n (c : UInt8) (n : Nat) (hn : n < 256) : c = UInt8.ofNat n ↔ c.toNat = n := by
  constructor
  · rintro rfl
    simp [Nat.mod_eq_of_lt hn]
  · rintro rfl
    simp
theorem b_time (s : List UInt8) (hl : s.length ≤ 4611686018427387904) (hp : Heap) (a : Nat) (ha : a < s.length) (fr : List AV) (h : DigF s a 7 (a + 1) fr) :
    EndB hp 7 (a + 1 + runL dgB (s.drop (a + 1))) (LJ X GV bC (some 1) ⟨fr, hp⟩) := by
  obtain ⟨fr1, e1, h1⟩ := b_dig s hl hp a 7 (s.length - (a + 1)) (a + 1) (by omega) fr h
  have hle := runL_le dgB (s.drop (a + 1))
  have hst := runL_stop dgB (s.drop (a + 1))
  rw [List.length_drop] at hle hst
  rw [getD_drop] at hst
  rw [e1]
  exact b_dstop s hl hp a 7 _ (by omega) (by omega) fr1 h1 (fun hh => hst (by omega)) (fun h => by omega)
theorem p_behind (s : List UInt8) (hl : s.length ≤ 4611686018427387904) (a : Nat) (ha : a < s.length) (hp : Heap) :
    CL X GV 99 [.str s, .int .i64 (a : Nat)] hp = some (.tup [.int .i64 ((kl (s.drop a)).1 : Nat), .int .i64 (endOf a (kl (s.drop a)) : Nat)], hp) := by
  have k2 : (a < s.length) = True := by simp; omega
  have w1 : wr .i64 ((a : Int) + 1) = ((a + 1 : Nat) : Int) := by rw [wr_i64 _ (by omega)]; omega
  have w2 : wr .i64 (((a + 1 : Nat) : Int) + 1) = ((a + 2 : Nat) : Int) := by rw [wr_i64 _ (by omega)]; omega
  obtain ⟨c, hc⟩ : ∃ c, s.getD a 0 = c := ⟨_, rfl⟩
  obtain ⟨d, hd⟩ : ∃ d, s.getD (a + 1) 0 = d := ⟨_, rfl⟩
  have hdr : s.drop a = c :: s.drop (a + 1) := by
    rw [List.drop_eq_getElem_cons ha]
    simp [List.getD, ha] at hc
    rw [hc]
  have hr0 : (s.drop (a + 1)).getD 0 0 = d := by rw [getD_drop, ← hd, Nat.add_zero]
  have hw := fun fr g0 g6 => b_word s hl ([] :: hp) (s.length - (a + 1)) (a + 1) (by omega) fr g0 g6
  have hn := fun h47 fr h => b_num s hl ([] :: hp) a ha h47 fr h
  have ht := fun fr h => b_time s hl ([] :: hp) a ha fr h
  have hq := fun fr g0 g6 => b_quo s hl ([] :: hp) (s.length - (a + 1)) (a + 1) (by omega) (by omega) fr g0 g6
  have hb := fun fr g0 g6 => b_bra s hl ([] :: hp) (s.length - (a + 1)) (a + 1) (by omega) fr g0 g6
  obtain ⟨sd, hsd⟩ : ∃ sd, s.drop (a + 1) = sd := ⟨_, rfl⟩
  rw [hdr] at hn ⊢
  rw [hsd] at hr0 hw hn ht hq hb ⊢
  rw [hc] at hn
  have pc := p_digit c
  have pd := p_digit d
  obtain ⟨z, hz, hz0⟩ := g_sgn c
  rw [CL_eq (fn := x99) rfl, bFn]
  simp +contextual -implicitDefEqProofs (maxSteps := 10000000) only [go_sem, ↓reduceIte, LC_scope]
  rw [LJ_none, bC_run]
  have hkl : kl (c :: sd) = if c = 40 then (1, 1) else if c = 41 then (2, 1) else if smB c = true then (3, 1 + runL wcB sd)
    else if dgB c = true ∨ (c = 45 ∧ dgB d = true) then (6, numL (c :: sd))
    else if c = 60 ∧ d = 61 then (4, 2) else if sgn c = true then (4, 1)
    else if c = 91 then (match braL sd with | some n => (5, n + 1) | none => (0, 0))
    else if c = 34 then (match quoL sd with | some n => (6, n + 1) | none => (0, 0))
    else if c = 64 then (7, 1 + runL dgB sd) else (0, 0) := by rw [kl, hr0]
  rw [hkl]
  have h40 : c = 40 ↔ c.toNat = 40 := u8n c 40 (by decide)
  have h41 : c = 41 ↔ c.toNat = 41 := u8n c 41 (by decide)
  have h45 : c = 45 ↔ c.toNat = 45 := u8n c 45 (by decide)
  have h60 : c = 60 ↔ c.toNat = 60 := u8n c 60 (by decide)
  have h91 : c = 91 ↔ c.toNat = 91 := u8n c 91 (by decide)
  have h34 : c = 34 ↔ c.toNat = 34 := u8n c 34 (by decide)
  have h64 : c = 64 ↔ c.toNat = 64 := u8n c 64 (by decide)
  have h61 : d = 61 ↔ d.toNat = 61 := u8n d 61 (by decide)
  have enE : ∀ k n : Nat, k ≠ 0 → endOf a (k, n) = a + n := fun k n h => by simp only [endOf, if_neg h]
  have n1 : ((1 : Nat) : Int) = 1 := rfl
  have n2 : ((2 : Nat) : Int) = 2 := rfl
  have n4 : ((4 : Nat) : Int) = 4 := rfl
  have n0 : ((0 : Nat) : Int) = 0 := rfl
  by_cases c40 : c.toNat = 40
  · have e40 : ((c.toNat : Int) = 40) = True := by simp; omega
    rw [if_pos (h40.2 c40), enE _ _ (by decide)]
    simp +contextual -implicitDefEqProofs (maxSteps := 10000000) only [scC, x99, go_sem, ↓reduceIte, reduceCtorEq, Nat.reduceEqDiff, Nat.reduceAdd, Int.reduceBEq, k2, w1, hc, LC_goto, jmpK_r, e40, n1]
  have e40 : ((c.toNat : Int) = 40) = False := by simp; omega
  rw [if_neg (fun h => c40 (h40.1 h))]
  by_cases c41 : c.toNat = 41
  · have e41 : ((c.toNat : Int) = 41) = True := by simp; omega
    rw [if_pos (h41.2 c41), enE _ _ (by decide)]
    simp +contextual -implicitDefEqProofs (maxSteps := 10000000) only [scC, x99, go_sem, ↓reduceIte, reduceCtorEq, Nat.reduceEqDiff, Nat.reduceAdd, k2, w1, hc, LC_goto, jmpK_r, e40, e41, n2]
  have e41 : ((c.toNat : Int) = 41) = False := by simp; omega
  rw [if_neg (fun h => c41 (h41.1 h))]
  by_cases csm : 97 ≤ c.toNat ∧ c.toNat ≤ 122
  · have e97 : ((97 : Int) ≤ (c.toNat : Int)) = True := by simp; omega
    have e122 : ((c.toNat : Int) ≤ 122) = True := by simp; omega
    rw [if_pos (by simpa [smB] using csm), enE _ _ (by decide), show a + (1 + runL wcB sd) = a + 1 + runL wcB sd by omega]
    simp +contextual -implicitDefEqProofs (maxSteps := 10000000) only [scC, x99, go_sem, ↓reduceIte, reduceCtorEq, Nat.reduceEqDiff, k2, w1, hc, LC_goto, e40, e41, e97, e122]
    refine EndB_fin (hw _ ?_ ?_) <;> simp only [go_sem, ↓reduceIte, reduceCtorEq, Nat.reduceEqDiff]
  rw [if_neg (by simpa [smB] using csm)]
  by_cases c97 : 97 ≤ c.toNat
  · have e97 : ((97 : Int) ≤ (c.toNat : Int)) = True := by simp; omega
    have e122 : ((c.toNat : Int) ≤ 122) = False := by simp; omega
    have e45 : ((c.toNat : Int) = 45) = False := by simp; omega
    have e60 : ((c.toNat : Int) = 60) = False := by simp; omega
    have e91 : ((c.toNat : Int) = 91) = False := by simp; omega
    have e34 : ((c.toNat : Int) = 34) = False := by simp; omega
    have e64 : ((c.toNat : Int) = 64) = False := by simp; omega
    have dz : dgB c = false := by rw [← Bool.not_eq_true, dgB_iff]; omega
    have sz : sgn c = false := by
      have g61 : c = 61 ↔ c.toNat = 61 := u8n c 61 (by decide)
      have g43 : c = 43 ↔ c.toNat = 43 := u8n c 43 (by decide)
      have g42 : c = 42 ↔ c.toNat = 42 := u8n c 42 (by decide)
      simp only [sgn, Bool.or_eq_false_iff, beq_eq_false_iff_ne, ne_eq, g61, g43, g42, h60, h45]
      omega
    rw [dz] at pc
    have ez : ((0 : Int) ≤ z) = False := by rw [hz0, sz]; simp
    rw [if_neg (by rw [dz, h45]; simp; omega), if_neg (by rw [h60]; omega), if_neg (by rw [sz]; simp), if_neg (by rw [h91]; omega), if_neg (by rw [h34]; omega), if_neg (by rw [h64]; omega)]
    simp +contextual -implicitDefEqProofs (maxSteps := 10000000) only [scC, x99, go_sem, ↓reduceIte, reduceCtorEq, Nat.reduceEqDiff, Nat.reduceAdd, k2, w1, w2, hc, LC_goto, jmpK_r, e40, e41, e97, e122, pc, e45, e60, hz, ez, e91, e34, e64]
    try rfl
  have e97 : ((97 : Int) ≤ (c.toNat : Int)) = False := by simp; omega
  by_cases cdg : dgB c = true
  · have hz47 : c ≠ 47 := by rintro rfl; exact absurd cdg (by decide)
    rw [if_pos (.inl cdg), enE _ _ (by decide)]
    rw [cdg] at pc
    simp +contextual -implicitDefEqProofs (maxSteps := 10000000) only [scC, x99, go_sem, ↓reduceIte, reduceCtorEq, Nat.reduceEqDiff, Int.reduceBEq, k2, w1, w2, hc, hd, LC_goto, e40, e41, e97, pc]
    refine EndB_fin (hn hz47 _ ⟨?_, ?_, ?_, ?_⟩) <;> simp only [go_sem, ↓reduceIte, reduceCtorEq, Nat.reduceEqDiff] <;> rfl
  have pc0 := pc
  rw [Bool.not_eq_true] at cdg
  rw [cdg] at pc
  clear pc0
  by_cases c45 : c.toNat = 45
  · have e45 : ((c.toNat : Int) = 45) = True := by simp; omega
    have e60 : ((c.toNat : Int) = 60) = False := by simp; omega
    have ez : ((0 : Int) ≤ z) = True := by rw [hz0, h45.2 c45]; simp [sgn]
    have sz : sgn c = true := by rw [h45.2 c45]; decide
    by_cases cd : dgB d = true
    · have ha1 : a + 1 < s.length := getD_lt s _ (fun h0 => by rw [hd] at h0; rw [h0] at cd; exact absurd cd (by decide))
      have k3 : (((a + 1 : Nat) : Int) < (s.length : Int)) = True := by simp; omega
      have k4 : (a + 1 < s.length) = True := by simp; omega
      have hz47 : c ≠ 47 := by rintro rfl; exact absurd c45 (by decide)
      rw [cd] at pd
      rw [if_pos (.inr ⟨h45.2 c45, cd⟩), enE _ _ (by decide)]
      simp +contextual -implicitDefEqProofs (maxSteps := 10000000) only [scC, x99, go_sem, ↓reduceIte, reduceCtorEq, Nat.reduceEqDiff, Int.reduceBEq, k2, w1, w2, hc, hd, LC_goto, e40, e41, e97, pc, e45, k3, k4, pd]
      refine EndB_fin (hn hz47 _ ⟨?_, ?_, ?_, ?_⟩) <;> simp only [go_sem, ↓reduceIte, reduceCtorEq, Nat.reduceEqDiff] <;> rfl
    · rw [Bool.not_eq_true] at cd
      rw [cd] at pd
      rw [if_neg (by rw [cdg, cd]; simp), if_neg (by rw [h60]; omega), if_pos sz, enE _ _ (by decide)]
      by_cases ha1 : a + 1 < s.length
      · have k3 : (((a + 1 : Nat) : Int) < (s.length : Int)) = True := by simp; omega
        have k4 : (a + 1 < s.length) = True := by simp; omega
        simp +contextual -implicitDefEqProofs (maxSteps := 10000000) only [scC, x99, go_sem, ↓reduceIte, reduceCtorEq, Nat.reduceEqDiff, Nat.reduceAdd, Int.reduceBEq, k2, w1, w2, hc, hd, LC_goto, jmpK_r, e40, e41, e97, pc, e45, e60, k3, k4, pd, hz, ez, n4]
      · have k3 : (((a + 1 : Nat) : Int) < (s.length : Int)) = False := by simp; omega
        simp +contextual -implicitDefEqProofs (maxSteps := 10000000) only [scC, x99, go_sem, ↓reduceIte, reduceCtorEq, Nat.reduceEqDiff, Nat.reduceAdd, Int.reduceBEq, k2, w1, w2, hc, LC_goto, jmpK_r, e40, e41, e97, pc, e45, e60, k3, hz, ez, n4]
  have e45 : ((c.toNat : Int) = 45) = False := by simp; omega
  rw [if_neg (by rw [cdg, h45]; simp; omega)]
  by_cases c60 : c.toNat = 60
  · have e60 : ((c.toNat : Int) = 60) = True := by simp; omega
    have ez : ((0 : Int) ≤ z) = True := by rw [hz0, h60.2 c60]; simp [sgn]
    have sz : sgn c = true := by rw [h60.2 c60]; decide
    by_cases cd : d.toNat = 61
    · have ha1 : a + 1 < s.length := getD_lt s _ (fun h0 => by rw [hd] at h0; rw [h0] at cd; exact absurd cd (by decide))
      have k3 : (((a + 1 : Nat) : Int) < (s.length : Int)) = True := by simp; omega
      have k4 : (a + 1 < s.length) = True := by simp; omega
      have e61 : ((d.toNat : Int) = 61) = True := by simp; omega
      rw [if_pos ⟨h60.2 c60, h61.2 cd⟩, enE _ _ (by decide)]
      simp +contextual -implicitDefEqProofs (maxSteps := 10000000) only [scC, x99, go_sem, ↓reduceIte, reduceCtorEq, Nat.reduceEqDiff, Nat.reduceAdd, k2, w1, w2, hc, hd, LC_goto, jmpK_r, e40, e41, e97, pc, e45, e60, k3, k4, e61, n4]
    · have e61 : ((d.toNat : Int) = 61) = False := by simp; omega
      rw [if_neg (by rw [h61]; exact fun h => cd h.2), if_pos sz, enE _ _ (by decide)]
      by_cases ha1 : a + 1 < s.length
      · have k3 : (((a + 1 : Nat) : Int) < (s.length : Int)) = True := by simp; omega
        have k4 : (a + 1 < s.length) = True := by simp; omega
        simp +contextual -implicitDefEqProofs (maxSteps := 10000000) only [scC, x99, go_sem, ↓reduceIte, reduceCtorEq, Nat.reduceEqDiff, Nat.reduceAdd, Int.reduceBEq, k2, w1, w2, hc, hd, LC_goto, jmpK_r, e40, e41, e97, pc, e45, e60, k3, k4, e61, hz, ez, n4]
      · have k3 : (((a + 1 : Nat) : Int) < (s.length : Int)) = False := by simp; omega
        simp +contextual -implicitDefEqProofs (maxSteps := 10000000) only [scC, x99, go_sem, ↓reduceIte, reduceCtorEq, Nat.reduceEqDiff, Nat.reduceAdd, Int.reduceBEq, k2, w1, w2, hc, LC_goto, jmpK_r, e40, e41, e97, pc, e45, e60, k3, hz, ez, n4]
  have e60 : ((c.toNat : Int) = 60) = False := by simp; omega
  rw [if_neg (by rw [h60]; exact fun h => c60 h.1)]
  by_cases sz : sgn c = true
  · have ez : ((0 : Int) ≤ z) = True := by rw [hz0, sz]; simp
    rw [if_pos sz, enE _ _ (by decide)]
    simp +contextual -implicitDefEqProofs (maxSteps := 10000000) only [scC, x99, go_sem, ↓reduceIte, reduceCtorEq, Nat.reduceEqDiff, Nat.reduceAdd, Int.reduceBEq, k2, w1, w2, hc, LC_goto, jmpK_r, e40, e41, e97, pc, e45, e60, hz, ez, n4]
  rw [if_neg sz]
  have ez : ((0 : Int) ≤ z) = False := by rw [hz0]; simpa using sz
  by_cases c91 : c.toNat = 91
  · have e91 : ((c.toNat : Int) = 91) = True := by simp; omega
    rw [if_pos (h91.2 c91)]
    have key : ∀ r, EndO ([] :: hp) 5 (a + 1) (braL sd) r → finK [.tmp 4, .tmp 5] r = some (.tup [.int .i64 ((match braL sd with | some n => (5, n + 1) | none => (0, 0)).1 : Nat), .int .i64 (endOf a (match braL sd with | some n => (5, n + 1) | none => (0, 0)) : Nat)], hp) := by
      intro r h
      unfold EndO at h
      cases hq : braL sd with
      | none => rw [hq] at h; exact EndB_fin h
      | some n => rw [hq] at h; rw [enE _ _ (by decide), show a + (n + 1) = a + 1 + n by omega]; exact EndB_fin h
    simp +contextual -implicitDefEqProofs (maxSteps := 10000000) only [scC, x99, go_sem, ↓reduceIte, reduceCtorEq, Nat.reduceEqDiff, Int.reduceBEq, k2, w1, w2, hc, LC_goto, e40, e41, e97, pc, e45, e60, hz, ez, e91]
    refine key _ (hb _ ?_ ?_) <;> simp only [go_sem, ↓reduceIte, reduceCtorEq, Nat.reduceEqDiff]
  have e91 : ((c.toNat : Int) = 91) = False := by simp; omega
  rw [if_neg (fun h => c91 (h91.1 h))]
  by_cases c34 : c.toNat = 34
  · have e34 : ((c.toNat : Int) = 34) = True := by simp; omega
    rw [if_pos (h34.2 c34)]
    have key : ∀ r, EndO ([] :: hp) 6 (a + 1) (quoL sd) r → finK [.tmp 4, .tmp 5] r = some (.tup [.int .i64 ((match quoL sd with | some n => (6, n + 1) | none => (0, 0)).1 : Nat), .int .i64 (endOf a (match quoL sd with | some n => (6, n + 1) | none => (0, 0)) : Nat)], hp) := by
      intro r h
      unfold EndO at h
      cases hq : quoL sd with
      | none => rw [hq] at h; exact EndB_fin h
      | some n => rw [hq] at h; rw [enE _ _ (by decide), show a + (n + 1) = a + 1 + n by omega]; exact EndB_fin h
    simp +contextual -implicitDefEqProofs (maxSteps := 10000000) only [scC, x99, go_sem, ↓reduceIte, reduceCtorEq, Nat.reduceEqDiff, Int.reduceBEq, k2, w1, w2, hc, LC_goto, e40, e41, e97, pc, e45, e60, hz, ez, e91, e34]
    refine key _ (hq _ ?_ ?_) <;> simp only [go_sem, ↓reduceIte, reduceCtorEq, Nat.reduceEqDiff]
  have e34 : ((c.toNat : Int) = 34) = False := by simp; omega
  rw [if_neg (fun h => c34 (h34.1 h))]
  by_cases c64 : c.toNat = 64
  · have e64 : ((c.toNat : Int) = 64) = True := by simp; omega
    rw [if_pos (h64.2 c64), enE _ _ (by decide), show a + (1 + runL dgB sd) = a + 1 + runL dgB sd by omega]
    simp +contextual -implicitDefEqProofs (maxSteps := 10000000) only [scC, x99, go_sem, ↓reduceIte, reduceCtorEq, Nat.reduceEqDiff, k2, w1, w2, hc, LC_goto, e40, e41, e97, pc, e45, e60, hz, ez, e91, e34, e64]
    refine EndB_fin (ht _ ⟨?_, ?_, ?_, ?_⟩) <;> simp only [go_sem, ↓reduceIte, reduceCtorEq, Nat.reduceEqDiff] <;> rfl
  have e64 : ((c.toNat : Int) = 64) = False := by simp; omega
  rw [if_neg (fun h => c64 (h64.1 h))]
  simp +contextual -implicitDefEqProofs (maxSteps := 10000000) only [scC, x99, go_sem, ↓reduceIte, reduceCtorEq, Nat.reduceEqDiff, Nat.reduceAdd, k2, w1, w2, hc, LC_goto, jmpK_r, e40, e41, e97, pc, e45, e60, hz, ez, e91, e34, e64]
  try rfl
end Go.Proofs.YtjbgceogkgpjpaaGreatDoor.Sx.T
namespace Go.Proofs.YtjbgceogkgpjpaaGreatDoor.Sx.T
open Go Go.Proofs.YtjbgceogkgpjpaaGreatDoor.Sx
set_option maxRecDepth 100000
set_option maxHeartbeats 8000000
def okPar (t : List UInt8) : Bool := match Go.Lib.parseIntB 64 t with | .ok _ => true | _ => false
def okN (t : List UInt8) : Bool := okPar t && decide (parI t ≤ 1099511627776) && decide (decI (parI t) = t) && decide (0 ≤ parI t)
theorem p_number (t : List UInt8) (hl : t.length ≤ 281474976710656) (hp : Heap) : CL X GV 102 [.str t] hp = some (.tup [.int .i64 (parI t), .bool (okN t)], hp) := by
  have hpr := primX_par t hl
  have hI := parI_in t
  unfold I64 at hI
  have hfm : ∀ n : Int, -9223372036854775808 ≤ n → n ≤ 9223372036854775807 → primX 5 [.int .i64 n, .int .i64 10] = some (.str (decI n)) := fun n h1 h2 => by
    simp only [primX]
    rw [if_pos ⟨trivial, h1, h2⟩]
  have hf := hfm (parI t) hI.1 (by omega)
  have t1 : (false != false) = false := rfl
  have t2 : (true != false) = true := rfl
  unfold okN
  rw [CL_eq (fn := x102) rfl]
  cases hok : okPar t with
  | false =>
    have hpe : parE t = .ifc 214 .undef := by
      unfold okPar at hok
      unfold parE
      split at hok
      · cases hok
      · cases h : Go.Lib.parseIntB 64 t <;> simp_all
    rw [hpe] at hpr
    generalize parI t = n at *
    simp +contextual -implicitDefEqProofs (maxSteps := 10000000) only [x102, go_sem, ↓reduceIte, reduceCtorEq, Nat.reduceEqDiff, Nat.reduceAdd, hpr, o_eqnil, nilK_ifc, t1, uf_ifc, drop1K_ifc, Bool.false_and]
  | true =>
    have hpe : parE t = .nilif := by
      unfold okPar at hok
      unfold parE
      split at hok
      · rename_i v hv; rw [hv]
      · cases hok
    rw [hpe] at hpr
    generalize parI t = n at *
    by_cases c1 : n ≤ 1099511627776
    · have e1 : (n ≤ 1099511627776) = True := by simp; omega
      by_cases c2 : decI n = t
      · by_cases c3 : 0 ≤ n
        · have e3 : (0 ≤ n) = True := by simp; omega
          simp +contextual -implicitDefEqProofs (maxSteps := 10000000) only [x102, go_sem, ↓reduceIte, reduceCtorEq, Nat.reduceEqDiff, Nat.reduceAdd, hpr, hf, e1, c2, e3, o_eqnil, nilK_nil, t2, uf_nilif, drop1K_nilif, Bool.and_true, decide_true]
        · have e3 : (0 ≤ n) = False := by simp; omega
          simp +contextual -implicitDefEqProofs (maxSteps := 10000000) only [x102, go_sem, ↓reduceIte, reduceCtorEq, Nat.reduceEqDiff, Nat.reduceAdd, hpr, hf, e1, c2, e3, o_eqnil, nilK_nil, t2, uf_nilif, drop1K_nilif, Bool.and_true, Bool.and_false, decide_true, decide_false]
      · simp +contextual -implicitDefEqProofs (maxSteps := 10000000) only [x102, go_sem, ↓reduceIte, reduceCtorEq, Nat.reduceEqDiff, Nat.reduceAdd, hpr, hf, e1, c2, o_eqnil, nilK_nil, t2, uf_nilif, drop1K_nilif, Bool.and_true, Bool.and_false, Bool.false_and, decide_true, decide_false]
    · have e1 : (n ≤ 1099511627776) = False := by simp; omega
      simp +contextual -implicitDefEqProofs (maxSteps := 10000000) only [x102, go_sem, ↓reduceIte, reduceCtorEq, Nat.reduceEqDiff, Nat.reduceAdd, hpr, e1, o_eqnil, nilK_nil, t2, uf_nilif, drop1K_nilif, Bool.and_false, Bool.false_and, decide_false]
def endsP (t : List UInt8) : Bool := (cutG 44 (trimG 93 (t.drop 1))).2.2 && okN (cutG 44 (trimG 93 (t.drop 1))).1 &&
  (decide ((cutG 44 (trimG 93 (t.drop 1))).2.1 = [42]) || (okN (cutG 44 (trimG 93 (t.drop 1))).2.1 && decide (parI (cutG 44 (trimG 93 (t.drop 1))).1 ≤ parI (cutG 44 (trimG 93 (t.drop 1))).2.1)))
theorem trimG_len (q : UInt8) (s : List UInt8) : (trimG q s).length ≤ s.length := by
  unfold trimG
  split
  · simp
  · exact Nat.le_refl _
theorem cutG_len (q : UInt8) (s : List UInt8) : (cutG q s).1.length ≤ s.length ∧ (cutG q s).2.1.length ≤ s.length := by
  unfold cutG
  split <;> simp <;> omega
theorem p_ends (c : UInt8) (r : List UInt8) (hl : r.length ≤ 281474976710655) (hp : Heap) : CL X GV 100 [.str (c :: r)] hp = some (.bool (endsP (c :: r)), hp) := by
  have s1 := sstr1 c r
  have ht := g_trim 93 r (by omega)
  have htl := trimG_len 93 r
  have hcu := g_cut 44 (trimG 93 r) (by omega)
  have hcl := cutG_len 44 (trimG 93 r)
  unfold endsP
  rw [List.drop_succ_cons, List.drop_zero]
  generalize trimG 93 r = u at *
  obtain ⟨⟨a, b, is⟩, hq⟩ : ∃ q, cutG 44 u = q := ⟨_, rfl⟩
  rw [hq] at hcu hcl ⊢
  simp only at hcu hcl ⊢
  have na := p_number a (by omega)
  have nb := p_number b (by omega)
  generalize parI a = x at *
  generalize parI b = y at *
  rw [CL_eq (fn := x100) rfl]
  cases is with
  | false =>
    cases hk : okN a <;> rw [hk] at na <;>
    simp +contextual -implicitDefEqProofs (maxSteps := 10000000) only [x100, go_sem, ↓reduceIte, reduceCtorEq, Nat.reduceEqDiff, s1, ht, hcu, na, Bool.false_and]
  | true =>
    cases hk : okN a with
    | false =>
      rw [hk] at na
      simp +contextual -implicitDefEqProofs (maxSteps := 10000000) only [x100, go_sem, ↓reduceIte, reduceCtorEq, Nat.reduceEqDiff, s1, ht, hcu, na, Bool.false_and, Bool.and_false, Bool.not_true, Bool.not_false]
    | true =>
      rw [hk] at na
      by_cases c1 : b = [42]
      · subst c1
        cases hk2 : okN [42] <;> rw [hk2] at nb <;>
        simp +contextual -implicitDefEqProofs (maxSteps := 10000000) only [x100, go_sem, ↓reduceIte, reduceCtorEq, Nat.reduceEqDiff, s1, ht, hcu, na, nb, Bool.true_and, Bool.true_or, Bool.and_true, decide_true, Bool.not_true]
      · cases hk2 : okN b with
        | false =>
          rw [hk2] at nb
          simp +contextual -implicitDefEqProofs (maxSteps := 10000000) only [x100, go_sem, ↓reduceIte, reduceCtorEq, Nat.reduceEqDiff, s1, ht, hcu, na, nb, c1, Bool.true_and, Bool.false_or, Bool.false_and, Bool.and_false, decide_false, Bool.not_true]
        | true =>
          rw [hk2] at nb
          by_cases c2 : x ≤ y
          · simp +contextual -implicitDefEqProofs (maxSteps := 10000000) only [x100, go_sem, ↓reduceIte, reduceCtorEq, Nat.reduceEqDiff, s1, ht, hcu, na, nb, c1, c2, Bool.true_and, Bool.false_or, decide_true, decide_false, Bool.not_true]
          · simp +contextual -implicitDefEqProofs (maxSteps := 10000000) only [x100, go_sem, ↓reduceIte, reduceCtorEq, Nat.reduceEqDiff, s1, ht, hcu, na, nb, c1, c2, Bool.true_and, Bool.false_or, Bool.and_false, decide_false, Bool.not_true]
end Go.Proofs.YtjbgceogkgpjpaaGreatDoor.Sx.T
namespace Go.Proofs.YtjbgceogkgpjpaaGreatDoor.Sx.T
open Go Go.Proofs.YtjbgceogkgpjpaaGreatDoor.Sx
set_option maxRecDepth 100000
set_option maxHeartbeats 8000000
theorem braL_le : ∀ (r : List UInt8) (n : Nat), braL r = some n → 1 ≤ n ∧ n ≤ r.length
  | [], n, h => by simp [braL] at h
  | c :: r, n, h => by
    rw [braL] at h
    split at h
    · cases h; simp
    · cases hq : braL r with
      | none => rw [hq] at h; cases h
      | some m =>
        have := braL_le r m hq
        rw [hq] at h
        cases h
        simp only [List.length_cons]
        omega
theorem quoL_le : ∀ (k : Nat) (r : List UInt8) (n : Nat), r.length ≤ k → quoL r = some n → 1 ≤ n ∧ n ≤ r.length
  | _, [], n, _, h => by simp [quoL] at h
  | 0, c :: r, n, hk, h => by simp at hk
  | k + 1, c :: r, n, hk, h => by
    rw [quoL_cons] at h
    simp only [List.length_cons] at hk ⊢
    split at h
    · cases h; omega
    · split at h
      · cases hq : quoL (r.drop 1) with
        | none => rw [hq] at h; cases h
        | some m =>
          have := quoL_le k (r.drop 1) m (by simp; omega) hq
          have h : m + 2 = n := by rw [hq] at h; simpa using h
          simp only [List.length_drop] at this
          omega
      · cases hq : quoL r with
        | none => rw [hq] at h; cases h
        | some m =>
          have := quoL_le k r m (by omega) hq
          have h : m + 1 = n := by simpa [hq] using h
          omega
theorem numL_le (c : UInt8) (r : List UInt8) : 1 ≤ numL (c :: r) ∧ numL (c :: r) ≤ (c :: r).length := by
  have h1 := runL_le dgB ((c :: r).drop 1)
  unfold numL
  obtain ⟨m, hm⟩ : ∃ m, runL dgB ((c :: r).drop 1) = m := ⟨_, rfl⟩
  rw [hm] at h1 ⊢
  simp only [List.drop_succ_cons, List.drop_zero, List.length_cons] at h1 ⊢
  split
  · rename_i hf
    unfold fracL at hf
    rw [Bool.and_eq_true] at hf
    have : 1 + m + 1 < (c :: r).length := getD_lt _ _ (fun h0 => by rw [h0] at hf; exact absurd hf.2 (by decide))
    have h2 := runL_le dgB ((c :: r).drop (1 + m + 1))
    simp only [List.length_drop, List.length_cons, List.drop_succ_cons] at h2 this
    omega
  · omega
theorem kl_le (r : List UInt8) : ((kl r).1 = 0 → (kl r).2 = 0) ∧ ((kl r).1 ≠ 0 → 1 ≤ (kl r).2) ∧ (kl r).2 ≤ r.length ∧ (kl r).1 ≤ 7 := by
  cases r with
  | nil => simp [kl]
  | cons c r =>
    have h1 := runL_le wcB r
    have h2 := runL_le dgB r
    have h3 := numL_le c r
    have h4 := braL_le r
    have h5 := fun n => quoL_le r.length r n (Nat.le_refl _)
    simp only [List.length_cons] at h3 ⊢
    rw [kl]
    split
    · simp
    split
    · simp
    split
    · simp; omega
    split
    · simp; omega
    split
    · rename_i h6
      have : 0 < r.length := getD_lt _ _ (by rw [h6.2]; decide)
      simp; omega
    split
    · simp
    split
    · split
      · rename_i n hn
        have := h4 n hn
        simp; omega
      · simp
    split
    · split
      · rename_i n hn
        have := h5 n hn
        simp; omega
      · simp
    split
    · simp; omega
    · simp
structure Tk where
  k : Nat
  a : Nat
  t : List UInt8
  v : Val
def Tk.cells (x : Tk) : List AV := [.int .i64 (x.k : Nat), .int .i64 (x.a : Nat), .str x.t, .int .i64 x.v.k, .int .i64 x.v.n, .int .i64 x.v.d, .str x.v.s]
def valOf (k : Nat) (t : List UInt8) : Val × Bool := if k = 3 then (zV, decide (t.length ≤ 16)) else if k = 5 then (zV, endsP t) else if k = 6 then ((parP t).1, decide ((parP t).2 = 0))
  else if k = 7 then (⟨1, parI (t.drop 1), 0, []⟩, okN (t.drop 1)) else (zV, decide (k ≠ 0))
def tkOf (a : Nat) (r : List UInt8) : Tk := ⟨(kl r).1, a, r.take (kl r).2, (valOf (kl r).1 (r.take (kl r).2)).1⟩
def okOf (r : List UInt8) : Bool := (valOf (kl r).1 (r.take (kl r).2)).2
theorem p_one (s : List UInt8) (hl : s.length ≤ 1099511627776) (a : Nat) (ha : a < s.length) (hp : Heap) : CL X GV 73 [.str s, .int .i64 (a : Nat)] hp = some (.tup [.agg (tkOf a (s.drop a)).cells, .bool (okOf (s.drop a))], hp) := by
  have hb := p_behind s (by omega) a ha
  obtain ⟨hz, hnz, hle, h7⟩ := kl_le (s.drop a)
  unfold okOf tkOf Tk.cells
  simp only
  obtain ⟨⟨k, n⟩, hq⟩ : ∃ q, kl (s.drop a) = q := ⟨_, rfl⟩
  rw [hq] at hb hz hnz hle h7 ⊢
  simp only at hb hz hnz hle h7 ⊢
  rw [List.length_drop] at hle
  obtain ⟨e, he⟩ : ∃ e, endOf a (k, n) = e := ⟨_, rfl⟩
  rw [he] at hb
  have hmx : (if ((e : Nat) : Int) > ((a : Nat) : Int) then ((e : Nat) : Int) else ((a : Nat) : Int)) = ((a + n : Nat) : Int) := by
    unfold endOf at he
    simp only at he
    split at he
    · rename_i h0
      have := hz h0
      rw [if_neg (by omega)]
      omega
    · rename_i h0
      have := hnz h0
      rw [if_pos (by omega)]
      omega
  have ss : sstrK (.str s) (some (.int .i64 (a : Nat))) (some (.int .i64 ((a + n : Nat) : Int))) = some (.str ((s.drop a).take n)) := by
    rw [sstrK_two, if_pos ⟨by omega, by omega⟩, List.drop_take, Nat.add_sub_cancel_left]
  have htl : ((s.drop a).take n).length ≤ 1099511627776 := by simp; omega
  have htn : k ≠ 0 → (s.drop a).take n ≠ [] := by
    intro h0 h
    have := hnz h0
    have h2 := congrArg List.length h
    simp at h2
    omega
  obtain ⟨t, ht⟩ : ∃ t, (s.drop a).take n = t := ⟨_, rfl⟩
  rw [ht] at ss htl htn ⊢
  have kk : (k : Int) = 0 ↔ k = 0 := by omega
  rw [CL_eq (fn := x73) rfl]
  unfold valOf
  by_cases c3 : k = 3
  · rw [c3] at hb ⊢
    have n3 : ((3 : Nat) : Int) = 3 := rfl
    by_cases l16 : t.length ≤ 16
    · have e16 : ((t.length : Int) ≤ 16) = True := by simp; omega
      simp +contextual -implicitDefEqProofs (maxSteps := 10000000) only [x73, go_sem, ↓reduceIte, reduceCtorEq, Nat.reduceEqDiff, Nat.reduceAdd, Nat.reduceLeDiff, Int.reduceBEq, Int.reduceBNe, hb, hmx, ss, n3, e16, l16, zV, decide_true]
    · have e16 : ((t.length : Int) ≤ 16) = False := by simp; omega
      simp +contextual -implicitDefEqProofs (maxSteps := 10000000) only [x73, go_sem, ↓reduceIte, reduceCtorEq, Nat.reduceEqDiff, Nat.reduceAdd, Nat.reduceLeDiff, Int.reduceBEq, Int.reduceBNe, hb, hmx, ss, n3, e16, l16, zV, decide_false]
  · rw [if_neg c3]
    have e3 : ((k : Int) = 3) = False := by simp; omega
    by_cases c5 : k = 5
    · rw [c5] at hb htn ⊢
      have n5 : ((5 : Nat) : Int) = 5 := rfl
      have hne := htn (by decide)
      cases t with
      | nil => exact absurd rfl hne
      | cons c r =>
        have hen := p_ends c r (by simp at htl; omega)
        simp +contextual -implicitDefEqProofs (maxSteps := 10000000) only [x73, go_sem, ↓reduceIte, reduceCtorEq, Nat.reduceEqDiff, Nat.reduceAdd, Nat.reduceLeDiff, Int.reduceBEq, Int.reduceBNe, hb, hmx, ss, n5, hen, zV]
    · rw [if_neg c5]
      have e5 : ((k : Int) = 5) = False := by simp; omega
      by_cases c6 : k = 6
      · rw [c6] at hb ⊢
        have n6 : ((6 : Nat) : Int) = 6 := rfl
        have hpa := v_parse t (by omega)
        obtain ⟨⟨⟨vk, vn, vd, vs⟩, e⟩, hpp⟩ : ∃ q, parP t = q := ⟨_, rfl⟩
        rw [hpp] at hpa ⊢
        simp only [Val.av, vA] at hpa
        by_cases e0 : e = 0
        · subst e0
          simp +contextual -implicitDefEqProofs (maxSteps := 10000000) only [x73, go_sem, ↓reduceIte, reduceCtorEq, Nat.reduceEqDiff, Nat.reduceAdd, Nat.reduceLeDiff, Int.reduceBEq, Int.reduceBNe, hb, hmx, ss, n6, hpa, decide_true]
        · have e1 : (e == 0) = false := by simpa using e0
          simp +contextual -implicitDefEqProofs (maxSteps := 10000000) only [x73, go_sem, ↓reduceIte, reduceCtorEq, Nat.reduceEqDiff, Nat.reduceAdd, Nat.reduceLeDiff, Int.reduceBEq, Int.reduceBNe, hb, hmx, ss, n6, hpa, e0, e1, decide_false]
      · rw [if_neg c6]
        have e6 : ((k : Int) = 6) = False := by simp; omega
        by_cases c7 : k = 7
        · rw [c7] at hb htn ⊢
          have n7 : ((7 : Nat) : Int) = 7 := rfl
          have hne := htn (by decide)
          cases t with
          | nil => exact absurd rfl hne
          | cons c r =>
            have s1 := sstr1 c r
            have hnu := p_number r (by simp at htl; omega)
            have hd1 : (c :: r).drop 1 = r := rfl
            simp +contextual -implicitDefEqProofs (maxSteps := 10000000) only [x73, go_sem, ↓reduceIte, reduceCtorEq, Nat.reduceEqDiff, Nat.reduceAdd, Nat.reduceLeDiff, Int.reduceBEq, Int.reduceBNe, hb, hmx, ss, n7, s1, hd1, hnu]
        · rw [if_neg c7]
          have e7 : ((k : Int) = 7) = False := by simp; omega
          by_cases c0 : k = 0
          · have e0 : ((k : Int) != 0) = false := by simp; omega
            rw [decide_eq_false (by simpa using c0)]
            simp +contextual -implicitDefEqProofs (maxSteps := 10000000) only [x73, go_sem, ↓reduceIte, reduceCtorEq, Nat.reduceEqDiff, Nat.reduceAdd, Nat.reduceLeDiff, hb, hmx, ss, e3, e5, e6, e7, e0, zV]
          · have e0 : ((k : Int) != 0) = true := by simp; omega
            rw [decide_eq_true c0]
            simp +contextual -implicitDefEqProofs (maxSteps := 10000000) only [x73, go_sem, ↓reduceIte, reduceCtorEq, Nat.reduceEqDiff, Nat.reduceAdd, Nat.reduceLeDiff, hb, hmx, ss, e3, e5, e6, e7, e0, zV]
end Go.Proofs.YtjbgceogkgpjpaaGreatDoor.Sx.T
namespace Go.Proofs.YtjbgceogkgpjpaaGreatDoor.Sx.T
open Go Go.Proofs.YtjbgceogkgpjpaaGreatDoor.Sx
set_option maxRecDepth 100000
set_option maxHeartbeats 8000000
def blk (c : UInt8) : Bool := decide (c = 32 ∨ c = 10)
def toks : Nat → Nat → List UInt8 → Option Nat × List Tk
  | 0, _, _ => (none, [])
  | n + 1, a, r => match r with
    | [] => (none, [])
    | c :: r' => if blk c = true then toks n (a + 1) r'
      else if okOf (c :: r') = true then ((toks n (a + (kl (c :: r')).2) ((c :: r').drop (kl (c :: r')).2)).1, tkOf a (c :: r') :: (toks n (a + (kl (c :: r')).2) ((c :: r').drop (kl (c :: r')).2)).2)
      else (some a, [])
theorem toks_nil (n a : Nat) : toks n a [] = (none, []) := by cases n <;> rfl
theorem toks_blk (n a : Nat) (c : UInt8) (r : List UInt8) (h : blk c = true) : toks (n + 1) a (c :: r) = toks n (a + 1) r := by rw [toks]; simp only [h, if_true]
theorem toks_ok (n a : Nat) (c : UInt8) (r : List UInt8) (h : blk c = false) (ho : okOf (c :: r) = true) : toks (n + 1) a (c :: r) = ((toks n (a + (kl (c :: r)).2) ((c :: r).drop (kl (c :: r)).2)).1, tkOf a (c :: r) :: (toks n (a + (kl (c :: r)).2) ((c :: r).drop (kl (c :: r)).2)).2) := by rw [toks]; simp only [h, ho, if_true, Bool.false_eq_true, if_false]
theorem toks_bad (n a : Nat) (c : UInt8) (r : List UInt8) (h : blk c = false) (ho : okOf (c :: r) = false) : toks (n + 1) a (c :: r) = (some a, []) := by rw [toks]; simp only [h, ho, Bool.false_eq_true, if_false]
theorem ok_kl (r : List UInt8) (h : okOf r = true) : (kl r).1 ≠ 0 := by
  intro h0
  unfold okOf valOf at h
  rw [h0] at h
  simp at h
def accT (l : List Tk) (x : AV) : Prop := (l = [] ∧ x = .nilsl) ∨ (l ≠ [] ∧ x = .lst .own 7 (l.map Tk.cells))
def OTk (hp : Heap) (acc : List Tk) (R : Option Nat × List Tk) (r : Option (XExit × St)) : Prop := match R.1 with
  | none => ∃ fr' L, r = some (.exit 0, ⟨fr', L :: hp⟩) ∧ accT (acc ++ R.2) (fget fr' 5)
  | some p => ∃ fr' L, r = some (.ret, ⟨fr', L :: hp⟩) ∧ fget fr' 2 = .nilsl ∧ fget fr' 3 = .int .i64 50 ∧ fget fr' 4 = .int .i64 (p : Nat)
theorem OTk_cons {hp : Heap} {acc : List Tk} {t : Tk} {R : Option Nat × List Tk} {r : Option (XExit × St)} (h : OTk hp (acc ++ [t]) R r) : OTk hp acc (R.1, t :: R.2) r := by
  unfold OTk at h ⊢
  obtain ⟨p, l⟩ := R
  cases p with
  | none => simpa using h
  | some p => exact h
theorem l_tokens (s : List UInt8) (hl : s.length ≤ 16384) (hp : Heap) : ∀ (n a : Nat) (_ : s.length ≤ a + n) (_ : a ≤ s.length) (acc : List Tk) (_ : acc.length ≤ a) (fr : List AV) (L : Level) (x : AV), fget fr 0 = .str s → fget fr 6 = .int .i64 (a : Nat) → fget fr 5 = x → accT acc x →
    OTk hp acc (toks n a (s.drop a)) (LC X GV (.loop x56_l0) ⟨fr, L :: hp⟩) := by
  have fin0 : ∀ (n a : Nat), s.length ≤ a → ∀ (acc : List Tk) (fr : List AV) (L : Level) (x : AV), fget fr 0 = .str s → fget fr 6 = .int .i64 (a : Nat) → fget fr 5 = x → accT acc x →
      OTk hp acc (toks n a (s.drop a)) (LC X GV (.loop x56_l0) ⟨fr, L :: hp⟩) := by
    intro n a ha acc fr L x h0 h6 h5 hx
    have k1 : ((a : Int) < (s.length : Int)) = False := by simp; omega
    rw [List.drop_of_length_le ha, toks_nil, LC_loop]
    simp +contextual -implicitDefEqProofs (maxSteps := 10000000) only [x56_l0_run, go_sem, ↓reduceIte, reduceCtorEq, Nat.reduceEqDiff, h0, h6, k1]
    refine ⟨_, _, rfl, ?_⟩
    simp only [go_sem, ↓reduceIte, Nat.reduceEqDiff, h5, List.append_nil]
    exact hx
  intro n
  induction n with
  | zero =>
    intro a h1 h2 acc hacc fr L x h0 h6 h5 hx
    exact fin0 0 a (by omega) acc fr L x h0 h6 h5 hx
  | succ n ih =>
    intro a h1 h2 acc hacc fr L x h0 h6 h5 hx
    by_cases ha : a < s.length
    · have k1 : ((a : Int) < (s.length : Int)) = True := by simp; omega
      have k2 : (a < s.length) = True := by simp; omega
      obtain ⟨c, hc⟩ : ∃ c, s.getD a 0 = c := ⟨_, rfl⟩
      have hdr : s.drop a = c :: s.drop (a + 1) := by
        rw [List.drop_eq_getElem_cons ha]
        simp [List.getD, ha] at hc
        rw [hc]
      have w1 : wr .i64 ((a : Int) + 1) = ((a + 1 : Nat) : Int) := by rw [wr_i64 _ (by omega)]; omega
      have h32 : c = 32 ↔ c.toNat = 32 := u8n c 32 (by decide)
      have h10 : c = 10 ↔ c.toNat = 10 := u8n c 10 (by decide)
      by_cases hb : blk c = true
      · rw [hdr, toks_blk _ _ _ _ hb]
        have st : ∃ fr1, LC X GV (.loop x56_l0) ⟨fr, L :: hp⟩ = LC X GV (.loop x56_l0) ⟨fr1, L :: hp⟩ ∧ fget fr1 0 = .str s ∧ fget fr1 6 = .int .i64 ((a + 1 : Nat) : Int) ∧ fget fr1 5 = x := by
          unfold blk at hb
          rw [decide_eq_true_eq, h32, h10] at hb
          by_cases b1 : c.toNat = 32
          · have e1 : ((c.toNat : Int) = 32) = True := by simp; omega
            conv => enter [1, fr1, 1, 1]; rw [LC_loop]
            simp +contextual -implicitDefEqProofs (maxSteps := 10000000) only [x56_l0_run, go_sem, ↓reduceIte, reduceCtorEq, Nat.reduceEqDiff, h0, h6, k1, k2, hc, w1, e1]
            refine ⟨_, rfl, ?_, ?_, ?_⟩ <;> simp only [go_sem, ↓reduceIte, reduceCtorEq, Nat.reduceEqDiff, h0, h5]
          · have e1 : ((c.toNat : Int) = 32) = False := by simp; omega
            have e2 : ((c.toNat : Int) = 10) = True := by simp; omega
            conv => enter [1, fr1, 1, 1]; rw [LC_loop]
            simp +contextual -implicitDefEqProofs (maxSteps := 10000000) only [x56_l0_run, go_sem, ↓reduceIte, reduceCtorEq, Nat.reduceEqDiff, h0, h6, k1, k2, hc, w1, e1, e2]
            refine ⟨_, rfl, ?_, ?_, ?_⟩ <;> simp only [go_sem, ↓reduceIte, reduceCtorEq, Nat.reduceEqDiff, h0, h5]
        obtain ⟨fr1, e1, g0, g6, g5⟩ := st
        rw [e1]
        exact ih (a + 1) (by omega) (by omega) acc (by omega) fr1 L x g0 g6 g5 hx
      · rw [Bool.not_eq_true] at hb
        have e1 : ((c.toNat : Int) = 32) = False := by
          simp only [eq_iff_iff, iff_false]
          intro h
          rw [show blk c = true by unfold blk; rw [decide_eq_true_eq, h32]; left; omega] at hb
          cases hb
        have e2 : ((c.toNat : Int) = 10) = False := by
          simp only [eq_iff_iff, iff_false]
          intro h
          rw [show blk c = true by unfold blk; rw [decide_eq_true_eq, h10]; right; omega] at hb
          cases hb
        have ho := p_one s (by omega) a ha
        have hkl := kl_le (s.drop a)
        have hok := ok_kl (s.drop a)
        have htk : (tkOf a (s.drop a)).t.length = (kl (s.drop a)).2 := by
          simp only [tkOf, List.length_take]
          omega
        rw [hdr] at ho hkl hok htk
        rw [hdr]
        by_cases hk : okOf (c :: s.drop (a + 1)) = true
        · rw [toks_ok _ _ _ _ hb hk]
          refine OTk_cons ?_
          rw [hk] at ho
          have hk0 := hok hk
          have hk1 := hkl.2.1 hk0
          have hk2 := hkl.2.2.1
          rw [← hdr, List.length_drop] at hk2
          have hdd : (c :: s.drop (a + 1)).drop (kl (c :: s.drop (a + 1))).2 = s.drop (a + (kl (c :: s.drop (a + 1))).2) := by rw [← hdr, List.drop_drop]
          rw [hdd]
          rw [hdr] at hk2
          obtain ⟨m, hm⟩ : ∃ m, (kl (c :: s.drop (a + 1))).2 = m := ⟨_, rfl⟩
          rw [hm] at htk hk1 hk2 ⊢
          obtain ⟨t, ht⟩ : ∃ t, tkOf a (c :: s.drop (a + 1)) = t := ⟨_, rfl⟩
          rw [ht] at ho htk ⊢
          have htc : [t.cells] = [t].map Tk.cells := rfl
          obtain ⟨tk, ta, tt, tv⟩ := t
          obtain ⟨vk, vn, vd, vs⟩ := tv
          simp only [Tk.cells] at ho htk htc
          have w2 : wr .i64 ((a : Int) + (tt.length : Int)) = ((a + m : Nat) : Int) := by rw [htk, wr_i64 _ (by omega)]; omega
          have rm : (((acc.map Tk.cells).length + 1) * 72 ≤ room) = True := by rw [List.length_map]; unfold room; simp; omega
          have rm1 : (1 * 72 ≤ room) = True := by unfold room; simp
          have hlc : ∀ v cs, lcells (lputc L 7 v cs) 7 v = some cs := fun v cs => by rw [lcells_put]; simp
          have st : ∃ fr1 L1, LC X GV (.loop x56_l0) ⟨fr, L :: hp⟩ = LC X GV (.loop x56_l0) ⟨fr1, L1 :: hp⟩ ∧ fget fr1 0 = .str s ∧ fget fr1 6 = .int .i64 ((a + m : Nat) : Int) ∧ fget fr1 5 = .lst .own 7 ((acc ++ [(⟨tk, ta, tt, ⟨vk, vn, vd, vs⟩⟩ : Tk)]).map Tk.cells) := by
            rcases hx with ⟨rfl, rfl⟩ | ⟨_, rfl⟩
            · conv => enter [1, fr1, 1, L1, 1, 1]; rw [LC_loop]
              simp +contextual -implicitDefEqProofs (maxSteps := 10000000) only [x56_l0_run, go_sem, ↓reduceIte, reduceCtorEq, Nat.reduceEqDiff, Nat.reduceAdd, Nat.reduceMul, Nat.reduceLT, Nat.reduceDiv, h0, h6, h5, k1, k2, hc, w1, e1, e2, ho, w2, rm1, hlc]
              refine ⟨_, _, rfl, ?_, ?_, ?_⟩ <;> simp only [go_sem, ↓reduceIte, reduceCtorEq, Nat.reduceEqDiff, h0]
              rfl
            · conv => enter [1, fr1, 1, L1, 1, 1]; rw [LC_loop]
              simp +contextual -implicitDefEqProofs (maxSteps := 10000000) only [x56_l0_run, go_sem, ↓reduceIte, reduceCtorEq, Nat.reduceEqDiff, Nat.reduceAdd, Nat.reduceLT, Nat.reduceDiv, h0, h6, h5, k1, k2, hc, w1, e1, e2, ho, w2, rm, hlc]
              refine ⟨_, _, rfl, ?_, ?_, ?_⟩ <;> simp only [go_sem, ↓reduceIte, reduceCtorEq, Nat.reduceEqDiff, h0]
              rw [List.map_append]
              rfl
          obtain ⟨fr1, L1, e3, g0, g6, g5⟩ := st
          rw [e3]
          exact ih (a + m) (by omega) (by omega) _ (by simp; omega) fr1 L1 _ g0 g6 g5 (.inr ⟨by simp, rfl⟩)
        · rw [Bool.not_eq_true] at hk
          rw [toks_bad _ _ _ _ hb hk, LC_loop]
          rw [hk] at ho
          obtain ⟨⟨tk, ta, tt, tv⟩, ht⟩ : ∃ t, tkOf a (c :: s.drop (a + 1)) = t := ⟨_, rfl⟩
          obtain ⟨vk, vn, vd, vs⟩ := tv
          rw [ht] at ho
          simp only [Tk.cells] at ho
          simp +contextual -implicitDefEqProofs (maxSteps := 10000000) only [x56_l0_run, go_sem, ↓reduceIte, reduceCtorEq, Nat.reduceEqDiff, Nat.reduceAdd, h0, h6, k1, k2, hc, w1, e1, e2, ho]
          refine ⟨_, _, rfl, ?_, ?_, ?_⟩ <;> simp only [go_sem, ↓reduceIte, Nat.reduceEqDiff]
    · exact fin0 (n + 1) a (by omega) acc fr L x h0 h6 h5 hx
end Go.Proofs.YtjbgceogkgpjpaaGreatDoor.Sx.T
namespace Go.Proofs.YtjbgceogkgpjpaaGreatDoor.Sx.T
open Go Go.Proofs.YtjbgceogkgpjpaaGreatDoor.Sx
set_option maxRecDepth 100000
set_option maxHeartbeats 8000000
def listA (l : List Tk) : AV := if l = [] then .nilsl else .lst .none 7 (l.map Tk.cells)
theorem free_cells (l : List Tk) : refFreeL (l.map Tk.cells).flatten = true := by
  induction l with
  | nil => rfl
  | cons t l ih =>
    rw [List.map_cons, List.flatten_cons]
    simp only [Tk.cells, List.cons_append, List.nil_append, refFreeL, refFree, ih, Bool.and_self]
theorem p_toksOk (s : List UInt8) (hl : s.length ≤ 16384) (l : List Tk) (h : toks s.length 0 s = (none, l)) (hp : Heap) : CL X GV 56 [.str s] hp = some (.tup [listA l, .int .i64 0, .int .i64 0], hp) := by
  have f0 : ((16384 : Int) < (s.length : Int)) = False := by simp; omega
  have hf := free_cells l
  rw [CL_eq (fn := x56) rfl]
  simp +contextual -implicitDefEqProofs (maxSteps := 10000000) only [x56, go_sem, ↓reduceIte, reduceCtorEq, f0]
  have key := fun fr h0 h6 h5 => l_tokens s hl hp s.length 0 (by omega) (by omega) [] (by simp) fr [] .nilsl h0 h6 h5 (.inl ⟨rfl, rfl⟩)
  rw [List.drop_zero, h] at key
  refine elimL (fun r => finK _ (seqK (blockK 0 r) _) = _) (key _ ?_ ?_ ?_) ?_
  all_goals try simp only [go_sem, ↓reduceIte, reduceCtorEq, Nat.reduceEqDiff, Int.natCast_zero]
  rintro r ⟨fr', L, rfl, hx⟩
  rw [List.nil_append] at hx
  rcases hx with ⟨rfl, hx⟩ | hx
  · simp +contextual -implicitDefEqProofs (maxSteps := 10000000) only [go_sem, ↓reduceIte, Nat.reduceEqDiff, Nat.reduceAdd, hx, listA]
  · obtain ⟨hn, hx⟩ := hx
    simp +contextual -implicitDefEqProofs (maxSteps := 10000000) only [go_sem, ↓reduceIte, Nat.reduceEqDiff, Nat.reduceAdd, hx, listA, hn]
theorem p_toksBad (s : List UInt8) (hl : s.length ≤ 16384) (p : Nat) (l : List Tk) (h : toks s.length 0 s = (some p, l)) (hp : Heap) : CL X GV 56 [.str s] hp = some (.tup [.nilsl, .int .i64 50, .int .i64 (p : Nat)], hp) := by
  have f0 : ((16384 : Int) < (s.length : Int)) = False := by simp; omega
  rw [CL_eq (fn := x56) rfl]
  simp +contextual -implicitDefEqProofs (maxSteps := 10000000) only [x56, go_sem, ↓reduceIte, reduceCtorEq, f0]
  have key := fun fr h0 h6 h5 => l_tokens s hl hp s.length 0 (by omega) (by omega) [] (by simp) fr [] .nilsl h0 h6 h5 (.inl ⟨rfl, rfl⟩)
  rw [List.drop_zero, h] at key
  refine elimL (fun r => finK _ (seqK (blockK 0 r) _) = _) (key _ ?_ ?_ ?_) ?_
  all_goals try simp only [go_sem, ↓reduceIte, reduceCtorEq, Nat.reduceEqDiff, Int.natCast_zero]
  rintro r ⟨fr', L, rfl, h2, h3, h4⟩
  simp +contextual -implicitDefEqProofs (maxSteps := 10000000) only [go_sem, ↓reduceIte, Nat.reduceAdd, h2, h3, h4]
end Go.Proofs.YtjbgceogkgpjpaaGreatDoor.Sx.T
namespace Go.Proofs.YtjbgceogkgpjpaaGreatDoor.Sx.T
open Go Go.Proofs.YtjbgceogkgpjpaaGreatDoor.Sx
set_option maxRecDepth 100000
set_option maxHeartbeats 8000000
theorem toks_len : ∀ (n a : Nat) (r : List UInt8) (o : Option Nat) (l : List Tk), toks n a r = (o, l) → l.length ≤ n := by
  intro n
  induction n with
  | zero => intro a r o l h; rw [toks] at h; cases h; simp
  | succ n ih =>
    intro a r o l h
    cases r with
    | nil => rw [toks_nil] at h; cases h; simp
    | cons c r =>
      cases hk : blk c with
      | true =>
        rw [toks_blk _ _ _ _ hk] at h
        have := ih _ _ _ _ h
        omega
      | false =>
        cases ho : okOf (c :: r) with
        | false => rw [toks_bad _ _ _ _ hk ho] at h; cases h; simp
        | true =>
          rw [toks_ok _ _ _ _ hk ho] at h
          have := ih (a + (kl (c :: r)).2) ((c :: r).drop (kl (c :: r)).2) _ _ rfl
          have h2 := congrArg Prod.snd h
          simp only at h2
          rw [← h2, List.length_cons]
          omega
end Go.Proofs.YtjbgceogkgpjpaaGreatDoor.Sx.T
namespace Go.Proofs.YtjbgceogkgpjpaaGreatDoor.Sx.T
open Go Go.Proofs.YtjbgceogkgpjpaaGreatDoor.Sx
set_option maxRecDepth 100000
set_option maxHeartbeats 1000000
theorem runL_take (p : UInt8 → Bool) : ∀ (l : List UInt8) (q : Nat), runL p l ≤ q → runL p (l.take q) = runL p l
  | [], q, _ => by simp
  | c :: r, 0, h => by
    rw [List.take_zero]
    simp only [Nat.le_zero] at h
    rw [h]; rfl
  | c :: r, q + 1, h => by
    rw [List.take_succ_cons, runL, runL]
    rw [runL] at h
    split
    · rename_i hc
      rw [if_pos hc] at h
      rw [runL_take p r q (by omega)]
    · rfl
theorem braL_take : ∀ (l : List UInt8) (q n : Nat), braL l = some n → n ≤ q → braL (l.take q) = some n
  | [], q, n, h, _ => by simp [braL] at h
  | c :: r, 0, n, h, hq => by
    have := braL_le _ _ h
    omega
  | c :: r, q + 1, n, h, hq => by
    rw [List.take_succ_cons, braL]
    rw [braL] at h
    split
    · rename_i hc
      rw [if_pos hc] at h
      exact h
    · rename_i hc
      rw [if_neg hc] at h
      cases hb : braL r with
      | none => rw [hb] at h; cases h
      | some m =>
        have h2 : m + 1 = n := by rw [hb] at h; simpa using h
        rw [braL_take r q m hb (by omega), ← h2]
        rfl
theorem quoL_take : ∀ (k : Nat) (l : List UInt8) (q n : Nat), l.length ≤ k → quoL l = some n → n ≤ q → quoL (l.take q) = some n
  | _, [], q, n, _, h, _ => by simp [quoL] at h
  | 0, c :: r, q, n, hk, _, _ => by simp at hk
  | k + 1, c :: r, 0, n, hk, h, hq => by
    have := quoL_le _ _ _ hk h
    omega
  | k + 1, c :: r, q + 1, n, hk, h, hq => by
    simp only [List.length_cons] at hk
    rw [List.take_succ_cons, quoL_cons]
    rw [quoL_cons] at h
    by_cases h34 : c = 34
    · rw [if_pos h34] at h ⊢; exact h
    · rw [if_neg h34] at h ⊢
      by_cases h92 : c = 92
      · rw [if_pos h92] at h ⊢
        cases hb : quoL (r.drop 1) with
        | none => rw [hb] at h; cases h
        | some m =>
          have h2 : m + 2 = n := by rw [hb] at h; simpa using h
          have e : (r.take q).drop 1 = (r.drop 1).take (q - 1) := by rw [List.drop_take]
          rw [e, quoL_take k (r.drop 1) (q - 1) m (by simp; omega) hb (by omega), ← h2]
          rfl
      · rw [if_neg h92] at h ⊢
        cases hb : quoL r with
        | none => rw [hb] at h; cases h
        | some m =>
          have h2 : m + 1 = n := by rw [hb] at h; simpa using h
          rw [quoL_take k r q m (by omega) hb (by omega), ← h2]
          rfl
theorem getD_take (l : List UInt8) (q i : Nat) : (l.take q).getD i 0 = if i < q then l.getD i 0 else 0 := by
  simp only [List.getD, List.getElem?_take]
  split <;> rfl
theorem fracL_take (r : List UInt8) (q n : Nat) (h : fracL r n = true → n + 1 < q) : fracL (r.take q) n = fracL r n := by
  unfold fracL at h ⊢
  rw [getD_take, getD_take]
  by_cases h1 : n + 1 < q
  · rw [if_pos (by omega), if_pos h1]
  · rw [if_neg h1]
    have hf : ((r.getD n 0 == 47) && dgB (r.getD (n + 1) 0)) = false := by
      rw [← Bool.not_eq_true]
      exact fun hh => h1 (h hh)
    rw [hf, dgB0, Bool.and_false]
theorem numL_take (c : UInt8) (r : List UInt8) (q : Nat) (h : numL (c :: r) ≤ q) : numL ((c :: r).take q) = numL (c :: r) := by
  cases q with
  | zero =>
    have := (numL_le c r).1
    omega
  | succ q =>
    have hd : ((c :: r).take (q + 1)).drop 1 = r.take q := by rw [List.take_succ_cons, List.drop_succ_cons, List.drop_zero]
    have hd' : (c :: r).drop 1 = r := rfl
    have h1 : 1 + runL dgB r ≤ numL (c :: r) := by
      unfold numL
      rw [hd']
      split <;> omega
    have h2 : runL dgB (r.take q) = runL dgB r := runL_take _ _ _ (by omega)
    have h3 : fracL (c :: r) (1 + runL dgB r) = true → 1 + runL dgB r + 1 < q + 1 := by
      intro hf
      unfold numL at h
      rw [hd', if_pos hf] at h
      have h4 : runL dgB ((c :: r).drop (1 + runL dgB r + 1)) ≠ 0 := by
        unfold fracL at hf
        rw [Bool.and_eq_true] at hf
        have hlt : 1 + runL dgB r + 1 < (c :: r).length := getD_lt _ _ (fun h0 => by rw [h0] at hf; exact absurd hf.2 (by decide))
        rw [runL_yes _ _ _ hlt hf.2]
        omega
      omega
    unfold numL
    rw [hd, hd', h2, fracL_take _ _ _ h3]
    split
    · rename_i hf
      unfold numL at h
      rw [hd', if_pos hf] at h
      have : ((c :: r).take (q + 1)).drop (1 + runL dgB r + 1) = ((c :: r).drop (1 + runL dgB r + 1)).take (q + 1 - (1 + runL dgB r + 1)) := by rw [List.drop_take]
      rw [this, runL_take _ _ _ (by omega)]
    · rfl
theorem kl_take (r : List UInt8) (q : Nat) (h0 : (kl r).1 ≠ 0) (hq : (kl r).2 ≤ q) : kl (r.take q) = kl r := by
  have hle := (kl_le r).2.1 h0
  cases q with
  | zero => omega
  | succ q =>
  cases r with
  | nil => rw [List.take_nil]
  | cons c r =>
    have hn := numL_take c r (q + 1)
    rw [List.take_succ_cons] at hn ⊢
    have hg := getD_take r q 0
    have g0 : dgB ((r.take q).getD 0 0) = true → dgB (r.getD 0 0) = true := by
      rw [hg]
      split
      · exact id
      · intro h; exact absurd h (by decide)
    have g61 : (r.take q).getD 0 0 = 61 → r.getD 0 0 = 61 := by
      rw [hg]
      split
      · exact id
      · intro h; exact absurd h (by decide)
    rw [kl] at h0 hq hle ⊢
    rw [kl]
    by_cases c1 : c = 40
    · rw [if_pos c1, if_pos c1]
    rw [if_neg c1] at h0 hq hle ⊢
    rw [if_neg c1]
    by_cases c2 : c = 41
    · rw [if_pos c2, if_pos c2]
    rw [if_neg c2] at h0 hq hle ⊢
    rw [if_neg c2]
    by_cases c3 : smB c = true
    · rw [if_pos c3] at hq
      rw [if_pos c3, if_pos c3, runL_take _ _ _ (by simp only at hq; omega)]
    rw [if_neg c3] at h0 hq hle ⊢
    rw [if_neg c3]
    by_cases c4 : dgB c = true ∨ (c = 45 ∧ dgB (r.getD 0 0) = true)
    · rw [if_pos c4] at hq ⊢
      simp only at hq
      have h4 : dgB c = true ∨ (c = 45 ∧ dgB ((r.take q).getD 0 0) = true) := by
        rcases c4 with c4 | ⟨c4, c5⟩
        · exact .inl c4
        · refine .inr ⟨c4, ?_⟩
          have hlt : 0 < r.length := getD_lt _ _ (fun h0 => by rw [h0] at c5; exact absurd c5 (by decide))
          have h6 : 1 + runL dgB r ≤ numL (c :: r) := by
            unfold numL
            rw [show (c :: r).drop 1 = r from rfl]
            split <;> omega
          have h7 := runL_yes dgB r 0 hlt c5
          rw [List.drop_zero] at h7
          rw [hg, if_pos (by omega)]
          exact c5
      rw [if_pos h4, hn hq]
    rw [if_neg c4] at h0 hq hle ⊢
    rw [if_neg (fun h => c4 (h.imp id (fun h => ⟨h.1, g0 h.2⟩)))]
    by_cases c5 : c = 60 ∧ r.getD 0 0 = 61
    · rw [if_pos c5] at hq
      simp only at hq
      rw [if_pos c5, if_pos ⟨c5.1, by rw [hg, if_pos (by omega)]; exact c5.2⟩]
    rw [if_neg c5] at h0 hq hle ⊢
    rw [if_neg (fun h => c5 ⟨h.1, g61 h.2⟩)]
    by_cases c6 : sgn c = true
    · rw [if_pos c6, if_pos c6]
    rw [if_neg c6] at h0 hq hle ⊢
    rw [if_neg c6]
    by_cases c7 : c = 91
    · rw [if_pos c7] at h0 hq ⊢
      rw [if_pos c7]
      cases hb : braL r with
      | none => rw [hb] at h0; exact absurd rfl h0
      | some n =>
        rw [hb] at hq
        simp only at hq
        rw [braL_take r q n hb (by omega)]
    rw [if_neg c7] at h0 hq hle ⊢
    rw [if_neg c7]
    by_cases c8 : c = 34
    · rw [if_pos c8] at h0 hq ⊢
      rw [if_pos c8]
      cases hb : quoL r with
      | none => rw [hb] at h0; exact absurd rfl h0
      | some n =>
        rw [hb] at hq
        simp only at hq
        rw [quoL_take r.length r q n (Nat.le_refl _) hb (by omega)]
    rw [if_neg c8] at h0 hq hle ⊢
    rw [if_neg c8]
    by_cases c9 : c = 64
    · rw [if_pos c9] at hq
      rw [if_pos c9, if_pos c9, runL_take _ _ _ (by simp only at hq; omega)]
    rw [if_neg c9, if_neg c9]
theorem okOf_take (r : List UInt8) (q : Nat) (h0 : (kl r).1 ≠ 0) (hq : (kl r).2 ≤ q) : okOf (r.take q) = okOf r ∧ ∀ a, tkOf a (r.take q) = tkOf a r := by
  have hk := kl_take r q h0 hq
  have ht : (r.take q).take (kl r).2 = r.take (kl r).2 := by rw [List.take_take, Nat.min_eq_left hq]
  unfold okOf tkOf
  rw [hk, ht]
  exact ⟨rfl, fun a => rfl⟩
end Go.Proofs.YtjbgceogkgpjpaaGreatDoor.Sx.T
namespace Go.Proofs.YtjbgceogkgpjpaaGreatDoor.Sx.T
open Go Go.Proofs.YtjbgceogkgpjpaaGreatDoor.Sx
set_option maxRecDepth 100000
set_option maxHeartbeats 1000000
def HB (s : List UInt8) : Prop := s = [] ∨ ∃ c r, s = c :: r ∧ (c = 32 ∨ c = 10 ∨ c = 41)
theorem HB_p {s : List UInt8} (h : HB s) (p : UInt8 → Bool) (h32 : p 32 = false) (h10 : p 10 = false) (h41 : p 41 = false := by decide) : runL p s = 0 := by
  rcases h with rfl | ⟨c, r, rfl, rfl | rfl | rfl⟩
  · rfl
  · simp [runL, h32]
  · simp [runL, h10]
  · simp [runL, h41]
theorem HB_g {s : List UInt8} (h : HB s) : s.getD 0 0 = 0 ∨ s.getD 0 0 = 32 ∨ s.getD 0 0 = 10 ∨ s.getD 0 0 = 41 := by
  rcases h with rfl | ⟨c, r, rfl, rfl | rfl | rfl⟩ <;> simp
theorem runL_app (p : UInt8 → Bool) (rest : List UInt8) (h : runL p rest = 0) : ∀ l : List UInt8, runL p (l ++ rest) = runL p l
  | [] => h
  | c :: r => by
    rw [List.cons_append, runL, runL, runL_app p rest h r]
theorem braL_app (rest : List UInt8) : ∀ (l : List UInt8) (n : Nat), braL l = some n → braL (l ++ rest) = some n
  | [], n, h => by simp [braL] at h
  | c :: r, n, h => by
    rw [List.cons_append, braL]
    rw [braL] at h
    by_cases hc : c = 93
    · rw [if_pos hc] at h ⊢; exact h
    · rw [if_neg hc] at h ⊢
      cases hb : braL r with
      | none => rw [hb] at h; cases h
      | some m => rw [hb] at h; rw [braL_app rest r m hb]; exact h
theorem quoL_app (rest : List UInt8) : ∀ (k : Nat) (l : List UInt8) (n : Nat), l.length ≤ k → quoL l = some n → quoL (l ++ rest) = some n
  | _, [], n, _, h => by simp [quoL] at h
  | 0, c :: r, n, hk, _ => by simp at hk
  | k + 1, c :: r, n, hk, h => by
    simp only [List.length_cons] at hk
    rw [List.cons_append, quoL_cons]
    rw [quoL_cons] at h
    by_cases h34 : c = 34
    · rw [if_pos h34] at h ⊢; exact h
    · rw [if_neg h34] at h ⊢
      by_cases h92 : c = 92
      · rw [if_pos h92] at h ⊢
        cases hb : quoL (r.drop 1) with
        | none => rw [hb] at h; cases h
        | some m =>
          cases r with
          | nil => simp [quoL] at hb
          | cons d r =>
            have e : ((d :: r) ++ rest).drop 1 = (d :: r).drop 1 ++ rest := rfl
            rw [e, quoL_app rest k _ m (by simp at hk ⊢; omega) hb]
            rw [hb] at h
            exact h
      · rw [if_neg h92] at h ⊢
        cases hb : quoL r with
        | none => rw [hb] at h; cases h
        | some m => rw [hb] at h; rw [quoL_app rest k r m (by omega) hb]; exact h
theorem getD_app (t rest : List UInt8) (i : Nat) : (t ++ rest).getD i 0 = if i < t.length then t.getD i 0 else rest.getD (i - t.length) 0 := by
  simp only [List.getD, List.getElem?_append]
  split <;> rfl
theorem getD_ge (t : List UInt8) (i : Nat) (h : t.length ≤ i) : t.getD i 0 = 0 := by simp [List.getD, h]
theorem fracL_app (t rest : List UInt8) (hr : HB rest) (n : Nat) (hn : n ≤ t.length) : fracL (t ++ rest) n = fracL t n := by
  have hg := HB_g hr
  unfold fracL
  rw [getD_app, getD_app]
  by_cases h1 : n + 1 < t.length
  · rw [if_pos (by omega), if_pos h1]
  · by_cases h2 : n < t.length
    · rw [if_pos h2, if_neg h1, show n + 1 - t.length = 0 by omega, getD_ge t (n + 1) (by omega)]
      rcases hg with h | h | h | h <;> rw [h] <;> simp [dgB]
    · rw [if_neg h2, show n - t.length = 0 by omega, getD_ge t n (by omega), getD_ge t (n + 1) (by omega)]
      rcases hg with h | h | h | h <;> rw [h] <;> simp
theorem numL_app (c : UInt8) (t rest : List UInt8) (hr : HB rest) : numL ((c :: t) ++ rest) = numL (c :: t) := by
  have h0 : runL dgB rest = 0 := HB_p hr dgB (by decide) (by decide)
  have hd : ((c :: t) ++ rest).drop 1 = t ++ rest := rfl
  have hd' : (c :: t).drop 1 = t := rfl
  have hle := runL_le dgB t
  unfold numL
  rw [hd, hd', runL_app dgB rest h0 t, fracL_app _ _ hr _ (by simp; omega)]
  by_cases hf : fracL (c :: t) (1 + runL dgB t) = true
  · rw [if_pos hf, if_pos hf]
    have hlt : 1 + runL dgB t + 1 < (c :: t).length := by
      unfold fracL at hf
      rw [Bool.and_eq_true] at hf
      exact getD_lt _ _ (fun h0 => by rw [h0] at hf; exact absurd hf.2 (by decide))
    rw [List.drop_append_of_le_length (by omega), runL_app dgB rest h0]
  · rw [if_neg hf, if_neg hf]
theorem kl_app (t rest : List UInt8) (hr : HB rest) (h0 : (kl t).1 ≠ 0) : kl (t ++ rest) = kl t := by
  have hdr : runL dgB rest = 0 := HB_p hr dgB (by decide) (by decide)
  have hwr : runL wcB rest = 0 := HB_p hr wcB (by decide) (by decide)
  have hg := HB_g hr
  cases t with
  | nil => exact absurd rfl h0
  | cons c t =>
    have hn := numL_app c t rest hr
    rw [List.cons_append] at hn ⊢
    have g0 : dgB ((t ++ rest).getD 0 0) = dgB (t.getD 0 0) := by
      rw [getD_app]
      split
      · rfl
      · rename_i h
        rw [getD_ge t 0 (by omega), Nat.zero_sub]
        rcases hg with h | h | h | h <;> rw [h] <;> decide
    have g61 : ((t ++ rest).getD 0 0 = 61) ↔ (t.getD 0 0 = 61) := by
      rw [getD_app]
      split
      · exact Iff.rfl
      · rename_i h
        rw [getD_ge t 0 (by omega), Nat.zero_sub]
        rcases hg with h | h | h | h <;> rw [h] <;> decide
    rw [kl] at h0 ⊢
    rw [kl]
    rw [g0, hn, runL_app wcB rest hwr, runL_app dgB rest hdr]
    by_cases c1 : c = 40
    · rw [if_pos c1, if_pos c1]
    rw [if_neg c1] at h0 ⊢
    rw [if_neg c1]
    by_cases c2 : c = 41
    · rw [if_pos c2, if_pos c2]
    rw [if_neg c2] at h0 ⊢
    rw [if_neg c2]
    by_cases c3 : smB c = true
    · rw [if_pos c3, if_pos c3]
    rw [if_neg c3] at h0 ⊢
    rw [if_neg c3]
    by_cases c4 : dgB c = true ∨ (c = 45 ∧ dgB (t.getD 0 0) = true)
    · rw [if_pos c4, if_pos c4]
    rw [if_neg c4] at h0 ⊢
    rw [if_neg c4]
    by_cases c5 : c = 60 ∧ t.getD 0 0 = 61
    · rw [if_pos c5, if_pos ⟨c5.1, g61.2 c5.2⟩]
    rw [if_neg c5] at h0 ⊢
    rw [if_neg (fun h => c5 ⟨h.1, g61.1 h.2⟩)]
    by_cases c6 : sgn c = true
    · rw [if_pos c6, if_pos c6]
    rw [if_neg c6] at h0 ⊢
    rw [if_neg c6]
    by_cases c7 : c = 91
    · rw [if_pos c7] at h0 ⊢
      rw [if_pos c7]
      cases hb : braL t with
      | none => rw [hb] at h0; exact absurd rfl h0
      | some n => rw [braL_app rest t n hb]
    rw [if_neg c7] at h0 ⊢
    rw [if_neg c7]
    by_cases c8 : c = 34
    · rw [if_pos c8] at h0 ⊢
      rw [if_pos c8]
      cases hb : quoL t with
      | none => rw [hb] at h0; exact absurd rfl h0
      | some n => rw [quoL_app rest t.length t n (Nat.le_refl _) hb]
    rw [if_neg c8] at h0 ⊢
    rw [if_neg c8]
def Own1 (t : Tk) : Prop := kl t.t = (t.k, t.t.length) ∧ okOf t.t = true ∧ (valOf t.k t.t).1 = t.v ∧ ∃ c r, t.t = c :: r ∧ blk c = false
theorem own_of (a : Nat) (c : UInt8) (r : List UInt8) (hb : blk c = false) (ho : okOf (c :: r) = true) : Own1 (tkOf a (c :: r)) := by
  have h0 := ok_kl _ ho
  have hkl := kl_le (c :: r)
  have hk1 := hkl.2.1 h0
  have ht := okOf_take (c :: r) (kl (c :: r)).2 h0 (Nat.le_refl _)
  have hk := kl_take (c :: r) (kl (c :: r)).2 h0 (Nat.le_refl _)
  have htt : (tkOf a (c :: r)).t = (c :: r).take (kl (c :: r)).2 := rfl
  have hlen : ((c :: r).take (kl (c :: r)).2).length = (kl (c :: r)).2 := by
    rw [List.length_take]
    omega
  refine ⟨?_, ?_, rfl, ?_⟩
  · rw [htt, hk, hlen]; rfl
  · rw [htt, ht.1]; exact ho
  · obtain ⟨m, hm⟩ : ∃ m, (kl (c :: r)).2 = m + 1 := ⟨(kl (c :: r)).2 - 1, by omega⟩
    exact ⟨c, r.take m, by rw [htt, hm]; rfl, hb⟩
theorem toks_own : ∀ (n a : Nat) (r : List UInt8) (o : Option Nat) (l : List Tk), toks n a r = (o, l) → ∀ t ∈ l, Own1 t := by
  intro n
  induction n with
  | zero => intro a r o l h; rw [toks] at h; cases h; simp
  | succ n ih =>
    intro a r o l h
    cases r with
    | nil => rw [toks_nil] at h; cases h; simp
    | cons c r =>
      cases hk : blk c with
      | true => rw [toks_blk _ _ _ _ hk] at h; exact ih _ _ _ _ h
      | false =>
        cases ho : okOf (c :: r) with
        | false => rw [toks_bad _ _ _ _ hk ho] at h; cases h; simp
        | true =>
          rw [toks_ok _ _ _ _ hk ho] at h
          have h2 := congrArg Prod.snd h
          simp only at h2
          intro t ht
          rw [← h2] at ht
          rcases List.mem_cons.1 ht with rfl | ht
          · exact own_of a c r hk ho
          · exact ih _ _ _ _ rfl t ht
end Go.Proofs.YtjbgceogkgpjpaaGreatDoor.Sx.T
