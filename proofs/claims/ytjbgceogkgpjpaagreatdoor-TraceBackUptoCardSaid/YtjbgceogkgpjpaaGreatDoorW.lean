/- Layer 6, part 1: names. -/
import Derived.Test.YtjbgceogkgpjpaaGreatDoorEvB
import Derived.Test.YtjbgceogkgpjpaaGreatDoorEvR
import Derived.Test.YtjbgceogkgpjpaaGreatDoorEvP
import Derived.Test.YtjbgceogkgpjpaaGreatDoorEvS
import Derived.Test.YtjbgceogkgpjpaaGreatDoorEvL
import Derived.Test.YtjbgceogkgpjpaaGreatDoorGV
import Derived.Test.YtjbgceogkgpjpaaGreatDoorEvQ
import Derived.Test.YtjbgceogkgpjpaaGreatDoorSxRun
import Derived.Test.YtjbgceogkgpjpaaGreatDoorTold
set_option linter.unusedVariables false
set_option linter.unusedSimpArgs false
namespace Go.Proofs.YtjbgceogkgpjpaaGreatDoor.Sx.T
open Go Go.Proofs.YtjbgceogkgpjpaaGreatDoor.Sx
set_option maxRecDepth 100000
set_option maxHeartbeats 8000000
def chA (n : Nat) : Prop := 97 ≤ n ∧ n ≤ 122
def chB (n : Nat) : Prop := n = 95 ∨ (48 ≤ n ∧ n ≤ 57)
def restOk (s : List UInt8) (i : Nat) : Prop := ∀ j, i ≤ j → j < s.length → chA (s.getD j 0).toNat ∨ (j ≠ 0 ∧ chB (s.getD j 0).toNat)
theorem rest_end (s : List UInt8) (i : Nat) (h : s.length ≤ i) : restOk s i := fun j h1 h2 => by omega
theorem rest_step (s : List UInt8) (i : Nat) (h : i < s.length) (hc : chA (s.getD i 0).toNat ∨ (i ≠ 0 ∧ chB (s.getD i 0).toNat)) : restOk s i ↔ restOk s (i + 1) := by
  constructor
  · exact fun H j h1 h2 => H j (by omega) h2
  · intro H j h1 h2
    by_cases e : j = i
    · subst e; exact hc
    · exact H j (by omega) h2
theorem rest_bad (s : List UInt8) (i : Nat) (h : i < s.length) (hc : ¬ (chA (s.getD i 0).toNat ∨ (i ≠ 0 ∧ chB (s.getD i 0).toNat))) : ¬ restOk s i := fun H => hc (H i (Nat.le_refl _) h)
def ON (b : Prop) (h : Heap) (r : Option (XExit × St)) : Prop :=
  (b ∧ ∃ fr' L, r = some (.exit 0, ⟨fr', L :: h⟩)) ∨ (¬ b ∧ ∃ fr' L, r = some (.ret, ⟨fr', L :: h⟩) ∧ fget fr' 2 = .bool false)
theorem l_name (s : List UInt8) (hl : s.length < 9223372036854775807) (l : Level) (h : Heap) (v : Nat) : ∀ (m i : Nat) (_ : i + m = s.length) (fr : List AV), fget fr 18 = .ptr ⟨h.length, 18, v⟩ 0 →
    ON (restOk s i) h (LC X GV (.loop x39_l0) ⟨fr, lputi l 18 v s i :: h⟩) := by
  intro m
  induction m with
  | zero =>
    intro i hi fr h18
    rw [LC_loop]
    have hc : (i < s.length) = False := by simp; omega
    simp +contextual -implicitDefEqProofs (maxSteps := 10000000) only [x39_l0_run, go_sem, ↓reduceIte, h18, hc, o_nexts]
    exact .inl ⟨rest_end s i (by omega), _, _, rfl⟩
  | succ m ih =>
    intro i hi fr h18
    rw [LC_loop]
    have ki : i < s.length := by omega
    have hc : (i < s.length) = True := by simp; omega
    have hlo := dec_low s i ki
    have hhi := dec_high s i ki
    have hst := rest_step s i ki
    have hbd := rest_bad s i ki
    obtain ⟨c, hcc⟩ : ∃ c, (s.getD i 0).toNat = c := ⟨_, rfl⟩
    rw [hcc] at hlo hhi hst hbd
    obtain ⟨r, w, hd⟩ : ∃ r w, decodeAt s i = (r, w) := ⟨_, _, rfl⟩
    rw [hd] at hlo hhi
    simp only [Prod.mk.injEq] at hlo hhi
    have go : chA c ∨ (i ≠ 0 ∧ chB c) → w = 1 → ∀ fr', fget fr' 18 = .ptr ⟨h.length, 18, v⟩ 0 → ON (restOk s i) h (LC X GV (.loop x39_l0) ⟨fr', lputi l 18 v s (i + w) :: h⟩) := by
      intro hok hw fr' g18
      have := ih (i + 1) (by omega) fr' g18
      rw [hw]
      unfold ON at this ⊢
      rw [hst hok]
      exact this
    by_cases a1 : 97 ≤ r
    · have e1 : ((97 : Int) ≤ (r : Int)) = True := by simp; omega
      by_cases a2 : r ≤ 122
      · have e2 : ((r : Int) ≤ 122) = True := by simp; omega
        have hx := hlo (by omega)
        simp +contextual -implicitDefEqProofs (maxSteps := 10000000) only [x39_l0_run, go_sem, ↓reduceIte, Nat.reduceEqDiff, h18, hc, hd, o_nexts, e1, e2]
        refine go (.inl ⟨by omega, by omega⟩) hx.2 _ ?_
        simp only [go_sem, ↓reduceIte, Nat.reduceEqDiff, h18]
      · have e2 : ((r : Int) ≤ 122) = False := by simp; omega
        have hno : ¬ (chA c ∨ (i ≠ 0 ∧ chB c)) := by unfold chA chB; omega
        have e3 : ((r : Int) = 95) = False := by simp; omega
        have e4 : ((r : Int) < 48) = False := by simp; omega
        have e5 : ((57 : Int) < (r : Int)) = True := by simp; omega
        by_cases i0 : i = 0
        · have z0 : (i = 0) = True := by simp [i0]
          simp +contextual -implicitDefEqProofs (maxSteps := 10000000) only [x39_l0_run, go_sem, ↓reduceIte, Nat.reduceEqDiff, h18, hc, hd, o_nexts, e1, e2, z0]
          exact .inr ⟨hbd hno, _, _, rfl, by simp only [go_sem, ↓reduceIte]⟩
        · simp +contextual -implicitDefEqProofs (maxSteps := 10000000) only [x39_l0_run, go_sem, ↓reduceIte, Nat.reduceEqDiff, h18, hc, hd, o_nexts, e1, e2, i0, e3, e4, e5]
          exact .inr ⟨hbd hno, _, _, rfl, by simp only [go_sem, ↓reduceIte]⟩
    · have e1 : ((97 : Int) ≤ (r : Int)) = False := by simp; omega
      have hx := hlo (by omega)
      by_cases i0 : i = 0
      · have hno : ¬ (chA c ∨ (i ≠ 0 ∧ chB c)) := by unfold chA chB; omega
        have z0 : (i = 0) = True := by simp [i0]
        simp +contextual -implicitDefEqProofs (maxSteps := 10000000) only [x39_l0_run, go_sem, ↓reduceIte, Nat.reduceEqDiff, h18, hc, hd, o_nexts, e1, z0]
        exact .inr ⟨hbd hno, _, _, rfl, by simp only [go_sem, ↓reduceIte]⟩
      by_cases b1 : r = 95
      · have e3 : ((r : Int) = 95) = True := by simp; omega
        simp +contextual -implicitDefEqProofs (maxSteps := 10000000) only [x39_l0_run, go_sem, ↓reduceIte, Nat.reduceEqDiff, h18, hc, hd, o_nexts, e1, i0, e3]
        refine go (.inr ⟨i0, .inl (by omega)⟩) hx.2 _ ?_
        simp only [go_sem, ↓reduceIte, Nat.reduceEqDiff, h18]
      have e3 : ((r : Int) = 95) = False := by simp; omega
      by_cases b2 : r < 48
      · have e4 : ((r : Int) < 48) = True := by simp; omega
        have hno : ¬ (chA c ∨ (i ≠ 0 ∧ chB c)) := by unfold chA chB; omega
        simp +contextual -implicitDefEqProofs (maxSteps := 10000000) only [x39_l0_run, go_sem, ↓reduceIte, Nat.reduceEqDiff, h18, hc, hd, o_nexts, e1, i0, e3, e4]
        exact .inr ⟨hbd hno, _, _, rfl, by simp only [go_sem, ↓reduceIte]⟩
      have e4 : ((r : Int) < 48) = False := by simp; omega
      by_cases b3 : 57 < r
      · have e5 : ((57 : Int) < (r : Int)) = True := by simp; omega
        have hno : ¬ (chA c ∨ (i ≠ 0 ∧ chB c)) := by unfold chA chB; omega
        simp +contextual -implicitDefEqProofs (maxSteps := 10000000) only [x39_l0_run, go_sem, ↓reduceIte, Nat.reduceEqDiff, h18, hc, hd, o_nexts, e1, i0, e3, e4, e5]
        exact .inr ⟨hbd hno, _, _, rfl, by simp only [go_sem, ↓reduceIte]⟩
      · have e5 : ((57 : Int) < (r : Int)) = False := by simp; omega
        simp +contextual -implicitDefEqProofs (maxSteps := 10000000) only [x39_l0_run, go_sem, ↓reduceIte, Nat.reduceEqDiff, h18, hc, hd, o_nexts, e1, i0, e3, e4, e5]
        refine go (.inr ⟨i0, .inr (by omega)⟩) hx.2 _ ?_
        simp only [go_sem, ↓reduceIte, Nat.reduceEqDiff, h18]
def kws : List (List UInt8) := [[116, 114, 117, 101], [102, 97, 108, 115, 101], [110, 111, 116], [97, 110, 100], [111, 114], [101, 120, 105, 115, 116, 115], [112, 114, 101, 118], [110, 101, 120, 116], [111, 110, 99, 101], [115, 111, 111, 110], [115, 105, 110, 99, 101], [117, 110, 116, 105, 108], [98, 101, 102, 111, 114, 101], [97, 102, 116, 101, 114], [97, 103, 103], [108, 101, 116], [108, 101, 116, 112, 97, 115, 116], [106, 111, 105, 110], [97, 110, 121], [116, 101, 115, 116], [97, 108, 116], [115, 101, 113], [115, 116, 97, 114]]
def isT (r : Option (AV × Heap)) : Bool := match r with | some (.bool true, []) => true | _ => false
theorem of_isT {r : Option (AV × Heap)} (h : isT r = true) : r = some (.bool true, []) := by
  unfold isT at h
  split at h
  · rfl
  · cases h
theorem kw_true : (kws.all fun w => isT (evCall X GV 5 62 [.str w] [])) = true := by kernel_rfl
theorem v_kw (s : List UInt8) : CL X GV 62 [.str s] [] = some (.bool (decide (s ∈ kws)), []) := by
  by_cases h : s ∈ kws
  · have := List.all_eq_true.1 kw_true s h
    rw [decide_eq_true h]
    exact CL_iff.2 ⟨5, of_isT this⟩
  · rw [decide_eq_false h]
    simp only [kws, List.mem_cons, List.not_mem_nil, or_false, not_or] at h
    obtain ⟨n1, n2, n3, n4, n5, n6, n7, n8, n9, n10, n11, n12, n13, n14, n15, n16, n17, n18, n19, n20, n21, n22, n23⟩ := h
    rw [CL_eq (fn := x62) rfl]
    simp +contextual -implicitDefEqProofs (maxSteps := 10000000) only [x62, go_sem, ↓reduceIte, reduceCtorEq, Nat.reduceEqDiff, n1, n2, n3, n4, n5, n6, n7, n8, n9, n10, n11, n12, n13, n14, n15, n16, n17, n18, n19, n20, n21, n22, n23]
def nameP (s : List UInt8) : Prop := s ≠ [] ∧ s.length ≤ 16 ∧ s ∉ kws ∧ restOk s 0
open Classical in
theorem v_name (s : List UInt8) : CL X GV 39 [.str s] [] = some (.bool (decide (nameP s)), []) := by
  have hk := v_kw s
  rw [CL_eq (fn := x39) rfl]
  by_cases h1 : s = []
  · have hn : decide (nameP s) = false := decide_eq_false (fun h => h.1 h1)
    rw [hn]
    simp +contextual -implicitDefEqProofs (maxSteps := 10000000) only [x39, go_sem, ↓reduceIte, reduceCtorEq, Nat.reduceEqDiff, h1]
  by_cases h2 : 16 < s.length
  · have hn : decide (nameP s) = false := decide_eq_false (fun h => by have := h.2.1; omega)
    have e2 : ((16 : Int) < (s.length : Int)) = True := by simp; omega
    rw [hn]
    simp +contextual -implicitDefEqProofs (maxSteps := 10000000) only [x39, go_sem, ↓reduceIte, reduceCtorEq, Nat.reduceEqDiff, h1, e2]
  have e2 : ((16 : Int) < (s.length : Int)) = False := by simp; omega
  by_cases h3 : s ∈ kws
  · have hn : decide (nameP s) = false := decide_eq_false (fun h => h.2.2.1 h3)
    rw [hn]
    simp +contextual -implicitDefEqProofs (maxSteps := 10000000) only [x39, go_sem, ↓reduceIte, reduceCtorEq, Nat.reduceEqDiff, h1, e2, hk, h3]
  simp +contextual -implicitDefEqProofs (maxSteps := 10000000) only [x39, go_sem, ↓reduceIte, reduceCtorEq, Nat.reduceEqDiff, h1, e2, hk, h3, o_rngs, rngK_str, rngP_some]
  refine elimL (fun r => finK _ (seqK (blockK 0 r) _) = _) (l_name s (by omega) [] [] _ s.length 0 (by omega) _ ?_) ?_
  · simp only [go_sem, ↓reduceIte]
  · rintro r (⟨hb, fr', L, rfl⟩ | ⟨hb, fr', L, rfl, g2⟩)
    · have hn : decide (nameP s) = true := decide_eq_true ⟨h1, by omega, h3, hb⟩
      rw [hn]
      simp +contextual -implicitDefEqProofs (maxSteps := 10000000) only [go_sem, ↓reduceIte]
    · have hn : decide (nameP s) = false := decide_eq_false (fun h => hb h.2.2.2)
      rw [hn]
      simp +contextual -implicitDefEqProofs (maxSteps := 10000000) only [go_sem, g2]
end Go.Proofs.YtjbgceogkgpjpaaGreatDoor.Sx.T
