/- Layer 5, part 1: a text of blanks is cut into nothing, a longer one is refused. -/
import Derived.Test.YtgfeladjpjipeaaDoorEvB
import Derived.Test.YtgfeladjpjipeaaDoorEvR
import Derived.Test.YtgfeladjpjipeaaDoorEvP
import Derived.Test.YtgfeladjpjipeaaDoorEvS
import Derived.Test.YtgfeladjpjipeaaDoorEvL
import Derived.Test.YtgfeladjpjipeaaDoorGV
import Derived.Test.YtgfeladjpjipeaaDoorSxRun
import Derived.Test.YtgfeladjpjipeaaDoorTold
set_option linter.unusedVariables false
set_option linter.unusedSimpArgs false
namespace Go.Proofs.YtgfeladjpjipeaaDoor.Sx.T
open Go Go.Proofs.YtgfeladjpjipeaaDoor.Sx
set_option maxRecDepth 100000
set_option maxHeartbeats 8000000
theorem p_toksLong (s : List UInt8) (hl : 16384 < s.length) (hp : Heap) : CL X GV 8 [.str s] hp = some (.tup [.nilsl, .int .i64 2, .int .i64 0], hp) := by
  rw [CL_eq (fn := x8) rfl]
  have f0 : ((16384 : Int) < (s.length : Int)) = True := by simp; omega
  simp +contextual -implicitDefEqProofs (maxSteps := 10000000) only [x8, go_sem, ↓reduceIte, reduceCtorEq, Nat.reduceEqDiff, Nat.reduceAdd, f0]
theorem p_toksBlank (s : List UInt8) (hl : s.length ≤ 16384) (hb : ∀ i, i < s.length → s.getD i 0 = 32) (hp : Heap) : CL X GV 8 [.str s] hp = some (.tup [.nilsl, .int .i64 0, .int .i64 0], hp) := by
  rw [CL_eq (fn := x8) rfl]
  have f0 : ((16384 : Int) < (s.length : Int)) = False := by simp; omega
  simp +contextual -implicitDefEqProofs (maxSteps := 10000000) only [x8, go_sem, ↓reduceIte, reduceCtorEq, f0]
  obtain ⟨I, hI⟩ : ∃ I : Nat → List AV → Heap → Prop, ∀ i fr hp', I i fr hp' ↔ (hp' = [] :: hp ∧ fget fr 0 = .str s ∧ fget fr 5 = .nilsl ∧ fget fr 6 = .int .i64 (i : Nat)) := ⟨_, fun _ _ _ => Iff.rfl⟩
  obtain ⟨Q, hQ⟩ : ∃ Q : XExit → List AV → Heap → Prop, ∀ e fr hp', Q e fr hp' ↔ (hp' = [] :: hp ∧ e = .exit 0 ∧ fget fr 5 = .nilsl) := ⟨_, fun _ _ _ => Iff.rfl⟩
  refine LC_upK s.length I Q (fun r => finK _ (seqK (blockK 0 r) _) = _) ?_ ?_ ?_ ?_
  · rw [hI]
    refine ⟨rfl, ?_, ?_, ?_⟩ <;> simp only [go_sem, ↓reduceIte, reduceCtorEq, Nat.reduceEqDiff, Int.natCast_zero]
  · intro i hi fr hp' h
    obtain ⟨rfl, h0, h5, h6⟩ := (hI _ _ _).1 h
    have k1 : ((i : Int) < (s.length : Int)) = True := by simp; omega
    have k2 : (i < s.length) = True := by simp; omega
    have g1 := hb i hi
    have w1 : wr .i64 ((i : Int) + 1) = ((i + 1 : Nat) : Int) := by rw [wr_i64 _ (by omega)]; omega
    have u32 : ((32 : UInt8).toNat) = 32 := rfl
    have n32 : ((32 : Nat) : Int) = 32 := rfl
    simp +contextual -implicitDefEqProofs (maxSteps := 10000000) only [x8_l0_run, go_sem, ↓reduceIte, reduceCtorEq, Nat.reduceEqDiff, h0, h6, k1, k2, g1, w1, u32, n32]
    rw [hI]
    refine ⟨rfl, ?_, ?_, ?_⟩ <;> simp only [go_sem, ↓reduceIte, reduceCtorEq, Nat.reduceEqDiff, h0, h5]
  · intro fr hp' h
    obtain ⟨rfl, h0, h5, h6⟩ := (hI _ _ _).1 h
    simp +contextual -implicitDefEqProofs (maxSteps := 10000000) only [x8_l0_run, go_sem, ↓reduceIte, reduceCtorEq, Nat.reduceEqDiff, h0, h6, Int.lt_irrefl]
    rw [hQ]
    exact ⟨rfl, rfl, by simp only [go_sem, ↓reduceIte, Nat.reduceEqDiff, h5]⟩
  · intro e fr hp' he h
    obtain ⟨rfl, rfl, h5⟩ := (hQ _ _ _).1 h
    simp +contextual -implicitDefEqProofs (maxSteps := 10000000) only [go_sem, ↓reduceIte, Nat.reduceEqDiff, Nat.reduceAdd, h5]
theorem chunks_sp : ∀ (n : Nat) (l : List AV), chunks 1 n (List.replicate n (AV.int .u8 32) ++ l) = listOfBytes (List.replicate n 32)
  | 0, l => rfl
  | n + 1, l => by
    rw [chunks, List.replicate_succ, List.cons_append]
    simp only [List.take_succ_cons, List.take_zero, List.drop_succ_cons, List.drop_zero]
    rw [chunks_sp n l]
    rfl
theorem bstr_sp (hp : Heap) (r : Ref) (n m k : Nat) (hc : cellsAt hp r = some (List.replicate n (AV.int .u8 32))) (hk : k + m = n) : bstrK hp (.sl r 1 k m) = some (.str (List.replicate m 32)) := by
  have e : listOf hp 1 (.sl r 1 k m) = some (listOfBytes (List.replicate m 32)) := by
    have e2 : (List.replicate n (AV.int .u8 32)).drop k = List.replicate m (AV.int .u8 32) ++ [] := by
      rw [List.drop_replicate, List.append_nil]
      congr 1
      omega
    simp only [listOf, hc, if_true, List.length_replicate, Nat.mul_one]
    rw [if_pos (by omega), e2, chunks_sp]
  rw [bstrK, e]
  simp only [bytesOfL_bytes]
theorem splice_fill : ∀ (i m : Nat), splice (List.replicate i (AV.int .u8 32) ++ List.replicate (m + 1) (AV.int .u8 0)) i [.int .u8 32] = List.replicate (i + 1) (AV.int .u8 32) ++ List.replicate m (AV.int .u8 0)
  | 0, m => by simp [List.replicate_succ, splice]
  | i + 1, m => by
    rw [List.replicate_succ, List.cons_append, splice_succ, splice_fill i m, List.replicate_succ (n := i + 1), List.cons_append]
theorem flat_zero : ∀ n : Nat, (List.replicate n [AV.int .u8 0]).flatten = List.replicate n (AV.int .u8 0)
  | 0 => rfl
  | n + 1 => by rw [List.replicate_succ, List.flatten_cons, flat_zero n, List.replicate_succ]; rfl
theorem v_LexNumbers (hp : Heap) : CL X GV 3 [] hp = some (.bool true, hp) := by
  obtain ⟨N, hN⟩ : ∃ N : Nat, N = 16385 := ⟨_, rfl⟩
  have hlc : ∀ C, lcells (lputc [] 9 0 C) 9 0 = some C := fun C => by rw [lcells_put]; simp
  have hput : ∀ C D, lputc (lputc [] 9 0 C) 9 0 D = lputc [] 9 0 D := fun C D => by unfold lputc; rw [lput_lput]
  have hnv : nextVer [] 9 = 0 := rfl
  have a1 : asNat (.int .i64 16385) = some N := by rw [hN]; rfl
  have rm : (N * (32 * 1) ≤ room) = True := by rw [hN]; simp [room]
  have fz := flat_zero N
  have hc0 : List.replicate N (AV.int .u8 0) = List.replicate 0 (AV.int .u8 32) ++ List.replicate N (AV.int .u8 0) := rfl
  have l1 := fun hp => p_toksLong (List.replicate N 32) (by rw [List.length_replicate]; omega) hp
  have l2 := fun hp => p_toksBlank (List.replicate (N - 1) 32) (by rw [List.length_replicate]; omega) (fun i hi => by rw [List.length_replicate] at hi; simp [List.getD, hi]) hp
  have hb0 : ∀ hp r, cellsAt hp r = some (List.replicate N (AV.int .u8 32)) → bstrK hp (.sl r 1 0 N) = some (.str (List.replicate N 32)) := fun hp r hc => bstr_sp hp r N N 0 hc (by omega)
  have hb1 : ∀ hp r, cellsAt hp r = some (List.replicate N (AV.int .u8 32)) → bstrK hp (.sl r 1 1 (N - 1)) = some (.str (List.replicate (N - 1) 32)) := fun hp r hc => bstr_sp hp r N (N - 1) 1 hc (by omega)
  have hlive := liveTold
  rw [CL_eq (fn := x3) rfl]
  simp +contextual -implicitDefEqProofs (maxSteps := 10000000) only [x3, go_sem, ↓reduceIte, o_mks, a1, mksK_some, rm, fz, hnv]
  obtain ⟨I, hI⟩ : ∃ I : Nat → List AV → Heap → Prop, ∀ i fr hp', I i fr hp' ↔ (i ≤ N ∧ hp' = lputc [] 9 0 (List.replicate i (AV.int .u8 32) ++ List.replicate (N - i) (AV.int .u8 0)) :: hp ∧ fget fr 1 = .sl ⟨hp.length, 9, 0⟩ 1 0 N ∧ fget fr 2 = .int .i64 (i : Nat)) := ⟨_, fun _ _ _ => Iff.rfl⟩
  obtain ⟨Q, hQ⟩ : ∃ Q : XExit → List AV → Heap → Prop, ∀ e fr hp', Q e fr hp' ↔ (e = .exit 0 ∧ hp' = lputc [] 9 0 (List.replicate N (AV.int .u8 32)) :: hp ∧ fget fr 1 = .sl ⟨hp.length, 9, 0⟩ 1 0 N) := ⟨_, fun _ _ _ => Iff.rfl⟩
  refine LC_upK N I Q (fun r => finK _ (seqK (blockK 0 r) _) = _) ?_ ?_ ?_ ?_
  · rw [hI]
    refine ⟨by omega, ?_, ?_, ?_⟩
    · simp
    all_goals simp only [go_sem, ↓reduceIte, Nat.reduceEqDiff, Int.natCast_zero]
  · intro i hi fr hp' h
    obtain ⟨hle, rfl, h1, h2⟩ := (hI _ _ _).1 h
    obtain ⟨m, hm⟩ : ∃ m, N - i = m + 1 := ⟨N - i - 1, by omega⟩
    have k1 : ((i : Int) < (N : Int)) = True := by simp; omega
    have k2 : (i < N) = True := by simp; omega
    have m1 : i * 1 = i := Nat.mul_one i
    have w1 : wr .i64 ((i : Int) + 1) = ((i + 1 : Nat) : Int) := by rw [wr_i64 _ (by omega)]; omega
    have sp := splice_fill i m
    have hsl : (List.replicate i (AV.int .u8 32) ++ List.replicate (m + 1) (AV.int .u8 0)).length = N := by simp; omega
    have k3 : (i + 1 ≤ N) = True := by simp; omega
    rw [hm]
    simp +contextual -implicitDefEqProofs (maxSteps := 10000000) only [x3_l0_run, go_sem, ↓reduceIte, Nat.reduceEqDiff, h1, h2, k1, k2, k3, w1, m1, iaddrK_sl, uf_sl, lensK_sl, stAt_topc, hlc, hput, sp, hsl, Nat.zero_add]
    rw [hI]
    refine ⟨by omega, ?_, ?_, ?_⟩
    · rw [show N - (i + 1) = m by omega]
    all_goals simp only [go_sem, ↓reduceIte, Nat.reduceEqDiff, h1]
  · intro fr hp' h
    obtain ⟨hle, rfl, h1, h2⟩ := (hI _ _ _).1 h
    simp +contextual -implicitDefEqProofs (maxSteps := 10000000) only [x3_l0_run, go_sem, ↓reduceIte, Nat.reduceEqDiff, h1, h2, Int.lt_irrefl, uf_sl, lensK_sl]
    rw [hQ]
    refine ⟨rfl, ?_, by simp only [go_sem, ↓reduceIte, Nat.reduceEqDiff, h1]⟩
    rw [Nat.sub_self, List.replicate_zero, List.append_nil]
  · intro e fr hp' he h
    obtain ⟨rfl, rfl, h1⟩ := (hQ _ _ _).1 h
    have hca : cellsAt (lputc [] 9 0 (List.replicate N (AV.int .u8 32)) :: hp) ⟨hp.length, 9, 0⟩ = some (List.replicate N (AV.int .u8 32)) := by rw [cellsAt_top, hlc]
    have ssl1 : sslK 1 (.sl ⟨hp.length, 9, 0⟩ 1 0 N) (some (.int .i64 1)) none none = some (.sl ⟨hp.length, 9, 0⟩ 1 1 (N - 1)) := by
      have e := sslK_slo 1 1 0 N ⟨hp.length, 9, 0⟩ .i64 1
      rw [if_pos (by omega)] at e
      exact e
    have b0 := hb0 _ _ hca
    have b1 := hb1 _ _ hca
    simp +contextual -implicitDefEqProofs (maxSteps := 10000000) only [go_sem, ↓reduceIte, Nat.reduceEqDiff, h1, b0, b1, l1, l2, hlive, o_ssl, ssl1, uf_sl]
end Go.Proofs.YtgfeladjpjipeaaDoor.Sx.T
