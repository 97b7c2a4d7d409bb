/- Layer 2, part 12: texts in quotes. -/
import Derived.Test.YtjbgceogkgpjpaaGreatDoorR
set_option linter.unusedVariables false
set_option linter.unusedSimpArgs false
namespace Go.Proofs.YtjbgceogkgpjpaaGreatDoor.Sx.T
open Go Go.Proofs.YtjbgceogkgpjpaaGreatDoor.Sx
set_option maxRecDepth 100000
set_option maxHeartbeats 8000000
def digs : List UInt8 := [48, 49, 50, 51, 52, 53, 54, 55, 56, 57, 97, 98, 99, 100, 101, 102]
def hx (n : Nat) : UInt8 := digs.getD n 0
def qc (c : UInt8) : List UInt8 := if c.toNat = 34 ∨ c.toNat = 92 then [92, c] else if 32 ≤ c.toNat ∧ c.toNat ≤ 126 then [c] else [92, 120, hx (c.toNat / 16), hx (c.toNat % 16)]
def qt (s : List UInt8) : List UInt8 := 34 :: (s.flatMap qc ++ [34])
theorem qc_len (c : UInt8) : (qc c).length ≤ 4 := by
  unfold qc
  split
  · simp
  · split <;> simp
theorem flat_len (s : List UInt8) : (s.flatMap qc).length ≤ 4 * s.length := by
  induction s with
  | nil => simp
  | cons c s ih => have := qc_len c; rw [List.flatMap_cons, List.length_append, List.length_cons]; omega
theorem bytes_app (a b : List UInt8) : listOfBytes (a ++ b) = listOfBytes a ++ listOfBytes b := by simp [listOfBytes]
theorem bytes_cons (c : UInt8) (b : List UInt8) : listOfBytes (c :: b) = [.int .u8 (c.toNat : Int)] :: listOfBytes b := by simp [listOfBytes]
theorem bytes_nil : listOfBytes [] = [] := rfl
theorem bytes_getD (s : List UInt8) (i : Nat) (h : i < s.length) : (listOfBytes s).getD i [] = [.int .u8 ((s.getD i 0).toNat : Int)] := by
  simp [listOfBytes, List.getD, h]
theorem and15 : ∀ x : Nat, x < 256 → ints .u8 .and (x : Int) 15 = some (.int .u8 ((x % 16 : Nat) : Int)) := by
  intro x hx
  have h : ∀ y : Fin 256, wr .u8 ((BitVec.ofInt 8 (y.val : Int) &&& BitVec.ofInt 8 15).toNat : Int) = ((y.val % 16 : Nat) : Int) := by decide +kernel
  have := h ⟨x, hx⟩
  simp only [ints, bitsOf]
  exact congrArg (fun z => some (AV.int .u8 z)) this
theorem u92 : (((92 : UInt8).toNat : Nat) : Int) = 92 := rfl
theorem u120 : (((120 : UInt8).toNat : Nat) : Int) = 120 := rfl
theorem p48 : (2 : Nat) ^ min 4 8 = 16 := rfl
theorem drop_flat (s : List UInt8) (i : Nat) (h : i < s.length) (acc : List UInt8) : acc ++ (s.drop i).flatMap qc = (acc ++ qc (s.getD i 0)) ++ (s.drop (i + 1)).flatMap qc := by
  rw [List.drop_eq_getElem_cons h, List.flatMap_cons, List.append_assoc]
  simp [List.getD, h]
def OQ (R : List UInt8) (hp : Heap) (r : Option (XExit × St)) : Prop := ∃ fr' o, r = some (.exit 0, ⟨fr', hp⟩) ∧ (o = .own ∨ o = .tight) ∧ fget fr' 3 = .lst o 1 (listOfBytes R)
theorem l_quoted (s : List UInt8) (hl : 4 * s.length + 2 ≤ 140737488355328) (hp : Heap) : ∀ (m i : Nat) (_ : i + m = s.length) (fr : List AV) (acc : List UInt8) (o : Own), (o = .own ∨ o = .tight) → acc.length ≤ 4 * i + 1 →
    fget fr 8 = .lst .own 1 (listOfBytes s) → fget fr 9 = .int .i64 s.length → fget fr 10 = .int .i64 i → fget fr 3 = .lst o 1 (listOfBytes acc) →
    OQ (acc ++ (s.drop i).flatMap qc) hp (LC X GV (.loop x63_l0) ⟨fr, hp⟩) := by
  intro m
  induction m with
  | zero =>
    intro i hi fr acc o ho ha h8 h9 h10 h3
    rw [LC_loop]
    have hc : ((i : Int) < (s.length : Int)) = False := by simp; omega
    simp +contextual -implicitDefEqProofs (maxSteps := 10000000) only [x63_l0_run, go_sem, ↓reduceIte, h9, h10, hc]
    refine ⟨_, o, rfl, ho, ?_⟩
    simp only [go_sem, ↓reduceIte, Nat.reduceEqDiff, h3]
    rw [List.drop_of_length_le (by omega)]
    simp
  | succ m ih =>
    intro i hi fr acc o ho ha h8 h9 h10 h3
    rw [LC_loop]
    have hc : ((i : Int) < (s.length : Int)) = True := by simp; omega
    have ki : i < s.length := by omega
    have kb : i < (listOfBytes s).length := by rw [bytes_len]; exact ki
    have wi : wr .i64 ((i : Int) + 1) = ((i + 1 : Nat) : Int) := by rw [wr_i64 _ (by omega)]; omega
    have hg := bytes_getD s i ki
    rw [drop_flat s i ki acc]
    generalize s.getD i 0 = c at hg ⊢
    have c256 : c.toNat < 256 := c.toNat_lt
    have a15 := and15 c.toNat c256
    have sh : (c.toNat : Int).fdiv 16 = ((c.toNat / 16 : Nat) : Int) := by
      have := fdiv_pow c.toNat 4
      simpa using this
    have r1 : ((listOfBytes acc).length + 1 ≤ room) = True := by rw [bytes_len]; unfold room; simp; omega
    have r2 : ((listOfBytes acc).length + 2 ≤ room) = True := by rw [bytes_len]; unfold room; simp; omega
    have r4 : ((listOfBytes acc).length + 4 ≤ room) = True := by rw [bytes_len]; unfold room; simp; omega
    have d1 : c.toNat / 16 < 16 := by omega
    have d2 : c.toNat % 16 < 16 := Nat.mod_lt _ (by omega)
    have x1 : ([48, 49, 50, 51, 52, 53, 54, 55, 56, 57, 97, 98, 99, 100, 101, 102] : List UInt8).getD (c.toNat / 16) 0 = hx (c.toNat / 16) := rfl
    have x2 : ([48, 49, 50, 51, 52, 53, 54, 55, 56, 57, 97, 98, 99, 100, 101, 102] : List UInt8).getD (c.toNat % 16) 0 = hx (c.toNat % 16) := rfl
    have step : ∀ (fr' : List AV) (q : List UInt8), qc c = q → fget fr' 8 = .lst .own 1 (listOfBytes s) → fget fr' 9 = .int .i64 s.length → fget fr' 10 = .int .i64 ((i + 1 : Nat) : Int) → fget fr' 3 = .lst .own 1 (listOfBytes acc ++ listOfBytes q) →
        OQ ((acc ++ qc c) ++ (s.drop (i + 1)).flatMap qc) hp (LC X GV (.loop x63_l0) ⟨fr', hp⟩) := by
      intro fr' q hq g8 g9 g10 g3
      refine ih (i + 1) (by omega) fr' _ .own (.inl rfl) ?_ g8 g9 g10 ?_
      · have := qc_len c
        rw [List.length_append]; omega
      · rw [g3, hq, bytes_app]
    by_cases b1 : c.toNat = 34
    · have e1 : ((c.toNat : Int) = 34) = True := by simp; omega
      have hq : qc c = [92, c] := by unfold qc; rw [if_pos (.inl b1)]
      rcases ho with rfl | rfl
      all_goals
        simp +contextual -implicitDefEqProofs (maxSteps := 10000000) only [x63_l0_run, go_sem, ↓reduceIte, reduceCtorEq, Nat.reduceEqDiff, Nat.reduceAdd, Nat.reduceLeDiff, Int.reduceLT, Int.reduceToNat, Nat.reduceLT, Nat.reduceDiv, h8, h9, h10, h3, hc, kb, hg, wi, r1, r2, e1, List.flatten_cons, List.flatten_nil]
        refine step _ _ hq ?_ ?_ ?_ ?_ <;> simp only [go_sem, ↓reduceIte, Nat.reduceEqDiff, h8, h9, bytes_cons, bytes_nil, u92]
    by_cases b2 : c.toNat = 92
    · have e1 : ((c.toNat : Int) = 34) = False := by simp; omega
      have e2 : ((c.toNat : Int) = 92) = True := by simp; omega
      have hq : qc c = [92, c] := by unfold qc; rw [if_pos (.inr b2)]
      rcases ho with rfl | rfl
      all_goals
        simp +contextual -implicitDefEqProofs (maxSteps := 10000000) only [x63_l0_run, go_sem, ↓reduceIte, reduceCtorEq, Nat.reduceEqDiff, Nat.reduceAdd, Nat.reduceLeDiff, Int.reduceLT, Int.reduceToNat, Nat.reduceLT, Nat.reduceDiv, h8, h9, h10, h3, hc, kb, hg, wi, r1, r2, e1, e2, List.flatten_cons, List.flatten_nil]
        refine step _ _ hq ?_ ?_ ?_ ?_ <;> simp only [go_sem, ↓reduceIte, Nat.reduceEqDiff, h8, h9, bytes_cons, bytes_nil, u92]
    have e1 : ((c.toNat : Int) = 34) = False := by simp; omega
    have e2 : ((c.toNat : Int) = 92) = False := by simp; omega
    have n12 : ¬ (c.toNat = 34 ∨ c.toNat = 92) := by omega
    by_cases b3 : 32 ≤ c.toNat ∧ c.toNat ≤ 126
    · have e3 : ((32 : Int) ≤ (c.toNat : Int)) = True := by simp; omega
      have e4 : ((c.toNat : Int) ≤ 126) = True := by simp; omega
      have hq : qc c = [c] := by unfold qc; rw [if_neg n12, if_pos b3]
      rcases ho with rfl | rfl
      all_goals
        simp +contextual -implicitDefEqProofs (maxSteps := 10000000) only [x63_l0_run, go_sem, ↓reduceIte, reduceCtorEq, Nat.reduceEqDiff, Nat.reduceAdd, Nat.reduceLeDiff, Int.reduceLT, Int.reduceToNat, Nat.reduceLT, Nat.reduceDiv, h8, h9, h10, h3, hc, kb, hg, wi, r1, r2, e1, e2, e3, e4, List.flatten_cons, List.flatten_nil]
        refine step _ _ hq ?_ ?_ ?_ ?_ <;> simp only [go_sem, ↓reduceIte, Nat.reduceEqDiff, h8, h9, bytes_cons, bytes_nil]
    · have hq : qc c = [92, 120, hx (c.toNat / 16), hx (c.toNat % 16)] := by unfold qc; rw [if_neg n12, if_neg b3]
      by_cases b4 : 32 ≤ c.toNat
      · have e3 : ((32 : Int) ≤ (c.toNat : Int)) = True := by simp; omega
        have e4 : ((c.toNat : Int) ≤ 126) = False := by simp; omega
        rcases ho with rfl | rfl
        all_goals
          simp +contextual -implicitDefEqProofs (maxSteps := 10000000) only [x63_l0_run, go_sem, ↓reduceIte, reduceCtorEq, Nat.reduceEqDiff, Nat.reduceAdd, Nat.reduceLeDiff, Int.reduceLT, Int.reduceToNat, Nat.reduceLT, Nat.reduceDiv, h8, h9, h10, h3, hc, kb, hg, wi, r1, r2, r4, e1, e2, e3, e4, a15, p48, d1, d2, x1, x2, List.flatten_cons, List.flatten_nil]
          refine step _ _ hq ?_ ?_ ?_ ?_ <;> simp only [go_sem, ↓reduceIte, Nat.reduceEqDiff, h8, h9, bytes_cons, bytes_nil, u92, u120]
      · have e3 : ((32 : Int) ≤ (c.toNat : Int)) = False := by simp; omega
        rcases ho with rfl | rfl
        all_goals
          simp +contextual -implicitDefEqProofs (maxSteps := 10000000) only [x63_l0_run, go_sem, ↓reduceIte, reduceCtorEq, Nat.reduceEqDiff, Nat.reduceAdd, Nat.reduceLeDiff, Int.reduceLT, Int.reduceToNat, Nat.reduceLT, Nat.reduceDiv, h8, h9, h10, h3, hc, kb, hg, wi, r1, r2, r4, e1, e2, e3, a15, p48, d1, d2, x1, x2, List.flatten_cons, List.flatten_nil]
          refine step _ _ hq ?_ ?_ ?_ ?_ <;> simp only [go_sem, ↓reduceIte, Nat.reduceEqDiff, h8, h9, bytes_cons, bytes_nil, u92, u120]
theorem v_quoted (s : List UInt8) (hl : 4 * s.length + 2 ≤ 140737488355328) (hp : Heap) : CL X GV 63 [.str s] hp = some (.str (qt s), hp) := by
  have rs : (s.length ≤ room) = True := by unfold room; simp; omega
  have bl := bytes_len s
  rw [CL_eq (fn := x63) rfl]
  simp +contextual -implicitDefEqProofs (maxSteps := 10000000) only [x63, go_sem, ↓reduceIte, reduceCtorEq, Nat.reduceLT, Nat.reduceDiv, rs, bl]
  refine elimL (fun r => finK _ (seqK (blockK 0 r) _) = _) (l_quoted s hl ([] :: hp) s.length 0 (by omega) _ [34] .tight (.inr rfl) (by simp) ?_ ?_ ?_ ?_) ?_
  all_goals try simp only [go_sem, ↓reduceIte, Nat.reduceEqDiff]
  · rfl
  · rfl
  · rintro r ⟨fr', o, rfl, ho, h3⟩
    have hn : ∀ q : List UInt8, listOfBytes q ++ [[.int .u8 34]] = listOfBytes (q ++ [34]) := fun q => by rw [bytes_app]; rfl
    have r1 : ((listOfBytes (34 :: s.flatMap qc)).length + 1 ≤ room) = True := by
      have := flat_len s
      rw [bytes_len, List.length_cons]
      unfold room
      simp only [eq_iff_iff, iff_true]
      omega
    rcases ho with rfl | rfl
    all_goals
      simp +contextual -implicitDefEqProofs (maxSteps := 10000000) only [go_sem, ↓reduceIte, reduceCtorEq, Nat.reduceEqDiff, Nat.reduceLT, Nat.reduceDiv, h3, r1, hn, qt, List.flatten_cons, List.flatten_nil]
def OQ' (R : List UInt8) (hp : Heap) (r : Option (XExit × St)) : Prop := ∃ fr' o, r = some (.exit 0, ⟨fr', hp⟩) ∧ (o = .own ∨ o = .tight) ∧ fget fr' 3 = .lst o 1 (listOfBytes R)
theorem l_rquoted (s : List UInt8) (hl : 4 * s.length + 2 ≤ 140737488355328) (hp : Heap) : ∀ (m i : Nat) (_ : i + m = s.length) (fr : List AV) (acc : List UInt8) (o : Own), (o = .own ∨ o = .tight) → acc.length ≤ 4 * i + 1 →
    fget fr 0 = .str s → fget fr 4 = .int .i64 i → fget fr 3 = .lst o 1 (listOfBytes acc) →
    OQ' (acc ++ (s.drop i).flatMap qc) hp (LC X GV (.loop x64_l0) ⟨fr, hp⟩) := by
  intro m
  induction m with
  | zero =>
    intro i hi fr acc o ho ha h0 h4 h3
    rw [LC_loop]
    have hc : ((i : Int) < (s.length : Int)) = False := by simp; omega
    simp +contextual -implicitDefEqProofs (maxSteps := 10000000) only [x64_l0_run, go_sem, ↓reduceIte, reduceCtorEq, Nat.reduceEqDiff, h0, h4, hc]
    refine ⟨_, o, rfl, ho, ?_⟩
    simp only [go_sem, ↓reduceIte, Nat.reduceEqDiff, h3]
    rw [List.drop_of_length_le (by omega)]
    simp
  | succ m ih =>
    intro i hi fr acc o ho ha h0 h4 h3
    rw [LC_loop]
    have hc : ((i : Int) < (s.length : Int)) = True := by simp; omega
    have ki : i < s.length := by omega
    have wi : wr .i64 ((i : Int) + 1) = ((i + 1 : Nat) : Int) := by rw [wr_i64 _ (by omega)]; omega
    rw [drop_flat s i ki acc]
    obtain ⟨c, hg⟩ : ∃ c, s.getD i 0 = c := ⟨_, rfl⟩
    rw [hg]
    have c256 : c.toNat < 256 := c.toNat_lt
    have a15 := and15 c.toNat c256
    have sh : (c.toNat : Int).fdiv 16 = ((c.toNat / 16 : Nat) : Int) := by
      have := fdiv_pow c.toNat 4
      simpa using this
    have sh' : wr .u8 ((c.toNat / 16 : Nat) : Int) = ((c.toNat / 16 : Nat) : Int) := wr_u8_nat _ (by omega)
    have r1 : ((listOfBytes acc).length + 1 ≤ room) = True := by rw [bytes_len]; unfold room; simp; omega
    have r2 : ((listOfBytes acc).length + 2 ≤ room) = True := by rw [bytes_len]; unfold room; simp; omega
    have r4 : ((listOfBytes acc).length + 4 ≤ room) = True := by rw [bytes_len]; unfold room; simp; omega
    have d1 : c.toNat / 16 < 16 := by omega
    have d2 : c.toNat % 16 < 16 := Nat.mod_lt _ (by omega)
    have x1 : ([48, 49, 50, 51, 52, 53, 54, 55, 56, 57, 97, 98, 99, 100, 101, 102] : List UInt8).getD (c.toNat / 16) 0 = hx (c.toNat / 16) := rfl
    have x2 : ([48, 49, 50, 51, 52, 53, 54, 55, 56, 57, 97, 98, 99, 100, 101, 102] : List UInt8).getD (c.toNat % 16) 0 = hx (c.toNat % 16) := rfl
    have step : ∀ (fr' : List AV) (q : List UInt8), qc c = q → fget fr' 0 = .str s → fget fr' 4 = .int .i64 ((i + 1 : Nat) : Int) → fget fr' 3 = .lst .own 1 (listOfBytes acc ++ listOfBytes q) →
        OQ' ((acc ++ qc c) ++ (s.drop (i + 1)).flatMap qc) hp (LC X GV (.loop x64_l0) ⟨fr', hp⟩) := by
      intro fr' q hq g0 g4 g3
      refine ih (i + 1) (by omega) fr' _ .own (.inl rfl) ?_ g0 g4 ?_
      · have := qc_len c
        rw [List.length_append]; omega
      · rw [g3, hq, bytes_app]
    by_cases b1 : c.toNat = 34
    · have e1 : ((c.toNat : Int) = 34) = True := by simp; omega
      have hq : qc c = [92, c] := by unfold qc; rw [if_pos (.inl b1)]
      rcases ho with rfl | rfl
      all_goals
        simp +contextual -implicitDefEqProofs (maxSteps := 10000000) only [x64_l0_run, go_sem, ↓reduceIte, reduceCtorEq, Nat.reduceEqDiff, Nat.reduceAdd, Nat.reduceLeDiff, Int.reduceEq, Nat.reduceLT, Nat.reduceDiv, h0, h4, h3, hc, ki, hg, wi, r1, r2, e1, List.flatten_cons, List.flatten_nil]
        refine step _ _ hq ?_ ?_ ?_ <;> simp only [go_sem, ↓reduceIte, reduceCtorEq, Nat.reduceEqDiff, h0, bytes_cons, bytes_nil, u92]
    by_cases b2 : c.toNat = 92
    · have e1 : ((c.toNat : Int) = 34) = False := by simp; omega
      have e2 : ((c.toNat : Int) = 92) = True := by simp; omega
      have hq : qc c = [92, c] := by unfold qc; rw [if_pos (.inr b2)]
      rcases ho with rfl | rfl
      all_goals
        simp +contextual -implicitDefEqProofs (maxSteps := 10000000) only [x64_l0_run, go_sem, ↓reduceIte, reduceCtorEq, Nat.reduceEqDiff, Nat.reduceAdd, Nat.reduceLeDiff, Int.reduceEq, Nat.reduceLT, Nat.reduceDiv, h0, h4, h3, hc, ki, hg, wi, r1, r2, e1, e2, List.flatten_cons, List.flatten_nil]
        refine step _ _ hq ?_ ?_ ?_ <;> simp only [go_sem, ↓reduceIte, reduceCtorEq, Nat.reduceEqDiff, h0, bytes_cons, bytes_nil, u92]
    have e1 : ((c.toNat : Int) = 34) = False := by simp; omega
    have e2 : ((c.toNat : Int) = 92) = False := by simp; omega
    have n12 : ¬ (c.toNat = 34 ∨ c.toNat = 92) := by omega
    by_cases b3 : 32 ≤ c.toNat ∧ c.toNat ≤ 126
    · have e3 : ((32 : Int) ≤ (c.toNat : Int)) = True := by simp; omega
      have e4 : ((c.toNat : Int) ≤ 126) = True := by simp; omega
      have hq : qc c = [c] := by unfold qc; rw [if_neg n12, if_pos b3]
      rcases ho with rfl | rfl
      all_goals
        simp +contextual -implicitDefEqProofs (maxSteps := 10000000) only [x64_l0_run, go_sem, ↓reduceIte, reduceCtorEq, Nat.reduceEqDiff, Nat.reduceAdd, Nat.reduceLeDiff, Int.reduceEq, Nat.reduceLT, Nat.reduceDiv, h0, h4, h3, hc, ki, hg, wi, r1, r2, e1, e2, e3, e4, List.flatten_cons, List.flatten_nil]
        refine step _ _ hq ?_ ?_ ?_ <;> simp only [go_sem, ↓reduceIte, reduceCtorEq, Nat.reduceEqDiff, h0, bytes_cons, bytes_nil]
    · have hq : qc c = [92, 120, hx (c.toNat / 16), hx (c.toNat % 16)] := by unfold qc; rw [if_neg n12, if_neg b3]
      by_cases b4 : 32 ≤ c.toNat
      · have e3 : ((32 : Int) ≤ (c.toNat : Int)) = True := by simp; omega
        have e4 : ((c.toNat : Int) ≤ 126) = False := by simp; omega
        rcases ho with rfl | rfl
        all_goals
          simp +contextual -implicitDefEqProofs (maxSteps := 10000000) only [x64_l0_run, go_sem, ↓reduceIte, reduceCtorEq, Nat.reduceEqDiff, Nat.reduceAdd, Nat.reduceLeDiff, Int.reduceEq, Nat.reduceLT, Nat.reduceDiv, h0, h4, h3, hc, ki, hg, wi, r1, r2, r4, e1, e2, e3, e4, sh', d1, d2, x1, x2, List.flatten_cons, List.flatten_nil]
          refine step _ _ hq ?_ ?_ ?_ <;> simp only [go_sem, ↓reduceIte, reduceCtorEq, Nat.reduceEqDiff, h0, bytes_cons, bytes_nil, u92, u120]
      · have e3 : ((32 : Int) ≤ (c.toNat : Int)) = False := by simp; omega
        rcases ho with rfl | rfl
        all_goals
          simp +contextual -implicitDefEqProofs (maxSteps := 10000000) only [x64_l0_run, go_sem, ↓reduceIte, reduceCtorEq, Nat.reduceEqDiff, Nat.reduceAdd, Nat.reduceLeDiff, Int.reduceEq, Nat.reduceLT, Nat.reduceDiv, h0, h4, h3, hc, ki, hg, wi, r1, r2, r4, e1, e2, e3, sh', d1, d2, x1, x2, List.flatten_cons, List.flatten_nil]
          refine step _ _ hq ?_ ?_ ?_ <;> simp only [go_sem, ↓reduceIte, reduceCtorEq, Nat.reduceEqDiff, h0, bytes_cons, bytes_nil, u92, u120]
theorem v_rquoted (s : List UInt8) (hl : 4 * s.length + 2 ≤ 140737488355328) (hp : Heap) : CL X GV 64 [.str s] hp = some (.str (qt s), hp) := by
  rw [CL_eq (fn := x64) rfl]
  simp +contextual -implicitDefEqProofs (maxSteps := 10000000) only [x64, go_sem, ↓reduceIte, Nat.reduceLT, Nat.reduceDiv]
  refine elimL (fun r => finK _ (seqK (blockK 0 r) _) = _) (l_rquoted s hl ([] :: hp) s.length 0 (by omega) _ [34] .tight (.inr rfl) (by simp) ?_ ?_ ?_) ?_
  all_goals try simp only [go_sem, ↓reduceIte, reduceCtorEq, Nat.reduceEqDiff]
  · rfl
  · rfl
  · rintro r ⟨fr', o, rfl, ho, h3⟩
    have hn : ∀ q : List UInt8, listOfBytes q ++ [[.int .u8 34]] = listOfBytes (q ++ [34]) := fun q => by rw [bytes_app]; rfl
    have r1 : ((listOfBytes (34 :: s.flatMap qc)).length + 1 ≤ room) = True := by
      have := flat_len s
      rw [bytes_len, List.length_cons]
      unfold room
      simp only [eq_iff_iff, iff_true]
      omega
    rcases ho with rfl | rfl
    all_goals
      simp +contextual -implicitDefEqProofs (maxSteps := 10000000) only [go_sem, ↓reduceIte, reduceCtorEq, Nat.reduceEqDiff, Nat.reduceLT, Nat.reduceDiv, h3, r1, hn, qt, List.flatten_cons, List.flatten_nil]
end Go.Proofs.YtjbgceogkgpjpaaGreatDoor.Sx.T
namespace Go.Proofs.YtjbgceogkgpjpaaGreatDoor.Sx.T
open Go Go.Proofs.YtjbgceogkgpjpaaGreatDoor.Sx
set_option maxRecDepth 100000
set_option maxHeartbeats 8000000
theorem dig_at : ∀ d : Nat, d < 10 → ((([48, 49, 50, 51, 52, 53, 54, 55, 56, 57, 97, 98, 99, 100, 101, 102] : List UInt8).take (d + 1)).drop d) = [UInt8.ofNat (48 + d)] := by
  intro d hd
  have h : ∀ y : Fin 10, ((([48, 49, 50, 51, 52, 53, 54, 55, 56, 57, 97, 98, 99, 100, 101, 102] : List UInt8).take (y.val + 1)).drop y.val) = [UInt8.ofNat (48 + y.val)] := by decide
  exact h ⟨d, hd⟩
theorem decF_lo (k u : Nat) (h : u < 10) : decF (k + 1) u = [UInt8.ofNat (48 + u % 10)] := by rw [decF, if_pos h, Nat.mod_eq_of_lt h]
theorem decF_hi (k u : Nat) (h : ¬ u < 10) : decF (k + 1) u = decF k (u / 10) ++ [UInt8.ofNat (48 + u % 10)] := by rw [decF, if_neg h]
theorem t_div (r : Int) : r.tdiv 10 = if r < 0 then -((r.natAbs / 10 : Nat) : Int) else ((r.natAbs / 10 : Nat) : Int) := by
  split
  · obtain ⟨m, rfl⟩ : ∃ m : Nat, r = -(m : Int) := ⟨r.natAbs, by omega⟩
    rw [Int.neg_tdiv, show (10 : Int) = ((10 : Nat) : Int) from rfl, ← Int.ofNat_tdiv, Int.natAbs_neg, Int.natAbs_natCast]
  · obtain ⟨m, rfl⟩ : ∃ m : Nat, r = (m : Int) := ⟨r.natAbs, by omega⟩
    rw [show (10 : Int) = ((10 : Nat) : Int) from rfl, ← Int.ofNat_tdiv, Int.natAbs_natCast]
theorem t_mod (r : Int) : r.tmod 10 = if r < 0 then -((r.natAbs % 10 : Nat) : Int) else ((r.natAbs % 10 : Nat) : Int) := by
  split
  · obtain ⟨m, rfl⟩ : ∃ m : Nat, r = -(m : Int) := ⟨r.natAbs, by omega⟩
    rw [Int.neg_tmod, show (10 : Int) = ((10 : Nat) : Int) from rfl, ← Int.ofNat_tmod, Int.natAbs_neg, Int.natAbs_natCast]
  · obtain ⟨m, rfl⟩ : ∃ m : Nat, r = (m : Int) := ⟨r.natAbs, by omega⟩
    rw [show (10 : Int) = ((10 : Nat) : Int) from rfl, ← Int.ofNat_tmod, Int.natAbs_natCast]
def OD (R : List UInt8) (n : Int) (hp : Heap) (r : Option (XExit × St)) : Prop := ∃ fr', r = some (.exit 0, ⟨fr', hp⟩) ∧ fget fr' 3 = .str R ∧ fget fr' 0 = .int .i64 n
theorem d_step (n r : Int) (hr : I64 r) (hp : Heap) (fr : List AV) (acc : List UInt8) (hacc : acc.length ≤ 40) (h0 : fget fr 0 = .int .i64 n) (h3 : fget fr 3 = .str acc) (h4 : fget fr 4 = .int .i64 r) (R : List UInt8)
    (hz : r.tdiv 10 = 0 → R = UInt8.ofNat (48 + r.natAbs % 10) :: acc)
    (hn : r.tdiv 10 ≠ 0 → ∀ fr', fget fr' 0 = .int .i64 n → fget fr' 3 = .str (UInt8.ofNat (48 + r.natAbs % 10) :: acc) → fget fr' 4 = .int .i64 (r.tdiv 10) → OD R n hp (LC X GV (.loop x41_l0) ⟨fr', hp⟩)) :
    OD R n hp (LC X GV (.loop x41_l0) ⟨fr, hp⟩) := by
  have d10 : r.natAbs % 10 < 10 := Nat.mod_lt _ (by omega)
  have dd := dig_at _ d10
  have wd : wr .i64 (r.tdiv 10) = r.tdiv 10 := by
    refine wr_i64 _ ?_
    unfold I64 at hr
    rw [t_div]
    split <;> omega
  have tm := t_mod r
  obtain ⟨d, hd⟩ : ∃ d, r.natAbs % 10 = d := ⟨_, rfl⟩
  rw [hd] at dd d10 tm hz
  simp only [List.take_succ_cons] at dd
  simp only [hd] at hn
  have w1 : wr .i64 ((d : Int) + 1) = ((d + 1 : Nat) : Int) := by rw [wr_i64 _ (by omega)]; omega
  have c1 : (d ≤ d + 1 ∧ d ≤ 15) = True := by simp; omega
  have l1 : (1 + acc.length ≤ 140737488355328) = True := by simp; omega
  have wn : wr .i64 (-(-(d : Int))) = (d : Int) := by rw [Int.neg_neg]; exact wr_i64 _ (by omega)
  rw [LC_loop]
  by_cases hs : r.tmod 10 < 0
  · have tm' : r.tmod 10 = -(d : Int) := by rw [tm] at hs ⊢; split <;> simp_all; omega
    have hs' : (-(d : Int) < 0) = True := by rw [← tm']; simpa using hs
    by_cases z : r.tdiv 10 = 0
    · have hR := hz z
      simp +contextual -implicitDefEqProofs (maxSteps := 10000000) only [x41_l0_run, go_sem, ↓reduceIte, reduceCtorEq, Nat.reduceEqDiff, Nat.reduceAdd, Nat.reduceLeDiff, Int.reduceEq, Int.reduceLT, Int.reduceLE, Int.reduceNeg, h3, h4, tm', hs', wn, w1, c1, dd, l1, z]
      exact ⟨_, rfl, by simp only [go_sem, ↓reduceIte, Nat.reduceEqDiff, hR], by simp only [go_sem, ↓reduceIte, reduceCtorEq, h0]⟩
    · have hN := hn z
      simp +contextual -implicitDefEqProofs (maxSteps := 10000000) only [x41_l0_run, go_sem, ↓reduceIte, Nat.reduceEqDiff, Nat.reduceAdd, Nat.reduceLeDiff, Int.reduceEq, h3, h4, tm', hs', wn, w1, c1, dd, l1, wd, z]
      refine hN _ ?_ ?_ ?_ <;> simp only [go_sem, ↓reduceIte, reduceCtorEq, Nat.reduceEqDiff, h0]
  · have tm' : r.tmod 10 = (d : Int) := by rw [tm] at hs ⊢; split <;> simp_all
    by_cases z : r.tdiv 10 = 0
    · have hR := hz z
      simp +contextual -implicitDefEqProofs (maxSteps := 10000000) only [x41_l0_run, go_sem, ↓reduceIte, reduceCtorEq, Nat.reduceEqDiff, Nat.reduceAdd, Nat.reduceLeDiff, Int.reduceEq, Int.reduceLT, Int.reduceLE, Int.reduceNeg, h3, h4, tm', w1, c1, dd, l1, z]
      exact ⟨_, rfl, by simp only [go_sem, ↓reduceIte, Nat.reduceEqDiff, hR], by simp only [go_sem, ↓reduceIte, reduceCtorEq, h0]⟩
    · have hN := hn z
      simp +contextual -implicitDefEqProofs (maxSteps := 10000000) only [x41_l0_run, go_sem, ↓reduceIte, Nat.reduceEqDiff, Nat.reduceAdd, Nat.reduceLeDiff, Int.reduceEq, h3, h4, tm', w1, c1, dd, l1, wd, z]
      refine hN _ ?_ ?_ ?_ <;> simp only [go_sem, ↓reduceIte, reduceCtorEq, Nat.reduceEqDiff, h0]
theorem l_dec (n : Int) (hp : Heap) : ∀ (k : Nat) (r : Int) (_ : I64 r) (_ : r.natAbs < 10 ^ (k + 1)) (fr : List AV) (acc : List UInt8) (_ : k + acc.length ≤ 40), fget fr 0 = .int .i64 n → fget fr 3 = .str acc → fget fr 4 = .int .i64 r →
    OD (decF (k + 1) r.natAbs ++ acc) n hp (LC X GV (.loop x41_l0) ⟨fr, hp⟩) := by
  intro k
  induction k with
  | zero =>
    intro r hr hb fr acc hk h0 h3 h4
    have ht := t_div r
    refine d_step n r hr hp fr acc (by omega) h0 h3 h4 _ ?_ ?_
    · intro _
      rw [decF_lo _ _ (by simpa using hb)]
      rfl
    · intro hz
      exfalso
      apply hz
      rw [ht]
      split <;> omega
  | succ k ih =>
    intro r hr hb fr acc hk h0 h3 h4
    have ht := t_div r
    have ha : (r.tdiv 10).natAbs = r.natAbs / 10 := by rw [ht]; split <;> omega
    refine d_step n r hr hp fr acc (by omega) h0 h3 h4 _ ?_ ?_
    · intro hz
      rw [decF_lo _ _ (by omega)]
      rfl
    · intro hz fr' g0 g3 g4
      rw [decF_hi _ _ (by intro hc; apply hz; rw [ht]; split <;> omega), ← ha, List.append_assoc]
      refine ih (r.tdiv 10) ?_ ?_ fr' _ (by simp only [List.length_append, List.length_cons, List.length_nil]; omega) g0 g3 g4
      · unfold I64 at hr ⊢; rw [ht]; split <;> omega
      · rw [ha]; have : (10 : Nat) ^ (k + 1 + 1) = 10 ^ (k + 1) * 10 := Nat.pow_succ _ _
        omega
theorem decF_len : ∀ k u, (decF k u).length ≤ k
  | 0, _ => by simp [decF]
  | k + 1, u => by
    rw [decF]
    split
    · simp
    · have := decF_len k (u / 10)
      simp only [List.length_append, List.length_cons, List.length_nil]; omega
theorem decI_len (n : Int) : (decI n).length ≤ 21 := by
  have h1 := decF_len 20 n.natAbs
  have h2 := decF_len 20 n.toNat
  unfold decI
  split
  · rw [List.length_cons]; omega
  · omega
theorem v_dec (n : Int) (hn : I64 n) (hp : Heap) : CL X GV 41 [.int .i64 n] hp = some (.str (decI n), hp) := by
  have hb : n.natAbs < 10 ^ (19 + 1) := by unfold I64 at hn; omega
  rw [CL_eq (fn := x41) rfl]
  simp +contextual -implicitDefEqProofs (maxSteps := 10000000) only [x41, go_sem, ↓reduceIte, reduceCtorEq]
  refine elimL (fun r => finK _ (seqK (blockK 0 r) _) = _) (l_dec n ([] :: hp) 19 n hn hb _ [] (by simp) ?_ ?_ ?_) ?_
  all_goals try simp only [go_sem, ↓reduceIte, reduceCtorEq, Nat.reduceEqDiff, Nat.reduceAdd]
  rintro r ⟨fr', rfl, h3, h0⟩
  have dl : (1 + (decF 20 n.natAbs).length ≤ 140737488355328) = True := by have := decF_len 20 n.natAbs; simp; omega
  by_cases c : n < 0
  · have e : decI n = 45 :: decF 20 n.natAbs := by simp [decI, c]
    simp +contextual -implicitDefEqProofs (maxSteps := 10000000) only [go_sem, ↓reduceIte, Nat.reduceEqDiff, h3, h0, c, e, dl]
  · have e : decI n = decF 20 n.natAbs := by simp [decI, c]; congr 1; omega
    simp +contextual -implicitDefEqProofs (maxSteps := 10000000) only [go_sem, ↓reduceIte, Nat.reduceEqDiff, h3, h0, c, e, dl]
def prt (v : Val) : List UInt8 := if chkV v ≠ 0 then [] else if v.k = 1 then decI v.n else if v.k = 2 then decI v.n ++ 47 :: decI v.d else qt v.s
theorem primX_dec (n : Int) (hn : I64 n) : primX 5 [.int .i64 n, .int .i64 10] = some (.str (decI n)) := by
  unfold I64 at hn
  simp only [primX]
  rw [if_pos ⟨trivial, by omega, by omega⟩]
theorem chk_len (v : Val) (h : chkV v = 0) : 4 * v.s.length + 2 ≤ 140737488355328 := by
  unfold chkV chk at h
  split at h
  · split at h
    · rename_i g; rw [g.2]; simp
    · simp at h
  · split at h
    · split at h
      · rename_i g; rw [g.1]; simp
      · simp at h
    · split at h
      · split at h
        · split at h
          · omega
          · simp at h
        · simp at h
      · simp at h
theorem v_print (v : Val) (ho : v.ok) (hp : Heap) : CL X GV 40 [v.av] hp = some (.tup [.str (prt v), .int .i64 (chkV v)], hp) := by
  have h1 := v_check v.k v.n v.d v.s ho.2.1 ho.2.2
  have h2 := chk_len v
  have h3 := primX_dec v.n ho.2.1
  have h4 := primX_dec v.d ho.2.2
  have h5 := v_quoted v.s
  obtain ⟨k, n, d, s⟩ := v
  simp only [chkV, prt, Val.av, vA] at *
  have l1 : ((decI n).length + 1 ≤ 140737488355328) = True := by have := decI_len n; simp; omega
  have l2 : ((decI n ++ [47]).length + (decI d).length ≤ 140737488355328) = True := by have := decI_len n; have := decI_len d; simp; omega
  rw [CL_eq (fn := x40) rfl]
  by_cases hc : chk k n d s = 0
  · have hq := h5 (h2 hc)
    by_cases k1 : k = 1
    · subst k1
      simp +contextual -implicitDefEqProofs (maxSteps := 10000000) only [x40, go_sem, ↓reduceIte, Nat.reduceEqDiff, Nat.reduceAdd, Nat.reduceLeDiff, Int.reduceBEq, Int.reduceBNe, h1, hc, h3]
    by_cases k2 : k = 2
    · subst k2
      simp +contextual -implicitDefEqProofs (maxSteps := 10000000) only [x40, go_sem, ↓reduceIte, Nat.reduceEqDiff, Nat.reduceAdd, Int.reduceEq, Int.reduceBEq, Int.reduceBNe, h1, hc, h3, h4, List.append_assoc, l1, l2]
    · simp +contextual -implicitDefEqProofs (maxSteps := 10000000) only [x40, go_sem, ↓reduceIte, Nat.reduceEqDiff, Nat.reduceAdd, Int.reduceBNe, h1, hc, k1, k2, hq]
  · simp +contextual -implicitDefEqProofs (maxSteps := 10000000) only [x40, go_sem, ↓reduceIte, Nat.reduceEqDiff, Nat.reduceAdd, h1, hc]
theorem v_rprint (v : Val) (ho : v.ok) (hp : Heap) : CL X GV 42 [v.av] hp = some (.tup [.str (prt v), .int .i64 (chkV v)], hp) := by
  have h1 := v_rcheck v.k v.n v.d v.s ho.2.1 ho.2.2
  have h2 := chk_len v
  have h3 := v_dec v.n ho.2.1
  have h4 := v_dec v.d ho.2.2
  have h5 := v_rquoted v.s
  obtain ⟨k, n, d, s⟩ := v
  simp only [chkV, prt, Val.av, vA] at *
  have l1 : ((decI n).length + 1 ≤ 140737488355328) = True := by have := decI_len n; simp; omega
  have l2 : ((decI n ++ [47]).length + (decI d).length ≤ 140737488355328) = True := by have := decI_len n; have := decI_len d; simp; omega
  rw [CL_eq (fn := x42) rfl]
  by_cases hc : chk k n d s = 0
  · have hq := h5 (h2 hc)
    by_cases k1 : k = 1
    · subst k1
      simp +contextual -implicitDefEqProofs (maxSteps := 10000000) only [x42, go_sem, ↓reduceIte, Nat.reduceEqDiff, Nat.reduceAdd, Nat.reduceLeDiff, Int.reduceBEq, Int.reduceBNe, h1, hc, h3]
    by_cases k2 : k = 2
    · subst k2
      simp +contextual -implicitDefEqProofs (maxSteps := 10000000) only [x42, go_sem, ↓reduceIte, Nat.reduceEqDiff, Nat.reduceAdd, Int.reduceEq, Int.reduceBEq, Int.reduceBNe, h1, hc, h3, h4, List.append_assoc, l1, l2]
    · simp +contextual -implicitDefEqProofs (maxSteps := 10000000) only [x42, go_sem, ↓reduceIte, Nat.reduceEqDiff, Nat.reduceAdd, Int.reduceBNe, h1, hc, k1, k2, hq]
  · simp +contextual -implicitDefEqProofs (maxSteps := 10000000) only [x42, go_sem, ↓reduceIte, Nat.reduceEqDiff, Nat.reduceAdd, h1, hc]
end Go.Proofs.YtjbgceogkgpjpaaGreatDoor.Sx.T
