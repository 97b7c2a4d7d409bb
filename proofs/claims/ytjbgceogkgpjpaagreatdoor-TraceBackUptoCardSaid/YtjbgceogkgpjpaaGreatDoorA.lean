/- Layer 8, part 1: signatures and points; what their checks answer. -/
import Derived.Test.YtjbgceogkgpjpaaGreatDoorV
import Derived.Test.YtjbgceogkgpjpaaGreatDoorW
import Derived.Test.YtjbgceogkgpjpaaGreatDoorEvS
import Derived.Test.YtjbgceogkgpjpaaGreatDoorEvU
set_option linter.unusedVariables false
set_option linter.unusedSimpArgs false
namespace Go.Proofs.YtjbgceogkgpjpaaGreatDoor.Sx.T
open Go Go.Proofs.YtjbgceogkgpjpaaGreatDoor.Sx
set_option maxRecDepth 100000
set_option maxHeartbeats 8000000
def Ls (z : Nat) (x : AV) (es : List (List AV)) : Prop := (x = .nilsl ∧ es = []) ∨ ∃ o, (o = .none ∨ o = .tight) ∧ x = .lst o z es
theorem Ls.one {z : Nat} {x : AV} {es : List (List AV)} (h : Ls z x es) : plain1 x = true ∧ uf x = x ∧ lensK false x = some (.int .i64 es.length) ∧ (∀ fr t, drop1K x fr t = fr) ∧ refFree x = true := by
  rcases h with ⟨rfl, rfl⟩ | ⟨o, rfl | rfl, rfl⟩
  · exact ⟨rfl, rfl, rfl, fun _ _ => rfl, rfl⟩
  · exact ⟨rfl, rfl, by simp [lensK_lst, lenB], fun _ _ => rfl, rfl⟩
  · exact ⟨rfl, rfl, by simp [lensK_lst, lenB], fun _ _ => rfl, rfl⟩
theorem Ls.at {z : Nat} {x : AV} {es : List (List AV)} (h : Ls z x es) {k : Nat} (hk : k < es.length) : iaddrK z x (some k) = some (.elp (es.getD k [])) := by
  rcases h with ⟨rfl, rfl⟩ | ⟨o, _, rfl⟩
  · simp at hk
  · rw [iaddrK_lst, if_pos ⟨rfl, hk⟩]
structure Dc where
  n : List UInt8
  ks : List Int
  kv : AV
instance : Inhabited Dc := ⟨⟨[], [], .nilsl⟩⟩
def nums (l : List Int) : List (List AV) := l.map fun k => [.int .i64 k]
theorem nums_len (l : List Int) : (nums l).length = l.length := by simp [nums]
theorem nums_get (l : List Int) (i : Nat) (h : i < l.length) : (nums l).getD i [] = [.int .i64 (l.getD i 0)] := by simp [nums, List.getD, h]
def Dc.cells (d : Dc) : List AV := [.str d.n, d.kv]
def Dc.ok (d : Dc) : Prop := Ls 1 d.kv (nums d.ks) ∧ d.ks.length ≤ 9223372036854775806 ∧ d.n.length ≤ 9223372036854775806
theorem Dc.flat {d : Dc} (h : d.ok) : d.cells.length = 2 ∧ d.cells.all plain1 = true ∧ d.cells.map uf = d.cells ∧ refFreeL d.cells = true := by
  obtain ⟨p, u, _, _, f⟩ := h.1.one
  exact ⟨rfl, by simp only [Dc.cells, List.all_cons, List.all_nil, p, Bool.and_true]; rfl, by simp only [Dc.cells, List.map_cons, List.map_nil, u]; rfl, by simp only [Dc.cells, refFreeL, f, Bool.and_true]; rfl⟩
structure Et where
  n : List UInt8
  vl : List Val
  av : AV
instance : Inhabited Et := ⟨⟨[], [], .nilsl⟩⟩
def vals (l : List Val) : List (List AV) := l.map Val.cells
theorem vals_len (l : List Val) : (vals l).length = l.length := by simp [vals]
theorem vals_get (l : List Val) (i : Nat) (h : i < l.length) : (vals l).getD i [] = (l.getD i default).cells := by simp [vals, List.getD, h]
def Et.cells (e : Et) : List AV := [.str e.n, e.av]
def Et.ok (e : Et) : Prop := Ls 4 e.av (vals e.vl) ∧ e.vl.length ≤ 9223372036854775806 ∧ (∀ v ∈ e.vl, v.ok) ∧ e.n.length ≤ 9223372036854775806
theorem Et.flat {d : Et} (h : d.ok) : d.cells.length = 2 ∧ d.cells.all plain1 = true ∧ d.cells.map uf = d.cells ∧ refFreeL d.cells = true := by
  obtain ⟨p, u, _, _, f⟩ := h.1.one
  exact ⟨rfl, by simp only [Et.cells, List.all_cons, List.all_nil, p, Bool.and_true]; rfl, by simp only [Et.cells, List.map_cons, List.map_nil, u]; rfl, by simp only [Et.cells, refFreeL, f, Bool.and_true]; rfl⟩
def dcs (l : List Dc) : List (List AV) := l.map Dc.cells
theorem dcs_len (l : List Dc) : (dcs l).length = l.length := by simp [dcs]
theorem dcs_get (l : List Dc) (i : Nat) (h : i < l.length) : (dcs l).getD i [] = (l.getD i default).cells := by simp [dcs, List.getD, h]
def ets (l : List Et) : List (List AV) := l.map Et.cells
theorem ets_len (l : List Et) : (ets l).length = l.length := by simp [ets]
theorem ets_get (l : List Et) (i : Nat) (h : i < l.length) : (ets l).getD i [] = (l.getD i default).cells := by simp [ets, List.getD, h]
def SigV (x : AV) (l : List Dc) : Prop := Ls 2 x (dcs l) ∧ (∀ d ∈ l, d.ok) ∧ l.length ≤ 9223372036854775806
def EvV (x : AV) (l : List Et) : Prop := Ls 2 x (ets l) ∧ (∀ d ∈ l, d.ok) ∧ l.length ≤ 9223372036854775806
theorem mem_getD {α : Type} [Inhabited α] (l : List α) (i : Nat) (h : i < l.length) : l.getD i default ∈ l := by simp [List.getD, h]
/-! ### what is answered -/
def idxG {α : Type} (p : α → Bool) : List α → Nat → Int
  | [], _ => -1
  | x :: l, i => if p x then i else idxG p l (i + 1)
theorem idxG_drop {α : Type} [Inhabited α] (p : α → Bool) (l : List α) (i : Nat) (h : i < l.length) : idxG p (l.drop i) i = if p (l.getD i default) then (i : Int) else idxG p (l.drop (i + 1)) (i + 1) := by
  rw [List.drop_eq_getElem_cons h, idxG]
  simp [List.getD, h]
theorem idxG_any {α : Type} (p : α → Bool) : ∀ (l : List α) (i : Nat), decide (0 ≤ idxG p l i) = l.any p
  | [], i => by simp [idxG]
  | w :: l, i => by
    rw [idxG]
    by_cases h : p w
    · simp [h]
    · simp [h, idxG_any p l (i + 1)]
theorem idxG_cases {α : Type} [Inhabited α] (p : α → Bool) : ∀ (l : List α) (i : Nat), (idxG p l i = -1 ∧ ∀ x ∈ l, p x = false) ∨ ∃ k, k < l.length ∧ idxG p l i = ((i + k : Nat) : Int) ∧ p (l.getD k default) = true ∧ ∀ j, j < k → p (l.getD j default) = false
  | [], _ => .inl ⟨rfl, by simp⟩
  | w :: l, i => by
    rw [idxG]
    by_cases c : p w = true
    · exact .inr ⟨0, by simp, by simp [c], by simpa using c, fun j hj => by omega⟩
    · have c' : p w = false := by simpa using c
      rcases idxG_cases p l (i + 1) with ⟨h1, h2⟩ | ⟨k, h1, h2, h3, h4⟩
      · exact .inl ⟨by simp [c', h1], fun x hx => by
          rcases List.mem_cons.1 hx with rfl | hx
          · exact c'
          · exact h2 x hx⟩
      · refine .inr ⟨k + 1, by simpa using h1, ?_, by simpa using h3, fun j hj => ?_⟩
        · simp only [c', if_neg, Bool.false_eq_true, not_false_eq_true]
          rw [h2]; congr 1; omega
        · cases j with
          | zero => simpa using c'
          | succ j => simpa using h4 j (by omega)
theorem idxG_ahead {α : Type} [Inhabited α] (p : α → Bool) (l : List α) (i : Nat) (h : i < l.length) (hp : p (l.getD i default) = true) : decide (idxG p l 0 < (i : Int)) = decide (0 ≤ idxG p (l.take i) 0) := by
  rw [idxG_any]
  rcases idxG_cases p l 0 with ⟨_, h2⟩ | ⟨k, h1, h2, h3, h4⟩
  · exact absurd hp (by rw [h2 _ (mem_getD l i h)]; simp)
  · rw [h2, Nat.zero_add, Bool.eq_iff_iff]
    simp only [decide_eq_true_eq, List.any_eq_true]
    constructor
    · intro hk
      refine ⟨l.getD k default, ?_, h3⟩
      have hk' : k < i := by omega
      rw [List.mem_iff_getElem?]
      exact ⟨k, by rw [List.getElem?_take, if_pos hk']; simp [List.getD, h1]⟩
    · rintro ⟨x, hx, hpx⟩
      obtain ⟨j, hj, e⟩ := List.getElem_of_mem hx
      have hj' : j < i := by simp at hj; omega
      have hjl : j < l.length := by omega
      have ex : l.getD j default = x := by rw [← e]; simp [List.getD, hjl]
      rcases Nat.lt_or_ge k i with hh | hh
      · omega
      · have := h4 j (by omega)
        rw [ex, hpx] at this
        cases this
def firstE (e : Nat → Int) : Nat → Nat → Int
  | 0, _ => 0
  | m + 1, i => if e i ≠ 0 then e i else firstE e m (i + 1)
theorem firstE_step (e : Nat → Int) (n i : Nat) (h : i < n) : firstE e (n - i) i = if e i ≠ 0 then e i else firstE e (n - (i + 1)) (i + 1) := by
  obtain ⟨m, hm⟩ : ∃ m, n - i = m + 1 := ⟨n - i - 1, by omega⟩
  rw [hm, firstE, show n - (i + 1) = m by omega]
def findD (sig : List Dc) (n : List UInt8) : Int := idxG (fun d => d.n == n) sig 0
open Classical in noncomputable def sigE (sig : List Dc) (i : Nat) : Int :=
  if ¬ nameP (sig.getD i default).n ∨ findD sig (sig.getD i default).n < (i : Int) then 1 else if 6 < (sig.getD i default).ks.length then 3 else if (sig.getD i default).ks.any (fun k => decide (k < 1) || decide (3 < k)) then 20 else 0
noncomputable def csig (sig : List Dc) : Int := if 32 < sig.length then 3 else firstE (sigE sig) sig.length 0
def szP (t : Int) (n : Nat) : Int := if t < 0 ∨ 1099511627776 < t then 5 else if 64 < n then 3 else 0
def vals8 (l : List Val) : Int := firstE (fun i => chkV (l.getD i default)) l.length 0
end Go.Proofs.YtjbgceogkgpjpaaGreatDoor.Sx.T
namespace Go.Proofs.YtjbgceogkgpjpaaGreatDoor.Sx.T
open Go Go.Proofs.YtjbgceogkgpjpaaGreatDoor.Sx
set_option maxRecDepth 100000
set_option maxHeartbeats 8000000
theorem p_idxD (sig : List Dc) (p : Dc → Bool) (f : Nat) (ds cs : List AV) (v : AV) (hv : SigV v sig) (hp : Heap)
    (hf : ∀ d ∈ sig, CL X GV f ((ds ++ [AV.agg d.cells] ++ cs).map uf) ([] :: hp) = some (.bool (p d), [] :: hp)) :
    CL X GV 53 [v, .fn f ds cs] hp = some (.int .i64 (idxG p sig 0), hp) := by
  obtain ⟨hl, hok, hm⟩ := hv
  obtain ⟨p1, u1, n1, d1, f1⟩ := hl.one
  rw [dcs_len] at n1
  rw [CL_eq (fn := x53) rfl]
  simp +contextual -implicitDefEqProofs (maxSteps := 10000000) only [x53, go_sem, ↓reduceIte, reduceCtorEq, Int.reduceNeg, u1, n1]
  obtain ⟨I, hI⟩ : ∃ I : Nat → List AV → Heap → Prop, ∀ i fr hp', I i fr hp' ↔ (hp' = [] :: hp ∧ fget fr 0 = v ∧ fget fr 1 = .fn f ds cs ∧ fget fr 7 = .int .i64 sig.length ∧ fget fr 8 = .int .i64 (i : Nat) ∧ idxG p sig 0 = idxG p (sig.drop i) i) := ⟨_, fun _ _ _ => Iff.rfl⟩
  obtain ⟨Q, hQ⟩ : ∃ Q : XExit → List AV → Heap → Prop, ∀ e fr hp', Q e fr hp' ↔ (hp' = [] :: hp ∧ ((e = .exit 0 ∧ idxG p sig 0 = -1) ∨ (e = .ret ∧ fget fr 4 = .int .i64 (idxG p sig 0)))) := ⟨_, fun _ _ _ => Iff.rfl⟩
  refine LC_upK sig.length I Q (fun r => finK _ (seqK (blockK 0 r) _) = _) ?_ ?_ ?_ ?_
  · rw [hI]
    refine ⟨rfl, ?_, ?_, ?_, ?_, by rw [List.drop_zero]⟩ <;> simp only [go_sem, ↓reduceIte, reduceCtorEq, Nat.reduceEqDiff, Int.natCast_zero]
  · intro i hi fr hp' h
    obtain ⟨rfl, h0, h1, h7, h8, hd⟩ := (hI _ _ _).1 h
    have k1 : ((i : Int) < (sig.length : Int)) = True := by simp; omega
    have g1 := hl.at (k := i) (by rw [dcs_len]; exact hi)
    rw [dcs_get sig i hi] at g1
    have hmem := mem_getD sig i hi
    have w1 : wr .i64 ((i : Int) + 1) = ((i + 1 : Nat) : Int) := by rw [wr_i64 _ (by omega)]; omega
    have hw := hf _ hmem
    obtain ⟨b1, b2, b3, b4⟩ := Dc.flat (hok _ hmem)
    have b1' : (2 ≤ (sig.getD i default).cells.length) = True := by rw [b1]; simp
    have b5 : (sig.getD i default).cells.take 2 = (sig.getD i default).cells := List.take_of_length_le (by omega)
    rw [idxG_drop _ sig i hi] at hd
    by_cases c : p (sig.getD i default) = true
    · rw [c] at hw
      simp +contextual -implicitDefEqProofs (maxSteps := 10000000) only [x53_l0_run, go_sem, ↓reduceIte, reduceCtorEq, Nat.reduceEqDiff, h0, h1, h7, h8, k1, g1, hw, o_calld, cwK_same, b1', b3, b5, u1]
      rw [hQ]
      refine ⟨rfl, .inr ⟨rfl, ?_⟩⟩
      simp only [go_sem, ↓reduceIte, hd, c]
    · have c2 : p (sig.getD i default) = false := by simpa using c
      rw [c2] at hw
      simp +contextual -implicitDefEqProofs (maxSteps := 10000000) only [x53_l0_run, go_sem, ↓reduceIte, reduceCtorEq, Nat.reduceEqDiff, h0, h1, h7, h8, k1, g1, w1, hw, o_calld, cwK_same, b1', b3, b5, u1]
      rw [hI]
      refine ⟨rfl, ?_, ?_, ?_, ?_, by rw [hd, if_neg c]⟩ <;> simp only [go_sem, ↓reduceIte, reduceCtorEq, Nat.reduceEqDiff, h0, h1, h7]
  · intro fr hp' h
    obtain ⟨rfl, h0, h1, h7, h8, hd⟩ := (hI _ _ _).1 h
    simp +contextual -implicitDefEqProofs (maxSteps := 10000000) only [x53_l0_run, go_sem, ↓reduceIte, h7, h8, Int.lt_irrefl]
    rw [hQ]
    exact ⟨rfl, .inl ⟨rfl, by rw [hd, List.drop_length]; rfl⟩⟩
  · intro e fr hp' he h
    rcases (hQ _ _ _).1 h with ⟨rfl, ⟨rfl, h1⟩ | ⟨rfl, h1⟩⟩
    · simp +contextual -implicitDefEqProofs (maxSteps := 10000000) only [go_sem, ↓reduceIte, Int.reduceNeg, h1]
    · simp +contextual -implicitDefEqProofs (maxSteps := 10000000) only [go_sem, Int.reduceNeg, h1]
theorem p_idxI (ks : List Int) (p : Int → Bool) (f : Nat) (ds cs : List AV) (v : AV) (hl : Ls 1 v (nums ks)) (hm : ks.length ≤ 9223372036854775806) (hp : Heap)
    (hf : ∀ k ∈ ks, CL X GV f ((ds ++ [AV.int .i64 k] ++ cs).map uf) ([] :: hp) = some (.bool (p k), [] :: hp)) :
    CL X GV 65 [v, .fn f ds cs] hp = some (.int .i64 (idxG p ks 0), hp) := by
  obtain ⟨p1, u1, n1, d1, f1⟩ := hl.one
  rw [nums_len] at n1
  rw [CL_eq (fn := x65) rfl]
  simp +contextual -implicitDefEqProofs (maxSteps := 10000000) only [x65, go_sem, ↓reduceIte, reduceCtorEq, Int.reduceNeg, u1, n1]
  obtain ⟨I, hI⟩ : ∃ I : Nat → List AV → Heap → Prop, ∀ i fr hp', I i fr hp' ↔ (hp' = [] :: hp ∧ fget fr 0 = v ∧ fget fr 1 = .fn f ds cs ∧ fget fr 7 = .int .i64 ks.length ∧ fget fr 8 = .int .i64 (i : Nat) ∧ idxG p ks 0 = idxG p (ks.drop i) i) := ⟨_, fun _ _ _ => Iff.rfl⟩
  obtain ⟨Q, hQ⟩ : ∃ Q : XExit → List AV → Heap → Prop, ∀ e fr hp', Q e fr hp' ↔ (hp' = [] :: hp ∧ ((e = .exit 0 ∧ idxG p ks 0 = -1) ∨ (e = .ret ∧ fget fr 4 = .int .i64 (idxG p ks 0)))) := ⟨_, fun _ _ _ => Iff.rfl⟩
  refine LC_upK ks.length I Q (fun r => finK _ (seqK (blockK 0 r) _) = _) ?_ ?_ ?_ ?_
  · rw [hI]
    refine ⟨rfl, ?_, ?_, ?_, ?_, by rw [List.drop_zero]⟩ <;> simp only [go_sem, ↓reduceIte, reduceCtorEq, Nat.reduceEqDiff, Int.natCast_zero]
  · intro i hi fr hp' h
    obtain ⟨rfl, h0, h1, h7, h8, hd⟩ := (hI _ _ _).1 h
    have k1 : ((i : Int) < (ks.length : Int)) = True := by simp; omega
    have g1 := hl.at (k := i) (by rw [nums_len]; exact hi)
    rw [nums_get ks i hi] at g1
    have hmem : ks.getD i 0 ∈ ks := by simp [List.getD, hi]
    have w1 : wr .i64 ((i : Int) + 1) = ((i + 1 : Nat) : Int) := by rw [wr_i64 _ (by omega)]; omega
    have hw := hf _ hmem
    have hd0 : idxG p (ks.drop i) i = if p (ks.getD i 0) then (i : Int) else idxG p (ks.drop (i + 1)) (i + 1) := idxG_drop p ks i hi
    rw [hd0] at hd
    by_cases c : p (ks.getD i 0) = true
    · rw [c] at hw
      simp +contextual -implicitDefEqProofs (maxSteps := 10000000) only [x65_l0_run, go_sem, ↓reduceIte, reduceCtorEq, Nat.reduceEqDiff, h0, h1, h7, h8, k1, g1, hw, o_calld, cwK_same, u1]
      rw [hQ]
      refine ⟨rfl, .inr ⟨rfl, ?_⟩⟩
      simp only [go_sem, ↓reduceIte, hd, c]
    · have c2 : p (ks.getD i 0) = false := by simpa using c
      rw [c2] at hw
      simp +contextual -implicitDefEqProofs (maxSteps := 10000000) only [x65_l0_run, go_sem, ↓reduceIte, reduceCtorEq, Nat.reduceEqDiff, h0, h1, h7, h8, k1, g1, w1, hw, o_calld, cwK_same, u1]
      rw [hI]
      refine ⟨rfl, ?_, ?_, ?_, ?_, by rw [hd, if_neg c]⟩ <;> simp only [go_sem, ↓reduceIte, reduceCtorEq, Nat.reduceEqDiff, h0, h1, h7]
  · intro fr hp' h
    obtain ⟨rfl, h0, h1, h7, h8, hd⟩ := (hI _ _ _).1 h
    simp +contextual -implicitDefEqProofs (maxSteps := 10000000) only [x65_l0_run, go_sem, ↓reduceIte, h7, h8, Int.lt_irrefl]
    rw [hQ]
    exact ⟨rfl, .inl ⟨rfl, by rw [hd, List.drop_length]; rfl⟩⟩
  · intro e fr hp' he h
    rcases (hQ _ _ _).1 h with ⟨rfl, ⟨rfl, h1⟩ | ⟨rfl, h1⟩⟩
    · simp +contextual -implicitDefEqProofs (maxSteps := 10000000) only [go_sem, ↓reduceIte, Int.reduceNeg, h1]
    · simp +contextual -implicitDefEqProofs (maxSteps := 10000000) only [go_sem, Int.reduceNeg, h1]
theorem p_hasI (ks : List Int) (p : Int → Bool) (f : Nat) (ds cs : List AV) (v : AV) (hl : Ls 1 v (nums ks)) (hm : ks.length ≤ 9223372036854775806) (hp : Heap)
    (hf : ∀ k ∈ ks, CL X GV f ((ds ++ [AV.int .i64 k] ++ cs).map uf) ([] :: [] :: hp) = some (.bool (p k), [] :: [] :: hp)) :
    CL X GV 43 [v, .fn f ds cs] hp = some (.bool (ks.any p), hp) := by
  have h1 := p_idxI ks p f ds cs v hl hm ([] :: hp) hf
  obtain ⟨p1, u1, n1, d1, f1⟩ := hl.one
  have hb := idxG_any p ks 0
  rw [CL_eq (fn := x43) rfl]
  simp +contextual -implicitDefEqProofs (maxSteps := 10000000) only [x43, go_sem, ↓reduceIte, reduceCtorEq, Nat.reduceEqDiff, u1, h1, hb, o_callw, cwK_same]
theorem p_kindsOk (k : Int) (hp : Heap) : CL X GV 44 [.int .i64 k] hp = some (.bool (decide (k < 1) || decide (3 < k)), hp) := by
  rw [CL_eq (fn := x44) rfl]
  by_cases h1 : k < 1
  · simp +contextual -implicitDefEqProofs (maxSteps := 10000000) only [x44, go_sem, ↓reduceIte, reduceCtorEq, Nat.reduceEqDiff, h1]
    simp
  · by_cases h2 : 3 < k
    · simp +contextual -implicitDefEqProofs (maxSteps := 10000000) only [x44, go_sem, ↓reduceIte, reduceCtorEq, Nat.reduceEqDiff, h1, h2]
      simp
    · simp +contextual -implicitDefEqProofs (maxSteps := 10000000) only [x44, go_sem, ↓reduceIte, reduceCtorEq, Nat.reduceEqDiff, h1, h2]
      simp
theorem p_declared1 (d : Dc) (hd : d.ok) (n : List UInt8) (r : Ref) (hp : Heap) (hc : cellsAt hp r = some [.str n]) : CL X GV 54 [.agg d.cells, .ptr r 0] hp = some (.bool (d.n == n), hp) := by
  obtain ⟨b1, b2, b3, b4⟩ := Dc.flat hd
  obtain ⟨p, u, _, _, f⟩ := hd.1.one
  have hne := cellsAt_ne hc
  rw [CL_eq (fn := x54) rfl]
  simp +contextual -implicitDefEqProofs (maxSteps := 10000000) only [x54, Dc.cells, go_sem, ↓reduceIte, Nat.reduceEqDiff, Nat.reduceAdd, hc, hne, ldAt_cons, u, p]
  congr 3
  by_cases h : d.n = n <;> simp [h]
theorem p_declared (sig : List Dc) (v : AV) (hv : SigV v sig) (n : List UInt8) (hp : Heap) : CL X GV 26 [v, .str n] hp = some (.int .i64 (findD sig n), hp) := by
  obtain ⟨p1, u1, n1, d1, f1⟩ := hv.1.one
  have hc : ∀ l : Level, cellsAt (l :: lputc [] 3 0 [.str n] :: hp) ⟨hp.length, 3, 0⟩ = some [.str n] := fun l => by
    rw [cellsAt_cons (by simp), cellsAt_top, lcells_put]; simp
  have h1 := p_idxD sig (fun d => d.n == n) 54 [] [.ptr ⟨hp.length, 3, 0⟩ 0] v hv (lputc [] 3 0 [.str n] :: hp) (fun d hd => by
    have := p_declared1 d (hv.2.1 d hd) n ⟨hp.length, 3, 0⟩ ([] :: lputc [] 3 0 [.str n] :: hp) (hc [])
    simpa [uf] using this)
  rw [CL_eq (fn := x26) rfl]
  simp +contextual -implicitDefEqProofs (maxSteps := 10000000) only [x26, go_sem, ↓reduceIte, reduceCtorEq, Nat.reduceEqDiff, u1, h1, o_callw, cwK_same, o_mkfn]
  rfl
end Go.Proofs.YtjbgceogkgpjpaaGreatDoor.Sx.T
namespace Go.Proofs.YtjbgceogkgpjpaaGreatDoor.Sx.T
open Go Go.Proofs.YtjbgceogkgpjpaaGreatDoor.Sx
set_option maxRecDepth 100000
set_option maxHeartbeats 16000000
open Classical in
theorem p_csig (sig : List Dc) (v : AV) (hv : SigV v sig) : CL X GV 18 [v] [] = some (.int .i64 (csig sig), []) := by
  obtain ⟨hl, hok, hm⟩ := id hv
  obtain ⟨p1, u1, n1, d1, f1⟩ := hl.one
  rw [dcs_len] at n1
  rw [CL_eq (fn := x18) rfl, csig]
  by_cases h32 : 32 < sig.length
  · have k0 : ((32 : Int) < (sig.length : Int)) = True := by simp; omega
    rw [if_pos h32]
    simp +contextual -implicitDefEqProofs (maxSteps := 10000000) only [x18, go_sem, ↓reduceIte, reduceCtorEq, u1, n1, k0]
  have k0 : ((32 : Int) < (sig.length : Int)) = False := by simp; omega
  rw [if_neg h32]
  simp +contextual -implicitDefEqProofs (maxSteps := 10000000) only [x18, go_sem, ↓reduceIte, reduceCtorEq, u1, n1, k0]
  obtain ⟨I, hI⟩ : ∃ I : Nat → List AV → Heap → Prop, ∀ i fr hp', I i fr hp' ↔ ((∃ L, hp' = L :: []) ∧ fget fr 0 = v ∧ fget fr 8 = v ∧ fget fr 9 = .int .i64 sig.length ∧ fget fr 10 = .int .i64 (i : Nat) ∧ firstE (sigE sig) sig.length 0 = firstE (sigE sig) (sig.length - i) i) := ⟨_, fun _ _ _ => Iff.rfl⟩
  obtain ⟨Q, hQ⟩ : ∃ Q : XExit → List AV → Heap → Prop, ∀ e fr hp', Q e fr hp' ↔ ((∃ L, hp' = L :: []) ∧ ((e = .exit 0 ∧ firstE (sigE sig) sig.length 0 = 0) ∨ (e = .ret ∧ fget fr 2 = .int .i64 (firstE (sigE sig) sig.length 0)))) := ⟨_, fun _ _ _ => Iff.rfl⟩
  refine LC_upK sig.length I Q (fun r => finK _ (seqK (blockK 0 r) _) = _) ?_ ?_ ?_ ?_
  · rw [hI]
    refine ⟨⟨_, rfl⟩, ?_, ?_, ?_, ?_, by rw [Nat.sub_zero]⟩ <;> simp only [go_sem, ↓reduceIte, reduceCtorEq, Nat.reduceEqDiff, Int.natCast_zero]
  · intro i hi fr hp' h
    obtain ⟨⟨L, rfl⟩, h0, h8, h9, h10, hd⟩ := (hI _ _ _).1 h
    have k1 : ((i : Int) < (sig.length : Int)) = True := by simp; omega
    have g1 := hl.at (k := i) (by rw [dcs_len]; exact hi)
    rw [dcs_get sig i hi] at g1
    have hmem := mem_getD sig i hi
    have w1 : wr .i64 ((i : Int) + 1) = ((i + 1 : Nat) : Int) := by rw [wr_i64 _ (by omega)]; omega
    rw [firstE_step _ _ _ hi] at hd
    obtain ⟨e0, he0⟩ : ∃ e, sigE sig i = e := ⟨_, rfl⟩
    rw [he0] at hd
    rw [sigE] at he0
    have dok := hok _ hmem
    obtain ⟨y, hy⟩ : ∃ y, sig.getD i default = y := ⟨_, rfl⟩
    rw [hy] at he0 g1 dok
    obtain ⟨yn, yk, yv⟩ := y
    obtain ⟨q1, q2, q3⟩ := dok
    obtain ⟨p2, u2, n2, d2, f2⟩ := q1.one
    rw [nums_len] at n2
    simp only [Dc.cells] at g1 he0 q1 q2 n2 p2 u2 d2 f2
    have hnm := v_name yn
    have hdc := p_declared sig v hv yn []
    have hks := p_hasI yk (fun k => decide (k < 1) || decide (3 < k)) 44 [] [] yv q1 q2
    by_cases c1 : nameP yn
    · by_cases c2 : findD sig yn < (i : Int)
      · have e1 : e0 = 1 := by rw [← he0, if_pos (.inr c2)]
        subst e1
        simp +contextual -implicitDefEqProofs (maxSteps := 10000000) only [x18_l0_run, go_sem, ↓reduceIte, reduceCtorEq, Nat.reduceEqDiff, Nat.reduceAdd, h0, h8, h9, h10, k1, g1, u1, f1, u2, p2, hnm, hdc, c1, c2, stAt_topc, ldAt_topc, decide_true, Bool.not_true]
        rw [hQ]
        exact ⟨⟨_, rfl⟩, .inr ⟨rfl, by simp only [go_sem, ↓reduceIte, Int.reduceEq, hd]⟩⟩
      · rw [if_neg (by simp [c1, c2])] at he0
        by_cases c3 : 6 < yk.length
        · have c3' : ((6 : Int) < (yk.length : Int)) = True := by simp; omega
          rw [if_pos c3] at he0
          subst he0
          simp +contextual -implicitDefEqProofs (maxSteps := 10000000) only [x18_l0_run, go_sem, ↓reduceIte, reduceCtorEq, Nat.reduceEqDiff, Nat.reduceAdd, h0, h8, h9, h10, k1, g1, u1, f1, u2, p2, n2, hnm, hdc, c1, c2, c3', stAt_topc, ldAt_topc, decide_true, Bool.not_true]
          rw [hQ]
          exact ⟨⟨_, rfl⟩, .inr ⟨rfl, by simp only [go_sem, ↓reduceIte, Int.reduceEq, hd]⟩⟩
        · have c3' : ((6 : Int) < (yk.length : Int)) = False := by simp; omega
          rw [if_neg c3] at he0
          have hks' := fun hp => hks hp (fun k _ => by simpa [uf] using p_kindsOk k ([] :: [] :: hp))
          by_cases c4 : (yk.any fun k => decide (k < 1) || decide (3 < k)) = true
          · rw [if_pos c4] at he0
            subst he0
            rw [c4] at hks'
            simp +contextual -implicitDefEqProofs (maxSteps := 10000000) only [x18_l0_run, go_sem, ↓reduceIte, reduceCtorEq, Nat.reduceEqDiff, Nat.reduceAdd, h0, h8, h9, h10, k1, g1, u1, f1, u2, p2, n2, hnm, hdc, c1, c2, c3', hks', o_callw, cwK_same, stAt_topc, ldAt_topc, decide_true, Bool.not_true]
            rw [hQ]
            exact ⟨⟨_, rfl⟩, .inr ⟨rfl, by simp only [go_sem, ↓reduceIte, Int.reduceEq, hd]⟩⟩
          · rw [if_neg c4] at he0
            subst he0
            have c4' : (yk.any fun k => decide (k < 1) || decide (3 < k)) = false := by simpa using c4
            rw [c4'] at hks'
            simp +contextual -implicitDefEqProofs (maxSteps := 10000000) only [x18_l0_run, go_sem, ↓reduceIte, reduceCtorEq, Nat.reduceEqDiff, Nat.reduceAdd, h0, h8, h9, h10, k1, g1, w1, u1, f1, u2, p2, n2, hnm, hdc, c1, c2, c3', hks', o_callw, cwK_same, stAt_topc, ldAt_topc, decide_true, Bool.not_true]
            rw [hI]
            refine ⟨⟨_, rfl⟩, ?_, ?_, ?_, ?_, by rw [hd]; rfl⟩ <;> simp only [go_sem, ↓reduceIte, reduceCtorEq, Nat.reduceEqDiff, h0, h8, h9]
    · have e1 : e0 = 1 := by rw [← he0, if_pos (.inl c1)]
      subst e1
      simp +contextual -implicitDefEqProofs (maxSteps := 10000000) only [x18_l0_run, go_sem, ↓reduceIte, reduceCtorEq, Nat.reduceEqDiff, Nat.reduceAdd, h0, h8, h9, h10, k1, g1, u1, u2, p2, hnm, c1, stAt_topc, ldAt_topc, decide_false, Bool.not_false]
      rw [hQ]
      exact ⟨⟨_, rfl⟩, .inr ⟨rfl, by simp only [go_sem, ↓reduceIte, Int.reduceEq, hd]⟩⟩
  · intro fr hp' h
    obtain ⟨⟨L, rfl⟩, h0, h8, h9, h10, hd⟩ := (hI _ _ _).1 h
    simp +contextual -implicitDefEqProofs (maxSteps := 10000000) only [x18_l0_run, go_sem, ↓reduceIte, h9, h10, Int.lt_irrefl]
    rw [hQ]
    exact ⟨⟨_, rfl⟩, .inl ⟨rfl, by rw [hd, Nat.sub_self]; rfl⟩⟩
  · intro e fr hp' he h
    rcases (hQ _ _ _).1 h with ⟨⟨L, rfl⟩, ⟨rfl, h1⟩ | ⟨rfl, h1⟩⟩
    · simp +contextual -implicitDefEqProofs (maxSteps := 10000000) only [go_sem, ↓reduceIte, h1]
    · simp +contextual -implicitDefEqProofs (maxSteps := 10000000) only [go_sem, h1]
end Go.Proofs.YtjbgceogkgpjpaaGreatDoor.Sx.T
namespace Go.Proofs.YtjbgceogkgpjpaaGreatDoor.Sx.T
open Go Go.Proofs.YtjbgceogkgpjpaaGreatDoor.Sx
set_option maxRecDepth 100000
set_option maxHeartbeats 16000000
theorem SigV.take {v : AV} {sig : List Dc} (h : SigV v sig) (i : Nat) (hi : i < sig.length) : sslK 2 v none (some (.int .i64 (i : Int))) none = some (.lst .none 2 (dcs (sig.take i))) ∧ SigV (.lst .none 2 (dcs (sig.take i))) (sig.take i) := by
  obtain ⟨hl, hok, hm⟩ := h
  refine ⟨?_, .inr ⟨.none, .inl rfl, rfl⟩, fun d hd => hok d (List.mem_of_mem_take hd), by simp; omega⟩
  rcases hl with ⟨rfl, e⟩ | ⟨o, ho, rfl⟩
  · exfalso
    have := dcs_len sig
    rw [e] at this
    simp at this; omega
  · rw [sslK_hi, dcs_len, if_pos ⟨rfl, by omega⟩]
    simp [dcs, List.map_take]
end Go.Proofs.YtjbgceogkgpjpaaGreatDoor.Sx.T
namespace Go.Proofs.YtjbgceogkgpjpaaGreatDoor.Sx.T
open Go Go.Proofs.YtjbgceogkgpjpaaGreatDoor.Sx
set_option maxRecDepth 100000
set_option maxHeartbeats 16000000
theorem ets_free (x : AV) (es : List (List AV)) (z : Nat) (h : Ls z x es) (t : Int) : refFreeL [AV.int .i64 t, x] = true := by
  obtain ⟨_, _, _, _, f⟩ := h.one
  simp only [refFreeL, f]; rfl
theorem p_sizes (t : Int) (evs : List Et) (v : AV) (hv : EvV v evs) (hp : Heap) : CL X GV 24 [.agg [.int .i64 t, v]] hp = some (.int .i64 (szP t evs.length), hp) := by
  obtain ⟨p1, u1, n1, d1, f1⟩ := hv.1.one
  rw [ets_len] at n1
  rw [CL_eq (fn := x24) rfl, szP]
  by_cases c1 : t < 0
  · simp +contextual -implicitDefEqProofs (maxSteps := 10000000) only [x24, go_sem, ↓reduceIte, Nat.reduceEqDiff, Nat.reduceAdd, u1, n1, p1, c1, true_or]
  · by_cases c2 : 1099511627776 < t
    · simp +contextual -implicitDefEqProofs (maxSteps := 10000000) only [x24, go_sem, ↓reduceIte, Nat.reduceEqDiff, Nat.reduceAdd, u1, n1, p1, c1, c2, or_true]
    · by_cases c3 : 64 < evs.length
      · have c3' : ((64 : Int) < (evs.length : Int)) = True := by simp; omega
        simp +contextual -implicitDefEqProofs (maxSteps := 10000000) only [x24, go_sem, ↓reduceIte, Nat.reduceEqDiff, Nat.reduceAdd, u1, n1, p1, c1, c2, c3, c3', or_self]
      · have c3' : ((64 : Int) < (evs.length : Int)) = False := by simp; omega
        simp +contextual -implicitDefEqProofs (maxSteps := 10000000) only [x24, go_sem, ↓reduceIte, Nat.reduceEqDiff, Nat.reduceAdd, u1, n1, p1, c1, c2, c3, c3', or_self]
end Go.Proofs.YtjbgceogkgpjpaaGreatDoor.Sx.T
namespace Go.Proofs.YtjbgceogkgpjpaaGreatDoor.Sx.T
open Go Go.Proofs.YtjbgceogkgpjpaaGreatDoor.Sx
set_option maxRecDepth 100000
set_option maxHeartbeats 16000000
theorem Val.flat (x : Val) : x.cells.length = 4 ∧ x.cells.all plain1 = true ∧ x.cells.map uf = x.cells ∧ refFreeL x.cells = true := ⟨rfl, rfl, rfl, rfl⟩
end Go.Proofs.YtjbgceogkgpjpaaGreatDoor.Sx.T
namespace Go.Proofs.YtjbgceogkgpjpaaGreatDoor.Sx.T
open Go Go.Proofs.YtjbgceogkgpjpaaGreatDoor.Sx
set_option maxRecDepth 100000
set_option maxHeartbeats 16000000
end Go.Proofs.YtjbgceogkgpjpaaGreatDoor.Sx.T
namespace Go.Proofs.YtjbgceogkgpjpaaGreatDoor.Sx.T
open Go Go.Proofs.YtjbgceogkgpjpaaGreatDoor.Sx
set_option maxRecDepth 100000
set_option maxHeartbeats 16000000
def prVs (vl : List Val) : List UInt8 := vl.flatMap fun v => 32 :: prt v
def prE (e : Et) : List UInt8 := 32 :: 40 :: (e.n ++ (prVs e.vl ++ [41]))
def prEs (l : List Et) : List UInt8 := l.flatMap prE
open Classical in noncomputable def errE (e : Et) : Int := if ¬ nameP e.n then 1 else vals8 e.vl
noncomputable def errP (t : Int) (evs : List Et) : Int := if szP t evs.length ≠ 0 then szP t evs.length else firstE (fun i => errE (evs.getD i default)) evs.length 0
noncomputable def ptE (t : Int) (evs : List Et) : Int := if errP t evs ≠ 0 then errP t evs else if 4096 < (64 :: (decI t ++ prEs evs)).length then 2 else 0
noncomputable def ptS (t : Int) (evs : List Et) : List UInt8 := if ptE t evs ≠ 0 then [] else 64 :: (decI t ++ prEs evs)
theorem qt_len8 (s : List UInt8) : (qt s).length ≤ 4 * s.length + 2 := by
  have := flat_len s
  simp only [qt, List.length_cons, List.length_append, List.length_nil]
  omega
theorem prt_len8 (v : Val) : (prt v).length ≤ 258 := by
  unfold prt
  by_cases hc : chkV v = 0
  · rw [if_neg (by simp [hc])]
    by_cases k1 : v.k = 1
    · rw [if_pos k1]; have := decI_len v.n; omega
    · rw [if_neg k1]
      by_cases k2 : v.k = 2
      · rw [if_pos k2, List.length_append, List.length_cons]; have := decI_len v.n; have := decI_len v.d; omega
      · rw [if_neg k2]
        have h1 := qt_len8 v.s
        have h2 : v.s.length ≤ 64 := by
          unfold chkV chk at hc
          rw [if_neg k1, if_neg k2] at hc
          split at hc
          · split at hc
            · split at hc
              · assumption
              · cases hc
            · cases hc
          · cases hc
        omega
  · rw [if_pos hc]; simp
theorem prVs_len (vl : List Val) : (prVs vl).length ≤ 259 * vl.length := by
  induction vl with
  | nil => simp [prVs]
  | cons v l ih =>
    have := prt_len8 v
    simp only [prVs, List.flatMap_cons, List.length_append, List.length_cons] at ih ⊢
    omega
theorem prVs_take (vl : List Val) (i : Nat) (h : i < vl.length) : prVs (vl.take (i + 1)) = prVs (vl.take i) ++ (32 :: prt (vl.getD i default)) := by
  rw [prVs, List.take_succ_eq_append_getElem h, List.flatMap_append, List.flatMap_singleton]
  simp [prVs, List.getD, h]
theorem prEs_take (l : List Et) (i : Nat) (h : i < l.length) : prEs (l.take (i + 1)) = prEs (l.take i) ++ prE (l.getD i default) := by
  rw [prEs, List.take_succ_eq_append_getElem h, List.flatMap_append, List.flatMap_singleton]
  simp [prEs, List.getD, h]
def bnd : List Et → Nat
  | [] => 0
  | e :: l => 3 + e.n.length + 259 * e.vl.length + bnd l
theorem bnd_take : ∀ (l : List Et) (i : Nat), i < l.length → bnd (l.take i) + (3 + (l.getD i default).n.length + 259 * (l.getD i default).vl.length) ≤ bnd l
  | [], i, h => by simp at h
  | e :: l, 0, _ => by simp [bnd]
  | e :: l, i + 1, h => by
    have := bnd_take l i (by simpa using h)
    simp only [List.take_succ_cons, bnd, List.getD_cons_succ]
    omega
theorem prEs_len (l : List Et) : (prEs l).length ≤ bnd l := by
  induction l with
  | nil => simp [prEs, bnd]
  | cons e l ih =>
    have := prVs_len e.vl
    simp only [prEs, prE, List.flatMap_cons, List.length_append, List.length_cons, List.length_nil, bnd] at ih ⊢
    omega
theorem avnE_vals (l : List Val) : l.length ≤ avnE (vals l) := by
  induction l with
  | nil => simp [vals, avnE]
  | cons v l ih => simp only [vals, List.map_cons, avnE, List.length_cons] at ih ⊢; omega
theorem bnd_avn (l : List Et) (h : ∀ e ∈ l, e.ok) : bnd l ≤ 259 * avnE (ets l) := by
  induction l with
  | nil => simp [ets, avnE, bnd]
  | cons e l ih =>
    have ih := ih (fun x hx => h x (by simp [hx]))
    have h1 : e.vl.length ≤ avn e.av := by
      rcases (h e (by simp)).1 with ⟨_, e2⟩ | ⟨o, _, e2⟩
      · have := vals_len e.vl
        rw [e2] at this
        simp at this; omega
      · rw [e2, avn]; exact avnE_vals e.vl
    simp only [ets, List.map_cons, avnE, bnd, Et.cells, avnL, avn] at ih ⊢
    omega
def OArg (b : Int) (vl : List Val) (B : List UInt8) (a1 a2 a3 : AV) (r : Option (XExit × St)) : Prop :=
  (b = 0 ∧ ∃ fr' L, r = some (.exit 2, ⟨fr', [L]⟩) ∧ fget fr' 5 = .lst .own 1 (listOfBytes (B ++ prVs vl)) ∧ fget fr' 23 = a1 ∧ fget fr' 24 = a2 ∧ fget fr' 25 = a3) ∨
  (b ≠ 0 ∧ ∃ fr' L, r = some (.ret, ⟨fr', [L]⟩) ∧ fget fr' 2 = .str [] ∧ fget fr' 3 = .int .i64 b)
theorem l_args (vl : List Val) (av : AV) (hl : Ls 4 av (vals vl)) (hok : ∀ x ∈ vl, x.ok) (B : List UInt8) (hB : B.length + 259 * vl.length ≤ 1000000000) (a1 a2 a3 : AV) (fr : List AV) (L : Level)
    (h5 : fget fr 5 = .lst .own 1 (listOfBytes B)) (h23 : fget fr 23 = a1) (h24 : fget fr 24 = a2) (h25 : fget fr 25 = a3) (h39 : fget fr 39 = av) (h40 : fget fr 40 = .int .i64 vl.length) (h41 : fget fr 41 = .int .i64 0) :
    OArg (vals8 vl) vl B a1 a2 a3 (LC X GV (.loop x16_l0) ⟨fr, [L]⟩) := by
  obtain ⟨p1, u1, n1, d1, f1⟩ := hl.one
  rw [vals8]
  generalize hE : (fun i => chkV (vl.getD i default)) = E
  obtain ⟨I, hI⟩ : ∃ I : Nat → List AV → Heap → Prop, ∀ i fr hp', I i fr hp' ↔ ((∃ L, hp' = L :: []) ∧ fget fr 5 = .lst .own 1 (listOfBytes (B ++ prVs (vl.take i))) ∧ fget fr 23 = a1 ∧ fget fr 24 = a2 ∧ fget fr 25 = a3 ∧ fget fr 39 = av ∧ fget fr 40 = .int .i64 vl.length ∧ fget fr 41 = .int .i64 (i : Nat) ∧ firstE E vl.length 0 = firstE E (vl.length - i) i) := ⟨_, fun _ _ _ => Iff.rfl⟩
  obtain ⟨Q, hQ⟩ : ∃ Q : XExit → List AV → Heap → Prop, ∀ e fr hp', Q e fr hp' ↔ ((∃ L, hp' = L :: []) ∧ ((e = .exit 2 ∧ firstE E vl.length 0 = 0 ∧ fget fr 5 = .lst .own 1 (listOfBytes (B ++ prVs vl)) ∧ fget fr 23 = a1 ∧ fget fr 24 = a2 ∧ fget fr 25 = a3) ∨ (e = .ret ∧ firstE E vl.length 0 ≠ 0 ∧ fget fr 2 = .str [] ∧ fget fr 3 = .int .i64 (firstE E vl.length 0)))) := ⟨_, fun _ _ _ => Iff.rfl⟩
  refine LC_upK vl.length I Q _ ?_ ?_ ?_ ?_
  · rw [hI]
    exact ⟨⟨_, rfl⟩, by rw [h5]; simp [prVs], h23, h24, h25, h39, h40, h41, by rw [Nat.sub_zero]⟩
  · intro i hi fr hp' h
    obtain ⟨⟨L, rfl⟩, h5, h23, h24, h25, h39, h40, h41, hd⟩ := (hI _ _ _).1 h
    have k1 : ((i : Int) < (vl.length : Int)) = True := by simp; omega
    have g1 := hl.at (k := i) (by rw [vals_len]; exact hi)
    rw [vals_get vl i hi] at g1
    have hmem := mem_getD vl i hi
    have w1 : wr .i64 ((i : Int) + 1) = ((i + 1 : Nat) : Int) := by rw [wr_i64 _ (by omega)]; omega
    rw [firstE_step _ _ _ hi] at hd
    have vok := hok _ hmem
    obtain ⟨e0, he0⟩ : ∃ e, E i = e := ⟨_, rfl⟩
    rw [he0] at hd
    have he1 : e0 = chkV (vl.getD i default) := by rw [← he0, ← hE]
    have hpr := v_print (vl.getD i default) vok []
    have hpl := prt_len8 (vl.getD i default)
    have hPl := prVs_len (vl.take i)
    rw [List.length_take] at hPl
    have htk := prVs_take vl i hi
    rw [← he1] at hpr
    obtain ⟨y, hy⟩ : ∃ y, vl.getD i default = y := ⟨_, rfl⟩
    obtain ⟨q, hq⟩ : ∃ q, prt (vl.getD i default) = q := ⟨_, rfl⟩
    rw [hq] at hpr hpl htk
    rw [hy] at g1 hpr
    obtain ⟨A, hA⟩ : ∃ A, B ++ prVs (vl.take i) = A := ⟨_, rfl⟩
    have hAl : A.length ≤ B.length + 259 * i := by rw [← hA, List.length_append]; omega
    have hA' : B ++ prVs (vl.take (i + 1)) = A ++ (32 :: q) := by rw [htk, ← hA, List.append_assoc]
    rw [hA] at h5
    obtain ⟨k, n, d, s⟩ := y
    simp only [Val.cells, Val.av, vA] at g1 hpr
    clear he0 he1
    by_cases c : e0 = 0
    · subst c
      have r1 : ((1 : Nat) + q.length ≤ 140737488355328) = True := by simp; omega
      have r2 : ([32].length + q.length ≤ 140737488355328) = True := by simp; omega
      have hap : appsK false (.lst .own 1 (listOfBytes A)) (.str (32 :: q)) = some (.lst .own 1 (listOfBytes (A ++ (32 :: q)))) := by
        rw [appsK_own _ _ (by simp) (by rw [bytes_len]; simp [room]; omega)]
        simp [listOfBytes]
      simp +contextual -implicitDefEqProofs (maxSteps := 10000000) only [x16_l0_run, go_sem, ↓reduceIte, Nat.reduceEqDiff, Nat.reduceAdd, Int.reduceBNe, h5, h39, h40, h41, k1, g1, w1, hpr, u1, stAt_topc, ldAt_topc, r1, o_appstr, hap]
      rw [hI]
      refine ⟨⟨_, rfl⟩, ?_, ?_, ?_, ?_, ?_, ?_, ?_, by rw [hd, if_neg (by simp)]⟩ <;> simp only [go_sem, ↓reduceIte, Nat.reduceEqDiff, h23, h24, h25, h39, h40, hA']
    · have c' : (e0 = 0) = False := by simp [c]
      simp +contextual -implicitDefEqProofs (maxSteps := 10000000) only [x16_l0_run, go_sem, ↓reduceIte, Nat.reduceEqDiff, Nat.reduceAdd, h39, h40, h41, k1, g1, hpr, u1, stAt_topc, ldAt_topc, c']
      rw [hQ]
      have hd' : firstE E vl.length 0 = e0 := by rw [hd, if_pos c]
      exact ⟨⟨_, rfl⟩, .inr ⟨rfl, by rw [hd']; exact c, by simp only [go_sem, ↓reduceIte, Nat.reduceEqDiff], by simp only [go_sem, ↓reduceIte, hd']⟩⟩
  · intro fr hp' h
    obtain ⟨⟨L, rfl⟩, h5, h23, h24, h25, h39, h40, h41, hd⟩ := (hI _ _ _).1 h
    simp +contextual -implicitDefEqProofs (maxSteps := 10000000) only [x16_l0_run, go_sem, ↓reduceIte, h40, h41, Int.lt_irrefl]
    rw [hQ]
    refine ⟨⟨_, rfl⟩, .inl ⟨rfl, by rw [hd, Nat.sub_self]; rfl, ?_, ?_, ?_, ?_⟩⟩ <;> simp only [go_sem, ↓reduceIte, Nat.reduceEqDiff, h5, h23, h24, h25, List.take_length]
  · intro e fr hp' he h
    rcases (hQ _ _ _).1 h with ⟨⟨L, rfl⟩, ⟨rfl, h1, h2, h3, h4, h5⟩ | ⟨rfl, h1, h2, h3⟩⟩
    · exact .inl ⟨h1, _, _, rfl, h2, h3, h4, h5⟩
    · exact .inr ⟨h1, _, _, rfl, h2, h3⟩
end Go.Proofs.YtjbgceogkgpjpaaGreatDoor.Sx.T
namespace Go.Proofs.YtjbgceogkgpjpaaGreatDoor.Sx.T
open Go Go.Proofs.YtjbgceogkgpjpaaGreatDoor.Sx
set_option maxRecDepth 100000
set_option maxHeartbeats 16000000
open Classical in
theorem p_print8 (t : Int) (ht : I64 t) (evs : List Et) (u : AV) (hu : EvV u evs) (hb : bnd evs ≤ 900000000) : CL X GV 16 [.agg [.int .i64 t, u]] [] = some (.tup [.str (ptS t evs), .int .i64 (ptE t evs)], []) := by
  obtain ⟨hul, huo, hum⟩ := id hu
  obtain ⟨p2, u2, n2, d2, f2⟩ := hul.one
  rw [ets_len] at n2
  have hf2 := ets_free u _ _ hul t
  have hsz := p_sizes t evs u hu []
  have hdec := primX_dec t ht
  have hdl := decI_len t
  obtain ⟨P, hP⟩ : ∃ P, ptS t evs = P := ⟨_, rfl⟩
  obtain ⟨R, hR⟩ : ∃ R, ptE t evs = R := ⟨_, rfl⟩
  rw [hP, hR]
  rw [ptS, hR] at hP
  rw [ptE] at hR
  obtain ⟨R1, hR1⟩ : ∃ R, errP t evs = R := ⟨_, rfl⟩
  rw [hR1] at hR
  rw [errP] at hR1
  rw [CL_eq (fn := x16) rfl]
  by_cases c2 : szP t evs.length = 0
  case neg =>
    have c2' : (szP t evs.length = 0) = False := by simp [c2]
    rw [if_pos c2] at hR1
    rw [← hR1, if_pos c2] at hR
    rw [← hR, if_pos c2] at hP
    subst hP hR
    simp +contextual -implicitDefEqProofs (maxSteps := 10000000) only [x16, go_sem, ↓reduceIte, Nat.reduceEqDiff, Nat.reduceAdd, u2, p2, hf2, hsz, c2', ldAt_topc, List.length_nil]
  rw [if_neg (by simp [c2])] at hR1
  rw [c2] at hsz
  generalize hE : (fun i => errE (evs.getD i default)) = E at hR1
  obtain ⟨D, hD⟩ : ∃ D, decI t = D := ⟨_, rfl⟩
  rw [hD] at hdec hdl hP hR
  have r1 : ((1 : Nat) + D.length ≤ 140737488355328) = True := by simp; omega
  have r2 : (D.length + 1 ≤ room) = True := by simp [room]; omega
  simp +contextual -implicitDefEqProofs (maxSteps := 10000000) only [x16, go_sem, ↓reduceIte, Nat.reduceEqDiff, Nat.reduceAdd, Int.reduceBNe, u2, n2, p2, hf2, hsz, ldAt_topc, List.length_nil, hdec, r1, r2, List.length_cons]
  obtain ⟨I, hI⟩ : ∃ I : Nat → List AV → Heap → Prop, ∀ i fr hp', I i fr hp' ↔ ((∃ L, hp' = L :: []) ∧ fget fr 5 = .lst .own 1 (listOfBytes (64 :: (D ++ prEs (evs.take i)))) ∧ fget fr 23 = u ∧ fget fr 24 = .int .i64 evs.length ∧ fget fr 25 = .int .i64 (i : Nat) ∧ firstE E evs.length 0 = firstE E (evs.length - i) i) := ⟨_, fun _ _ _ => Iff.rfl⟩
  obtain ⟨Q, hQ⟩ : ∃ Q : XExit → List AV → Heap → Prop, ∀ e fr hp', Q e fr hp' ↔ ((∃ L, hp' = L :: []) ∧ ((e = .exit 0 ∧ firstE E evs.length 0 = 0 ∧ fget fr 5 = .lst .own 1 (listOfBytes (64 :: (D ++ prEs evs)))) ∨ (e = .ret ∧ firstE E evs.length 0 ≠ 0 ∧ fget fr 2 = .str [] ∧ fget fr 3 = .int .i64 (firstE E evs.length 0)))) := ⟨_, fun _ _ _ => Iff.rfl⟩
  refine LC_upK evs.length I Q (fun r => finK _ (seqK (blockK 0 r) _) = _) ?_ ?_ ?_ ?_
  · rw [hI]
    refine ⟨⟨_, rfl⟩, ?_, ?_, ?_, ?_, by rw [Nat.sub_zero]⟩ <;> simp only [go_sem, ↓reduceIte, Nat.reduceEqDiff, Int.natCast_zero, List.take_zero, prEs, List.flatMap_nil]
  · intro i hi fr hp' h
    obtain ⟨⟨L, rfl⟩, h5, h23, h24, h25, hd⟩ := (hI _ _ _).1 h
    have k1 : ((i : Int) < (evs.length : Int)) = True := by simp; omega
    have g1 := hul.at (k := i) (by rw [ets_len]; exact hi)
    rw [ets_get evs i hi] at g1
    have w1 : wr .i64 ((i : Int) + 1) = ((i + 1 : Nat) : Int) := by rw [wr_i64 _ (by omega)]; omega
    rw [firstE_step _ _ _ hi] at hd
    have eok := huo _ (mem_getD evs i hi)
    obtain ⟨e0, he0⟩ : ∃ e, E i = e := ⟨_, rfl⟩
    rw [he0] at hd
    have he1 : e0 = errE (evs.getD i default) := by rw [← he0, ← hE]
    rw [errE] at he1
    have hbt := bnd_take evs i hi
    have hpl := prEs_len (evs.take i)
    have htk := prEs_take evs i hi
    obtain ⟨y, hy⟩ : ∃ y, evs.getD i default = y := ⟨_, rfl⟩
    rw [hy] at he1 g1 eok hbt htk
    obtain ⟨yn, vl, av⟩ := y
    obtain ⟨q1, q2, q3, q4⟩ := eok
    obtain ⟨p3, u3, n3, d3, f3⟩ := q1.one
    simp only [Et.cells] at g1 he1 q1 q2 q3 q4 p3 u3 n3 d3 f3 hbt
    rw [vals_len] at n3
    have hf3 : refFreeL [AV.str yn, av] = true := by simp only [refFreeL, f3]; rfl
    have hnm := v_name yn
    obtain ⟨A, hA⟩ : ∃ A, 64 :: (D ++ prEs (evs.take i)) = A := ⟨_, rfl⟩
    have hAl : A.length ≤ 22 + bnd (evs.take i) := by rw [← hA, List.length_cons, List.length_append]; omega
    rw [hA] at h5
    have hA' : 64 :: (D ++ prEs (evs.take (i + 1))) = A ++ (32 :: 40 :: yn) ++ prVs vl ++ [41] := by
      rw [htk, ← hA]; simp [prE]
    clear he0
    by_cases c1 : nameP yn
    case neg =>
      rw [if_pos c1] at he1
      subst he1
      simp +contextual -implicitDefEqProofs (maxSteps := 10000000) only [x16_l1_run, go_sem, ↓reduceIte, Nat.reduceEqDiff, Nat.reduceAdd, h23, h24, h25, k1, g1, hnm, c1, u2, u3, p3, stAt_topc, ldAt_topc, decide_false, Bool.not_false]
      rw [hQ]
      have hd' : firstE E evs.length 0 = 1 := by rw [hd, if_pos (by decide)]
      exact ⟨⟨_, rfl⟩, .inr ⟨rfl, by rw [hd']; decide, by simp only [go_sem, ↓reduceIte, Nat.reduceEqDiff], by simp only [go_sem, ↓reduceIte, hd']⟩⟩
    rw [if_neg (by simp [c1])] at he1
    obtain ⟨N2, hN2⟩ : ∃ N2, (32 :: 40 :: yn : List UInt8) = N2 := ⟨_, rfl⟩
    have hN2l : N2.length = 2 + yn.length := by rw [← hN2]; simp; omega
    have hN2n : N2 ≠ [] := by rw [← hN2]; simp
    have hadd : strs .add [32, 40] yn = some (.str N2) := by
      rw [strs_add, ← hN2, if_pos (by simp; omega)]; rfl
    have hap : appsK false (.lst .own 1 (listOfBytes A)) (.str N2) = some (.lst .own 1 (listOfBytes (A ++ N2))) := by
      rw [appsK_own _ _ hN2n (by rw [bytes_len]; simp [room]; omega)]
      simp [listOfBytes]
    rw [hN2] at hA'
    simp +contextual -implicitDefEqProofs (maxSteps := 10000000) only [x16_l1_run, go_sem, ↓reduceIte, Nat.reduceEqDiff, Nat.reduceAdd, h5, h23, h24, h25, k1, g1, hnm, c1, u2, u3, n3, p3, stAt_topc, ldAt_topc, decide_true, Bool.not_true, o_appstr, hap, hadd]
    refine elimL (fun r => StepOk (I (i + 1)) Q (seqK (blockK 1 (seqK (blockK 2 r) _)) _)) (l_args vl av q1 q3 (A ++ N2) (by rw [List.length_append]; omega) u (.int .i64 evs.length) (.int .i64 (i : Nat)) _ _ ?_ ?_ ?_ ?_ ?_ ?_ ?_) ?_
    · simp only [go_sem, ↓reduceIte, Nat.reduceEqDiff]
    · simp only [go_sem, ↓reduceIte, Nat.reduceEqDiff, h23]
    · simp only [go_sem, ↓reduceIte, Nat.reduceEqDiff, h24]
    · simp only [go_sem, ↓reduceIte, Nat.reduceEqDiff, h25]
    · simp only [go_sem, ↓reduceIte, Nat.reduceEqDiff]
    · simp only [go_sem, ↓reduceIte, Nat.reduceEqDiff]
    · simp only [go_sem, ↓reduceIte]
    rintro r (⟨hb0, fr', L', rfl, g5, g23, g24, g25⟩ | ⟨hb0, fr', L', rfl, g2, g3⟩)
    · rw [hb0] at he1
      subst he1
      obtain ⟨Z, hZ⟩ : ∃ Z, A ++ N2 ++ prVs vl = Z := ⟨_, rfl⟩
      rw [hZ] at g5 hA'
      have hZl : Z.length ≤ 1000000000 := by
        have := prVs_len vl
        rw [← hZ, List.length_append, List.length_append]; omega
      have r3 : ((listOfBytes Z).length + 1 ≤ room) = True := by rw [bytes_len]; simp [room]; omega
      have hs41 : listOfBytes Z ++ [[AV.int .u8 41]] = listOfBytes (Z ++ [41]) := bytes_snoc Z 41
      simp +contextual -implicitDefEqProofs (maxSteps := 10000000) only [go_sem, ↓reduceIte, reduceCtorEq, Nat.reduceEqDiff, Nat.reduceLT, Nat.reduceDiv, g5, g25, w1, r3, List.flatten_cons, List.flatten_nil]
      rw [hI]
      refine ⟨⟨_, rfl⟩, ?_, ?_, ?_, ?_, by rw [hd, if_neg (by simp)]⟩ <;> simp only [go_sem, ↓reduceIte, Nat.reduceEqDiff, g23, g24, hs41, hA']
    · rw [← he1] at hb0 g3
      simp +contextual -implicitDefEqProofs (maxSteps := 10000000) only [go_sem]
      rw [hQ]
      have hd' : firstE E evs.length 0 = e0 := by rw [hd, if_pos hb0]
      exact ⟨⟨_, rfl⟩, .inr ⟨rfl, by rw [hd']; exact hb0, by simp only [go_sem, g2], by simp only [go_sem, g3, hd']⟩⟩
  · intro fr hp' h
    obtain ⟨⟨L, rfl⟩, h5, h23, h24, h25, hd⟩ := (hI _ _ _).1 h
    simp +contextual -implicitDefEqProofs (maxSteps := 10000000) only [x16_l1_run, go_sem, ↓reduceIte, h24, h25, Int.lt_irrefl]
    rw [hQ]
    exact ⟨⟨_, rfl⟩, .inl ⟨rfl, by rw [hd, Nat.sub_self]; rfl, by simp only [go_sem, ↓reduceIte, Nat.reduceEqDiff, h5, List.take_length]⟩⟩
  · intro e fr hp' he h
    rcases (hQ _ _ _).1 h with ⟨⟨L, rfl⟩, ⟨rfl, h1, h5⟩ | ⟨rfl, h1, h2, h3⟩⟩
    · rw [hR1] at h1
      rw [if_neg (by simp [h1])] at hR
      obtain ⟨Z, hZ⟩ : ∃ Z, 64 :: (D ++ prEs evs) = Z := ⟨_, rfl⟩
      rw [hZ] at h5 hP hR
      have hln := bytes_len Z
      by_cases c4 : 4096 < Z.length
      · rw [if_pos c4] at hR
        subst hR
        rw [if_pos (by decide)] at hP
        subst hP
        have c4' : ((4096 : Int) < (Z.length : Int)) = True := by simp; omega
        simp +contextual -implicitDefEqProofs (maxSteps := 10000000) only [go_sem, ↓reduceIte, Nat.reduceEqDiff, Nat.reduceAdd, h5, hln, c4']
      · rw [if_neg c4] at hR
        subst hR
        rw [if_neg (by simp)] at hP
        subst hP
        have c4' : ((4096 : Int) < (Z.length : Int)) = False := by simp; omega
        simp +contextual -implicitDefEqProofs (maxSteps := 10000000) only [go_sem, ↓reduceIte, Nat.reduceEqDiff, Nat.reduceAdd, h5, hln, c4']
    · rw [hR1] at h1 h3
      rw [if_pos h1] at hR
      subst hR
      rw [if_pos h1] at hP
      subst hP
      simp +contextual -implicitDefEqProofs (maxSteps := 10000000) only [go_sem, ↓reduceIte, Nat.reduceAdd, h2, h3]
end Go.Proofs.YtjbgceogkgpjpaaGreatDoor.Sx.T
namespace Go.Proofs.YtjbgceogkgpjpaaGreatDoor.Sx.T
open Go Go.Proofs.YtjbgceogkgpjpaaGreatDoor.Sx
set_option maxRecDepth 100000
set_option maxHeartbeats 8000000
def kindS (k : Int) : List UInt8 := if k = 1 then [105, 110, 116] else if k = 2 then [114, 97, 116] else if k = 3 then [115, 116, 114] else []
def ksT (ks : List Int) : List UInt8 := (ks.map fun k => 32 :: kindS k).flatten
def dcT (d : Dc) : List UInt8 := d.n ++ ksT d.ks ++ [10]
def sigT (sig : List Dc) : List UInt8 := (sig.map dcT).flatten
theorem kindS_len (k : Int) : (kindS k).length ≤ 3 := by
  unfold kindS
  split
  · simp
  · split
    · simp
    · split <;> simp
theorem ksT_len : ∀ ks : List Int, (ksT ks).length ≤ 4 * ks.length
  | [] => by simp [ksT]
  | k :: ks => by
    have h1 := kindS_len k
    have h2 := ksT_len ks
    simp only [ksT, List.map_cons, List.flatten_cons, List.length_append, List.length_cons] at h2 ⊢
    omega
theorem ksT_take (ks : List Int) (i : Nat) (h : i < ks.length) : ksT (ks.take (i + 1)) = ksT (ks.take i) ++ (32 :: kindS (ks.getD i 0)) := by
  rw [ksT, List.take_succ_eq_append_getElem h, List.map_append, List.flatten_append, ksT]
  simp only [List.map_cons, List.map_nil, List.flatten_cons, List.flatten_nil, List.append_nil, List.getD, List.getElem?_eq_getElem h, Option.getD_some]
theorem sigT_take (sig : List Dc) (i : Nat) (h : i < sig.length) : sigT (sig.take (i + 1)) = sigT (sig.take i) ++ dcT (sig.getD i default) := by
  rw [sigT, List.take_succ_eq_append_getElem h, List.map_append, List.flatten_append, sigT]
  simp only [List.map_cons, List.map_nil, List.flatten_cons, List.flatten_nil, List.append_nil, List.getD, List.getElem?_eq_getElem h, Option.getD_some]
theorem firstE_zero {e : Nat → Int} : ∀ (m i : Nat), firstE e m i = 0 → ∀ j, i ≤ j → j < i + m → e j = 0
  | 0, i, _, j, h1, h2 => by omega
  | m + 1, i, h, j, h1, h2 => by
    rw [firstE] at h
    split at h
    · rename_i hn; exact absurd h hn
    · rename_i hn
      by_cases hj : j = i
      · subst hj; simpa using hn
      · exact firstE_zero m (i + 1) h j (by omega) (by omega)
theorem csig_zero {sig : List Dc} (h : csig sig = 0) : sig.length ≤ 32 ∧ ∀ i, i < sig.length → nameP (sig.getD i default).n ∧ (sig.getD i default).ks.length ≤ 6 ∧ ∀ k ∈ (sig.getD i default).ks, 1 ≤ k ∧ k ≤ 3 := by
  unfold csig at h
  by_cases h32 : 32 < sig.length
  · rw [if_pos h32] at h; simp at h
  · rw [if_neg h32] at h
    refine ⟨by omega, fun i hi => ?_⟩
    have := firstE_zero _ _ h i (Nat.zero_le _) (by omega)
    unfold sigE at this
    split at this
    · simp at this
    · rename_i h1
      split at this
      · simp at this
      · rename_i h2
        split at this
        · simp at this
        · rename_i h3
          refine ⟨?_, by omega, fun k hk => ?_⟩
          · by_cases hn : nameP (sig.getD i default).n
            · exact hn
            · exact absurd (.inl hn) h1
          · have h4 : ((sig.getD i default).ks.any fun k => decide (k < 1) || decide (3 < k)) = false := by simpa using h3
            have := List.any_eq_false.1 h4 k hk
            simp at this
            omega
theorem sigT_len {sig : List Dc} (h : ∀ i, i < sig.length → nameP (sig.getD i default).n ∧ (sig.getD i default).ks.length ≤ 6 ∧ ∀ k ∈ (sig.getD i default).ks, 1 ≤ k ∧ k ≤ 3) : ∀ i, i ≤ sig.length → (sigT (sig.take i)).length ≤ 41 * i
  | 0, _ => by simp [sigT]
  | i + 1, hi => by
    have ih := sigT_len h i (by omega)
    obtain ⟨h1, h2, _⟩ := h i (by omega)
    have h3 := ksT_len (sig.getD i default).ks
    have h4 := h1.2.1
    rw [sigT_take _ _ (by omega), List.length_append, dcT, List.length_append, List.length_append]
    simp only [List.length_cons, List.length_nil]
    omega
def kindL : List (List AV) := [[.str []], [.str [105, 110, 116]], [.str [114, 97, 116]], [.str [115, 116, 114]]]
theorem kindL_at {k : Int} (h : 1 ≤ k ∧ k ≤ 3) : k.toNat < 4 ∧ kindL.getD k.toNat [] = [.str (kindS k)] := by
  obtain rfl | rfl | rfl : k = 1 ∨ k = 2 ∨ k = 3 := by omega
  · exact ⟨by decide, rfl⟩
  · exact ⟨by decide, rfl⟩
  · exact ⟨by decide, rfl⟩
theorem p_kinds (hp : Heap) : CL X GV 47 [] hp = some (.lst .tight 1 kindL, hp) := by
  rw [CL_eq (fn := x47) rfl]
  simp +contextual -implicitDefEqProofs (maxSteps := 10000000) only [x47, go_sem, ↓reduceIte, Nat.reduceAdd, Nat.reduceLeDiff, Nat.reduceLT, Nat.reduceDiv]
  rfl
theorem p_bw (L : Level) (s v : Nat) (str : List UInt8) : CL X GV 46 [.ptr ⟨0, s, v⟩ 0, .str str] [L] = bwK 83005 s v str L [] (lbld L s v) := by
  rw [CL_spec (1000000 + 83005) (fn := x46) rfl rfl]
  exact hp_writeK rfl (by decide)
theorem p_bs (L : Level) (s v : Nat) : CL X GV 48 [.ptr ⟨0, s, v⟩ 0] [L] = bsK 83005 s v L [] (lbld L s v) := by
  rw [CL_spec (2000000 + 83005) (fn := x48) rfl rfl]
  exact hp_stringK rfl (by decide)
theorem l_prKs (P : List UInt8) (ks : List Int) (kv : AV) (hkv : Ls 1 kv (nums ks)) (hks : ∀ k ∈ ks, 1 ≤ k ∧ k ≤ 3) (hl : ks.length ≤ 6) (hP : P.length ≤ 1048576) (v : AV) (n i : Int) {fr : List AV} {L : Level} (K : Option (XExit × St) → Prop)
    (h5 : fget fr 5 = .ptr ⟨0, 5, 0⟩ 0) (h15 : fget fr 15 = v) (h16 : fget fr 16 = .int .i64 n) (h17 : fget fr 17 = .int .i64 i) (h25 : fget fr 25 = kv) (h26 : fget fr 26 = .int .i64 ks.length) (h27 : fget fr 27 = .int .i64 0) (hL : lbld L 5 0 = some (83, 5, P))
    (hk : ∀ fr' L', fget fr' 5 = .ptr ⟨0, 5, 0⟩ 0 → fget fr' 15 = v → fget fr' 16 = .int .i64 n → fget fr' 17 = .int .i64 i → lbld L' 5 0 = some (83, 5, P ++ ksT ks) → K (some (.exit 2, ⟨fr', [L']⟩))) :
    K (LC X GV (.loop x20_l0) ⟨fr, [L]⟩) := by
  obtain ⟨p1, u1, n1, d1, f1⟩ := hkv.one
  obtain ⟨I, hI⟩ : ∃ I : Nat → List AV → Heap → Prop, ∀ j fr hp', I j fr hp' ↔ ((∃ L, hp' = [L] ∧ lbld L 5 0 = some (83, 5, P ++ ksT (ks.take j))) ∧ fget fr 5 = .ptr ⟨0, 5, 0⟩ 0 ∧ fget fr 15 = v ∧ fget fr 16 = .int .i64 n ∧ fget fr 17 = .int .i64 i ∧ fget fr 25 = kv ∧ fget fr 26 = .int .i64 ks.length ∧ fget fr 27 = .int .i64 (j : Nat)) := ⟨_, fun _ _ _ => Iff.rfl⟩
  obtain ⟨Q, hQ⟩ : ∃ Q : XExit → List AV → Heap → Prop, ∀ e fr hp', Q e fr hp' ↔ (e = .exit 2 ∧ (∃ L, hp' = [L] ∧ lbld L 5 0 = some (83, 5, P ++ ksT ks)) ∧ fget fr 5 = .ptr ⟨0, 5, 0⟩ 0 ∧ fget fr 15 = v ∧ fget fr 16 = .int .i64 n ∧ fget fr 17 = .int .i64 i) := ⟨_, fun _ _ _ => Iff.rfl⟩
  refine LC_upK ks.length I Q K ?_ ?_ ?_ ?_
  · rw [hI]
    exact ⟨⟨L, rfl, by rw [hL]; simp [ksT]⟩, h5, h15, h16, h17, h25, h26, h27⟩
  · intro j hj fr hp' hh
    obtain ⟨⟨L, rfl, hL⟩, h5, h15, h16, h17, h25, h26, h27⟩ := (hI _ _ _).1 hh
    have k1 : ((j : Int) < (ks.length : Int)) = True := by simp; omega
    have g1 := hkv.at (k := j) (by rw [nums_len]; exact hj)
    rw [nums_get ks j hj] at g1
    have hmem : ks.getD j 0 ∈ ks := by simp [List.getD, hj]
    have w1 : wr .i64 ((j : Int) + 1) = ((j + 1 : Nat) : Int) := by rw [wr_i64 _ (by omega)]; omega
    have htk := ksT_take ks j hj
    have hkr := hks _ hmem
    have hlen := ksT_len (ks.take j)
    have htl : (ks.take j).length ≤ 6 := by rw [List.length_take]; omega
    generalize ks.getD j 0 = k at g1 htk hkr
    obtain ⟨a1, a2⟩ := kindL_at hkr
    have a0 : (0 ≤ k) = True := by simp; omega
    have a3 : (k.toNat < kindL.length) = True := by simpa [kindL] using a1
    have hks3 := kindS_len k
    have b1 : (1 + (kindS k).length ≤ 140737488355328) = True := by simp; omega
    obtain ⟨T, hT⟩ : ∃ T, P ++ ksT (ks.take j) = T := ⟨_, rfl⟩
    have hTl : T.length ≤ 1048600 := by rw [← hT, List.length_append]; omega
    rw [hT] at hL
    have b2 : (T.length + ((kindS k).length + 1) ≤ 140737488355328) = True := by simp; omega
    have hkd := p_kinds
    have hbw := p_bw
    simp +contextual -implicitDefEqProofs (maxSteps := 10000000) only [x20_l0_run, go_sem, ↓reduceIte, Nat.reduceEqDiff, Nat.reduceAdd, Nat.reduceMul, h5, h25, h26, h27, k1, w1, u1, g1, a0, a2, a3, hkd, hbw, hL, bwK_some, b1, b2, o_callw, cwK_putb, Option.isSome_some, List.singleton_append]
    rw [hI]
    refine ⟨⟨_, rfl, ?_⟩, ?_, ?_, ?_, ?_, ?_, ?_, ?_⟩
    · rw [lbld_putb, if_pos rfl, if_pos rfl, htk, ← List.append_assoc, hT]
    all_goals simp only [go_sem, ↓reduceIte, Nat.reduceEqDiff, h5, h15, h16, h17, h25, h26]
  · intro fr hp' hh
    obtain ⟨⟨L, rfl, hL⟩, h5, h15, h16, h17, h25, h26, h27⟩ := (hI _ _ _).1 hh
    simp +contextual -implicitDefEqProofs (maxSteps := 10000000) only [x20_l0_run, go_sem, ↓reduceIte, h26, h27, Int.lt_irrefl]
    rw [hQ]
    rw [List.take_length] at hL
    refine ⟨rfl, ⟨L, rfl, hL⟩, ?_, ?_, ?_, ?_⟩ <;> simp only [go_sem, ↓reduceIte, Nat.reduceEqDiff, h5, h15, h16, h17]
  · intro e fr hp' he hh
    obtain ⟨rfl, ⟨L, rfl, hL⟩, h5, h15, h16, h17⟩ := (hQ _ _ _).1 hh
    exact hk fr L h5 h15 h16 h17 hL
theorem p_prSig (sig : List Dc) (v : AV) (hv : SigV v sig) : CL X GV 20 [v] [] = some (.tup [.str (if csig sig = 0 then sigT sig else []), .int .i64 (csig sig)], []) := by
  obtain ⟨hl, hok, hm⟩ := id hv
  obtain ⟨p1, u1, n1, d1, f1⟩ := hl.one
  rw [dcs_len] at n1
  have hcs := p_csig sig v hv
  rw [CL_eq (fn := x20) rfl]
  by_cases hc : csig sig = 0
  · obtain ⟨hl32, hgood⟩ := csig_zero hc
    have hsl := sigT_len hgood
    rw [hc] at hcs ⊢
    rw [if_pos rfl]
    have hbw := p_bw
    have hbs := p_bs
    have nv : nextVer [] 5 = 0 := rfl
    simp +contextual -implicitDefEqProofs (maxSteps := 10000000) only [x20, go_sem, ↓reduceIte, reduceCtorEq, Nat.reduceEqDiff, Int.reduceBNe, hcs, u1, n1, f1, o_allocb, nv]
    obtain ⟨I, hI⟩ : ∃ I : Nat → List AV → Heap → Prop, ∀ i fr hp', I i fr hp' ↔ ((∃ L, hp' = [L] ∧ lbld L 5 0 = some (83, 5, sigT (sig.take i))) ∧ fget fr 5 = .ptr ⟨0, 5, 0⟩ 0 ∧ fget fr 15 = v ∧ fget fr 16 = .int .i64 sig.length ∧ fget fr 17 = .int .i64 (i : Nat)) := ⟨_, fun _ _ _ => Iff.rfl⟩
    obtain ⟨Q, hQ⟩ : ∃ Q : XExit → List AV → Heap → Prop, ∀ e fr hp', Q e fr hp' ↔ (e = .exit 0 ∧ (∃ L, hp' = [L] ∧ lbld L 5 0 = some (83, 5, sigT sig)) ∧ fget fr 5 = .ptr ⟨0, 5, 0⟩ 0) := ⟨_, fun _ _ _ => Iff.rfl⟩
    refine LC_upK sig.length I Q (fun r => finK _ (seqK (blockK 0 r) _) = _) ?_ ?_ ?_ ?_
    · rw [hI]
      refine ⟨⟨_, rfl, ?_⟩, ?_, ?_, ?_, ?_⟩
      · rw [lbld_putb, if_pos rfl, if_pos rfl]; rfl
      all_goals simp only [go_sem, ↓reduceIte, Nat.reduceEqDiff, Int.natCast_zero]
    · intro i hi fr hp' hh
      obtain ⟨⟨L, rfl, hL⟩, h5, h15, h16, h17⟩ := (hI _ _ _).1 hh
      have k1 : ((i : Int) < (sig.length : Int)) = True := by simp; omega
      have g1 := hl.at (k := i) (by rw [dcs_len]; exact hi)
      rw [dcs_get sig i hi] at g1
      have hmem := mem_getD sig i hi
      have w1 : wr .i64 ((i : Int) + 1) = ((i + 1 : Nat) : Int) := by rw [wr_i64 _ (by omega)]; omega
      have dok := hok _ hmem
      have hgd := hgood i hi
      have htk := sigT_take sig i hi
      have hTl := hsl i (by omega)
      generalize sig.getD i default = y at g1 dok hgd htk
      obtain ⟨yn, yk, yv⟩ := y
      obtain ⟨q1, q2, q3⟩ := dok
      obtain ⟨p2, u2, n2, d2, f2⟩ := q1.one
      rw [nums_len] at n2
      simp only [Dc.cells, dcT] at g1 hgd htk q1 q2 q3 n2 p2 u2 d2 f2
      obtain ⟨hn, hk6, hkk⟩ := hgd
      have hn16 := hn.2.1
      obtain ⟨T, hT⟩ : ∃ T, sigT (sig.take i) = T := ⟨_, rfl⟩
      rw [hT] at hL htk hTl
      have b1 : (T.length + yn.length ≤ 140737488355328) = True := by simp; omega
      have hkl := ksT_len yk
      have b2 : ((T ++ yn ++ ksT yk).length + 1 ≤ 140737488355328) = True := by simp only [List.length_append, eq_iff_iff, iff_true]; omega
      simp +contextual -implicitDefEqProofs (maxSteps := 10000000) only [x20_l1_run, go_sem, ↓reduceIte, Nat.reduceEqDiff, Nat.reduceAdd, Nat.reduceMul, h5, h15, h16, h17, k1, u1, g1, u2, p2, n2, hbw, hL, bwK_some, b1, o_callw, cwK_putb, Option.isSome_some, lbld_put, lcells_putb, stAt_topc, ldAt_topc]
      refine l_prKs (T ++ yn) yk yv q1 hkk hk6 (by rw [List.length_append]; omega) v sig.length i (fun r => StepOk (I (i + 1)) Q (seqK (blockK 1 (seqK (blockK 2 r) _)) _)) ?_ ?_ ?_ ?_ ?_ ?_ ?_ ?_ ?_
      all_goals first | (simp only [go_sem, ↓reduceIte, Nat.reduceEqDiff, h5, h15, h16, h17]; done) | skip
      · simp only [lbld_putb, ↓reduceIte]
      · intro fr' L' g5 g15 g16 g17 gL
        simp +contextual -implicitDefEqProofs (maxSteps := 10000000) only [go_sem, ↓reduceIte, Nat.reduceEqDiff, Nat.reduceAdd, Nat.reduceMul, g5, g17, w1, hbw, gL, bwK_some, b2, o_callw, cwK_putb, Option.isSome_some]
        rw [hI]
        refine ⟨⟨_, rfl, ?_⟩, ?_, ?_, ?_, ?_⟩
        · rw [lbld_putb, if_pos rfl, if_pos rfl, htk]; simp only [List.append_assoc]
        all_goals simp only [go_sem, ↓reduceIte, Nat.reduceEqDiff, g5, g15, g16]
    · intro fr hp' hh
      obtain ⟨⟨L, rfl, hL⟩, h5, h15, h16, h17⟩ := (hI _ _ _).1 hh
      simp +contextual -implicitDefEqProofs (maxSteps := 10000000) only [x20_l1_run, go_sem, ↓reduceIte, h16, h17, Int.lt_irrefl]
      rw [hQ]
      rw [List.take_length] at hL
      exact ⟨rfl, ⟨L, rfl, hL⟩, by simp only [go_sem, ↓reduceIte, Nat.reduceEqDiff, h5]⟩
    · intro e fr hp' he hh
      obtain ⟨rfl, ⟨L, rfl, hL⟩, h5⟩ := (hQ _ _ _).1 hh
      simp +contextual -implicitDefEqProofs (maxSteps := 10000000) only [go_sem, ↓reduceIte, Nat.reduceEqDiff, Nat.reduceAdd, Nat.reduceMul, h5, hbs, hL, bsK_some, o_callw, cwK_putbc, Option.isSome_some]
  · rw [if_neg hc]
    simp +contextual -implicitDefEqProofs (maxSteps := 10000000) only [x20, go_sem, ↓reduceIte, reduceCtorEq, Nat.reduceEqDiff, Nat.reduceAdd, hcs, u1, f1, hc]
end Go.Proofs.YtjbgceogkgpjpaaGreatDoor.Sx.T
