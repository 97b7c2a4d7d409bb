/- Layer 8, part 1: signatures and points; what their checks answer. -/
import Derived.Test.YtjbgceogkgpjpaaGreatDoorR
import Derived.Test.YtjbgceogkgpjpaaGreatDoorW
import Derived.Test.YtjbgceogkgpjpaaGreatDoorEvS
set_option linter.unusedVariables false
set_option linter.unusedSimpArgs false
namespace Go.Proofs.YtjbgceogkgpjpaaGreatDoor.Sx.T
open Go Go.Proofs.YtjbgceogkgpjpaaGreatDoor.Sx
set_option maxRecDepth 100000
set_option maxHeartbeats 8000000
def Ls (z : Nat) (x : AV) (es : List (List AV)) : Prop := (x = .nilsl ∧ es = []) ∨ ∃ o, (o = .none ∨ o = .tight) ∧ x = .lst o z es
theorem Ls.one {z : Nat} {x : AV} {es : List (List AV)} (h : Ls z x es) : plain1 x = true ∧ uf x = x ∧ lensK false x = some (.int .i64 es.length) ∧ (∀ fr t, drop1K x fr t = fr) ∧ refFree x = true := by
  rcases h with ⟨rfl, rfl⟩ | ⟨o, rfl | rfl, rfl⟩
  · exact ⟨rfl, rfl, rfl, fun _ _ => rfl, rfl⟩
  · exact ⟨rfl, rfl, by simp [lensK_lst, lenB], fun _ _ => rfl, rfl⟩
  · exact ⟨rfl, rfl, by simp [lensK_lst, lenB], fun _ _ => rfl, rfl⟩
theorem Ls.at {z : Nat} {x : AV} {es : List (List AV)} (h : Ls z x es) {k : Nat} (hk : k < es.length) : iaddrK z x (some k) = some (.elp (es.getD k [])) := by
  rcases h with ⟨rfl, rfl⟩ | ⟨o, _, rfl⟩
  · simp at hk
  · rw [iaddrK_lst, if_pos ⟨rfl, hk⟩]
structure Dc where
  n : List UInt8
  ks : List Int
  kv : AV
instance : Inhabited Dc := ⟨⟨[], [], .nilsl⟩⟩
def nums (l : List Int) : List (List AV) := l.map fun k => [.int .i64 k]
theorem nums_len (l : List Int) : (nums l).length = l.length := by simp [nums]
theorem nums_get (l : List Int) (i : Nat) (h : i < l.length) : (nums l).getD i [] = [.int .i64 (l.getD i 0)] := by simp [nums, List.getD, h]
def Dc.cells (d : Dc) : List AV := [.str d.n, d.kv]
def Dc.ok (d : Dc) : Prop := Ls 1 d.kv (nums d.ks) ∧ d.ks.length ≤ 9223372036854775806 ∧ d.n.length ≤ 9223372036854775806
theorem Dc.flat {d : Dc} (h : d.ok) : d.cells.length = 2 ∧ d.cells.all plain1 = true ∧ d.cells.map uf = d.cells ∧ refFreeL d.cells = true := by
  obtain ⟨p, u, _, _, f⟩ := h.1.one
  exact ⟨rfl, by simp only [Dc.cells, List.all_cons, List.all_nil, p, Bool.and_true]; rfl, by simp only [Dc.cells, List.map_cons, List.map_nil, u]; rfl, by simp only [Dc.cells, refFreeL, f, Bool.and_true]; rfl⟩
structure Et where
  n : List UInt8
  vl : List Val
  av : AV
instance : Inhabited Et := ⟨⟨[], [], .nilsl⟩⟩
def vals (l : List Val) : List (List AV) := l.map Val.cells
theorem vals_len (l : List Val) : (vals l).length = l.length := by simp [vals]
theorem vals_get (l : List Val) (i : Nat) (h : i < l.length) : (vals l).getD i [] = (l.getD i default).cells := by simp [vals, List.getD, h]
def Et.cells (e : Et) : List AV := [.str e.n, e.av]
def Et.ok (e : Et) : Prop := Ls 4 e.av (vals e.vl) ∧ e.vl.length ≤ 9223372036854775806 ∧ (∀ v ∈ e.vl, v.ok) ∧ e.n.length ≤ 9223372036854775806
theorem Et.flat {d : Et} (h : d.ok) : d.cells.length = 2 ∧ d.cells.all plain1 = true ∧ d.cells.map uf = d.cells ∧ refFreeL d.cells = true := by
  obtain ⟨p, u, _, _, f⟩ := h.1.one
  exact ⟨rfl, by simp only [Et.cells, List.all_cons, List.all_nil, p, Bool.and_true]; rfl, by simp only [Et.cells, List.map_cons, List.map_nil, u]; rfl, by simp only [Et.cells, refFreeL, f, Bool.and_true]; rfl⟩
def dcs (l : List Dc) : List (List AV) := l.map Dc.cells
theorem dcs_len (l : List Dc) : (dcs l).length = l.length := by simp [dcs]
theorem dcs_get (l : List Dc) (i : Nat) (h : i < l.length) : (dcs l).getD i [] = (l.getD i default).cells := by simp [dcs, List.getD, h]
def ets (l : List Et) : List (List AV) := l.map Et.cells
theorem ets_len (l : List Et) : (ets l).length = l.length := by simp [ets]
theorem ets_get (l : List Et) (i : Nat) (h : i < l.length) : (ets l).getD i [] = (l.getD i default).cells := by simp [ets, List.getD, h]
def SigV (x : AV) (l : List Dc) : Prop := Ls 2 x (dcs l) ∧ (∀ d ∈ l, d.ok) ∧ l.length ≤ 9223372036854775806
def EvV (x : AV) (l : List Et) : Prop := Ls 2 x (ets l) ∧ (∀ d ∈ l, d.ok) ∧ l.length ≤ 9223372036854775806
theorem mem_getD {α : Type} [Inhabited α] (l : List α) (i : Nat) (h : i < l.length) : l.getD i default ∈ l := by simp [List.getD, h]
/-! ### what is answered -/
def idxG {α : Type} (p : α → Bool) : List α → Nat → Int
  | [], _ => -1
  | x :: l, i => if p x then i else idxG p l (i + 1)
theorem idxG_drop {α : Type} [Inhabited α] (p : α → Bool) (l : List α) (i : Nat) (h : i < l.length) : idxG p (l.drop i) i = if p (l.getD i default) then (i : Int) else idxG p (l.drop (i + 1)) (i + 1) := by
  rw [List.drop_eq_getElem_cons h, idxG]
  simp [List.getD, h]
theorem idxG_any {α : Type} (p : α → Bool) : ∀ (l : List α) (i : Nat), decide (0 ≤ idxG p l i) = l.any p
  | [], i => by simp [idxG]
  | w :: l, i => by
    rw [idxG]
    by_cases h : p w
    · simp [h]
    · simp [h, idxG_any p l (i + 1)]
theorem idxG_cases {α : Type} [Inhabited α] (p : α → Bool) : ∀ (l : List α) (i : Nat), (idxG p l i = -1 ∧ ∀ x ∈ l, p x = false) ∨ ∃ k, k < l.length ∧ idxG p l i = ((i + k : Nat) : Int) ∧ p (l.getD k default) = true ∧ ∀ j, j < k → p (l.getD j default) = false
  | [], _ => .inl ⟨rfl, by simp⟩
  | w :: l, i => by
    rw [idxG]
    by_cases c : p w = true
    · exact .inr ⟨0, by simp, by simp [c], by simpa using c, fun j hj => by omega⟩
    · have c' : p w = false := by simpa using c
      rcases idxG_cases p l (i + 1) with ⟨h1, h2⟩ | ⟨k, h1, h2, h3, h4⟩
      · exact .inl ⟨by simp [c', h1], fun x hx => by
          rcases List.mem_cons.1 hx with rfl | hx
          · exact c'
          · exact h2 x hx⟩
      · refine .inr ⟨k + 1, by simpa using h1, ?_, by simpa using h3, fun j hj => ?_⟩
        · simp only [c', if_neg, Bool.false_eq_true, not_false_eq_true]
          rw [h2]; congr 1; omega
        · cases j with
          | zero => simpa using c'
          | succ j => simpa using h4 j (by omega)
theorem idxG_ahead {α : Type} [Inhabited α] (p : α → Bool) (l : List α) (i : Nat) (h : i < l.length) (hp : p (l.getD i default) = true) : decide (idxG p l 0 < (i : Int)) = decide (0 ≤ idxG p (l.take i) 0) := by
  rw [idxG_any]
  rcases idxG_cases p l 0 with ⟨_, h2⟩ | ⟨k, h1, h2, h3, h4⟩
  · exact absurd hp (by rw [h2 _ (mem_getD l i h)]; simp)
  · rw [h2, Nat.zero_add, Bool.eq_iff_iff]
    simp only [decide_eq_true_eq, List.any_eq_true]
    constructor
    · intro hk
      refine ⟨l.getD k default, ?_, h3⟩
      have hk' : k < i := by omega
      rw [List.mem_iff_getElem?]
      exact ⟨k, by rw [List.getElem?_take, if_pos hk']; simp [List.getD, h1]⟩
    · rintro ⟨x, hx, hpx⟩
      obtain ⟨j, hj, e⟩ := List.getElem_of_mem hx
      have hj' : j < i := by simp at hj; omega
      have hjl : j < l.length := by omega
      have ex : l.getD j default = x := by rw [← e]; simp [List.getD, hjl]
      rcases Nat.lt_or_ge k i with hh | hh
      · omega
      · have := h4 j (by omega)
        rw [ex, hpx] at this
        cases this
def firstE (e : Nat → Int) : Nat → Nat → Int
  | 0, _ => 0
  | m + 1, i => if e i ≠ 0 then e i else firstE e m (i + 1)
theorem firstE_step (e : Nat → Int) (n i : Nat) (h : i < n) : firstE e (n - i) i = if e i ≠ 0 then e i else firstE e (n - (i + 1)) (i + 1) := by
  obtain ⟨m, hm⟩ : ∃ m, n - i = m + 1 := ⟨n - i - 1, by omega⟩
  rw [hm, firstE, show n - (i + 1) = m by omega]
def findD (sig : List Dc) (n : List UInt8) : Int := idxG (fun d => d.n == n) sig 0
open Classical in noncomputable def sigE (sig : List Dc) (i : Nat) : Int :=
  if ¬ nameP (sig.getD i default).n ∨ findD sig (sig.getD i default).n < (i : Int) then 1 else if 6 < (sig.getD i default).ks.length then 3 else if (sig.getD i default).ks.any (fun k => decide (k < 1) || decide (3 < k)) then 20 else 0
noncomputable def csig (sig : List Dc) : Int := if 32 < sig.length then 3 else firstE (sigE sig) sig.length 0
def szP (t : Int) (n : Nat) : Int := if t < 0 ∨ 1099511627776 < t then 5 else if 64 < n then 3 else 0
def vals8 (l : List Val) : Int := firstE (fun i => chkV (l.getD i default)) l.length 0
def eqk : List Int → List Val → Bool
  | [], [] => true
  | k :: ks, a :: vl => (a.k == k) && eqk ks vl
  | _, _ => false
theorem eqk_len : ∀ (ks : List Int) (vl : List Val), ks.length ≠ vl.length → eqk ks vl = false
  | [], [], h => absurd rfl h
  | [], a :: vl, _ => rfl
  | k :: ks, [], _ => rfl
  | k :: ks, a :: vl, h => by rw [eqk, eqk_len ks vl (by simpa using h), Bool.and_false]
theorem eqk_drop (ks : List Int) (vl : List Val) (i : Nat) (h1 : i < ks.length) (h2 : i < vl.length) : eqk (ks.drop i) (vl.drop i) = (((vl.getD i default).k == ks.getD i 0) && eqk (ks.drop (i + 1)) (vl.drop (i + 1))) := by
  rw [List.drop_eq_getElem_cons h1, List.drop_eq_getElem_cons h2, eqk]
  simp [List.getD, h1, h2]
def evE (sig : List Dc) (evs : List Et) (i : Nat) : Int :=
  if vals8 (evs.getD i default).vl ≠ 0 then vals8 (evs.getD i default).vl
  else if findD sig (evs.getD i default).n < 0 ∨ eqk (sig.getD (findD sig (evs.getD i default).n).toNat default).ks (evs.getD i default).vl = false then 90 else 0
noncomputable def cpt (sig : List Dc) (t : Int) (evs : List Et) : Int :=
  if csig sig ≠ 0 then csig sig else if szP t evs.length ≠ 0 then szP t evs.length else firstE (evE sig evs) evs.length 0
theorem findD_range (sig : List Dc) (n : List UInt8) : findD sig n = -1 ∨ ∃ k, k < sig.length ∧ findD sig n = (k : Int) := by
  rcases idxG_cases (fun d : Dc => d.n == n) sig 0 with ⟨h, _⟩ | ⟨k, h1, h2, _⟩
  · exact .inl h
  · exact .inr ⟨k, h1, by rw [findD, h2, Nat.zero_add]⟩
end Go.Proofs.YtjbgceogkgpjpaaGreatDoor.Sx.T
namespace Go.Proofs.YtjbgceogkgpjpaaGreatDoor.Sx.T
open Go Go.Proofs.YtjbgceogkgpjpaaGreatDoor.Sx
set_option maxRecDepth 100000
set_option maxHeartbeats 8000000
theorem p_idxD (sig : List Dc) (p : Dc → Bool) (f : Nat) (ds cs : List AV) (v : AV) (hv : SigV v sig) (hp : Heap)
    (hf : ∀ d ∈ sig, CL X GV f ((ds ++ [AV.agg d.cells] ++ cs).map uf) ([] :: hp) = some (.bool (p d), [] :: hp)) :
    CL X GV 53 [v, .fn f ds cs] hp = some (.int .i64 (idxG p sig 0), hp) := by
  obtain ⟨hl, hok, hm⟩ := hv
  obtain ⟨p1, u1, n1, d1, f1⟩ := hl.one
  rw [dcs_len] at n1
  rw [CL_eq (fn := x53) rfl]
  simp +contextual -implicitDefEqProofs (maxSteps := 10000000) only [x53, go_sem, ↓reduceIte, reduceCtorEq, Int.reduceNeg, u1, n1]
  obtain ⟨I, hI⟩ : ∃ I : Nat → List AV → Heap → Prop, ∀ i fr hp', I i fr hp' ↔ (hp' = [] :: hp ∧ fget fr 0 = v ∧ fget fr 1 = .fn f ds cs ∧ fget fr 7 = .int .i64 sig.length ∧ fget fr 8 = .int .i64 (i : Nat) ∧ idxG p sig 0 = idxG p (sig.drop i) i) := ⟨_, fun _ _ _ => Iff.rfl⟩
  obtain ⟨Q, hQ⟩ : ∃ Q : XExit → List AV → Heap → Prop, ∀ e fr hp', Q e fr hp' ↔ (hp' = [] :: hp ∧ ((e = .exit 0 ∧ idxG p sig 0 = -1) ∨ (e = .ret ∧ fget fr 4 = .int .i64 (idxG p sig 0)))) := ⟨_, fun _ _ _ => Iff.rfl⟩
  refine LC_upK sig.length I Q (fun r => finK _ (seqK (blockK 0 r) _) = _) ?_ ?_ ?_ ?_
  · rw [hI]
    refine ⟨rfl, ?_, ?_, ?_, ?_, by rw [List.drop_zero]⟩ <;> simp only [go_sem, ↓reduceIte, reduceCtorEq, Nat.reduceEqDiff, Int.natCast_zero]
  · intro i hi fr hp' h
    obtain ⟨rfl, h0, h1, h7, h8, hd⟩ := (hI _ _ _).1 h
    have k1 : ((i : Int) < (sig.length : Int)) = True := by simp; omega
    have g1 := hl.at (k := i) (by rw [dcs_len]; exact hi)
    rw [dcs_get sig i hi] at g1
    have hmem := mem_getD sig i hi
    have w1 : wr .i64 ((i : Int) + 1) = ((i + 1 : Nat) : Int) := by rw [wr_i64 _ (by omega)]; omega
    have hw := hf _ hmem
    obtain ⟨b1, b2, b3, b4⟩ := Dc.flat (hok _ hmem)
    have b1' : (2 ≤ (sig.getD i default).cells.length) = True := by rw [b1]; simp
    have b5 : (sig.getD i default).cells.take 2 = (sig.getD i default).cells := List.take_of_length_le (by omega)
    rw [idxG_drop _ sig i hi] at hd
    by_cases c : p (sig.getD i default) = true
    · rw [c] at hw
      simp +contextual -implicitDefEqProofs (maxSteps := 10000000) only [x53_l0_run, go_sem, ↓reduceIte, reduceCtorEq, Nat.reduceEqDiff, h0, h1, h7, h8, k1, g1, hw, o_calld, cwK_same, b1', b3, b5, u1]
      rw [hQ]
      refine ⟨rfl, .inr ⟨rfl, ?_⟩⟩
      simp only [go_sem, ↓reduceIte, hd, c]
    · have c2 : p (sig.getD i default) = false := by simpa using c
      rw [c2] at hw
      simp +contextual -implicitDefEqProofs (maxSteps := 10000000) only [x53_l0_run, go_sem, ↓reduceIte, reduceCtorEq, Nat.reduceEqDiff, h0, h1, h7, h8, k1, g1, w1, hw, o_calld, cwK_same, b1', b3, b5, u1]
      rw [hI]
      refine ⟨rfl, ?_, ?_, ?_, ?_, by rw [hd, if_neg c]⟩ <;> simp only [go_sem, ↓reduceIte, reduceCtorEq, Nat.reduceEqDiff, h0, h1, h7]
  · intro fr hp' h
    obtain ⟨rfl, h0, h1, h7, h8, hd⟩ := (hI _ _ _).1 h
    simp +contextual -implicitDefEqProofs (maxSteps := 10000000) only [x53_l0_run, go_sem, ↓reduceIte, h7, h8, Int.lt_irrefl]
    rw [hQ]
    exact ⟨rfl, .inl ⟨rfl, by rw [hd, List.drop_length]; rfl⟩⟩
  · intro e fr hp' he h
    rcases (hQ _ _ _).1 h with ⟨rfl, ⟨rfl, h1⟩ | ⟨rfl, h1⟩⟩
    · simp +contextual -implicitDefEqProofs (maxSteps := 10000000) only [go_sem, ↓reduceIte, Int.reduceNeg, h1]
    · simp +contextual -implicitDefEqProofs (maxSteps := 10000000) only [go_sem, Int.reduceNeg, h1]
theorem p_idxI (ks : List Int) (p : Int → Bool) (f : Nat) (ds cs : List AV) (v : AV) (hl : Ls 1 v (nums ks)) (hm : ks.length ≤ 9223372036854775806) (hp : Heap)
    (hf : ∀ k ∈ ks, CL X GV f ((ds ++ [AV.int .i64 k] ++ cs).map uf) ([] :: hp) = some (.bool (p k), [] :: hp)) :
    CL X GV 65 [v, .fn f ds cs] hp = some (.int .i64 (idxG p ks 0), hp) := by
  obtain ⟨p1, u1, n1, d1, f1⟩ := hl.one
  rw [nums_len] at n1
  rw [CL_eq (fn := x65) rfl]
  simp +contextual -implicitDefEqProofs (maxSteps := 10000000) only [x65, go_sem, ↓reduceIte, reduceCtorEq, Int.reduceNeg, u1, n1]
  obtain ⟨I, hI⟩ : ∃ I : Nat → List AV → Heap → Prop, ∀ i fr hp', I i fr hp' ↔ (hp' = [] :: hp ∧ fget fr 0 = v ∧ fget fr 1 = .fn f ds cs ∧ fget fr 7 = .int .i64 ks.length ∧ fget fr 8 = .int .i64 (i : Nat) ∧ idxG p ks 0 = idxG p (ks.drop i) i) := ⟨_, fun _ _ _ => Iff.rfl⟩
  obtain ⟨Q, hQ⟩ : ∃ Q : XExit → List AV → Heap → Prop, ∀ e fr hp', Q e fr hp' ↔ (hp' = [] :: hp ∧ ((e = .exit 0 ∧ idxG p ks 0 = -1) ∨ (e = .ret ∧ fget fr 4 = .int .i64 (idxG p ks 0)))) := ⟨_, fun _ _ _ => Iff.rfl⟩
  refine LC_upK ks.length I Q (fun r => finK _ (seqK (blockK 0 r) _) = _) ?_ ?_ ?_ ?_
  · rw [hI]
    refine ⟨rfl, ?_, ?_, ?_, ?_, by rw [List.drop_zero]⟩ <;> simp only [go_sem, ↓reduceIte, reduceCtorEq, Nat.reduceEqDiff, Int.natCast_zero]
  · intro i hi fr hp' h
    obtain ⟨rfl, h0, h1, h7, h8, hd⟩ := (hI _ _ _).1 h
    have k1 : ((i : Int) < (ks.length : Int)) = True := by simp; omega
    have g1 := hl.at (k := i) (by rw [nums_len]; exact hi)
    rw [nums_get ks i hi] at g1
    have hmem : ks.getD i 0 ∈ ks := by simp [List.getD, hi]
    have w1 : wr .i64 ((i : Int) + 1) = ((i + 1 : Nat) : Int) := by rw [wr_i64 _ (by omega)]; omega
    have hw := hf _ hmem
    have hd0 : idxG p (ks.drop i) i = if p (ks.getD i 0) then (i : Int) else idxG p (ks.drop (i + 1)) (i + 1) := idxG_drop p ks i hi
    rw [hd0] at hd
    by_cases c : p (ks.getD i 0) = true
    · rw [c] at hw
      simp +contextual -implicitDefEqProofs (maxSteps := 10000000) only [x65_l0_run, go_sem, ↓reduceIte, reduceCtorEq, Nat.reduceEqDiff, h0, h1, h7, h8, k1, g1, hw, o_calld, cwK_same, u1]
      rw [hQ]
      refine ⟨rfl, .inr ⟨rfl, ?_⟩⟩
      simp only [go_sem, ↓reduceIte, hd, c]
    · have c2 : p (ks.getD i 0) = false := by simpa using c
      rw [c2] at hw
      simp +contextual -implicitDefEqProofs (maxSteps := 10000000) only [x65_l0_run, go_sem, ↓reduceIte, reduceCtorEq, Nat.reduceEqDiff, h0, h1, h7, h8, k1, g1, w1, hw, o_calld, cwK_same, u1]
      rw [hI]
      refine ⟨rfl, ?_, ?_, ?_, ?_, by rw [hd, if_neg c]⟩ <;> simp only [go_sem, ↓reduceIte, reduceCtorEq, Nat.reduceEqDiff, h0, h1, h7]
  · intro fr hp' h
    obtain ⟨rfl, h0, h1, h7, h8, hd⟩ := (hI _ _ _).1 h
    simp +contextual -implicitDefEqProofs (maxSteps := 10000000) only [x65_l0_run, go_sem, ↓reduceIte, h7, h8, Int.lt_irrefl]
    rw [hQ]
    exact ⟨rfl, .inl ⟨rfl, by rw [hd, List.drop_length]; rfl⟩⟩
  · intro e fr hp' he h
    rcases (hQ _ _ _).1 h with ⟨rfl, ⟨rfl, h1⟩ | ⟨rfl, h1⟩⟩
    · simp +contextual -implicitDefEqProofs (maxSteps := 10000000) only [go_sem, ↓reduceIte, Int.reduceNeg, h1]
    · simp +contextual -implicitDefEqProofs (maxSteps := 10000000) only [go_sem, Int.reduceNeg, h1]
theorem p_hasI (ks : List Int) (p : Int → Bool) (f : Nat) (ds cs : List AV) (v : AV) (hl : Ls 1 v (nums ks)) (hm : ks.length ≤ 9223372036854775806) (hp : Heap)
    (hf : ∀ k ∈ ks, CL X GV f ((ds ++ [AV.int .i64 k] ++ cs).map uf) ([] :: [] :: hp) = some (.bool (p k), [] :: [] :: hp)) :
    CL X GV 43 [v, .fn f ds cs] hp = some (.bool (ks.any p), hp) := by
  have h1 := p_idxI ks p f ds cs v hl hm ([] :: hp) hf
  obtain ⟨p1, u1, n1, d1, f1⟩ := hl.one
  have hb := idxG_any p ks 0
  rw [CL_eq (fn := x43) rfl]
  simp +contextual -implicitDefEqProofs (maxSteps := 10000000) only [x43, go_sem, ↓reduceIte, reduceCtorEq, Nat.reduceEqDiff, u1, h1, hb, o_callw, cwK_same]
theorem p_kindsOk (k : Int) (hp : Heap) : CL X GV 44 [.int .i64 k] hp = some (.bool (decide (k < 1) || decide (3 < k)), hp) := by
  rw [CL_eq (fn := x44) rfl]
  by_cases h1 : k < 1
  · simp +contextual -implicitDefEqProofs (maxSteps := 10000000) only [x44, go_sem, ↓reduceIte, reduceCtorEq, Nat.reduceEqDiff, h1]
    simp
  · by_cases h2 : 3 < k
    · simp +contextual -implicitDefEqProofs (maxSteps := 10000000) only [x44, go_sem, ↓reduceIte, reduceCtorEq, Nat.reduceEqDiff, h1, h2]
      simp
    · simp +contextual -implicitDefEqProofs (maxSteps := 10000000) only [x44, go_sem, ↓reduceIte, reduceCtorEq, Nat.reduceEqDiff, h1, h2]
      simp
theorem p_declared1 (d : Dc) (hd : d.ok) (n : List UInt8) (r : Ref) (hp : Heap) (hc : cellsAt hp r = some [.str n]) : CL X GV 54 [.agg d.cells, .ptr r 0] hp = some (.bool (d.n == n), hp) := by
  obtain ⟨b1, b2, b3, b4⟩ := Dc.flat hd
  obtain ⟨p, u, _, _, f⟩ := hd.1.one
  have hne := cellsAt_ne hc
  rw [CL_eq (fn := x54) rfl]
  simp +contextual -implicitDefEqProofs (maxSteps := 10000000) only [x54, Dc.cells, go_sem, ↓reduceIte, Nat.reduceEqDiff, Nat.reduceAdd, hc, hne, ldAt_cons, u, p]
  congr 3
  by_cases h : d.n = n <;> simp [h]
theorem p_declared (sig : List Dc) (v : AV) (hv : SigV v sig) (n : List UInt8) (hp : Heap) : CL X GV 26 [v, .str n] hp = some (.int .i64 (findD sig n), hp) := by
  obtain ⟨p1, u1, n1, d1, f1⟩ := hv.1.one
  have hc : ∀ l : Level, cellsAt (l :: lputc [] 3 0 [.str n] :: hp) ⟨hp.length, 3, 0⟩ = some [.str n] := fun l => by
    rw [cellsAt_cons (by simp), cellsAt_top, lcells_put]; simp
  have h1 := p_idxD sig (fun d => d.n == n) 54 [] [.ptr ⟨hp.length, 3, 0⟩ 0] v hv (lputc [] 3 0 [.str n] :: hp) (fun d hd => by
    have := p_declared1 d (hv.2.1 d hd) n ⟨hp.length, 3, 0⟩ ([] :: lputc [] 3 0 [.str n] :: hp) (hc [])
    simpa [uf] using this)
  rw [CL_eq (fn := x26) rfl]
  simp +contextual -implicitDefEqProofs (maxSteps := 10000000) only [x26, go_sem, ↓reduceIte, reduceCtorEq, Nat.reduceEqDiff, u1, h1, o_callw, cwK_same, o_mkfn]
  rfl
end Go.Proofs.YtjbgceogkgpjpaaGreatDoor.Sx.T
namespace Go.Proofs.YtjbgceogkgpjpaaGreatDoor.Sx.T
open Go Go.Proofs.YtjbgceogkgpjpaaGreatDoor.Sx
set_option maxRecDepth 100000
set_option maxHeartbeats 16000000
open Classical in
theorem p_csig (sig : List Dc) (v : AV) (hv : SigV v sig) : CL X GV 18 [v] [] = some (.int .i64 (csig sig), []) := by
  obtain ⟨hl, hok, hm⟩ := id hv
  obtain ⟨p1, u1, n1, d1, f1⟩ := hl.one
  rw [dcs_len] at n1
  rw [CL_eq (fn := x18) rfl, csig]
  by_cases h32 : 32 < sig.length
  · have k0 : ((32 : Int) < (sig.length : Int)) = True := by simp; omega
    rw [if_pos h32]
    simp +contextual -implicitDefEqProofs (maxSteps := 10000000) only [x18, go_sem, ↓reduceIte, reduceCtorEq, u1, n1, k0]
  have k0 : ((32 : Int) < (sig.length : Int)) = False := by simp; omega
  rw [if_neg h32]
  simp +contextual -implicitDefEqProofs (maxSteps := 10000000) only [x18, go_sem, ↓reduceIte, reduceCtorEq, u1, n1, k0]
  obtain ⟨I, hI⟩ : ∃ I : Nat → List AV → Heap → Prop, ∀ i fr hp', I i fr hp' ↔ ((∃ L, hp' = L :: []) ∧ fget fr 0 = v ∧ fget fr 8 = v ∧ fget fr 9 = .int .i64 sig.length ∧ fget fr 10 = .int .i64 (i : Nat) ∧ firstE (sigE sig) sig.length 0 = firstE (sigE sig) (sig.length - i) i) := ⟨_, fun _ _ _ => Iff.rfl⟩
  obtain ⟨Q, hQ⟩ : ∃ Q : XExit → List AV → Heap → Prop, ∀ e fr hp', Q e fr hp' ↔ ((∃ L, hp' = L :: []) ∧ ((e = .exit 0 ∧ firstE (sigE sig) sig.length 0 = 0) ∨ (e = .ret ∧ fget fr 2 = .int .i64 (firstE (sigE sig) sig.length 0)))) := ⟨_, fun _ _ _ => Iff.rfl⟩
  refine LC_upK sig.length I Q (fun r => finK _ (seqK (blockK 0 r) _) = _) ?_ ?_ ?_ ?_
  · rw [hI]
    refine ⟨⟨_, rfl⟩, ?_, ?_, ?_, ?_, by rw [Nat.sub_zero]⟩ <;> simp only [go_sem, ↓reduceIte, reduceCtorEq, Nat.reduceEqDiff, Int.natCast_zero]
  · intro i hi fr hp' h
    obtain ⟨⟨L, rfl⟩, h0, h8, h9, h10, hd⟩ := (hI _ _ _).1 h
    have k1 : ((i : Int) < (sig.length : Int)) = True := by simp; omega
    have g1 := hl.at (k := i) (by rw [dcs_len]; exact hi)
    rw [dcs_get sig i hi] at g1
    have hmem := mem_getD sig i hi
    have w1 : wr .i64 ((i : Int) + 1) = ((i + 1 : Nat) : Int) := by rw [wr_i64 _ (by omega)]; omega
    rw [firstE_step _ _ _ hi] at hd
    obtain ⟨e0, he0⟩ : ∃ e, sigE sig i = e := ⟨_, rfl⟩
    rw [he0] at hd
    rw [sigE] at he0
    have dok := hok _ hmem
    obtain ⟨y, hy⟩ : ∃ y, sig.getD i default = y := ⟨_, rfl⟩
    rw [hy] at he0 g1 dok
    obtain ⟨yn, yk, yv⟩ := y
    obtain ⟨q1, q2, q3⟩ := dok
    obtain ⟨p2, u2, n2, d2, f2⟩ := q1.one
    rw [nums_len] at n2
    simp only [Dc.cells] at g1 he0 q1 q2 n2 p2 u2 d2 f2
    have hnm := v_name yn
    have hdc := p_declared sig v hv yn []
    have hks := p_hasI yk (fun k => decide (k < 1) || decide (3 < k)) 44 [] [] yv q1 q2
    by_cases c1 : nameP yn
    · by_cases c2 : findD sig yn < (i : Int)
      · have e1 : e0 = 1 := by rw [← he0, if_pos (.inr c2)]
        subst e1
        simp +contextual -implicitDefEqProofs (maxSteps := 10000000) only [x18_l0_run, go_sem, ↓reduceIte, reduceCtorEq, Nat.reduceEqDiff, Nat.reduceAdd, h0, h8, h9, h10, k1, g1, u1, f1, u2, p2, hnm, hdc, c1, c2, stAt_topc, ldAt_topc, decide_true, Bool.not_true]
        rw [hQ]
        exact ⟨⟨_, rfl⟩, .inr ⟨rfl, by simp only [go_sem, ↓reduceIte, Int.reduceEq, hd]⟩⟩
      · rw [if_neg (by simp [c1, c2])] at he0
        by_cases c3 : 6 < yk.length
        · have c3' : ((6 : Int) < (yk.length : Int)) = True := by simp; omega
          rw [if_pos c3] at he0
          subst he0
          simp +contextual -implicitDefEqProofs (maxSteps := 10000000) only [x18_l0_run, go_sem, ↓reduceIte, reduceCtorEq, Nat.reduceEqDiff, Nat.reduceAdd, h0, h8, h9, h10, k1, g1, u1, f1, u2, p2, n2, hnm, hdc, c1, c2, c3', stAt_topc, ldAt_topc, decide_true, Bool.not_true]
          rw [hQ]
          exact ⟨⟨_, rfl⟩, .inr ⟨rfl, by simp only [go_sem, ↓reduceIte, Int.reduceEq, hd]⟩⟩
        · have c3' : ((6 : Int) < (yk.length : Int)) = False := by simp; omega
          rw [if_neg c3] at he0
          have hks' := fun hp => hks hp (fun k _ => by simpa [uf] using p_kindsOk k ([] :: [] :: hp))
          by_cases c4 : (yk.any fun k => decide (k < 1) || decide (3 < k)) = true
          · rw [if_pos c4] at he0
            subst he0
            rw [c4] at hks'
            simp +contextual -implicitDefEqProofs (maxSteps := 10000000) only [x18_l0_run, go_sem, ↓reduceIte, reduceCtorEq, Nat.reduceEqDiff, Nat.reduceAdd, h0, h8, h9, h10, k1, g1, u1, f1, u2, p2, n2, hnm, hdc, c1, c2, c3', hks', o_callw, cwK_same, stAt_topc, ldAt_topc, decide_true, Bool.not_true]
            rw [hQ]
            exact ⟨⟨_, rfl⟩, .inr ⟨rfl, by simp only [go_sem, ↓reduceIte, Int.reduceEq, hd]⟩⟩
          · rw [if_neg c4] at he0
            subst he0
            have c4' : (yk.any fun k => decide (k < 1) || decide (3 < k)) = false := by simpa using c4
            rw [c4'] at hks'
            simp +contextual -implicitDefEqProofs (maxSteps := 10000000) only [x18_l0_run, go_sem, ↓reduceIte, reduceCtorEq, Nat.reduceEqDiff, Nat.reduceAdd, h0, h8, h9, h10, k1, g1, w1, u1, f1, u2, p2, n2, hnm, hdc, c1, c2, c3', hks', o_callw, cwK_same, stAt_topc, ldAt_topc, decide_true, Bool.not_true]
            rw [hI]
            refine ⟨⟨_, rfl⟩, ?_, ?_, ?_, ?_, by rw [hd]; rfl⟩ <;> simp only [go_sem, ↓reduceIte, reduceCtorEq, Nat.reduceEqDiff, h0, h8, h9]
    · have e1 : e0 = 1 := by rw [← he0, if_pos (.inl c1)]
      subst e1
      simp +contextual -implicitDefEqProofs (maxSteps := 10000000) only [x18_l0_run, go_sem, ↓reduceIte, reduceCtorEq, Nat.reduceEqDiff, Nat.reduceAdd, h0, h8, h9, h10, k1, g1, u1, u2, p2, hnm, c1, stAt_topc, ldAt_topc, decide_false, Bool.not_false]
      rw [hQ]
      exact ⟨⟨_, rfl⟩, .inr ⟨rfl, by simp only [go_sem, ↓reduceIte, Int.reduceEq, hd]⟩⟩
  · intro fr hp' h
    obtain ⟨⟨L, rfl⟩, h0, h8, h9, h10, hd⟩ := (hI _ _ _).1 h
    simp +contextual -implicitDefEqProofs (maxSteps := 10000000) only [x18_l0_run, go_sem, ↓reduceIte, h9, h10, Int.lt_irrefl]
    rw [hQ]
    exact ⟨⟨_, rfl⟩, .inl ⟨rfl, by rw [hd, Nat.sub_self]; rfl⟩⟩
  · intro e fr hp' he h
    rcases (hQ _ _ _).1 h with ⟨⟨L, rfl⟩, ⟨rfl, h1⟩ | ⟨rfl, h1⟩⟩
    · simp +contextual -implicitDefEqProofs (maxSteps := 10000000) only [go_sem, ↓reduceIte, h1]
    · simp +contextual -implicitDefEqProofs (maxSteps := 10000000) only [go_sem, h1]
end Go.Proofs.YtjbgceogkgpjpaaGreatDoor.Sx.T
namespace Go.Proofs.YtjbgceogkgpjpaaGreatDoor.Sx.T
open Go Go.Proofs.YtjbgceogkgpjpaaGreatDoor.Sx
set_option maxRecDepth 100000
set_option maxHeartbeats 16000000
theorem SigV.take {v : AV} {sig : List Dc} (h : SigV v sig) (i : Nat) (hi : i < sig.length) : sslK 2 v none (some (.int .i64 (i : Int))) none = some (.lst .none 2 (dcs (sig.take i))) ∧ SigV (.lst .none 2 (dcs (sig.take i))) (sig.take i) := by
  obtain ⟨hl, hok, hm⟩ := h
  refine ⟨?_, .inr ⟨.none, .inl rfl, rfl⟩, fun d hd => hok d (List.mem_of_mem_take hd), by simp; omega⟩
  rcases hl with ⟨rfl, e⟩ | ⟨o, ho, rfl⟩
  · exfalso
    have := dcs_len sig
    rw [e] at this
    simp at this; omega
  · rw [sslK_hi, dcs_len, if_pos ⟨rfl, by omega⟩]
    simp [dcs, List.map_take]
end Go.Proofs.YtjbgceogkgpjpaaGreatDoor.Sx.T
namespace Go.Proofs.YtjbgceogkgpjpaaGreatDoor.Sx.T
open Go Go.Proofs.YtjbgceogkgpjpaaGreatDoor.Sx
set_option maxRecDepth 100000
set_option maxHeartbeats 16000000
theorem ets_free (x : AV) (es : List (List AV)) (z : Nat) (h : Ls z x es) (t : Int) : refFreeL [AV.int .i64 t, x] = true := by
  obtain ⟨_, _, _, _, f⟩ := h.one
  simp only [refFreeL, f]; rfl
theorem p_sizes (t : Int) (evs : List Et) (v : AV) (hv : EvV v evs) (hp : Heap) : CL X GV 24 [.agg [.int .i64 t, v]] hp = some (.int .i64 (szP t evs.length), hp) := by
  obtain ⟨p1, u1, n1, d1, f1⟩ := hv.1.one
  rw [ets_len] at n1
  rw [CL_eq (fn := x24) rfl, szP]
  by_cases c1 : t < 0
  · simp +contextual -implicitDefEqProofs (maxSteps := 10000000) only [x24, go_sem, ↓reduceIte, Nat.reduceEqDiff, Nat.reduceAdd, u1, n1, p1, c1, true_or]
  · by_cases c2 : 1099511627776 < t
    · simp +contextual -implicitDefEqProofs (maxSteps := 10000000) only [x24, go_sem, ↓reduceIte, Nat.reduceEqDiff, Nat.reduceAdd, u1, n1, p1, c1, c2, or_true]
    · by_cases c3 : 64 < evs.length
      · have c3' : ((64 : Int) < (evs.length : Int)) = True := by simp; omega
        simp +contextual -implicitDefEqProofs (maxSteps := 10000000) only [x24, go_sem, ↓reduceIte, Nat.reduceEqDiff, Nat.reduceAdd, u1, n1, p1, c1, c2, c3, c3', or_self]
      · have c3' : ((64 : Int) < (evs.length : Int)) = False := by simp; omega
        simp +contextual -implicitDefEqProofs (maxSteps := 10000000) only [x24, go_sem, ↓reduceIte, Nat.reduceEqDiff, Nat.reduceAdd, u1, n1, p1, c1, c2, c3, c3', or_self]
theorem p_vals (l : List Val) (v : AV) (hl : Ls 4 v (vals l)) (hok : ∀ x ∈ l, x.ok) (hm : l.length ≤ 9223372036854775806) : CL X GV 25 [v] [] = some (.int .i64 (vals8 l), []) := by
  obtain ⟨p1, u1, n1, d1, f1⟩ := hl.one
  rw [vals_len] at n1
  rw [CL_eq (fn := x25) rfl, vals8]
  generalize hE : (fun i => chkV (l.getD i default)) = E
  simp +contextual -implicitDefEqProofs (maxSteps := 10000000) only [x25, go_sem, ↓reduceIte, reduceCtorEq, u1, n1]
  obtain ⟨I, hI⟩ : ∃ I : Nat → List AV → Heap → Prop, ∀ i fr hp', I i fr hp' ↔ ((∃ L, hp' = L :: []) ∧ fget fr 6 = v ∧ fget fr 7 = .int .i64 l.length ∧ fget fr 8 = .int .i64 (i : Nat) ∧ firstE E l.length 0 = firstE E (l.length - i) i) := ⟨_, fun _ _ _ => Iff.rfl⟩
  obtain ⟨Q, hQ⟩ : ∃ Q : XExit → List AV → Heap → Prop, ∀ e fr hp', Q e fr hp' ↔ ((∃ L, hp' = L :: []) ∧ ((e = .exit 0 ∧ firstE E l.length 0 = 0) ∨ (e = .ret ∧ fget fr 2 = .int .i64 (firstE E l.length 0)))) := ⟨_, fun _ _ _ => Iff.rfl⟩
  refine LC_upK l.length I Q (fun r => finK _ (seqK (blockK 0 r) _) = _) ?_ ?_ ?_ ?_
  · rw [hI]
    refine ⟨⟨_, rfl⟩, ?_, ?_, ?_, by rw [Nat.sub_zero]⟩ <;> simp only [go_sem, ↓reduceIte, Nat.reduceEqDiff, Int.natCast_zero]
  · intro i hi fr hp' h
    obtain ⟨⟨L, rfl⟩, h6, h7, h8, hd⟩ := (hI _ _ _).1 h
    have k1 : ((i : Int) < (l.length : Int)) = True := by simp; omega
    have g1 := hl.at (k := i) (by rw [vals_len]; exact hi)
    rw [vals_get l i hi] at g1
    have hmem := mem_getD l i hi
    have w1 : wr .i64 ((i : Int) + 1) = ((i + 1 : Nat) : Int) := by rw [wr_i64 _ (by omega)]; omega
    rw [firstE_step _ _ _ hi] at hd
    have vok := hok _ hmem
    obtain ⟨e0, he0⟩ : ∃ e, E i = e := ⟨_, rfl⟩
    rw [he0] at hd
    have he1 : e0 = chkV (l.getD i default) := by rw [← he0, ← hE]
    obtain ⟨y, hy⟩ : ∃ y, l.getD i default = y := ⟨_, rfl⟩
    rw [hy] at he1 g1 vok
    obtain ⟨k, n, d, s⟩ := y
    obtain ⟨o1, o2, o3⟩ : I64 k ∧ I64 n ∧ I64 d := vok
    simp only [Val.cells, chkV] at g1 he1
    have hc := v_check k n d s o2 o3
    simp only [vA, ← he1] at hc
    clear he0 he1
    by_cases c : e0 = 0
    · subst c
      simp +contextual -implicitDefEqProofs (maxSteps := 10000000) only [x25_l0_run, go_sem, ↓reduceIte, Nat.reduceEqDiff, Nat.reduceAdd, Int.reduceBNe, h6, h7, h8, k1, g1, w1, hc, u1, stAt_topc, ldAt_topc]
      rw [hI]
      refine ⟨⟨_, rfl⟩, ?_, ?_, ?_, by rw [hd, if_neg (by simp)]⟩ <;> simp only [go_sem, ↓reduceIte, Nat.reduceEqDiff, h6, h7]
    · have c' : (e0 = 0) = False := by simp [c]
      simp +contextual -implicitDefEqProofs (maxSteps := 10000000) only [x25_l0_run, go_sem, ↓reduceIte, Nat.reduceEqDiff, Nat.reduceAdd, h6, h7, h8, k1, g1, hc, u1, stAt_topc, ldAt_topc, c']
      rw [hQ]
      exact ⟨⟨_, rfl⟩, .inr ⟨rfl, by simp only [go_sem, ↓reduceIte]; rw [hd, if_pos c]⟩⟩
  · intro fr hp' h
    obtain ⟨⟨L, rfl⟩, h6, h7, h8, hd⟩ := (hI _ _ _).1 h
    simp +contextual -implicitDefEqProofs (maxSteps := 10000000) only [x25_l0_run, go_sem, ↓reduceIte, h7, h8, Int.lt_irrefl]
    rw [hQ]
    exact ⟨⟨_, rfl⟩, .inl ⟨rfl, by rw [hd, Nat.sub_self]; rfl⟩⟩
  · intro e fr hp' he h
    rcases (hQ _ _ _).1 h with ⟨⟨L, rfl⟩, ⟨rfl, h1⟩ | ⟨rfl, h1⟩⟩
    · simp +contextual -implicitDefEqProofs (maxSteps := 10000000) only [go_sem, ↓reduceIte, h1]
    · simp +contextual -implicitDefEqProofs (maxSteps := 10000000) only [go_sem, h1]
theorem p_kindIs (x : Val) (k : Int) (hp : Heap) : CL X GV 28 [.int .i64 k, .agg x.cells] hp = some (.bool (x.k == k), hp) := by
  rw [CL_eq (fn := x28) rfl]
  simp +contextual -implicitDefEqProofs (maxSteps := 10000000) only [x28, Val.cells, go_sem, ↓reduceIte, reduceCtorEq, Nat.reduceEqDiff, Nat.reduceAdd]
end Go.Proofs.YtjbgceogkgpjpaaGreatDoor.Sx.T
namespace Go.Proofs.YtjbgceogkgpjpaaGreatDoor.Sx.T
open Go Go.Proofs.YtjbgceogkgpjpaaGreatDoor.Sx
set_option maxRecDepth 100000
set_option maxHeartbeats 16000000
theorem Val.flat (x : Val) : x.cells.length = 4 ∧ x.cells.all plain1 = true ∧ x.cells.map uf = x.cells ∧ refFreeL x.cells = true := ⟨rfl, rfl, rfl, rfl⟩
theorem p_eqf (ks : List Int) (vl : List Val) (v u : AV) (hl : Ls 1 v (nums ks)) (hu : Ls 4 u (vals vl)) (hm : ks.length ≤ 9223372036854775806) (hp : Heap) :
    CL X GV 27 [v, u, .fn 28 [] []] hp = some (.bool (eqk ks vl), hp) := by
  obtain ⟨p1, u1, n1, d1, f1⟩ := hl.one
  rw [nums_len] at n1
  obtain ⟨p2, u2, n2, d2, f2⟩ := hu.one
  rw [vals_len] at n2
  rw [CL_eq (fn := x27) rfl]
  by_cases hne : ks.length = vl.length
  case neg =>
    have k0 : ((ks.length : Int) = (vl.length : Int)) = False := by simp; omega
    rw [eqk_len _ _ hne]
    simp +contextual -implicitDefEqProofs (maxSteps := 10000000) only [x27, go_sem, ↓reduceIte, reduceCtorEq, Nat.reduceEqDiff, u1, n1, u2, n2, k0]
  have k0 : ((ks.length : Int) = (vl.length : Int)) = True := by simp; omega
  simp +contextual -implicitDefEqProofs (maxSteps := 10000000) only [x27, go_sem, ↓reduceIte, reduceCtorEq, Nat.reduceEqDiff, u1, n1, u2, n2, k0]
  obtain ⟨I, hI⟩ : ∃ I : Nat → List AV → Heap → Prop, ∀ i fr hp', I i fr hp' ↔ ((∃ L, hp' = L :: hp) ∧ fget fr 1 = u ∧ fget fr 2 = .fn 28 [] [] ∧ fget fr 15 = v ∧ fget fr 16 = .int .i64 ks.length ∧ fget fr 17 = .int .i64 (i : Nat) ∧ eqk ks vl = eqk (ks.drop i) (vl.drop i)) := ⟨_, fun _ _ _ => Iff.rfl⟩
  obtain ⟨Q, hQ⟩ : ∃ Q : XExit → List AV → Heap → Prop, ∀ e fr hp', Q e fr hp' ↔ ((∃ L, hp' = L :: hp) ∧ ((e = .exit 0 ∧ eqk ks vl = true) ∨ (e = .ret ∧ eqk ks vl = false ∧ fget fr 6 = .bool false))) := ⟨_, fun _ _ _ => Iff.rfl⟩
  refine LC_upK ks.length I Q (fun r => finK _ (seqK (blockK 0 r) _) = _) ?_ ?_ ?_ ?_
  · rw [hI]
    refine ⟨⟨_, rfl⟩, ?_, ?_, ?_, ?_, ?_, by rw [List.drop_zero, List.drop_zero]⟩ <;> simp only [go_sem, ↓reduceIte, Nat.reduceEqDiff, Int.natCast_zero]
  · intro i hi fr hp' h
    obtain ⟨⟨L, rfl⟩, h1, h2, h15, h16, h17, hd⟩ := (hI _ _ _).1 h
    have k1 : ((i : Int) < (ks.length : Int)) = True := by simp; omega
    have g1 := hl.at (k := i) (by rw [nums_len]; exact hi)
    rw [nums_get ks i hi] at g1
    have g2 := hu.at (k := i) (by rw [vals_len]; omega)
    rw [vals_get vl i (by omega)] at g2
    have w1 : wr .i64 ((i : Int) + 1) = ((i + 1 : Nat) : Int) := by rw [wr_i64 _ (by omega)]; omega
    rw [eqk_drop ks vl i hi (by omega)] at hd
    obtain ⟨z, hz⟩ : ∃ z, ks.getD i 0 = z := ⟨_, rfl⟩
    rw [hz] at hd g1
    obtain ⟨y, hy⟩ : ∃ y, vl.getD i default = y := ⟨_, rfl⟩
    rw [hy] at hd g2
    have hk := p_kindIs y z
    obtain ⟨k, n, d, s⟩ := y
    simp only [Val.cells] at g2 hk hd
    by_cases c : k = z
    · have c' : (k == z) = true := by simp [c]
      rw [c'] at hk hd
      simp +contextual -implicitDefEqProofs (maxSteps := 10000000) only [x27_l0_run, go_sem, ↓reduceIte, Nat.reduceEqDiff, Nat.reduceAdd, h1, h2, h15, h16, h17, k1, g1, g2, w1, hk, o_calld, cwK_same, u1, u2, stAt_topc, ldAt_topc]
      rw [hI]
      refine ⟨⟨_, rfl⟩, ?_, ?_, ?_, ?_, ?_, by rw [hd, Bool.true_and]⟩ <;> simp only [go_sem, ↓reduceIte, Nat.reduceEqDiff, h1, h2, h15, h16]
    · have c' : (k == z) = false := by simp [c]
      rw [c'] at hk hd
      simp +contextual -implicitDefEqProofs (maxSteps := 10000000) only [x27_l0_run, go_sem, ↓reduceIte, Nat.reduceEqDiff, Nat.reduceAdd, h1, h2, h15, h16, h17, k1, g1, g2, hk, o_calld, cwK_same, u1, u2, stAt_topc, ldAt_topc]
      rw [hQ]
      exact ⟨⟨_, rfl⟩, .inr ⟨rfl, by rw [hd, Bool.false_and], by simp only [go_sem, ↓reduceIte]⟩⟩
  · intro fr hp' h
    obtain ⟨⟨L, rfl⟩, h1, h2, h15, h16, h17, hd⟩ := (hI _ _ _).1 h
    simp +contextual -implicitDefEqProofs (maxSteps := 10000000) only [x27_l0_run, go_sem, ↓reduceIte, h16, h17, Int.lt_irrefl]
    rw [hQ]
    exact ⟨⟨_, rfl⟩, .inl ⟨rfl, by rw [hd, List.drop_length, hne, List.drop_length]; rfl⟩⟩
  · intro e fr hp' he h
    rcases (hQ _ _ _).1 h with ⟨⟨L, rfl⟩, ⟨rfl, h1⟩ | ⟨rfl, h1, h2⟩⟩
    · simp +contextual -implicitDefEqProofs (maxSteps := 10000000) only [go_sem, ↓reduceIte, h1]
    · simp +contextual -implicitDefEqProofs (maxSteps := 10000000) only [go_sem, h1, h2]
end Go.Proofs.YtjbgceogkgpjpaaGreatDoor.Sx.T
namespace Go.Proofs.YtjbgceogkgpjpaaGreatDoor.Sx.T
open Go Go.Proofs.YtjbgceogkgpjpaaGreatDoor.Sx
set_option maxRecDepth 100000
set_option maxHeartbeats 16000000
theorem p_cpt (sig : List Dc) (v : AV) (hv : SigV v sig) (t : Int) (evs : List Et) (u : AV) (hu : EvV u evs) : CL X GV 10 [v, .agg [.int .i64 t, u]] [] = some (.int .i64 (cpt sig t evs), []) := by
  obtain ⟨hl, hok, hm⟩ := id hv
  obtain ⟨p1, u1, n1, d1, f1⟩ := hl.one
  obtain ⟨hul, huo, hum⟩ := id hu
  obtain ⟨p2, u2, n2, d2, f2⟩ := hul.one
  rw [ets_len] at n2
  have hf2 := ets_free u _ _ hul t
  have hcs := p_csig sig v hv
  have hsz := p_sizes t evs u hu []
  rw [CL_eq (fn := x10) rfl, cpt]
  by_cases c1 : csig sig = 0
  case neg =>
    have c1' : (csig sig = 0) = False := by simp [c1]
    rw [if_pos c1]
    simp +contextual -implicitDefEqProofs (maxSteps := 10000000) only [x10, go_sem, ↓reduceIte, reduceCtorEq, Nat.reduceEqDiff, Nat.reduceAdd, u1, f1, u2, p2, hcs, c1', List.length_nil]
  rw [if_neg (by simp [c1])]
  rw [c1] at hcs
  by_cases c2 : szP t evs.length = 0
  case neg =>
    have c2' : (szP t evs.length = 0) = False := by simp [c2]
    rw [if_pos c2]
    simp +contextual -implicitDefEqProofs (maxSteps := 10000000) only [x10, go_sem, ↓reduceIte, reduceCtorEq, Nat.reduceEqDiff, Nat.reduceAdd, Int.reduceBNe, u1, f1, u2, p2, hf2, hcs, hsz, c2', ldAt_topc, List.length_nil]
  rw [if_neg (by simp [c2])]
  rw [c2] at hsz
  generalize hE : evE sig evs = E
  simp +contextual -implicitDefEqProofs (maxSteps := 10000000) only [x10, go_sem, ↓reduceIte, reduceCtorEq, Nat.reduceEqDiff, Nat.reduceAdd, Int.reduceBNe, u1, f1, u2, n2, p2, hf2, hcs, hsz, ldAt_topc, List.length_nil]
  obtain ⟨I, hI⟩ : ∃ I : Nat → List AV → Heap → Prop, ∀ i fr hp', I i fr hp' ↔ ((∃ L, hp' = L :: []) ∧ fget fr 0 = v ∧ fget fr 22 = u ∧ fget fr 23 = .int .i64 evs.length ∧ fget fr 24 = .int .i64 (i : Nat) ∧ firstE E evs.length 0 = firstE E (evs.length - i) i) := ⟨_, fun _ _ _ => Iff.rfl⟩
  obtain ⟨Q, hQ⟩ : ∃ Q : XExit → List AV → Heap → Prop, ∀ e fr hp', Q e fr hp' ↔ ((∃ L, hp' = L :: []) ∧ ((e = .exit 0 ∧ firstE E evs.length 0 = 0) ∨ (e = .ret ∧ fget fr 4 = .int .i64 (firstE E evs.length 0)))) := ⟨_, fun _ _ _ => Iff.rfl⟩
  refine LC_upK evs.length I Q (fun r => finK _ (seqK (blockK 0 r) _) = _) ?_ ?_ ?_ ?_
  · rw [hI]
    refine ⟨⟨_, rfl⟩, ?_, ?_, ?_, ?_, by rw [Nat.sub_zero]⟩ <;> simp only [go_sem, ↓reduceIte, reduceCtorEq, Nat.reduceEqDiff, Int.natCast_zero]
  · intro i hi fr hp' h
    obtain ⟨⟨L, rfl⟩, h0, h22, h23, h24, hd⟩ := (hI _ _ _).1 h
    have k1 : ((i : Int) < (evs.length : Int)) = True := by simp; omega
    have g1 := hul.at (k := i) (by rw [ets_len]; exact hi)
    rw [ets_get evs i hi] at g1
    have w1 : wr .i64 ((i : Int) + 1) = ((i + 1 : Nat) : Int) := by rw [wr_i64 _ (by omega)]; omega
    rw [firstE_step _ _ _ hi] at hd
    have eok := huo _ (mem_getD evs i hi)
    obtain ⟨e0, he0⟩ : ∃ e, E i = e := ⟨_, rfl⟩
    rw [he0] at hd
    have he1 : e0 = evE sig evs i := by rw [← he0, ← hE]
    unfold evE at he1
    obtain ⟨y, hy⟩ : ∃ y, evs.getD i default = y := ⟨_, rfl⟩
    rw [hy] at he1 g1 eok
    obtain ⟨yn, vl, av⟩ := y
    obtain ⟨q1, q2, q3, q4⟩ := eok
    obtain ⟨p3, u3, n3, d3, f3⟩ := q1.one
    simp only [Et.cells] at g1 he1 q1 q2 q3 q4 p3 u3 n3 d3 f3
    have hf3 : refFreeL [AV.str yn, av] = true := by simp only [refFreeL, f3]; rfl
    have hvs := p_vals vl av q1 q3 q2
    have hdc := p_declared sig v hv yn []
    clear he0
    by_cases c3 : vals8 vl = 0
    case neg =>
      have c3' : (vals8 vl = 0) = False := by simp [c3]
      rw [if_pos c3] at he1
      rw [← he1] at hvs
      have c4 : (e0 = 0) = False := by rw [he1]; exact c3'
      have c4' : e0 ≠ 0 := by rw [he1]; exact c3
      simp +contextual -implicitDefEqProofs (maxSteps := 10000000) only [x10_l0_run, go_sem, ↓reduceIte, Nat.reduceEqDiff, Nat.reduceAdd, h22, h23, h24, k1, g1, hvs, u2, u3, f3, p3, stAt_topc, ldAt_topc, c4]
      rw [hQ]
      exact ⟨⟨_, rfl⟩, .inr ⟨rfl, by simp only [go_sem, ↓reduceIte]; rw [hd, if_pos c4']⟩⟩
    rw [if_neg (by simp [c3])] at he1
    rw [c3] at hvs
    rcases findD_range sig yn with hk | ⟨k, hk, hkk⟩
    · rw [hk] at hdc he1
      rw [if_pos (.inl (by decide))] at he1
      subst he1
      simp +contextual -implicitDefEqProofs (maxSteps := 10000000) only [x10_l0_run, go_sem, ↓reduceIte, reduceCtorEq, Nat.reduceEqDiff, Nat.reduceAdd, Int.reduceLT, Int.reduceNeg, Int.reduceBNe, h0, h22, h23, h24, k1, g1, hvs, hdc, u1, f1, u2, u3, f3, p3, stAt_topc, ldAt_topc]
      rw [hQ]
      exact ⟨⟨_, rfl⟩, .inr ⟨rfl, by simp only [go_sem, ↓reduceIte, Int.reduceNeg]; rw [hd, if_pos (by decide)]⟩⟩
    · rw [hkk] at hdc he1
      have k0 : ((k : Int) < 0) = False := by simp
      simp only [k0, false_or, Int.toNat_natCast] at he1
      have g4 := hl.at (k := k) (by rw [dcs_len]; exact hk)
      rw [dcs_get sig k hk] at g4
      have dok := hok _ (mem_getD sig k hk)
      obtain ⟨z, hz⟩ : ∃ z, sig.getD k default = z := ⟨_, rfl⟩
      rw [hz] at g4 dok he1
      obtain ⟨zn, ks, zv⟩ := z
      obtain ⟨r1, r2, r3⟩ := dok
      obtain ⟨p4, u4, n4, d4, f4⟩ := r1.one
      simp only [Dc.cells] at g4 r1 r2 p4 u4 n4 d4 f4 he1
      have heq := p_eqf ks vl zv av r1 q1 r2
      cases hq : eqk ks vl with
      | false =>
        rw [hq] at he1 heq
        simp only [if_true] at he1
        subst he1
        simp +contextual -implicitDefEqProofs (maxSteps := 10000000) only [x10_l0_run, go_sem, ↓reduceIte, reduceCtorEq, Nat.reduceEqDiff, Nat.reduceAdd, Nat.reduceLeDiff, Int.reduceBNe, h0, h22, h23, h24, k1, g1, g4, hvs, hdc, heq, k0, u1, f1, u2, u3, f3, p3, u4, stAt_topc, ldAt_topc, o_callw, cwK_same]
        rw [hQ]
        exact ⟨⟨_, rfl⟩, .inr ⟨rfl, by simp only [go_sem, ↓reduceIte]; rw [hd, if_pos (by decide)]⟩⟩
      | true =>
        rw [hq] at he1 heq
        simp only [Bool.true_eq_false, if_false] at he1
        subst he1
        simp +contextual -implicitDefEqProofs (maxSteps := 10000000) only [x10_l0_run, go_sem, ↓reduceIte, reduceCtorEq, Nat.reduceEqDiff, Nat.reduceAdd, Nat.reduceLeDiff, Int.reduceBNe, h0, h22, h23, h24, k1, g1, g4, w1, hvs, hdc, heq, k0, u1, f1, u2, u3, f3, p3, u4, stAt_topc, ldAt_topc, o_callw, cwK_same]
        rw [hI]
        refine ⟨⟨_, rfl⟩, ?_, ?_, ?_, ?_, by rw [hd, if_neg (by simp)]⟩ <;> simp only [go_sem, ↓reduceIte, reduceCtorEq, Nat.reduceEqDiff, h0, h22, h23]
  · intro fr hp' h
    obtain ⟨⟨L, rfl⟩, h0, h22, h23, h24, hd⟩ := (hI _ _ _).1 h
    simp +contextual -implicitDefEqProofs (maxSteps := 10000000) only [x10_l0_run, go_sem, ↓reduceIte, h23, h24, Int.lt_irrefl]
    rw [hQ]
    exact ⟨⟨_, rfl⟩, .inl ⟨rfl, by rw [hd, Nat.sub_self]; rfl⟩⟩
  · intro e fr hp' he h
    rcases (hQ _ _ _).1 h with ⟨⟨L, rfl⟩, ⟨rfl, h1⟩ | ⟨rfl, h1⟩⟩
    · simp +contextual -implicitDefEqProofs (maxSteps := 10000000) only [go_sem, ↓reduceIte, h1]
    · simp +contextual -implicitDefEqProofs (maxSteps := 10000000) only [go_sem, h1]
end Go.Proofs.YtjbgceogkgpjpaaGreatDoor.Sx.T
namespace Go.Proofs.YtjbgceogkgpjpaaGreatDoor.Sx.T
open Go Go.Proofs.YtjbgceogkgpjpaaGreatDoor.Sx
set_option maxRecDepth 100000
set_option maxHeartbeats 16000000
theorem Ls.listOf {z : Nat} {x : AV} {es : List (List AV)} (h : Ls z x es) (hp : Heap) : Go.Proofs.YtjbgceogkgpjpaaGreatDoor.Sx.listOf hp z x = some es := by
  rcases h with ⟨rfl, rfl⟩ | ⟨o, _, rfl⟩
  · rfl
  · rw [listOf_lst, if_pos rfl]
theorem firstE_zero (e : Nat → Int) : ∀ (m i : Nat), firstE e m i = 0 ↔ ∀ j, i ≤ j → j < i + m → e j = 0
  | 0, i => ⟨fun _ j h1 h2 => by omega, fun _ => rfl⟩
  | m + 1, i => by
    rw [firstE]
    by_cases h : e i = 0
    · rw [if_neg (by simp [h]), firstE_zero e m (i + 1)]
      constructor
      · intro H j h1 h2
        by_cases hj : j = i
        · rw [hj]; exact h
        · exact H j (by omega) (by omega)
      · intro H j h1 h2
        exact H j (by omega) (by omega)
    · rw [if_pos h]
      exact ⟨fun e0 => absurd e0 h, fun H => absurd (H i (Nat.le_refl _) (by omega)) h⟩
def okD (d : Dc) : Prop := nameP d.n ∧ d.ks.length ≤ 6 ∧ (d.ks.any fun k => decide (k < 1) || decide (3 < k)) = false
def okS (sig : List Dc) : Prop := sig.length ≤ 32 ∧ (∀ d ∈ sig, okD d) ∧ (sig.map Dc.n).Nodup
open Classical in
theorem sigE_zero (sig : List Dc) (i : Nat) : sigE sig i = 0 ↔ okD (sig.getD i default) ∧ ¬ findD sig (sig.getD i default).n < (i : Int) := by
  unfold sigE okD
  by_cases c1 : nameP (sig.getD i default).n
  · by_cases c2 : findD sig (sig.getD i default).n < (i : Int)
    · rw [if_pos (.inr c2)]; exact ⟨fun h => (by cases h), fun h => absurd c2 h.2⟩
    · rw [if_neg (fun h => h.elim (fun h => h c1) c2)]
      by_cases c3 : 6 < (sig.getD i default).ks.length
      · rw [if_pos c3]; exact ⟨fun h => (by cases h), fun h => absurd c3 (by have := h.1.2.1; omega)⟩
      · rw [if_neg c3]
        by_cases c4 : ((sig.getD i default).ks.any fun k => decide (k < 1) || decide (3 < k)) = true
        · rw [if_pos c4]; exact ⟨fun h => (by cases h), fun h => absurd c4 (by rw [h.1.2.2]; simp)⟩
        · rw [if_neg c4]; exact ⟨fun _ => ⟨⟨c1, by omega, by simpa using c4⟩, c2⟩, fun _ => rfl⟩
  · rw [if_pos (.inl c1)]; exact ⟨fun h => (by cases h), fun h => absurd h.1.1 c1⟩
theorem csig_zero (sig : List Dc) : csig sig = 0 ↔ okS sig := by
  unfold csig okS
  by_cases h32 : 32 < sig.length
  · rw [if_pos h32]; exact ⟨fun h => (by cases h), fun h => absurd h32 (by omega)⟩
  rw [if_neg h32, firstE_zero]
  have key : ∀ i, i < sig.length → ((¬ findD sig (sig.getD i default).n < (i : Int)) ↔ ∀ j, j < i → (sig.getD j default).n ≠ (sig.getD i default).n) := by
    intro i hi
    have h1 := idxG_ahead (fun d : Dc => d.n == (sig.getD i default).n) sig i hi (by simp)
    rw [idxG_any] at h1
    have h2 : findD sig (sig.getD i default).n < (i : Int) ↔ ((sig.take i).any fun d => d.n == (sig.getD i default).n) = true := by
      unfold findD; rw [← h1]; simp
    rw [h2]
    simp only [List.any_eq_true, beq_iff_eq, not_exists, not_and]
    constructor
    · intro H j hj
      refine H _ ?_
      rw [List.mem_iff_getElem?]
      exact ⟨j, by rw [List.getElem?_take, if_pos hj]; simp [List.getD, show j < sig.length by omega]⟩
    · intro H d hd
      obtain ⟨j, hj, e⟩ := List.getElem_of_mem hd
      have hj' : j < i := by simp at hj; omega
      have := H j hj'
      rw [← e]
      simpa [List.getD, show j < sig.length by omega] using this
  have nd : (sig.map Dc.n).Nodup ↔ ∀ i, i < sig.length → ∀ j, j < i → (sig.getD j default).n ≠ (sig.getD i default).n := by
    unfold List.Nodup
    rw [List.pairwise_iff_getElem]
    constructor
    · intro H i hi j hj
      have := H j i (by simp; omega) (by simp; omega) hj
      simpa [List.getD, hi, show j < sig.length by omega] using this
    · intro H j i hj hi hji
      simp at hi hj
      have := H i hi j hji
      simpa [List.getD, hi, hj] using this
  rw [nd]
  constructor
  · intro H
    refine ⟨by omega, fun d hd => ?_, fun i hi => (key i hi).1 ((sigE_zero sig i).1 (H i (Nat.zero_le _) (by omega))).2⟩
    obtain ⟨i, hi, e⟩ := List.getElem_of_mem hd
    have := ((sigE_zero sig i).1 (H i (Nat.zero_le _) (by omega))).1
    rw [← e]
    simpa [List.getD, hi] using this
  · rintro ⟨_, H1, H2⟩ i _ hi
    have hi' : i < sig.length := by omega
    exact (sigE_zero sig i).2 ⟨H1 _ (mem_getD sig i hi'), (key i hi').2 (H2 i hi')⟩
theorem okS_perm {a b : List Dc} (h : a.Perm b) : okS a ↔ okS b := by
  unfold okS
  rw [h.length_eq, (h.map Dc.n).nodup_iff]
  constructor
  · rintro ⟨h1, h2, h3⟩; exact ⟨h1, fun d hd => h2 d (h.mem_iff.2 hd), h3⟩
  · rintro ⟨h1, h2, h3⟩; exact ⟨h1, fun d hd => h2 d (h.mem_iff.1 hd), h3⟩
theorem find_app (sig : List Dc) (more : Dc) (n : List UInt8) (h : 0 ≤ findD sig n) : findD (sig ++ [more]) n = findD sig n ∧ (sig ++ [more]).getD (findD sig n).toNat default = sig.getD (findD sig n).toNat default := by
  have key : ∀ (l : List Dc) (i : Nat), 0 ≤ idxG (fun d : Dc => d.n == n) l i → idxG (fun d : Dc => d.n == n) (l ++ [more]) i = idxG (fun d : Dc => d.n == n) l i := by
    intro l
    induction l with
    | nil => intro i hi; simp [idxG] at hi
    | cons d l ih =>
      intro i hi
      rw [idxG] at hi
      rw [List.cons_append, idxG, idxG]
      by_cases c : (d.n == n) = true
      · rw [if_pos c, if_pos c]
      · rw [if_neg c] at hi
        rw [if_neg c, if_neg c]
        exact ih _ hi
  refine ⟨key sig 0 h, ?_⟩
  rcases findD_range sig n with hk | ⟨k, hk, hkk⟩
  · omega
  · rw [hkk, Int.toNat_natCast]
    simp [List.getD, List.getElem?_append_left hk]
theorem find_cons (sig : List Dc) (more : Dc) (n : List UInt8) (hm : more.n ≠ n) (h : 0 ≤ findD sig n) : findD (more :: sig) n = findD sig n + 1 ∧ (more :: sig).getD (findD sig n + 1).toNat default = sig.getD (findD sig n).toNat default := by
  have key : ∀ (l : List Dc) (i : Nat), 0 ≤ idxG (fun d : Dc => d.n == n) l i → idxG (fun d : Dc => d.n == n) l (i + 1) = idxG (fun d : Dc => d.n == n) l i + 1 := by
    intro l
    induction l with
    | nil => intro i hi; simp [idxG] at hi
    | cons d l ih =>
      intro i hi
      rw [idxG] at hi
      rw [idxG, idxG]
      by_cases c : (d.n == n) = true
      · rw [if_pos c, if_pos c]; omega
      · rw [if_neg c] at hi
        rw [if_neg c, if_neg c]
        exact ih _ hi
  have h1 : findD (more :: sig) n = findD sig n + 1 := by
    unfold findD
    rw [idxG, if_neg (by simpa using hm)]
    exact key sig 0 h
  refine ⟨h1, ?_⟩
  rcases findD_range sig n with hk | ⟨k, hk, hkk⟩
  · omega
  · rw [hkk, show ((k : Int) + 1).toNat = k + 1 by omega, Int.toNat_natCast]
    simp [List.getD]
theorem evE_more (sig sig' : List Dc) (evs : List Et) (hf : ∀ n, 0 ≤ findD sig n → 0 ≤ findD sig' n ∧ sig'.getD (findD sig' n).toNat default = sig.getD (findD sig n).toNat default) (i : Nat) (h : evE sig evs i = 0) : evE sig' evs i = 0 := by
  unfold evE at *
  by_cases c : vals8 (evs.getD i default).vl = 0
  · rw [if_neg (fun e => e c)] at h ⊢
    by_cases c2 : findD sig (evs.getD i default).n < 0 ∨ eqk (sig.getD (findD sig (evs.getD i default).n).toNat default).ks (evs.getD i default).vl = false
    · rw [if_pos c2] at h; cases h
    · obtain ⟨h1, h2⟩ := hf (evs.getD i default).n (by omega)
      rw [if_neg]
      rintro (h3 | h3)
      · omega
      · rw [h2] at h3; exact c2 (.inr h3)
  · rw [if_pos c] at h; exact absurd h c
theorem cpt_more (sig sig' : List Dc) (t : Int) (evs : List Et) (hs : okS sig') (hf : ∀ n, 0 ≤ findD sig n → 0 ≤ findD sig' n ∧ sig'.getD (findD sig' n).toNat default = sig.getD (findD sig n).toNat default) (h : cpt sig t evs = 0) : cpt sig' t evs = 0 := by
  unfold cpt at *
  rw [if_neg (by simp [(csig_zero sig').2 hs])]
  by_cases c1 : csig sig = 0
  · rw [if_neg (by simp [c1])] at h
    by_cases c2 : szP t evs.length = 0
    · rw [if_neg (by simp [c2])] at h ⊢
      rw [firstE_zero] at h ⊢
      exact fun j h1 h2 => evE_more sig sig' evs hf j (h j h1 h2)
    · rw [if_pos c2] at h; exact absurd h c2
  · rw [if_pos c1] at h; exact absurd h c1
theorem cpt_all (sig : List Dc) (more : Dc) (t : Int) (evs : List Et) (hs : csig (sig ++ [more]) = 0) (h : cpt sig t evs = 0) :
    cpt (sig ++ [more]) t evs = 0 ∧ cpt (more :: sig) t evs = 0 ∧ cpt [] t [] = 0 := by
  have h1 := (csig_zero _).1 hs
  have hp : (sig ++ [more]).Perm (more :: sig) := List.perm_append_singleton more sig
  have h2 := (okS_perm hp).1 h1
  refine ⟨cpt_more sig _ t evs h1 (fun n hn => ?_) h, cpt_more sig _ t evs h2 (fun n hn => ?_) h, ?_⟩
  · obtain ⟨a, b⟩ := find_app sig more n hn
    rw [a]; exact ⟨hn, b⟩
  · have hm : more.n ≠ n := by
      intro e
      have hd := h2.2.2
      rw [List.map_cons, List.nodup_cons] at hd
      refine hd.1 ?_
      rcases idxG_cases (fun d : Dc => d.n == n) sig 0 with ⟨hh, _⟩ | ⟨k, hk, _, hp, _⟩
      · unfold findD at hn; omega
      · rw [List.mem_map]
        exact ⟨_, mem_getD sig k hk, by rw [e]; simpa using hp⟩
    obtain ⟨a, b⟩ := find_cons sig more n hm hn
    rw [a]; exact ⟨by omega, b⟩
  · unfold cpt at *
    by_cases c1 : csig sig = 0
    · rw [if_neg (by simp [c1])] at h
      by_cases c2 : szP t evs.length = 0
      · have c3 : csig [] = 0 := rfl
        have c4 : szP t ([] : List Et).length = 0 := by
          unfold szP at *
          by_cases c5 : t < 0 ∨ 1099511627776 < t
          · rw [if_pos c5] at c2; cases c2
          · rw [if_neg c5]; rfl
        rw [if_neg (by simp [c3]), if_neg (by simp only [c4]; decide)]
        rfl
      · rw [if_pos c2] at h; exact absurd h c2
    · rw [if_pos c1] at h; exact absurd h c1
end Go.Proofs.YtjbgceogkgpjpaaGreatDoor.Sx.T
namespace Go.Proofs.YtjbgceogkgpjpaaGreatDoor.Sx.T
open Go Go.Proofs.YtjbgceogkgpjpaaGreatDoor.Sx
set_option maxRecDepth 100000
set_option maxHeartbeats 16000000
def apo (es : List (List AV)) : AV := .lst (if es = [] then .tight else .own) 2 es
theorem refFreeL_append : ∀ a b : List AV, refFreeL (a ++ b) = (refFreeL a && refFreeL b)
  | [], _ => rfl
  | x :: a, b => by rw [List.cons_append, refFreeL, refFreeL, refFreeL_append a b, Bool.and_assoc]
theorem dcs_flat {sig : List Dc} (h : ∀ d ∈ sig, d.ok) : refFreeL (dcs sig).flatten = true ∧ (dcs sig).flatten.all plain1 = true := by
  induction sig with
  | nil => exact ⟨rfl, rfl⟩
  | cons d l ih =>
    obtain ⟨h1, h2⟩ := ih (fun x hx => h x (by simp [hx]))
    obtain ⟨_, b2, _, b4⟩ := Dc.flat (h d (by simp))
    have e : (dcs (d :: l)).flatten = d.cells ++ (dcs l).flatten := by simp [dcs]
    rw [e]
    exact ⟨by rw [refFreeL_append, b4, h1]; rfl, by rw [List.all_append, b2, h2]; rfl⟩
theorem app_first {sig : List Dc} (h : ∀ d ∈ sig, d.ok) (hs : sig.length * 40 ≤ 140737488351232) : appK false 2 40 (.lst .tight 2 []) (some (dcs sig)) = some (apo (dcs sig)) := by
  obtain ⟨h1, h2⟩ := dcs_flat h
  rw [appK_lst, apo]
  by_cases he : dcs sig = []
  · rw [if_pos he, if_pos he, he]; rfl
  · rw [if_neg he, if_neg he, if_pos ⟨h1, h2⟩, if_pos ⟨rfl, rfl, by simp [dcs_len, room]; omega⟩]
    rfl
theorem app_one {sig : List Dc} {more : Dc} (hm : more.ok) (hs : sig.length * 40 ≤ 140737488351232) : appK false 2 40 (apo (dcs sig)) (some [more.cells]) = some (.lst .own 2 (dcs (sig ++ [more]))) := by
  obtain ⟨_, b2, _, b4⟩ := Dc.flat hm
  have hr : ((dcs sig).length + [more.cells].length) * 40 ≤ room := by simp [dcs_len, room]; omega
  have e : dcs (sig ++ [more]) = dcs sig ++ [more.cells] := by simp [dcs]
  rw [apo, appK_lst, if_neg (by simp), if_pos ⟨by simpa using b4, by simpa using b2⟩, e]
  by_cases he : dcs sig = []
  · rw [if_pos he, if_pos ⟨rfl, rfl, hr⟩]; rfl
  · rw [if_neg he, if_pos ⟨rfl, rfl, hr⟩]; rfl
theorem app_turn {sig : List Dc} {more : Dc} (h : ∀ d ∈ sig, d.ok) (hs : sig.length * 40 ≤ 140737488351232) : ∃ o, (o = .tight ∨ o = .own) ∧ appK false 2 40 (.lst .tight 2 [more.cells]) (some (dcs sig)) = some (.lst o 2 (dcs (more :: sig))) := by
  obtain ⟨h1, h2⟩ := dcs_flat h
  have hr : ([more.cells].length + (dcs sig).length) * 40 ≤ room := by simp [dcs_len, room]; omega
  rw [appK_lst]
  by_cases he : dcs sig = []
  · have : sig = [] := by simpa [dcs] using he
    rw [if_pos he, this]
    exact ⟨.tight, .inl rfl, rfl⟩
  · rw [if_neg he, if_pos ⟨h1, h2⟩, if_pos ⟨rfl, rfl, hr⟩]
    exact ⟨.own, .inr rfl, rfl⟩
theorem sigV_lst {sig : List Dc} (h : ∀ d ∈ sig, d.ok) (hs : sig.length ≤ 9223372036854775806) : SigV (.lst .none 2 (dcs sig)) sig := ⟨.inr ⟨.none, .inl rfl, rfl⟩, h, hs⟩
theorem v_TraceMore (sig : List Dc) (v : AV) (more : Dc) (t : Int) (evs : List Et) (u : AV) (hv : SigV v sig) (hsz : sig.length * 40 ≤ 140737488351232) (hmo : more.ok) (hu : EvV u evs) :
    CL X GV 7 [v, .agg more.cells, .agg [.int .i64 t, u]] [] = some (.bool true, []) := by
  obtain ⟨p1, u1, n1, d1, f1⟩ := hv.1.one
  obtain ⟨p2, u2, n2, d2, f2⟩ := hu.1.one
  have hf2 := ets_free u _ _ hu.1 t
  have hlo := hv.1.listOf
  have hok := hv.2.1
  have a1 := app_first hok hsz
  have a2 := app_one (sig := sig) hmo hsz
  obtain ⟨o3, ho3, a3⟩ := app_turn (more := more) hok hsz
  have hall : ∀ d ∈ sig ++ [more], d.ok := fun d hd => by
    rcases List.mem_append.1 hd with h | h
    · exact hok d h
    · rw [List.mem_singleton.1 h]; exact hmo
  have htrn : ∀ d ∈ more :: sig, d.ok := fun d hd => by
    rcases List.mem_cons.1 hd with h | h
    · rw [h]; exact hmo
    · exact hok d h
  have va := sigV_lst hall (by simp; omega)
  have vt := sigV_lst htrn (by simp; omega)
  have vt' : SigV (.lst .tight 2 (dcs (more :: sig))) (more :: sig) := ⟨.inr ⟨.tight, .inr rfl, rfl⟩, htrn, by simp; omega⟩
  have h1 := p_cpt sig v hv t evs u hu
  have h2 := p_csig _ _ va
  have h3 := p_cpt _ _ va t evs u hu
  have h4 := p_cpt _ _ vt t evs u hu
  have h4' := p_cpt _ _ vt' t evs u hu
  have h5 := p_cpt [] .nilsl ⟨.inl ⟨rfl, rfl⟩, by simp, by simp⟩ t [] .nilsl ⟨.inl ⟨rfl, rfl⟩, by simp, by simp⟩
  have hl : CL X GV 11 [] [] = some (.bool true, []) := liveTold
  have hcm := cpt_all sig more t evs
  obtain ⟨mn, mk, mv⟩ := more
  obtain ⟨q1, q2, q3⟩ := hmo
  obtain ⟨p3, u3, n3, d3, f3⟩ := q1.one
  simp only [Dc.cells] at a2 a3 q1 p3 u3 n3 d3 f3 ⊢
  have hf3 : refFreeL [AV.str mn, mv] = true := by simp only [refFreeL, f3]; rfl
  obtain ⟨A, hA⟩ : ∃ A, dcs (sig ++ [⟨mn, mk, mv⟩]) = A := ⟨_, rfl⟩
  obtain ⟨B, hB⟩ : ∃ B, dcs (⟨mn, mk, mv⟩ :: sig) = B := ⟨_, rfl⟩
  obtain ⟨S, hS⟩ : ∃ S, dcs sig = S := ⟨_, rfl⟩
  obtain ⟨o1, ho1, hC⟩ : ∃ o, (o = .tight ∨ o = .own) ∧ apo S = .lst o 2 S := by
    unfold apo
    split
    · exact ⟨.tight, .inl rfl, rfl⟩
    · exact ⟨.own, .inr rfl, rfl⟩
  obtain ⟨c1, hc1⟩ : ∃ c, cpt sig t evs = c := ⟨_, rfl⟩
  obtain ⟨c2, hc2⟩ : ∃ c, csig (sig ++ [⟨mn, mk, mv⟩]) = c := ⟨_, rfl⟩
  rw [hA] at a2 h2 h3
  rw [hB] at a3 h4 h4'
  rw [hS] at a1 a2 a3 hlo
  rw [hC] at a1 a2
  rw [hc1] at h1
  rw [hc2] at h2
  rw [hc1, hc2] at hcm
  rw [CL_eq (fn := x7) rfl]
  by_cases e1 : c1 = 0
  · subst e1
    by_cases e2 : c2 = 0
    · subst e2
      obtain ⟨g1, g2, g3⟩ := hcm rfl rfl
      rw [g1] at h3
      rw [g2] at h4 h4'
      rw [g3] at h5
      clear hA hB hS hC hcm
      rcases ho3 with rfl | rfl <;> rcases ho1 with rfl | rfl
      · simp +contextual -implicitDefEqProofs (maxSteps := 10000000) only [x7, go_sem, ↓reduceIte, reduceCtorEq, Nat.reduceEqDiff, Nat.reduceAdd, Nat.reduceLeDiff, Int.reduceBNe, Nat.reduceLT, Nat.reduceDiv, u1, f1, u2, p2, u3, p3, hf2, hf3, hlo, a1, a2, a3, h1, h2, h3, h4', h5, hl, ldAt_topc, List.length_nil]
      · simp +contextual -implicitDefEqProofs (maxSteps := 10000000) only [x7, go_sem, ↓reduceIte, reduceCtorEq, Nat.reduceEqDiff, Nat.reduceAdd, Nat.reduceLeDiff, Int.reduceBNe, Nat.reduceLT, Nat.reduceDiv, u1, f1, u2, p2, u3, p3, hf2, hf3, hlo, a1, a2, a3, h1, h2, h3, h4', h5, hl, ldAt_topc, List.length_nil]
      · simp +contextual -implicitDefEqProofs (maxSteps := 10000000) only [x7, go_sem, ↓reduceIte, reduceCtorEq, Nat.reduceEqDiff, Nat.reduceAdd, Nat.reduceLeDiff, Int.reduceBNe, Nat.reduceLT, Nat.reduceDiv, u1, f1, u2, p2, u3, p3, hf2, hf3, hlo, a1, a2, a3, h1, h2, h3, h4, h5, hl, ldAt_topc, List.length_nil]
      · simp +contextual -implicitDefEqProofs (maxSteps := 10000000) only [x7, go_sem, ↓reduceIte, reduceCtorEq, Nat.reduceEqDiff, Nat.reduceAdd, Nat.reduceLeDiff, Int.reduceBNe, Nat.reduceLT, Nat.reduceDiv, u1, f1, u2, p2, u3, p3, hf2, hf3, hlo, a1, a2, a3, h1, h2, h3, h4, h5, hl, ldAt_topc, List.length_nil]
    · have e2' : (c2 = 0) = False := by simp [e2]
      clear hA hB hS hC hcm
      rcases ho1 with rfl | rfl
      · simp +contextual -implicitDefEqProofs (maxSteps := 10000000) only [x7, go_sem, ↓reduceIte, reduceCtorEq, Nat.reduceEqDiff, Nat.reduceAdd, Int.reduceBNe, Nat.reduceLT, Nat.reduceDiv, u1, f1, u2, p2, u3, p3, hf2, hf3, hlo, a1, a2, h1, h2, hl, ldAt_topc, List.length_nil, e2']
      · simp +contextual -implicitDefEqProofs (maxSteps := 10000000) only [x7, go_sem, ↓reduceIte, reduceCtorEq, Nat.reduceEqDiff, Nat.reduceAdd, Int.reduceBNe, Nat.reduceLT, Nat.reduceDiv, u1, f1, u2, p2, u3, p3, hf2, hf3, hlo, a1, a2, h1, h2, hl, ldAt_topc, List.length_nil, e2']
  · have e1' : (c1 = 0) = False := by simp [e1]
    clear hA hB hS hC hcm
    rcases ho1 with rfl | rfl
    · simp +contextual -implicitDefEqProofs (maxSteps := 10000000) only [x7, go_sem, ↓reduceIte, reduceCtorEq, Nat.reduceEqDiff, Nat.reduceAdd, Nat.reduceLT, Nat.reduceDiv, u1, f1, u2, p2, u3, p3, hf2, hf3, hlo, a1, a2, h1, hl, ldAt_topc, List.length_nil, e1']
    · simp +contextual -implicitDefEqProofs (maxSteps := 10000000) only [x7, go_sem, ↓reduceIte, reduceCtorEq, Nat.reduceEqDiff, Nat.reduceAdd, Nat.reduceLT, Nat.reduceDiv, u1, f1, u2, p2, u3, p3, hf2, hf3, hlo, a1, a2, h1, hl, ldAt_topc, List.length_nil, e1']
end Go.Proofs.YtjbgceogkgpjpaaGreatDoor.Sx.T
