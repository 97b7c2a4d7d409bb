/- Layer 6, part 2: terms, the same or not. -/
import Derived.Test.YtnmaahfipddkmaaGreatEvB
import Derived.Test.YtnmaahfipddkmaaGreatEvR
import Derived.Test.YtnmaahfipddkmaaGreatEvP
import Derived.Test.YtnmaahfipddkmaaGreatEvS
import Derived.Test.YtnmaahfipddkmaaGreatSxRun
import Derived.Test.YtnmaahfipddkmaaGreatEvX
import Derived.Test.YtnmaahfipddkmaaGreatEvE
import Derived.Test.YtnmaahfipddkmaaGreatWa
set_option linter.unusedVariables false
set_option linter.unusedSimpArgs false
namespace Go.Proofs.YtnmaahfipddkmaaGreat.Sx.T
open Go Go.Proofs.YtnmaahfipddkmaaGreat.Sx
set_option maxRecDepth 100000
set_option maxHeartbeats 8000000
def Sl (z : Nat) (x : AV) (es : List (List AV)) : Prop := (x = .nilsl ∧ es = []) ∨ x = .lst .none z es
theorem Sl.eq {z : Nat} {x y : AV} {es fs : List (List AV)} (hx : Sl z x es) (hy : Sl z y fs) : eqV x y = eqVss es fs := by
  rcases hx with ⟨rfl, rfl⟩ | rfl <;> rcases hy with ⟨rfl, rfl⟩ | rfl
  · simp [eqV, eqVss]
  · cases fs <;> simp [eqV, eqVss]
  · cases es <;> simp [eqV, eqVss]
  · simp [eqV]
inductive TmP : List AV → Prop where
  | mk (k : Int) (n : List UInt8) (vk vn vd : Int) (vs : List UInt8) (s : AV) (es : List (List AV)) (hs : Sl 7 s es) (h : ∀ e ∈ es, TmP e) (hl : es.length ≤ 9223372036854775807) : TmP [.int .i64 k, .str n, .int .i64 vk, .int .i64 vn, .int .i64 vd, .str vs, s]
theorem Sl.one {z : Nat} {x : AV} {es : List (List AV)} (h : Sl z x es) : plain1 x = true ∧ uf x = x ∧ lensK false x = some (.int .i64 es.length) ∧ (∀ fr t, drop1K x fr t = fr) ∧ refFree x = true := by
  rcases h with ⟨rfl, rfl⟩ | rfl
  · exact ⟨rfl, rfl, rfl, fun _ _ => rfl, rfl⟩
  · exact ⟨rfl, rfl, by simp [lensK_lst, lenB_none], fun _ _ => rfl, rfl⟩
theorem TmP.flat {e : List AV} (h : TmP e) : e.length = 7 ∧ e.all plain1 = true ∧ e.map uf = e := by
  cases h with
  | mk k n vk vn vd vs s es hs h hl =>
    obtain ⟨p1, p2, _⟩ := hs.one
    exact ⟨rfl, by simp only [List.all_cons, List.all_nil, p1, Bool.and_true]; rfl, by simp only [List.map_cons, List.map_nil, p2]; rfl⟩
theorem splice_all : ∀ (l vs : List AV), l.length = vs.length → splice l 0 vs = vs
  | [], [], _ => rfl
  | x :: l, v :: vs, h => by rw [splice_zero, splice_all l vs (by simpa using h)]
def tx (ws : List (List UInt8)) : List (List AV) := ws.map fun w => [.str w]
inductive FxP : Bool → List AV → Prop where
  | fm (k : Int) (n : List UInt8) (op : Int) (vs : AV) (ws : List (List UInt8)) (ts : AV) (tes : List (List AV)) (lo hi : Int) (o : Bool) (ss : AV) (ses : List (List AV)) (rs : AV) (res : List (List AV))
      (hv : Sl 1 vs (tx ws)) (ht : Sl 7 ts tes) (hte : ∀ e ∈ tes, TmP e) (hs : Sl 10 ss ses) (hse : ∀ e ∈ ses, FxP true e) (hr : Sl 3 rs res) (hre : ∀ e ∈ res, FxP false e)
      (l1 : ws.length ≤ 9223372036854775807) (l2 : tes.length ≤ 9223372036854775807) (l3 : ses.length ≤ 9223372036854775807) (l4 : res.length ≤ 9223372036854775807) :
      FxP true [.int .i64 k, .str n, .int .i64 op, vs, ts, .int .i64 lo, .int .i64 hi, .bool o, ss, rs]
  | rx (k : Int) (ts : AV) (tes : List (List AV)) (ss : AV) (ses : List (List AV)) (ht : Sl 10 ts tes) (hte : ∀ e ∈ tes, FxP true e) (hs : Sl 3 ss ses) (hse : ∀ e ∈ ses, FxP false e)
      (l1 : tes.length ≤ 9223372036854775807) (l2 : ses.length ≤ 9223372036854775807) : FxP false [.int .i64 k, ts, ss]
theorem FxP.flat {b : Bool} {e : List AV} (h : FxP b e) : e.length = (if b then 10 else 3) ∧ e.all plain1 = true ∧ e.map uf = e := by
  cases h with
  | fm k n op vs ws ts tes lo hi o ss ses rs res hv ht hte hs hse hr hre =>
    obtain ⟨p1, q1, _⟩ := hv.one
    obtain ⟨p2, q2, _⟩ := ht.one
    obtain ⟨p3, q3, _⟩ := hs.one
    obtain ⟨p4, q4, _⟩ := hr.one
    exact ⟨rfl, by simp only [List.all_cons, List.all_nil, p1, p2, p3, p4, Bool.and_true]; rfl, by simp only [List.map_cons, List.map_nil, q1, q2, q3, q4]; rfl⟩
  | rx k ts tes ss ses ht hte hs hse =>
    obtain ⟨p1, q1, _⟩ := ht.one
    obtain ⟨p2, q2, _⟩ := hs.one
    exact ⟨rfl, by simp only [List.all_cons, List.all_nil, p1, p2, Bool.and_true]; rfl, by simp only [List.map_cons, List.map_nil, q1, q2]; rfl⟩
theorem TmP.free {e : List AV} (h : TmP e) : (e.length = 7 ∧ e.all plain1 = true ∧ e.map uf = e) ∧ refFreeL e = true := by
  refine ⟨h.flat, ?_⟩
  cases h with
  | mk k n vk vn vd vs s es hs h hl =>
    have r := hs.one.2.2.2.2
    simp only [refFreeL, r, Bool.and_true]
    rfl
theorem FxP.free {b : Bool} {e : List AV} (h : FxP b e) : (e.length = (if b then 10 else 3) ∧ e.all plain1 = true ∧ e.map uf = e) ∧ refFreeL e = true := by
  refine ⟨h.flat, ?_⟩
  cases h with
  | fm k n op vs ws ts tes lo hi o ss ses rs res hv ht hte hs hse hr hre =>
    have r1 := hv.one.2.2.2.2
    have r2 := ht.one.2.2.2.2
    have r3 := hs.one.2.2.2.2
    have r4 := hr.one.2.2.2.2
    simp only [refFreeL, r1, r2, r3, r4, Bool.and_true]
    rfl
  | rx k ts tes ss ses ht hte hs hse =>
    have r1 := ht.one.2.2.2.2
    have r2 := hs.one.2.2.2.2
    simp only [refFreeL, r1, r2, Bool.and_true]
    rfl
theorem w_rvsame (k n d : Int) (s : List UInt8) (k' n' d' : Int) (s' : List UInt8) (hp : Heap) : CL X (fun _ => []) 89 [.agg [.int .i64 k, .int .i64 n, .int .i64 d, .str s], .agg [.int .i64 k', .int .i64 n', .int .i64 d', .str s']] hp =
    some (.bool (k == k' && n == n' && d == d' && s == s'), hp) := by
  rw [CL_eq (fn := x89) rfl]
  simp +contextual -implicitDefEqProofs (maxSteps := 10000000) only [x89, go_sem, ↓reduceIte, Nat.reduceEqDiff, Nat.reduceAdd]
  congr 3
  rw [Bool.eq_iff_iff]
  simp [and_assoc]
set_option maxHeartbeats 4000000
def slv (b : Bool) (z : Nat) (es : List (List AV)) : AV := if b = true ∧ es = [] then .nilsl else .lst .none z es
theorem slv_Sl (b : Bool) (z : Nat) (es : List (List AV)) : Sl z (slv b z es) es := by
  unfold slv Sl
  split
  · rename_i h; exact .inl ⟨rfl, h.2⟩
  · exact .inr rfl
inductive Tm where
  | mk (k : Int) (n : List UInt8) (vk vn vd : Int) (vs : List UInt8) (b : Bool) (ss : List Tm)
mutual
def Tm.cells : Tm → List AV
  | .mk k n vk vn vd vs b ss => [.int .i64 k, .str n, .int .i64 vk, .int .i64 vn, .int .i64 vd, .str vs, slv b 7 (Tm.cellsL ss)]
def Tm.cellsL : List Tm → List (List AV)
  | [] => []
  | t :: l => t.cells :: Tm.cellsL l
end
mutual
inductive Fm where
  | mk (k : Int) (n : List UInt8) (op : Int) (bv : Bool) (vs : List (List UInt8)) (bt : Bool) (ts : List Tm) (lo hi : Int) (o : Bool) (bs : Bool) (ss : List Fm) (br : Bool) (rs : List Rx)
inductive Rx where
  | mk (k : Int) (bt : Bool) (ts : List Fm) (bs : Bool) (ss : List Rx)
end
mutual
def Fm.cells : Fm → List AV
  | .mk k n op bv vs bt ts lo hi o bs ss br rs => [.int .i64 k, .str n, .int .i64 op, slv bv 1 (tx vs), slv bt 7 (Tm.cellsL ts), .int .i64 lo, .int .i64 hi, .bool o, slv bs 10 (Fm.cellsL ss), slv br 3 (Rx.cellsL rs)]
def Fm.cellsL : List Fm → List (List AV)
  | [] => []
  | t :: l => t.cells :: Fm.cellsL l
def Rx.cells : Rx → List AV
  | .mk k bt ts bs ss => [.int .i64 k, slv bt 10 (Fm.cellsL ts), slv bs 3 (Rx.cellsL ss)]
def Rx.cellsL : List Rx → List (List AV)
  | [] => []
  | t :: l => t.cells :: Rx.cellsL l
end
theorem Tm.cellsL_eq : ∀ l : List Tm, Tm.cellsL l = l.map Tm.cells
  | [] => rfl
  | t :: l => by simp [Tm.cellsL, Tm.cellsL_eq l]
theorem Fm.cellsL_eq : ∀ l : List Fm, Fm.cellsL l = l.map Fm.cells
  | [] => rfl
  | t :: l => by simp [Fm.cellsL, Fm.cellsL_eq l]
theorem Rx.cellsL_eq : ∀ l : List Rx, Rx.cellsL l = l.map Rx.cells
  | [] => rfl
  | t :: l => by simp [Rx.cellsL, Rx.cellsL_eq l]
theorem Tm.cellsL_len (l : List Tm) : (Tm.cellsL l).length = l.length := by simp [Tm.cellsL_eq]
theorem Fm.cellsL_len (l : List Fm) : (Fm.cellsL l).length = l.length := by simp [Fm.cellsL_eq]
theorem Rx.cellsL_len (l : List Rx) : (Rx.cellsL l).length = l.length := by simp [Rx.cellsL_eq]
mutual
def Tm.fit : Tm → Prop
  | .mk _ _ _ vn vd _ _ ss => I64 vn ∧ I64 vd ∧ ss.length * 88 ≤ 140737488351232 ∧ Tm.fitL ss
def Tm.fitL : List Tm → Prop
  | [] => True
  | t :: l => t.fit ∧ Tm.fitL l
end
mutual
def Fm.fit : Fm → Prop
  | .mk _ _ _ _ vs _ ts _ _ _ _ ss _ rs => vs.length * 16 ≤ 140737488351232 ∧ ts.length * 88 ≤ 140737488351232 ∧ ss.length * 152 ≤ 140737488351232 ∧ rs.length * 56 ≤ 140737488351232 ∧ Tm.fitL ts ∧ Fm.fitL ss ∧ Rx.fitL rs
def Fm.fitL : List Fm → Prop
  | [] => True
  | t :: l => t.fit ∧ Fm.fitL l
def Rx.fit : Rx → Prop
  | .mk _ _ ts _ ss => ts.length * 152 ≤ 140737488351232 ∧ ss.length * 56 ≤ 140737488351232 ∧ Fm.fitL ts ∧ Rx.fitL ss
def Rx.fitL : List Rx → Prop
  | [] => True
  | t :: l => t.fit ∧ Rx.fitL l
end
theorem Tm.fitL_mem : ∀ {l : List Tm}, Tm.fitL l → ∀ t ∈ l, t.fit
  | t :: l, h, u, hu => by
    rcases List.mem_cons.1 hu with rfl | hu
    · exact h.1
    · exact Tm.fitL_mem h.2 u hu
theorem Fm.fitL_mem : ∀ {l : List Fm}, Fm.fitL l → ∀ t ∈ l, t.fit
  | t :: l, h, u, hu => by
    rcases List.mem_cons.1 hu with rfl | hu
    · exact h.1
    · exact Fm.fitL_mem h.2 u hu
theorem Rx.fitL_mem : ∀ {l : List Rx}, Rx.fitL l → ∀ t ∈ l, t.fit
  | t :: l, h, u, hu => by
    rcases List.mem_cons.1 hu with rfl | hu
    · exact h.1
    · exact Rx.fitL_mem h.2 u hu
theorem Tm.fitL_of : ∀ {l : List Tm}, (∀ t ∈ l, t.fit) → Tm.fitL l
  | [], _ => trivial
  | t :: l, h => ⟨h t (by simp), Tm.fitL_of fun u hu => h u (by simp [hu])⟩
theorem Fm.fitL_of : ∀ {l : List Fm}, (∀ t ∈ l, t.fit) → Fm.fitL l
  | [], _ => trivial
  | t :: l, h => ⟨h t (by simp), Fm.fitL_of fun u hu => h u (by simp [hu])⟩
theorem Rx.fitL_of : ∀ {l : List Rx}, (∀ t ∈ l, t.fit) → Rx.fitL l
  | [], _ => trivial
  | t :: l, h => ⟨h t (by simp), Rx.fitL_of fun u hu => h u (by simp [hu])⟩
/-! ### as TmP, FxP say it -/
theorem Tm.tmp : ∀ (t : Tm), t.fit → TmP t.cells
  | .mk k n vk vn vd vs b ss, h => by
    simp only [Tm.fit] at h
    rw [Tm.cells]
    refine .mk k n vk vn vd vs _ (Tm.cellsL ss) (slv_Sl _ _ _) ?_ (by rw [Tm.cellsL_len]; omega)
    intro e he
    rw [Tm.cellsL_eq, List.mem_map] at he
    obtain ⟨t, ht, rfl⟩ := he
    exact Tm.tmp t (Tm.fitL_mem h.2.2.2 t ht)
mutual
theorem Fm.fxp : ∀ (t : Fm), t.fit → FxP true t.cells
  | .mk k n op bv vs bt ts lo hi o bs ss br rs, h => by
    simp only [Fm.fit] at h
    rw [Fm.cells]
    refine .fm k n op _ vs _ (Tm.cellsL ts) lo hi o _ (Fm.cellsL ss) _ (Rx.cellsL rs) (slv_Sl _ _ _) (slv_Sl _ _ _) ?_ (slv_Sl _ _ _) ?_ (slv_Sl _ _ _) ?_ (by omega) (by rw [Tm.cellsL_len]; omega) (by rw [Fm.cellsL_len]; omega) (by rw [Rx.cellsL_len]; omega)
    · intro e he
      rw [Tm.cellsL_eq, List.mem_map] at he
      obtain ⟨t, ht, rfl⟩ := he
      exact Tm.tmp t (Tm.fitL_mem h.2.2.2.2.1 t ht)
    · exact Fm.fxpL ss h.2.2.2.2.2.1
    · exact Rx.fxpL rs h.2.2.2.2.2.2
theorem Fm.fxpL : ∀ (l : List Fm), Fm.fitL l → ∀ e ∈ Fm.cellsL l, FxP true e
  | [], _, e, he => by simp [Fm.cellsL] at he
  | t :: l, h, e, he => by
    rw [Fm.cellsL] at he
    rcases List.mem_cons.1 he with rfl | he
    · exact Fm.fxp t h.1
    · exact Fm.fxpL l h.2 e he
theorem Rx.fxp : ∀ (t : Rx), t.fit → FxP false t.cells
  | .mk k bt ts bs ss, h => by
    simp only [Rx.fit] at h
    rw [Rx.cells]
    exact .rx k _ (Fm.cellsL ts) _ (Rx.cellsL ss) (slv_Sl _ _ _) (Fm.fxpL ts h.2.2.1) (slv_Sl _ _ _) (Rx.fxpL ss h.2.2.2) (by rw [Fm.cellsL_len]; omega) (by rw [Rx.cellsL_len]; omega)
theorem Rx.fxpL : ∀ (l : List Rx), Rx.fitL l → ∀ e ∈ Rx.cellsL l, FxP false e
  | [], _, e, he => by simp [Rx.cellsL] at he
  | t :: l, h, e, he => by
    rw [Rx.cellsL] at he
    rcases List.mem_cons.1 he with rfl | he
    · exact Rx.fxp t h.1
    · exact Rx.fxpL l h.2 e he
end
/-! ### going over -/
structure Wk where
  n : Nat
  m : Int
  e : Int
def wkC (s : Wk) : List AV := [.int .i64 (s.n : Int), .int .i64 s.m, .int .i64 s.e]
def wkOf : Option (List AV) → Wk
  | some [.int _ n, .int _ m, .int _ e] => ⟨n.toNat, m, e⟩
  | _ => ⟨0, 0, 0⟩
def isWk : Option (List AV) → Bool
  | some [.int .i64 n, .int .i64 _, .int .i64 _] => decide (0 ≤ n)
  | _ => false
theorem wkOf_C (s : Wk) : wkOf (some (wkC s)) = s := by simp [wkOf, wkC]
theorem wkOf_some (n : Nat) (m e : Int) : wkOf (some [.int .i64 (n : Int), .int .i64 m, .int .i64 e]) = ⟨n, m, e⟩ := by simp [wkOf]
theorem isWk_some (n : Nat) (m e : Int) : isWk (some [.int .i64 (n : Int), .int .i64 m, .int .i64 e]) = true := by simp [isWk]
theorem isWk_C (s : Wk) : isWk (some (wkC s)) = true := by simp [wkC, isWk]
theorem isWk_of {o : Option (List AV)} (h : isWk o = true) : o = some (wkC (wkOf o)) := by
  unfold isWk at h
  split at h
  · rename_i n m e
    have : 0 ≤ n := by simpa using h
    simp [wkOf, wkC, Int.toNat_of_nonneg this]
  · cases h
def mustW (ok : Bool) (c : Int) (s : Wk) : Wk := if ok = false ∧ s.e = 0 then { s with e := c } else s
def enterW (d : Int) (s : Wk) : Wk := if s.e ≠ 0 then s else if 24 < d then { s with e := 71 } else if 256 ≤ s.n then { s with e := 3 } else ⟨s.n + 1, if d > s.m then d else s.m, 0⟩
open Classical in noncomputable def nameB (s : List UInt8) : Bool := decide (nameP s)
theorem p_name (s : List UInt8) : CL X (fun _ => []) 41 [.str s] [] = some (.bool (nameB s), []) := v_name s
theorem p_rname (s : List UInt8) : CL X (fun _ => []) 86 [.str s] [] = some (.bool (nameB s), []) := v_rname s
noncomputable def okTm (k : Int) (n : List UInt8) (vk vn vd : Int) (vs : List UInt8) (len : Nat) : Bool :=
  (len == (if 3 ≤ k then 2 else 0)) && ((k == 2) || (vk == 0 && vn == 0 && vd == 0 && vs == [])) && (if k = 1 then nameB n else n == [])
noncomputable def tErr (k : Int) (n : List UInt8) (vk vn vd : Int) (vs : List UInt8) (len : Nat) : Int :=
  if ¬ (1 ≤ k ∧ k ≤ 5) then 20 else if okTm k n vk vn vd vs len = false then 1 else if k = 2 then chk vk vn vd vs else 0
mutual
noncomputable def Tm.wk : Tm → Int → Wk → Wk
  | .mk k n vk vn vd vs _ ss, d, s =>
    let s1 := enterW d s
    if s1.e ≠ 0 then s1 else if tErr k n vk vn vd vs ss.length ≠ 0 then { s1 with e := tErr k n vk vn vd vs ss.length } else Tm.wkL ss (d + 1) s1
noncomputable def Tm.wkL : List Tm → Int → Wk → Wk
  | [], _, s => s
  | t :: l, d, s => Tm.wkL l d (t.wk d s)
end
def u1 (k : Int) : Int := if k = 3 then 1 else if k = 11 ∨ k = 12 ∨ k = 13 ∨ k = 14 ∨ k = 15 ∨ k = 16 ∨ k = 17 ∨ k = 18 then 4 else if k = 19 then 3 else if k = 20 ∨ k = 21 then 1 else 0
def u2 (k : Int) : Int := if k = 10 ∨ k = 19 then -1 else if k = 20 ∨ k = 21 then -2 else 0
def u3 (k : Int) : Int := if k = 3 then -2 else if k = 4 ∨ k = 5 ∨ k = 6 then 2 else 0
def u4 (k : Int) : Int := if k = 7 ∨ k = 10 ∨ k = 11 ∨ k = 12 ∨ k = 13 ∨ k = 14 ∨ k = 19 then 1 else if k = 8 ∨ k = 9 ∨ k = 15 ∨ k = 16 ∨ k = 20 ∨ k = 21 then 2 else if k = 22 then -1 else 0
def u5 (k : Int) : Int := if k = 17 ∨ k = 18 then 1 else 0
def hasN (k : Int) : Bool := k == 3 || k == 19 || k == 20 || k == 21
def hasO (k : Int) : Bool := k == 19
def hasI (k : Int) : Bool := decide (11 ≤ k) && decide (k ≤ 18)
def cnt (n : Nat) (want : Int) : Bool := want == -2 || (if want = -1 then n != 0 else (n : Int) == want)
def ivl (lo hi : Int) (o : Bool) : Bool := if o then decide (0 ≤ lo) && decide (lo ≤ 1099511627776) && hi == 0 else decide (0 ≤ lo) && decide (lo ≤ hi) && decide (hi ≤ 1099511627776)
def manyB (k : Int) (nt nv : Nat) : Bool := (k == 3 && decide (6 < nt)) || ((k == 20 || k == 21) && decide (6 < nv)) || ((k == 10 || k == 19) && decide (8 < nv))
def cntB (k : Int) (nv nt ns nr : Nat) : Bool := cnt nv (u2 k) && cnt nt (u3 k) && cnt ns (u4 k) && cnt nr (u5 k)
noncomputable def fldB (k : Int) (n : List UInt8) (op : Int) (lo hi : Int) (o : Bool) : Bool :=
  (if hasN k then nameB n else n == []) && (if hasO k then decide (1 ≤ op) && decide (op ≤ 6) else op == 0) && (if hasI k then ivl lo hi o else lo == 0 && hi == 0 && o == false)
def dup : List (List UInt8) → Bool
  | [] => false
  | x :: l => l.contains x || dup l
noncomputable def fErr (k : Int) (n : List UInt8) (op : Int) (vs : List (List UInt8)) (nt : Nat) (lo hi : Int) (o : Bool) (ns nr : Nat) : Int :=
  if ¬ (1 ≤ k ∧ k ≤ 22) then 20 else if manyB k nt vs.length = true then 3 else if (cntB k vs.length nt ns nr && vs.all nameB && fldB k n op lo hi o) = false then 1
  else if (dup vs || (k == 19 && (vs.drop 1).contains n)) = true then 30 else 0
def rErr (k : Int) (nt ns : Nat) : Int :=
  if ¬ (1 ≤ k ∧ k ≤ 5) then 20 else if (nt == (if k = 2 then 1 else 0)) && (ns == (if k = 3 ∨ k = 4 then 2 else if k = 5 then 1 else 0)) then 0 else 1
mutual
noncomputable def Fm.wk : Fm → Int → Wk → Wk
  | .mk k n op _ vs _ ts lo hi o _ ss _ rs, d, s =>
    let s1 := enterW d s
    if s1.e ≠ 0 then s1 else if fErr k n op vs ts.length lo hi o ss.length rs.length ≠ 0 then { s1 with e := fErr k n op vs ts.length lo hi o ss.length rs.length }
    else Fm.wkL ss (d + 1) (Rx.wkL rs (d + 1) (Tm.wkL ts (d + 1) s1))
noncomputable def Fm.wkL : List Fm → Int → Wk → Wk
  | [], _, s => s
  | t :: l, d, s => Fm.wkL l d (t.wk d s)
noncomputable def Rx.wk : Rx → Int → Wk → Wk
  | .mk k _ ts _ ss, d, s =>
    let s1 := enterW d s
    if s1.e ≠ 0 then s1 else if rErr k ts.length ss.length ≠ 0 then { s1 with e := rErr k ts.length ss.length } else Rx.wkL ss (d + 1) (Fm.wkL ts (d + 1) s1)
noncomputable def Rx.wkL : List Rx → Int → Wk → Wk
  | [], _, s => s
  | t :: l, d, s => Rx.wkL l d (t.wk d s)
end
theorem enterW_err {d : Int} {s : Wk} (h : s.e ≠ 0) : enterW d s = s := by simp [enterW, h]
theorem Tm.wk_err {t : Tm} {d : Int} {s : Wk} (h : s.e ≠ 0) : t.wk d s = s := by
  cases t
  rw [Tm.wk]
  simp only [enterW_err h]
  simp [h]
theorem Fm.wk_err {t : Fm} {d : Int} {s : Wk} (h : s.e ≠ 0) : t.wk d s = s := by
  cases t
  rw [Fm.wk]
  simp only [enterW_err h]
  simp [h]
theorem Rx.wk_err {t : Rx} {d : Int} {s : Wk} (h : s.e ≠ 0) : t.wk d s = s := by
  cases t
  rw [Rx.wk]
  simp only [enterW_err h]
  simp [h]
theorem Tm.wkL_err : ∀ {l : List Tm} {d : Int} {s : Wk}, s.e ≠ 0 → Tm.wkL l d s = s
  | [], _, _, _ => rfl
  | t :: l, d, s, h => by rw [Tm.wkL, Tm.wk_err h, Tm.wkL_err h]
theorem Fm.wkL_err : ∀ {l : List Fm} {d : Int} {s : Wk}, s.e ≠ 0 → Fm.wkL l d s = s
  | [], _, _, _ => rfl
  | t :: l, d, s, h => by rw [Fm.wkL, Fm.wk_err h, Fm.wkL_err h]
theorem Rx.wkL_err : ∀ {l : List Rx} {d : Int} {s : Wk}, s.e ≠ 0 → Rx.wkL l d s = s
  | [], _, _, _ => rfl
  | t :: l, d, s, h => by rw [Rx.wkL, Rx.wk_err h, Rx.wkL_err h]
theorem Tm.wkL_append : ∀ (a b : List Tm) (d : Int) (s : Wk), Tm.wkL (a ++ b) d s = Tm.wkL b d (Tm.wkL a d s)
  | [], _, _, _ => rfl
  | t :: a, b, d, s => by rw [List.cons_append, Tm.wkL, Tm.wkL, Tm.wkL_append a]
theorem Fm.wkL_append : ∀ (a b : List Fm) (d : Int) (s : Wk), Fm.wkL (a ++ b) d s = Fm.wkL b d (Fm.wkL a d s)
  | [], _, _, _ => rfl
  | t :: a, b, d, s => by rw [List.cons_append, Fm.wkL, Fm.wkL, Fm.wkL_append a]
theorem Rx.wkL_append : ∀ (a b : List Rx) (d : Int) (s : Wk), Rx.wkL (a ++ b) d s = Rx.wkL b d (Rx.wkL a d s)
  | [], _, _, _ => rfl
  | t :: a, b, d, s => by rw [List.cons_append, Rx.wkL, Rx.wkL, Rx.wkL_append a]
theorem Tm.wkL_take (l : List Tm) (i : Nat) (h : i < l.length) (d : Int) (s : Wk) : Tm.wkL (l.take (i + 1)) d s = (l[i]).wk d (Tm.wkL (l.take i) d s) := by
  rw [List.take_succ_eq_append_getElem h, Tm.wkL_append, Tm.wkL, Tm.wkL]
theorem Fm.wkL_take (l : List Fm) (i : Nat) (h : i < l.length) (d : Int) (s : Wk) : Fm.wkL (l.take (i + 1)) d s = (l[i]).wk d (Fm.wkL (l.take i) d s) := by
  rw [List.take_succ_eq_append_getElem h, Fm.wkL_append, Fm.wkL, Fm.wkL]
theorem Rx.wkL_take (l : List Rx) (i : Nat) (h : i < l.length) (d : Int) (s : Wk) : Rx.wkL (l.take (i + 1)) d s = (l[i]).wk d (Rx.wkL (l.take i) d s) := by
  rw [List.take_succ_eq_append_getElem h, Rx.wkL_append, Rx.wkL, Rx.wkL]
set_option maxHeartbeats 8000000
theorem bgoal {a b : Bool} {hp : Heap} (h : (a = true) ↔ (b = true)) : some (AV.bool a, hp) = some (AV.bool b, hp) := by rw [Bool.eq_iff_iff.2 h]
theorem kind_cases (k : Int) : k = 3 ∨ k = 4 ∨ k = 5 ∨ k = 6 ∨ k = 7 ∨ k = 8 ∨ k = 9 ∨ k = 10 ∨ k = 11 ∨ k = 12 ∨ k = 13 ∨ k = 14 ∨ k = 15 ∨ k = 16 ∨ k = 17 ∨ k = 18 ∨ k = 19 ∨ k = 20 ∨ k = 21 ∨ k = 22 ∨ (k ≠ 3 ∧ k ≠ 4 ∧ k ≠ 5 ∧ k ≠ 6 ∧ k ≠ 7 ∧ k ≠ 8 ∧ k ≠ 9 ∧ k ≠ 10 ∧ k ≠ 11 ∧ k ≠ 12 ∧ k ≠ 13 ∧ k ≠ 14 ∧ k ≠ 15 ∧ k ≠ 16 ∧ k ≠ 17 ∧ k ≠ 18 ∧ k ≠ 19 ∧ k ≠ 20 ∧ k ≠ 21 ∧ k ≠ 22) := by omega
theorem p_form (k : Int) (hp : Heap) : CL X (fun _ => []) 97 [.int .i64 k] hp = some (.tup [.int .i64 (u1 k), .int .i64 (u2 k), .int .i64 (u3 k), .int .i64 (u4 k), .int .i64 (u5 k)], hp) := by
  rw [CL_eq (fn := x97) rfl]
  rcases kind_cases k with rfl | rfl | rfl | rfl | rfl | rfl | rfl | rfl | rfl | rfl | rfl | rfl | rfl | rfl | rfl | rfl | rfl | rfl | rfl | rfl | ⟨h3, h4, h5, h6, h7, h8, h9, h10, h11, h12, h13, h14, h15, h16, h17, h18, h19, h20, h21, h22⟩
  all_goals first
    | (simp +contextual -implicitDefEqProofs (maxSteps := 10000000) only [x97, go_sem, ↓reduceIte, reduceCtorEq, Nat.reduceEqDiff, Nat.reduceAdd, Int.reduceNeg, h3, h4, h5, h6, h7, h8, h9, h10, h11, h12, h13, h14, h15, h16, h17, h18, h19, h20, h21, h22]
       simp [u1, u2, u3, u4, u5, h3, h4, h5, h6, h7, h8, h9, h10, h11, h12, h13, h14, h15, h16, h17, h18, h19, h20, h21, h22])
    | (simp +contextual -implicitDefEqProofs (maxSteps := 10000000) only [x97, go_sem, ↓reduceIte, reduceCtorEq, Nat.reduceEqDiff, Nat.reduceAdd, Int.reduceNeg, Int.reduceBEq]
       rfl)
theorem p_most (k : Int) (hp : Heap) : CL X (fun _ => []) 76 [.int .i64 k] hp = some (.tup [.int .i64 (if k = 3 then 6 else 0), .int .i64 (if k = 20 ∨ k = 21 then 6 else if k = 10 ∨ k = 19 then 8 else 0)], hp) := by
  rw [CL_eq (fn := x76) rfl]
  rcases kind_cases k with rfl | rfl | rfl | rfl | rfl | rfl | rfl | rfl | rfl | rfl | rfl | rfl | rfl | rfl | rfl | rfl | rfl | rfl | rfl | rfl | ⟨h3, h4, h5, h6, h7, h8, h9, h10, h11, h12, h13, h14, h15, h16, h17, h18, h19, h20, h21, h22⟩
  all_goals first
    | (simp +contextual -implicitDefEqProofs (maxSteps := 10000000) only [x76, go_sem, ↓reduceIte, reduceCtorEq, Nat.reduceEqDiff, Nat.reduceAdd, h3, h10, h19, h20, h21]
       simp [])
    | (simp +contextual -implicitDefEqProofs (maxSteps := 10000000) only [x76, go_sem, ↓reduceIte, reduceCtorEq, Nat.reduceEqDiff, Nat.reduceAdd, Int.reduceEq, Int.reduceBEq]
       rfl)
def uA (k : Int) : AV := .agg [.bool (hasN k), .bool (hasO k), .bool (hasI k), .int .i64 (u2 k), .int .i64 (u3 k), .int .i64 (u4 k), .int .i64 (u5 k)]
theorem p_uses (k : Int) (hp : Heap) : CL X (fun _ => []) 84 [.int .i64 k] hp = some (uA k, hp) := by
  rw [CL_eq (fn := x84) rfl]
  rcases kind_cases k with rfl | rfl | rfl | rfl | rfl | rfl | rfl | rfl | rfl | rfl | rfl | rfl | rfl | rfl | rfl | rfl | rfl | rfl | rfl | rfl | ⟨h3, h4, h5, h6, h7, h8, h9, h10, h11, h12, h13, h14, h15, h16, h17, h18, h19, h20, h21, h22⟩
  all_goals first
    | (simp +contextual -implicitDefEqProofs (maxSteps := 10000000) only [x84, go_sem, ↓reduceIte, reduceCtorEq, Nat.reduceEqDiff, Nat.reduceAdd, Nat.reduceLeDiff, Int.reduceNeg, h3, h4, h5, h6, h7, h8, h9, h10, h11, h12, h13, h14, h15, h16, h17, h18, h19, h20, h21, h22]
       have i1 : (decide (11 ≤ k) && decide (k ≤ 18)) = false := by simp; omega
       simp [uA, u2, u3, u4, u5, hasN, hasO, hasI, i1, h3, h4, h5, h6, h7, h8, h9, h10, h11, h12, h13, h14, h15, h16, h17, h18, h19, h20, h21, h22])
    | (simp +contextual -implicitDefEqProofs (maxSteps := 10000000) only [x84, go_sem, ↓reduceIte, reduceCtorEq, Nat.reduceEqDiff, Nat.reduceAdd, Nat.reduceLeDiff, Int.reduceNeg, Int.reduceBEq]
       rfl)
theorem p_so (n : Nat) (w : Int) (hp : Heap) : CL X (fun _ => []) 85 [.int .i64 n, .int .i64 w] hp = some (.bool (cnt n w), hp) := by
  rw [CL_eq (fn := x85) rfl]
  by_cases h2 : w = -2
  · subst h2
    simp +contextual -implicitDefEqProofs (maxSteps := 10000000) only [x85, go_sem, ↓reduceIte, Nat.reduceEqDiff, Int.reduceNeg]
    rfl
  · by_cases h1 : w = -1
    · subst h1
      simp +contextual -implicitDefEqProofs (maxSteps := 10000000) only [x85, go_sem, ↓reduceIte, reduceCtorEq, Nat.reduceEqDiff, Int.reduceNeg, Int.reduceBEq]
      refine bgoal ?_
      simp [cnt]
      omega
    · simp +contextual -implicitDefEqProofs (maxSteps := 10000000) only [x85, go_sem, ↓reduceIte, reduceCtorEq, Nat.reduceEqDiff, Int.reduceNeg, h1, h2]
      refine bgoal ?_
      simp [cnt, h1, h2]
theorem p_rivl (lo hi : Int) (o : Bool) (hp : Heap) : CL X (fun _ => []) 88 [.agg [.int .i64 lo, .int .i64 hi, .bool o]] hp = some (.bool (ivl lo hi o), hp) := by
  rw [CL_eq (fn := x88) rfl]
  by_cases h1 : lo < 0
  · simp +contextual -implicitDefEqProofs (maxSteps := 10000000) only [x88, go_sem, ↓reduceIte, Nat.reduceEqDiff, Nat.reduceAdd, h1]
    refine bgoal ?_
    cases o <;> simp [ivl] <;> omega
  · by_cases h2 : 1099511627776 < lo
    · simp +contextual -implicitDefEqProofs (maxSteps := 10000000) only [x88, go_sem, ↓reduceIte, Nat.reduceEqDiff, Nat.reduceAdd, h1, h2]
      refine bgoal ?_
      cases o <;> simp [ivl] <;> omega
    · cases o
      · simp +contextual -implicitDefEqProofs (maxSteps := 10000000) only [x88, go_sem, ↓reduceIte, Nat.reduceEqDiff, Nat.reduceAdd, h1, h2]
        refine bgoal ?_
        simp [ivl]
        omega
      · simp +contextual -implicitDefEqProofs (maxSteps := 10000000) only [x88, go_sem, ↓reduceIte, Nat.reduceEqDiff, Nat.reduceAdd, h1, h2]
        refine bgoal ?_
        simp [ivl]
        omega
theorem p_ivl (lo hi : Int) (o : Bool) (hp : Heap) : CL X (fun _ => []) 101 [.agg [.int .i64 lo, .int .i64 hi, .bool o]] hp = some (.bool (ivl lo hi o), hp) := by
  rw [CL_eq (fn := x101) rfl]
  by_cases h1 : 0 ≤ lo
  · cases o
    · by_cases h2 : lo ≤ hi
      · simp +contextual -implicitDefEqProofs (maxSteps := 10000000) only [x101, go_sem, ↓reduceIte, Nat.reduceEqDiff, Nat.reduceAdd, h1, h2]
        refine bgoal ?_
        simp [ivl, h1, h2]
      · simp +contextual -implicitDefEqProofs (maxSteps := 10000000) only [x101, go_sem, ↓reduceIte, Nat.reduceEqDiff, Nat.reduceAdd, h1, h2]
        refine bgoal ?_
        simp [ivl, h1, h2]
    · by_cases h2 : lo ≤ 1099511627776
      · simp +contextual -implicitDefEqProofs (maxSteps := 10000000) only [x101, go_sem, ↓reduceIte, Nat.reduceEqDiff, Nat.reduceAdd, h1, h2]
        refine bgoal ?_
        simp [ivl, h1, h2]
      · simp +contextual -implicitDefEqProofs (maxSteps := 10000000) only [x101, go_sem, ↓reduceIte, Nat.reduceEqDiff, Nat.reduceAdd, h1, h2]
        refine bgoal ?_
        simp [ivl, h1, h2]
  · cases o
    · simp +contextual -implicitDefEqProofs (maxSteps := 10000000) only [x101, go_sem, ↓reduceIte, Nat.reduceEqDiff, Nat.reduceAdd, h1]
      refine bgoal ?_
      simp [ivl, h1]
    · simp +contextual -implicitDefEqProofs (maxSteps := 10000000) only [x101, go_sem, ↓reduceIte, Nat.reduceEqDiff, Nat.reduceAdd, h1]
      refine bgoal ?_
      simp [ivl, h1]
def cntL : List (Nat × Int) → Bool
  | [] => true
  | (n, w) :: l => cnt n w && cntL l
def prs : List (Nat × Int) → List (List AV)
  | [] => []
  | (n, w) :: l => [.int .i64 n] :: [.int .i64 w] :: prs l
theorem prs_len : ∀ l : List (Nat × Int), (prs l).length = 2 * l.length
  | [] => rfl
  | (n, w) :: l => by simp [prs, prs_len l]; omega
theorem prs_get : ∀ (l : List (Nat × Int)) (i : Nat) (h : i < l.length), (prs l).getD (2 * i) [] = [.int .i64 (l[i].1 : Int)] ∧ (prs l).getD (2 * i + 1) [] = [.int .i64 l[i].2]
  | (n, w) :: l, 0, _ => by simp [prs]
  | (n, w) :: l, i + 1, h => by
    have := prs_get l i (by simpa using h)
    rw [show 2 * (i + 1) = 2 * i + 1 + 1 by omega]
    simpa [prs] using this
theorem cntL_drop (l : List (Nat × Int)) (i : Nat) (h : i < l.length) : cntL (l.drop i) = (cnt l[i].1 l[i].2 && cntL (l.drop (i + 1))) := by
  rw [List.drop_eq_getElem_cons h, cntL]
theorem p_count (l : List (Nat × Int)) (hl : l.length ≤ 100) (hw : ∀ p ∈ l, p.2 = -2 ∨ p.2 = -1 ∨ 0 ≤ p.2) (o : Own) (ho : o = .none ∨ o = .tight) (hp : Heap) : CL X (fun _ => []) 98 [.lst o 1 (prs l)] hp = some (.bool (cntL l), hp) := by
  rw [CL_eq (fn := x98) rfl]
  have hlen := prs_len l
  have huf : uf (.lst o 1 (prs l)) = .lst o 1 (prs l) := by rcases ho with rfl | rfl <;> rfl
  simp +contextual -implicitDefEqProofs (maxSteps := 10000000) only [x98, go_sem, ↓reduceIte]
  obtain ⟨I, hI⟩ : ∃ I : Nat → List AV → Heap → Prop, ∀ i fr hp', I i fr hp' ↔ (hp' = [] :: hp ∧ fget fr 0 = .lst o 1 (prs l) ∧ fget fr 3 = .int .i64 ((2 * i : Nat) : Int) ∧ cntL l = cntL (l.drop i)) := ⟨_, fun _ _ _ => Iff.rfl⟩
  obtain ⟨Q, hQ⟩ : ∃ Q : XExit → List AV → Heap → Prop, ∀ e fr hp', Q e fr hp' ↔ (hp' = [] :: hp ∧ ((e = .exit 0 ∧ cntL l = true) ∨ (e = .ret ∧ cntL l = false ∧ fget fr 2 = .bool false))) := ⟨_, fun _ _ _ => Iff.rfl⟩
  refine LC_upK l.length I Q (fun r => finK _ (seqK (blockK 0 r) _) = _) ?_ ?_ ?_ ?_
  · rw [hI]
    refine ⟨rfl, ?_, ?_, by rw [List.drop_zero]⟩ <;> simp only [go_sem, ↓reduceIte, reduceCtorEq, Nat.mul_zero, Int.natCast_zero]
  · intro i hi fr hp' h
    obtain ⟨rfl, h0, h3, hd⟩ := (hI _ _ _).1 h
    have k1 : (((2 * i : Nat) : Int) < ((prs l).length : Int)) = True := by rw [hlen]; simp; omega
    have k2 : (2 * i < (prs l).length) = True := by rw [hlen]; simp; omega
    have k3 : (2 * i + 1 < (prs l).length) = True := by rw [hlen]; simp; omega
    obtain ⟨g1, g2⟩ := prs_get l i hi
    have w1 : wr .i64 (((2 * i : Nat) : Int) + 1) = ((2 * i + 1 : Nat) : Int) := by rw [wr_i64 _ (by omega)]; omega
    have w2 : wr .i64 (((2 * i : Nat) : Int) + 2) = ((2 * (i + 1) : Nat) : Int) := by rw [wr_i64 _ (by omega)]; omega
    have hc := cntL_drop l i hi
    have hwi := hw l[i] (List.getElem_mem hi)
    obtain ⟨n, hn⟩ : ∃ n, l[i].1 = n := ⟨_, rfl⟩
    obtain ⟨w, hw'⟩ : ∃ w, l[i].2 = w := ⟨_, rfl⟩
    rw [hn, hw'] at hc
    rw [hn] at g1
    rw [hw'] at g2 hwi
    have hfin : cntL l = (cnt n w && cntL (l.drop (i + 1))) := hd.trans hc
    by_cases c1 : 0 ≤ w
    · have e1 : (w = -1) = False := by simp; omega
      have e2 : (w = -2) = False := by simp; omega
      by_cases c2 : (n : Int) = w
      · simp +contextual -implicitDefEqProofs (maxSteps := 10000000) only [x98_l0_run, go_sem, ↓reduceIte, reduceCtorEq, Nat.reduceEqDiff, Int.reduceNeg, h0, h3, huf, k1, k2, k3, g1, g2, w1, w2, c1, c2, e1]
        have : cnt n w = true := by simp [cnt, c2, e1]
        rw [hI]
        refine ⟨rfl, ?_, ?_, by rw [hfin, this, Bool.true_and]⟩ <;> simp only [go_sem, ↓reduceIte, reduceCtorEq, Int.reduceNeg, h0]
      · simp +contextual -implicitDefEqProofs (maxSteps := 10000000) only [x98_l0_run, go_sem, ↓reduceIte, reduceCtorEq, Nat.reduceEqDiff, Int.reduceNeg, h0, h3, huf, k1, k2, k3, g1, g2, w1, c1, c2]
        have : cnt n w = false := by simp [cnt, c2, e1, e2]
        rw [hQ]
        refine ⟨rfl, .inr ⟨rfl, by rw [hfin, this, Bool.false_and], ?_⟩⟩
        simp only [go_sem, ↓reduceIte]
    · by_cases c3 : w = -1
      · by_cases c4 : n = 0
        · have c4' : ((n : Int) = 0) = True := by simp [c4]
          simp +contextual -implicitDefEqProofs (maxSteps := 10000000) only [x98_l0_run, go_sem, ↓reduceIte, reduceCtorEq, Nat.reduceEqDiff, Int.reduceLE, Int.reduceNeg, h0, h3, huf, k1, k2, k3, g1, g2, w1, c3, c4']
          have : cnt n w = false := by simp [cnt, c3, c4]
          rw [hQ]
          refine ⟨rfl, .inr ⟨rfl, by rw [hfin, this, Bool.false_and], ?_⟩⟩
          simp only [go_sem, ↓reduceIte, Int.reduceNeg]
        · have c4' : ((n : Int) = 0) = False := by simp [c4]
          simp +contextual -implicitDefEqProofs (maxSteps := 10000000) only [x98_l0_run, go_sem, ↓reduceIte, reduceCtorEq, Nat.reduceEqDiff, Int.reduceLE, Int.reduceNeg, h0, h3, huf, k1, k2, k3, g1, g2, w1, w2, c3, c4']
          have : cnt n w = true := by simp [cnt, c3, c4]
          rw [hI]
          refine ⟨rfl, ?_, ?_, by rw [hfin, this, Bool.true_and]⟩ <;> simp only [go_sem, ↓reduceIte, reduceCtorEq, Int.reduceNeg, h0]
      · have c5 : w = -2 := by omega
        simp +contextual -implicitDefEqProofs (maxSteps := 10000000) only [x98_l0_run, go_sem, ↓reduceIte, reduceCtorEq, Nat.reduceEqDiff, Int.reduceNeg, h0, h3, huf, k1, k2, k3, g1, g2, w1, w2, c1, c3]
        have : cnt n w = true := by simp [cnt, c5]
        rw [hI]
        refine ⟨rfl, ?_, ?_, by rw [hfin, this, Bool.true_and]⟩ <;> simp only [go_sem, ↓reduceIte, reduceCtorEq, Int.reduceNeg, h0]
  · intro fr hp' h
    obtain ⟨rfl, h0, h3, hd⟩ := (hI _ _ _).1 h
    have k1 : (((2 * l.length : Nat) : Int) < ((prs l).length : Int)) = False := by rw [hlen]; simp
    simp +contextual -implicitDefEqProofs (maxSteps := 10000000) only [x98_l0_run, go_sem, ↓reduceIte, reduceCtorEq, Nat.reduceEqDiff, Int.reduceNeg, h0, h3, huf, k1]
    rw [hQ]
    exact ⟨rfl, .inl ⟨rfl, by rw [hd, List.drop_length]; rfl⟩⟩
  · intro e fr hp' he h
    rcases (hQ _ _ _).1 h with ⟨rfl, ⟨rfl, h1⟩ | ⟨rfl, h1, h2⟩⟩
    · simp +contextual -implicitDefEqProofs (maxSteps := 10000000) only [go_sem, ↓reduceIte, h1]
    · simp +contextual -implicitDefEqProofs (maxSteps := 10000000) only [go_sem, h1, h2]
def idxP (p : List UInt8 → Bool) : List (List UInt8) → Nat → Int
  | [], _ => -1
  | w :: l, i => if p w then i else idxP p l (i + 1)
def lastP (x : List UInt8) (ws : List (List UInt8)) : Nat → Int
  | 0 => -1
  | m + 1 => if ws.getD m [] = x then (m : Int) else lastP x ws m
theorem idxP_drop (p : List UInt8 → Bool) (ws : List (List UInt8)) (i : Nat) (h : i < ws.length) : idxP p (ws.drop i) i = if p (ws.getD i []) then (i : Int) else idxP p (ws.drop (i + 1)) (i + 1) := by
  rw [List.drop_eq_getElem_cons h, idxP]
  simp [List.getD, h]
theorem idxP_any (p : List UInt8 → Bool) : ∀ (ws : List (List UInt8)) (i : Nat), decide (0 ≤ idxP p ws i) = ws.any p
  | [], i => by simp [idxP]
  | w :: l, i => by
    rw [idxP]
    by_cases h : p w
    · simp [h]
    · simp [h, idxP_any p l (i + 1)]
theorem tx_len (ws : List (List UInt8)) : (tx ws).length = ws.length := by simp [tx]
theorem tx_get (ws : List (List UInt8)) (i : Nat) (h : i < ws.length) : (tx ws).getD i [] = [.str (ws.getD i [])] := by simp [tx, List.getD, h]
theorem Sl.cases1 {x : AV} {ws : List (List UInt8)} (h : Sl 1 x (tx ws)) : (x = .nilsl ∧ ws = []) ∨ x = .lst .none 1 (tx ws) := by
  rcases h with ⟨h1, h2⟩ | h
  · exact .inl ⟨h1, by simpa [tx] using h2⟩
  · exact .inr h
theorem p_index (ws : List (List UInt8)) (x : List UInt8) (v : AV) (hv : Sl 1 v (tx ws)) (hm : ws.length ≤ 9223372036854775806) (hp : Heap) :
    CL X (fun _ => []) 93 [v, .str x] hp = some (.int .i64 (idxP (fun w => w == x) ws 0), hp) := by
  obtain ⟨p1, u1, n1, d1, f1⟩ := hv.one
  rw [tx_len] at n1
  rw [CL_eq (fn := x93) rfl]
  simp +contextual -implicitDefEqProofs (maxSteps := 10000000) only [x93, go_sem, ↓reduceIte, reduceCtorEq, Int.reduceNeg, u1, n1]
  obtain ⟨I, hI⟩ : ∃ I : Nat → List AV → Heap → Prop, ∀ i fr hp', I i fr hp' ↔ (hp' = [] :: hp ∧ fget fr 0 = v ∧ fget fr 1 = .str x ∧ fget fr 7 = .int .i64 ws.length ∧ fget fr 8 = .int .i64 (i : Nat) ∧ idxP (fun w => w == x) ws 0 = idxP (fun w => w == x) (ws.drop i) i) := ⟨_, fun _ _ _ => Iff.rfl⟩
  obtain ⟨Q, hQ⟩ : ∃ Q : XExit → List AV → Heap → Prop, ∀ e fr hp', Q e fr hp' ↔ (hp' = [] :: hp ∧ ((e = .exit 0 ∧ idxP (fun w => w == x) ws 0 = -1) ∨ (e = .ret ∧ fget fr 4 = .int .i64 (idxP (fun w => w == x) ws 0)))) := ⟨_, fun _ _ _ => Iff.rfl⟩
  refine LC_upK ws.length I Q (fun r => finK _ (seqK (blockK 0 r) _) = _) ?_ ?_ ?_ ?_
  · rw [hI]
    refine ⟨rfl, ?_, ?_, ?_, ?_, by rw [List.drop_zero]⟩ <;> simp only [go_sem, ↓reduceIte, reduceCtorEq, Nat.reduceEqDiff, Int.natCast_zero]
  · intro i hi fr hp' h
    obtain ⟨rfl, h0, h1, h7, h8, hd⟩ := (hI _ _ _).1 h
    have hv' : v = .lst .none 1 (tx ws) := hv.cases1.resolve_left (fun e => by rw [e.2] at hi; simp at hi)
    have k1 : ((i : Int) < (ws.length : Int)) = True := by simp; omega
    have k2 : (i < (tx ws).length) = True := by rw [tx_len]; simp; omega
    have g1 := tx_get ws i hi
    have w1 : wr .i64 ((i : Int) + 1) = ((i + 1 : Nat) : Int) := by rw [wr_i64 _ (by omega)]; omega
    rw [idxP_drop _ ws i hi] at hd
    obtain ⟨y, hy⟩ : ∃ y, ws.getD i [] = y := ⟨_, rfl⟩
    rw [hy] at hd g1
    by_cases c : y = x
    · have c' : (x = y) = True := by simp [c]
      simp +contextual -implicitDefEqProofs (maxSteps := 10000000) only [x93_l0_run, go_sem, ↓reduceIte, reduceCtorEq, Nat.reduceEqDiff, h0, h1, h7, h8, hv', k1, k2, g1, c']
      rw [hQ]
      refine ⟨rfl, .inr ⟨rfl, ?_⟩⟩
      simp only [go_sem, ↓reduceIte, hd, c, beq_self_eq_true]
    · have c' : (x = y) = False := by simp; exact fun e => c e.symm
      have c2 : (y == x) = false := by simp [c]
      simp +contextual -implicitDefEqProofs (maxSteps := 10000000) only [x93_l0_run, go_sem, ↓reduceIte, reduceCtorEq, Nat.reduceEqDiff, h0, h1, h7, h8, hv', k1, k2, g1, w1, c']
      rw [hI]
      refine ⟨rfl, ?_, ?_, ?_, ?_, by rw [hd, if_neg (by simp [c2])]⟩ <;> simp only [go_sem, ↓reduceIte, reduceCtorEq, Nat.reduceEqDiff, h0, h1, h7, hv']
  · intro fr hp' h
    obtain ⟨rfl, h0, h1, h7, h8, hd⟩ := (hI _ _ _).1 h
    simp +contextual -implicitDefEqProofs (maxSteps := 10000000) only [x93_l0_run, go_sem, ↓reduceIte, h7, h8, Int.lt_irrefl]
    rw [hQ]
    exact ⟨rfl, .inl ⟨rfl, by rw [hd, List.drop_length]; rfl⟩⟩
  · intro e fr hp' he h
    rcases (hQ _ _ _).1 h with ⟨rfl, ⟨rfl, h1⟩ | ⟨rfl, h1⟩⟩
    · simp +contextual -implicitDefEqProofs (maxSteps := 10000000) only [go_sem, ↓reduceIte, Int.reduceNeg, h1]
    · simp +contextual -implicitDefEqProofs (maxSteps := 10000000) only [go_sem, Int.reduceNeg, h1]
theorem p_contains (ws : List (List UInt8)) (x : List UInt8) (v : AV) (hv : Sl 1 v (tx ws)) (hm : ws.length ≤ 9223372036854775806) (hp : Heap) :
    CL X (fun _ => []) 70 [v, .str x] hp = some (.bool (ws.contains x), hp) := by
  have h1 := fun hp => p_index ws x v hv hm hp
  obtain ⟨p1, u1, n1, d1, f1⟩ := hv.one
  have hb : decide (0 ≤ idxP (fun w => w == x) ws 0) = ws.contains x := by
    rw [idxP_any, Bool.eq_iff_iff]
    simp
  rw [CL_eq (fn := x70) rfl]
  simp +contextual -implicitDefEqProofs (maxSteps := 10000000) only [x70, go_sem, ↓reduceIte, reduceCtorEq, Nat.reduceEqDiff, u1, f1, h1, hb]
theorem p_indexf (ws : List (List UInt8)) (p : List UInt8 → Bool) (f : Nat) (ds cs : List AV) (v : AV) (hv : Sl 1 v (tx ws)) (hm : ws.length ≤ 9223372036854775806) (hp : Heap)
    (hf : ∀ w ∈ ws, CL X (fun _ => []) f ((ds ++ [AV.str w] ++ cs).map uf) ([] :: hp) = some (.bool (p w), [] :: hp)) :
    CL X (fun _ => []) 92 [v, .fn f ds cs] hp = some (.int .i64 (idxP p ws 0), hp) := by
  obtain ⟨p1, u1, n1, d1, f1⟩ := hv.one
  rw [tx_len] at n1
  rw [CL_eq (fn := x92) rfl]
  simp +contextual -implicitDefEqProofs (maxSteps := 10000000) only [x92, go_sem, ↓reduceIte, reduceCtorEq, Int.reduceNeg, u1, n1]
  obtain ⟨I, hI⟩ : ∃ I : Nat → List AV → Heap → Prop, ∀ i fr hp', I i fr hp' ↔ (hp' = [] :: hp ∧ fget fr 0 = v ∧ fget fr 1 = .fn f ds cs ∧ fget fr 7 = .int .i64 ws.length ∧ fget fr 8 = .int .i64 (i : Nat) ∧ idxP p ws 0 = idxP p (ws.drop i) i) := ⟨_, fun _ _ _ => Iff.rfl⟩
  obtain ⟨Q, hQ⟩ : ∃ Q : XExit → List AV → Heap → Prop, ∀ e fr hp', Q e fr hp' ↔ (hp' = [] :: hp ∧ ((e = .exit 0 ∧ idxP p ws 0 = -1) ∨ (e = .ret ∧ fget fr 4 = .int .i64 (idxP p ws 0)))) := ⟨_, fun _ _ _ => Iff.rfl⟩
  refine LC_upK ws.length I Q (fun r => finK _ (seqK (blockK 0 r) _) = _) ?_ ?_ ?_ ?_
  · rw [hI]
    refine ⟨rfl, ?_, ?_, ?_, ?_, by rw [List.drop_zero]⟩ <;> simp only [go_sem, ↓reduceIte, reduceCtorEq, Nat.reduceEqDiff, Int.natCast_zero]
  · intro i hi fr hp' h
    obtain ⟨rfl, h0, h1, h7, h8, hd⟩ := (hI _ _ _).1 h
    have hv' : v = .lst .none 1 (tx ws) := hv.cases1.resolve_left (fun e => by rw [e.2] at hi; simp at hi)
    have k1 : ((i : Int) < (ws.length : Int)) = True := by simp; omega
    have k2 : (i < (tx ws).length) = True := by rw [tx_len]; simp; omega
    have g1 := tx_get ws i hi
    have w1 : wr .i64 ((i : Int) + 1) = ((i + 1 : Nat) : Int) := by rw [wr_i64 _ (by omega)]; omega
    have hw := hf (ws.getD i []) (by simp [List.getD, hi])
    rw [idxP_drop _ ws i hi] at hd
    obtain ⟨y, hy⟩ : ∃ y, ws.getD i [] = y := ⟨_, rfl⟩
    rw [hy] at hd g1 hw
    by_cases c : p y = true
    · rw [c] at hw
      simp +contextual -implicitDefEqProofs (maxSteps := 10000000) only [x92_l0_run, go_sem, ↓reduceIte, reduceCtorEq, Nat.reduceEqDiff, h0, h1, h7, h8, hv', k1, k2, g1, hw, o_calld, cwK_same]
      rw [hQ]
      refine ⟨rfl, .inr ⟨rfl, ?_⟩⟩
      simp only [go_sem, ↓reduceIte, hd, c]
    · have c2 : p y = false := by simpa using c
      rw [c2] at hw
      simp +contextual -implicitDefEqProofs (maxSteps := 10000000) only [x92_l0_run, go_sem, ↓reduceIte, reduceCtorEq, Nat.reduceEqDiff, h0, h1, h7, h8, hv', k1, k2, g1, w1, hw, o_calld, cwK_same]
      rw [hI]
      refine ⟨rfl, ?_, ?_, ?_, ?_, by rw [hd, if_neg (by simp [c2])]⟩ <;> simp only [go_sem, ↓reduceIte, reduceCtorEq, Nat.reduceEqDiff, h0, h1, h7, hv']
  · intro fr hp' h
    obtain ⟨rfl, h0, h1, h7, h8, hd⟩ := (hI _ _ _).1 h
    simp +contextual -implicitDefEqProofs (maxSteps := 10000000) only [x92_l0_run, go_sem, ↓reduceIte, h7, h8, Int.lt_irrefl]
    rw [hQ]
    exact ⟨rfl, .inl ⟨rfl, by rw [hd, List.drop_length]; rfl⟩⟩
  · intro e fr hp' he h
    rcases (hQ _ _ _).1 h with ⟨rfl, ⟨rfl, h1⟩ | ⟨rfl, h1⟩⟩
    · simp +contextual -implicitDefEqProofs (maxSteps := 10000000) only [go_sem, ↓reduceIte, Int.reduceNeg, h1]
    · simp +contextual -implicitDefEqProofs (maxSteps := 10000000) only [go_sem, Int.reduceNeg, h1]
theorem p_containsf (ws : List (List UInt8)) (p : List UInt8 → Bool) (f : Nat) (ds cs : List AV) (v : AV) (hv : Sl 1 v (tx ws)) (hm : ws.length ≤ 9223372036854775806) (hp : Heap)
    (hf : ∀ w ∈ ws, CL X (fun _ => []) f ((ds ++ [AV.str w] ++ cs).map uf) ([] :: [] :: hp) = some (.bool (p w), [] :: [] :: hp)) :
    CL X (fun _ => []) 99 [v, .fn f ds cs] hp = some (.bool (ws.any p), hp) := by
  have h1 := p_indexf ws p f ds cs v hv hm ([] :: hp) hf
  obtain ⟨p1, u1, n1, d1, f1⟩ := hv.one
  have hb := idxP_any p ws 0
  rw [CL_eq (fn := x99) rfl]
  simp +contextual -implicitDefEqProofs (maxSteps := 10000000) only [x99, go_sem, ↓reduceIte, reduceCtorEq, Nat.reduceEqDiff, u1, h1, hb, o_callw, cwK_same]
theorem p_last (ws : List (List UInt8)) (x : List UInt8) (v : AV) (hv : Sl 1 v (tx ws)) (hm : ws.length ≤ 9223372036854775806) (hp : Heap) :
    CL X (fun _ => []) 103 [v, .str x] hp = some (.int .i64 (lastP x ws ws.length), hp) := by
  obtain ⟨p1, u1, n1, d1, f1⟩ := hv.one
  rw [tx_len] at n1
  rw [CL_eq (fn := x103) rfl]
  have w0 : wr .i64 ((ws.length : Int) - 1) = (ws.length : Int) - 1 := wr_i64 _ (by omega)
  simp +contextual -implicitDefEqProofs (maxSteps := 10000000) only [x103, go_sem, ↓reduceIte, reduceCtorEq, Int.reduceNeg, u1, n1, w0]
  obtain ⟨I, hI⟩ : ∃ I : Nat → List AV → Heap → Prop, ∀ i fr hp', I i fr hp' ↔ (hp' = [] :: hp ∧ fget fr 0 = v ∧ fget fr 1 = .str x ∧ fget fr 5 = .int .i64 ((ws.length : Int) - 1 - i) ∧ lastP x ws ws.length = lastP x ws (ws.length - i)) := ⟨_, fun _ _ _ => Iff.rfl⟩
  obtain ⟨Q, hQ⟩ : ∃ Q : XExit → List AV → Heap → Prop, ∀ e fr hp', Q e fr hp' ↔ (hp' = [] :: hp ∧ ((e = .exit 0 ∧ lastP x ws ws.length = -1) ∨ (e = .ret ∧ fget fr 4 = .int .i64 (lastP x ws ws.length)))) := ⟨_, fun _ _ _ => Iff.rfl⟩
  refine LC_upK ws.length I Q (fun r => finK _ (seqK (blockK 0 r) _) = _) ?_ ?_ ?_ ?_
  · rw [hI]
    refine ⟨rfl, ?_, ?_, ?_, by rw [Nat.sub_zero]⟩ <;> simp only [go_sem, ↓reduceIte, reduceCtorEq, Nat.reduceEqDiff, Int.natCast_zero, Int.sub_zero]
  · intro i hi fr hp' h
    obtain ⟨rfl, h0, h1, h5, hd⟩ := (hI _ _ _).1 h
    have hv' : v = .lst .none 1 (tx ws) := hv.cases1.resolve_left (fun e => by rw [e.2] at hi; simp at hi)
    obtain ⟨j, hj⟩ : ∃ j, ws.length = i + j + 1 := ⟨ws.length - i - 1, by omega⟩
    have e5 : (ws.length : Int) - 1 - i = (j : Nat) := by omega
    rw [e5] at h5
    have k1 : ((0 : Int) ≤ (j : Int)) = True := by simp
    have k2 : (j < (tx ws).length) = True := by rw [tx_len]; simp; omega
    have g1 := tx_get ws j (by omega)
    have w1 : wr .i64 ((j : Int) - 1) = (ws.length : Int) - 1 - ((i + 1 : Nat) : Int) := by rw [wr_i64 _ (by omega)]; omega
    rw [show ws.length - i = j + 1 by omega, lastP] at hd
    obtain ⟨y, hy⟩ : ∃ y, ws.getD j [] = y := ⟨_, rfl⟩
    rw [hy] at hd g1
    by_cases c : y = x
    · simp +contextual -implicitDefEqProofs (maxSteps := 10000000) only [x103_l0_run, go_sem, ↓reduceIte, reduceCtorEq, Nat.reduceEqDiff, h0, h1, h5, hv', k1, k2, g1, c]
      rw [hQ]
      refine ⟨rfl, .inr ⟨rfl, ?_⟩⟩
      simp only [go_sem, ↓reduceIte, hd, c]
    · simp +contextual -implicitDefEqProofs (maxSteps := 10000000) only [x103_l0_run, go_sem, ↓reduceIte, reduceCtorEq, Nat.reduceEqDiff, h0, h1, h5, hv', k1, k2, g1, w1, c]
      rw [hI]
      refine ⟨rfl, ?_, ?_, ?_, by rw [hd, if_neg c, show ws.length - (i + 1) = j by omega]⟩ <;> simp only [go_sem, ↓reduceIte, reduceCtorEq, Nat.reduceEqDiff, h0, h1, hv']
  · intro fr hp' h
    obtain ⟨rfl, h0, h1, h5, hd⟩ := (hI _ _ _).1 h
    have k1 : ((0 : Int) ≤ (ws.length : Int) - 1 - (ws.length : Int)) = False := by simp; omega
    simp +contextual -implicitDefEqProofs (maxSteps := 10000000) only [x103_l0_run, go_sem, ↓reduceIte, h5, k1]
    rw [hQ]
    exact ⟨rfl, .inl ⟨rfl, by rw [hd, Nat.sub_self]; rfl⟩⟩
  · intro e fr hp' he h
    rcases (hQ _ _ _).1 h with ⟨rfl, ⟨rfl, h1⟩ | ⟨rfl, h1⟩⟩
    · simp +contextual -implicitDefEqProofs (maxSteps := 10000000) only [go_sem, ↓reduceIte, Int.reduceNeg, h1]
    · simp +contextual -implicitDefEqProofs (maxSteps := 10000000) only [go_sem, Int.reduceNeg, h1]
/-! ### twice -/
theorem idx_spec (x : List UInt8) : ∀ (ws : List (List UInt8)) (i : Nat), x ∈ ws → ∃ k, k < ws.length ∧ idxP (fun w => w == x) ws i = ((i + k : Nat) : Int) ∧ ws.getD k [] = x ∧ ∀ j, j < k → ws.getD j [] ≠ x
  | w :: l, i, h => by
    rw [idxP]
    by_cases c : w = x
    · exact ⟨0, by simp, by simp [c], by simp [c], fun j hj => by omega⟩
    · have h' : x ∈ l := by
        rcases List.mem_cons.1 h with e | h
        · exact absurd e.symm c
        · exact h
      obtain ⟨k, h1, h2, h3, h4⟩ := idx_spec x l (i + 1) h'
      refine ⟨k + 1, by simpa using h1, ?_, by simpa using h3, fun j hj => ?_⟩
      · simp only [c, beq_iff_eq, if_false]
        rw [h2]; congr 1; omega
      · cases j with
        | zero => simpa using c
        | succ j => simpa using h4 j (by omega)
theorem last_spec (x : List UInt8) (ws : List (List UInt8)) : ∀ m, (∃ j, j < m ∧ ws.getD j [] = x) → ∃ k, k < m ∧ lastP x ws m = (k : Int) ∧ ws.getD k [] = x ∧ ∀ j, k < j → j < m → ws.getD j [] ≠ x
  | 0, ⟨j, h, _⟩ => by omega
  | m + 1, ⟨j, hj, hx⟩ => by
    rw [lastP]
    by_cases c : ws.getD m [] = x
    · exact ⟨m, by omega, by rw [if_pos c], c, fun j h1 h2 => by omega⟩
    · have : j ≠ m := fun e => c (e ▸ hx)
      obtain ⟨k, h1, h2, h3, h4⟩ := last_spec x ws m ⟨j, by omega, hx⟩
      refine ⟨k, by omega, by rw [if_neg c]; exact h2, h3, fun i h5 h6 => ?_⟩
      by_cases e : i = m
      · rw [e]; exact c
      · exact h4 i h5 (by omega)
theorem dup_iff : ∀ ws : List (List UInt8), dup ws = true ↔ ∃ i j, i < j ∧ j < ws.length ∧ ws.getD i [] = ws.getD j []
  | [] => by simp [dup]
  | w :: l => by
    rw [dup, Bool.or_eq_true, dup_iff l]
    constructor
    · rintro (h | ⟨i, j, h1, h2, h3⟩)
      · have : w ∈ l := by simpa using h
        obtain ⟨k, hk, e⟩ := List.getElem_of_mem this
        exact ⟨0, k + 1, by omega, by simpa using hk, by simp [hk, e]⟩
      · exact ⟨i + 1, j + 1, by omega, by simpa using h2, by simpa using h3⟩
    · rintro ⟨i, j, h1, h2, h3⟩
      cases j with
      | zero => omega
      | succ j =>
        have hj : j < l.length := by simpa using h2
        cases i with
        | zero =>
          left
          have : w = l.getD j [] := by simpa using h3
          rw [this]
          simp [List.getD, hj]
        | succ i => exact .inr ⟨i, j, by omega, hj, by simpa using h3⟩
theorem twice_any (ws : List (List UInt8)) : (ws.any fun x => !decide (idxP (fun w => w == x) ws 0 = lastP x ws ws.length)) = dup ws := by
  rw [Bool.eq_iff_iff, dup_iff]
  simp only [List.any_eq_true, Bool.not_eq_true', decide_eq_false_iff_not]
  constructor
  · rintro ⟨x, hx, hne⟩
    obtain ⟨k, h1, h2, h3, h4⟩ := idx_spec x ws 0 hx
    obtain ⟨q, h5, h6, h7, h8⟩ := last_spec x ws ws.length ⟨k, h1, h3⟩
    rw [h2, h6] at hne
    have hkq : k ≠ q := fun e => hne (by rw [e]; simp)
    rcases Nat.lt_or_gt_of_ne hkq with h | h
    · exact ⟨k, q, h, h5, by rw [h3, h7]⟩
    · exact ⟨q, k, h, h1, by rw [h3, h7]⟩
  · rintro ⟨i, j, h1, h2, h3⟩
    have hx : ws.getD i [] ∈ ws := by simp [List.getD, show i < ws.length by omega]
    refine ⟨ws.getD i [], hx, ?_⟩
    obtain ⟨k, g1, g2, g3, g4⟩ := idx_spec (ws.getD i []) ws 0 hx
    obtain ⟨q, g5, g6, g7, g8⟩ := last_spec (ws.getD i []) ws ws.length ⟨i, by omega, rfl⟩
    rw [g2, g6]
    have a1 : ¬ i < k := fun h => g4 i h rfl
    have a2 : ¬ q < j := fun h => g8 j h h2 h3.symm
    omega
theorem p_twice1 (ws : List (List UInt8)) (x : List UInt8) (v : AV) (hv : Sl 1 v (tx ws)) (hm : ws.length ≤ 9223372036854775806) (r : Ref) (hp : Heap) (hc : cellsAt hp r = some [v]) :
    CL X (fun _ => []) 102 [.str x, .ptr r 0] hp = some (.bool (!decide (idxP (fun w => w == x) ws 0 = lastP x ws ws.length)), hp) := by
  have h1 := fun hp => p_index ws x v hv hm hp
  have h2 := fun hp => p_last ws x v hv hm hp
  obtain ⟨p1, u1, n1, d1, f1⟩ := hv.one
  have hne := cellsAt_ne hc
  rw [CL_eq (fn := x102) rfl]
  have e : ∀ a b : Int, (a != b) = !decide (a = b) := fun a b => by by_cases h : a = b <;> simp [h]
  simp +contextual -implicitDefEqProofs (maxSteps := 10000000) only [x102, go_sem, ↓reduceIte, reduceCtorEq, Nat.reduceEqDiff, u1, f1, h1, h2, hc, hne, ldAt_cons, e]
theorem p_twice (ws : List (List UInt8)) (v : AV) (hv : Sl 1 v (tx ws)) (hm : ws.length ≤ 9223372036854775806) (hp : Heap) : CL X (fun _ => []) 78 [v] hp = some (.bool (dup ws), hp) := by
  obtain ⟨p1, u1, n1, d1, f1⟩ := hv.one
  have hc1 : cellsOf v = [v] := by rcases hv with ⟨rfl, _⟩ | rfl <;> rfl
  have hl : lcells (lputc [] 1 0 [v]) 1 0 = some [v] := by rw [lcells_put]; simp
  have key : ∀ w ∈ ws, CL X (fun _ => []) 102 (([] ++ [AV.str w] ++ [AV.ptr ⟨hp.length, 1, 0⟩ 0]).map uf) ([] :: [] :: lputc [] 1 0 [v] :: hp) = some (.bool (!decide (idxP (fun y => y == w) ws 0 = lastP w ws ws.length)), [] :: [] :: lputc [] 1 0 [v] :: hp) := by
    intro w _
    refine p_twice1 ws w v hv hm ⟨hp.length, 1, 0⟩ _ ?_
    rw [cellsAt_cons (by simp; omega), cellsAt_cons (by simp), cellsAt_top]
    exact hl
  have h1 := p_containsf ws _ 102 [] [.ptr ⟨hp.length, 1, 0⟩ 0] v hv hm (lputc [] 1 0 [v] :: hp) key
  rw [twice_any] at h1
  rw [CL_eq (fn := x78) rfl]
  simp +contextual -implicitDefEqProofs (maxSteps := 10000000) only [x78, go_sem, ↓reduceIte, Nat.reduceEqDiff, u1, p1, hc1, h1, o_callw, o_mkfn, cwK_same]
theorem p_has (ws : List (List UInt8)) (x : List UInt8) (v : AV) (hv : Sl 1 v (tx ws)) (hm : ws.length ≤ 9223372036854775806) (hp : Heap) :
    CL X (fun _ => []) 57 [v, .str x] hp = some (.bool (ws.contains x), hp) := by
  obtain ⟨p1, u1, n1, d1, f1⟩ := hv.one
  rw [tx_len] at n1
  rw [CL_eq (fn := x57) rfl]
  simp +contextual -implicitDefEqProofs (maxSteps := 10000000) only [x57, go_sem, ↓reduceIte]
  obtain ⟨I, hI⟩ : ∃ I : Nat → List AV → Heap → Prop, ∀ i fr hp', I i fr hp' ↔ (hp' = [] :: hp ∧ fget fr 0 = v ∧ fget fr 1 = .str x ∧ fget fr 5 = .int .i64 (i : Nat) ∧ ws.contains x = (ws.drop i).contains x) := ⟨_, fun _ _ _ => Iff.rfl⟩
  obtain ⟨Q, hQ⟩ : ∃ Q : XExit → List AV → Heap → Prop, ∀ e fr hp', Q e fr hp' ↔ (hp' = [] :: hp ∧ ((e = .exit 0 ∧ ws.contains x = false) ∨ (e = .ret ∧ ws.contains x = true ∧ fget fr 4 = .bool true))) := ⟨_, fun _ _ _ => Iff.rfl⟩
  refine LC_upK ws.length I Q (fun r => finK _ (seqK (blockK 0 r) _) = _) ?_ ?_ ?_ ?_
  · rw [hI]
    refine ⟨rfl, ?_, ?_, ?_, by rw [List.drop_zero]⟩ <;> simp only [go_sem, ↓reduceIte, reduceCtorEq, Nat.reduceEqDiff, Int.natCast_zero]
  · intro i hi fr hp' h
    obtain ⟨rfl, h0, h1, h5, hd⟩ := (hI _ _ _).1 h
    have hv' : v = .lst .none 1 (tx ws) := hv.cases1.resolve_left (fun e => by rw [e.2] at hi; simp at hi)
    have k1 : ((i : Int) < ((tx ws).length : Int)) = True := by rw [tx_len]; simp; omega
    have k2 : (i < (tx ws).length) = True := by rw [tx_len]; simp; omega
    have g1 := tx_get ws i hi
    have w1 : wr .i64 ((i : Int) + 1) = ((i + 1 : Nat) : Int) := by rw [wr_i64 _ (by omega)]; omega
    have hdr : (ws.drop i).contains x = (x == ws.getD i [] || (ws.drop (i + 1)).contains x) := by
      rw [List.drop_eq_getElem_cons hi, List.contains_cons]
      simp [List.getD, hi]
    obtain ⟨y, hy⟩ : ∃ y, ws.getD i [] = y := ⟨_, rfl⟩
    rw [hy] at g1 hdr
    rw [hdr] at hd
    by_cases c : y = x
    · simp +contextual -implicitDefEqProofs (maxSteps := 10000000) only [x57_l0_run, go_sem, ↓reduceIte, reduceCtorEq, Nat.reduceEqDiff, h0, h1, h5, hv', k1, k2, g1, c]
      rw [hQ]
      refine ⟨rfl, .inr ⟨rfl, by rw [hd, c]; simp, ?_⟩⟩
      simp only [go_sem, ↓reduceIte]
    · have c2 : (x == y) = false := by simp; exact fun e => c e.symm
      simp +contextual -implicitDefEqProofs (maxSteps := 10000000) only [x57_l0_run, go_sem, ↓reduceIte, reduceCtorEq, Nat.reduceEqDiff, h0, h1, h5, hv', k1, k2, g1, w1, c]
      rw [hI]
      refine ⟨rfl, ?_, ?_, ?_, by rw [hd, c2, Bool.false_or]⟩ <;> simp only [go_sem, ↓reduceIte, reduceCtorEq, Nat.reduceEqDiff, h0, h1, hv']
  · intro fr hp' h
    obtain ⟨rfl, h0, h1, h5, hd⟩ := (hI _ _ _).1 h
    simp +contextual -implicitDefEqProofs (maxSteps := 10000000) only [x57_l0_run, go_sem, ↓reduceIte, reduceCtorEq, Nat.reduceEqDiff, h0, u1, n1, h5, Int.lt_irrefl]
    rw [hQ]
    exact ⟨rfl, .inl ⟨rfl, by rw [hd, List.drop_length]; rfl⟩⟩
  · intro e fr hp' he h
    rcases (hQ _ _ _).1 h with ⟨rfl, ⟨rfl, h1⟩ | ⟨rfl, h1, h2⟩⟩
    · simp +contextual -implicitDefEqProofs (maxSteps := 10000000) only [go_sem, ↓reduceIte, h1]
    · simp +contextual -implicitDefEqProofs (maxSteps := 10000000) only [go_sem, h1, h2]
theorem p_rnames (ws : List (List UInt8)) (v : AV) (hv : Sl 1 v (tx ws)) (hm : ws.length ≤ 9223372036854775806) (hp : Heap) :
    CL X (fun _ => []) 87 [v] hp = some (.bool (ws.all nameB), hp) := by
  obtain ⟨p1, u1, n1, d1, f1⟩ := hv.one
  rw [tx_len] at n1
  rw [CL_eq (fn := x87) rfl]
  simp +contextual -implicitDefEqProofs (maxSteps := 10000000) only [x87, go_sem, ↓reduceIte]
  obtain ⟨I, hI⟩ : ∃ I : Nat → List AV → Heap → Prop, ∀ i fr hp', I i fr hp' ↔ (hp' = [] :: hp ∧ fget fr 0 = v ∧ fget fr 3 = .int .i64 (i : Nat) ∧ ws.all nameB = (ws.drop i).all nameB) := ⟨_, fun _ _ _ => Iff.rfl⟩
  obtain ⟨Q, hQ⟩ : ∃ Q : XExit → List AV → Heap → Prop, ∀ e fr hp', Q e fr hp' ↔ (hp' = [] :: hp ∧ ((e = .exit 0 ∧ ws.all nameB = true) ∨ (e = .ret ∧ ws.all nameB = false ∧ fget fr 2 = .bool false))) := ⟨_, fun _ _ _ => Iff.rfl⟩
  refine LC_upK ws.length I Q (fun r => finK _ (seqK (blockK 0 r) _) = _) ?_ ?_ ?_ ?_
  · rw [hI]
    refine ⟨rfl, ?_, ?_, by rw [List.drop_zero]⟩ <;> simp only [go_sem, ↓reduceIte, reduceCtorEq, Int.natCast_zero]
  · intro i hi fr hp' h
    obtain ⟨rfl, h0, h3, hd⟩ := (hI _ _ _).1 h
    have hv' : v = .lst .none 1 (tx ws) := hv.cases1.resolve_left (fun e => by rw [e.2] at hi; simp at hi)
    have k1 : ((i : Int) < ((tx ws).length : Int)) = True := by rw [tx_len]; simp; omega
    have k2 : (i < (tx ws).length) = True := by rw [tx_len]; simp; omega
    have g1 := tx_get ws i hi
    have w1 : wr .i64 ((i : Int) + 1) = ((i + 1 : Nat) : Int) := by rw [wr_i64 _ (by omega)]; omega
    have hdr : (ws.drop i).all nameB = (nameB (ws.getD i []) && (ws.drop (i + 1)).all nameB) := by
      rw [List.drop_eq_getElem_cons hi, List.all_cons]
      simp [List.getD, hi]
    obtain ⟨y, hy⟩ : ∃ y, ws.getD i [] = y := ⟨_, rfl⟩
    rw [hy] at g1 hdr
    rw [hdr] at hd
    have hn := p_rname y
    by_cases c : nameB y = true
    · rw [c] at hn hd
      simp +contextual -implicitDefEqProofs (maxSteps := 10000000) only [x87_l0_run, go_sem, ↓reduceIte, reduceCtorEq, Nat.reduceEqDiff, h0, h3, hv', k1, k2, g1, w1, hn]
      rw [hI]
      refine ⟨rfl, ?_, ?_, by rw [hd, Bool.true_and]⟩ <;> simp only [go_sem, ↓reduceIte, reduceCtorEq, h0, hv']
    · have c2 : nameB y = false := by simpa using c
      rw [c2] at hn hd
      simp +contextual -implicitDefEqProofs (maxSteps := 10000000) only [x87_l0_run, go_sem, ↓reduceIte, reduceCtorEq, Nat.reduceEqDiff, h0, h3, hv', k1, k2, g1, hn]
      rw [hQ]
      refine ⟨rfl, .inr ⟨rfl, by rw [hd, Bool.false_and], ?_⟩⟩
      simp only [go_sem, ↓reduceIte]
  · intro fr hp' h
    obtain ⟨rfl, h0, h3, hd⟩ := (hI _ _ _).1 h
    simp +contextual -implicitDefEqProofs (maxSteps := 10000000) only [x87_l0_run, go_sem, ↓reduceIte, reduceCtorEq, Nat.reduceEqDiff, h0, u1, n1, h3, Int.lt_irrefl]
    rw [hQ]
    exact ⟨rfl, .inl ⟨rfl, by rw [hd, List.drop_length]; rfl⟩⟩
  · intro e fr hp' he h
    rcases (hQ _ _ _).1 h with ⟨rfl, ⟨rfl, h1⟩ | ⟨rfl, h1, h2⟩⟩
    · simp +contextual -implicitDefEqProofs (maxSteps := 10000000) only [go_sem, ↓reduceIte, h1]
    · simp +contextual -implicitDefEqProofs (maxSteps := 10000000) only [go_sem, h1, h2]
def dupT (ws : List (List UInt8)) : Nat → Bool
  | 0 => false
  | i + 1 => dupT ws i || (ws.take i).contains (ws.getD i [])
theorem dupT_iff (ws : List (List UInt8)) : ∀ n, n ≤ ws.length → (dupT ws n = true ↔ ∃ i j, i < j ∧ j < n ∧ ws.getD i [] = ws.getD j [])
  | 0, _ => by simp [dupT]
  | n + 1, h => by
    rw [dupT, Bool.or_eq_true, dupT_iff ws n (by omega)]
    constructor
    · rintro (⟨i, j, h1, h2, h3⟩ | h1)
      · exact ⟨i, j, h1, by omega, h3⟩
      · have : ws.getD n [] ∈ ws.take n := by simpa using h1
        obtain ⟨k, hk, e⟩ := List.getElem_of_mem this
        have hk' : k < n := by simp at hk; omega
        refine ⟨k, n, hk', by omega, ?_⟩
        rw [← e]
        simp [List.getD, show k < ws.length by omega]
    · rintro ⟨i, j, h1, h2, h3⟩
      by_cases e : j = n
      · subst e
        right
        rw [← h3]
        have : (ws.take j)[i]? = some (ws.getD i []) := by simp [List.getD, h1, show i < ws.length by omega]
        simpa using List.mem_of_getElem? this
      · exact .inl ⟨i, j, h1, by omega, h3⟩
theorem dupT_all (ws : List (List UInt8)) : dupT ws ws.length = dup ws := by
  rw [Bool.eq_iff_iff, dup_iff, dupT_iff ws _ (Nat.le_refl _)]
theorem dupT_mono (ws : List (List UInt8)) (i : Nat) (h : dupT ws i = true) : ∀ m, dupT ws (i + m) = true
  | 0 => h
  | m + 1 => by rw [show i + (m + 1) = i + m + 1 by omega, dupT, dupT_mono ws i h m, Bool.true_or]
theorem p_rtwice (ws : List (List UInt8)) (v : AV) (hv : Sl 1 v (tx ws)) (hm : ws.length ≤ 9223372036854775806) (hp : Heap) :
    CL X (fun _ => []) 56 [v] hp = some (.bool (dup ws), hp) := by
  obtain ⟨p1, u1, n1, d1, f1⟩ := hv.one
  rw [tx_len] at n1
  rw [← dupT_all]
  rw [CL_eq (fn := x56) rfl]
  simp +contextual -implicitDefEqProofs (maxSteps := 10000000) only [x56, go_sem, ↓reduceIte]
  obtain ⟨I, hI⟩ : ∃ I : Nat → List AV → Heap → Prop, ∀ i fr hp', I i fr hp' ↔ (hp' = [] :: hp ∧ fget fr 0 = v ∧ fget fr 3 = .int .i64 (i : Nat) ∧ dupT ws i = false) := ⟨_, fun _ _ _ => Iff.rfl⟩
  obtain ⟨Q, hQ⟩ : ∃ Q : XExit → List AV → Heap → Prop, ∀ e fr hp', Q e fr hp' ↔ (hp' = [] :: hp ∧ ((e = .exit 0 ∧ dupT ws ws.length = false) ∨ (e = .ret ∧ dupT ws ws.length = true ∧ fget fr 2 = .bool true))) := ⟨_, fun _ _ _ => Iff.rfl⟩
  refine LC_upK ws.length I Q (fun r => finK _ (seqK (blockK 0 r) _) = _) ?_ ?_ ?_ ?_
  · rw [hI]
    refine ⟨rfl, ?_, ?_, rfl⟩ <;> simp only [go_sem, ↓reduceIte, reduceCtorEq, Int.natCast_zero]
  · intro i hi fr hp' h
    obtain ⟨rfl, h0, h3, hd⟩ := (hI _ _ _).1 h
    have hv' : v = .lst .none 1 (tx ws) := hv.cases1.resolve_left (fun e => by rw [e.2] at hi; simp at hi)
    have k1 : ((i : Int) < ((tx ws).length : Int)) = True := by rw [tx_len]; simp; omega
    have k2 : (i < (tx ws).length) = True := by rw [tx_len]; simp; omega
    have k3 : (i ≤ (tx ws).length) = True := by rw [tx_len]; simp; omega
    have g1 := tx_get ws i hi
    have w1 : wr .i64 ((i : Int) + 1) = ((i + 1 : Nat) : Int) := by rw [wr_i64 _ (by omega)]; omega
    have ht : (tx ws).take i = tx (ws.take i) := by simp [tx]
    have hh := fun x hp => p_has (ws.take i) x (.lst .none 1 (tx (ws.take i))) (.inr rfl) (by simp; omega) hp
    have hdr : dupT ws (i + 1) = (ws.take i).contains (ws.getD i []) := by rw [dupT, hd, Bool.false_or]
    obtain ⟨y, hy⟩ : ∃ y, ws.getD i [] = y := ⟨_, rfl⟩
    rw [hy] at g1 hdr
    have hy' := hh y
    by_cases c : (ws.take i).contains y = true
    · rw [c] at hdr
      simp only [c] at hy'
      simp +contextual -implicitDefEqProofs (maxSteps := 10000000) only [x56_l0_run, go_sem, ↓reduceIte, reduceCtorEq, Nat.reduceEqDiff, h0, h3, hv', k1, k2, k3, g1, ht, hy', o_ssl, sslK_hi]
      rw [hQ]
      have := dupT_mono ws (i + 1) hdr (ws.length - (i + 1))
      rw [show i + 1 + (ws.length - (i + 1)) = ws.length by omega] at this
      refine ⟨rfl, .inr ⟨rfl, this, ?_⟩⟩
      simp only [go_sem, ↓reduceIte]
    · have c2 : (ws.take i).contains y = false := by simpa using c
      rw [c2] at hdr
      simp only [c2] at hy'
      simp +contextual -implicitDefEqProofs (maxSteps := 10000000) only [x56_l0_run, go_sem, ↓reduceIte, reduceCtorEq, Nat.reduceEqDiff, h0, h3, hv', k1, k2, k3, g1, w1, ht, hy', o_ssl, sslK_hi]
      rw [hI]
      refine ⟨rfl, ?_, ?_, hdr⟩ <;> simp only [go_sem, ↓reduceIte, reduceCtorEq, h0, hv']
  · intro fr hp' h
    obtain ⟨rfl, h0, h3, hd⟩ := (hI _ _ _).1 h
    simp +contextual -implicitDefEqProofs (maxSteps := 10000000) only [x56_l0_run, go_sem, ↓reduceIte, reduceCtorEq, Nat.reduceEqDiff, h0, u1, n1, h3, Int.lt_irrefl]
    rw [hQ]
    exact ⟨rfl, .inl ⟨rfl, hd⟩⟩
  · intro e fr hp' he h
    rcases (hQ _ _ _).1 h with ⟨rfl, ⟨rfl, h1⟩ | ⟨rfl, h1, h2⟩⟩
    · simp +contextual -implicitDefEqProofs (maxSteps := 10000000) only [go_sem, ↓reduceIte, h1]
    · simp +contextual -implicitDefEqProofs (maxSteps := 10000000) only [go_sem, h1, h2]
def fA (k : Int) (n : List UInt8) (op : Int) (v t : AV) (lo hi : Int) (o : Bool) (s r : AV) : AV := .agg [.int .i64 k, .str n, .int .i64 op, v, t, .int .i64 lo, .int .i64 hi, .bool o, s, r]
theorem p_many (k : Int) (n : List UInt8) (op : Int) (v t : AV) (lo hi : Int) (o : Bool) (s r : AV) (es fs gs hs : List (List AV)) (hv : Sl 1 v es) (ht : Sl 7 t fs) (hs' : Sl 10 s gs) (hr : Sl 3 r hs) (hp : Heap) :
    CL X (fun _ => []) 53 [fA k n op v t lo hi o s r] hp = some (.bool (manyB k fs.length es.length), hp) := by
  obtain ⟨p1, u1, n1, d1, f1⟩ := hv.one
  obtain ⟨p2, u2, n2, d2, f2⟩ := ht.one
  obtain ⟨p3, u3, n3, d3, f3⟩ := hs'.one
  obtain ⟨p4, u4, n4, d4, f4⟩ := hr.one
  rw [CL_eq (fn := x53) rfl]
  by_cases h3 : k = 3
  · subst h3
    simp +contextual -implicitDefEqProofs (maxSteps := 10000000) only [x53, fA, go_sem, ↓reduceIte, Nat.reduceEqDiff, Nat.reduceAdd, Int.reduceBEq, u1, u2, u3, u4, p1, p2, p3, p4, n1, n2]
    refine bgoal ?_
    simp [manyB]
    omega
  by_cases h20 : k = 20
  · subst h20
    simp +contextual -implicitDefEqProofs (maxSteps := 10000000) only [x53, fA, go_sem, ↓reduceIte, Nat.reduceEqDiff, Nat.reduceAdd, Int.reduceBEq, u1, u2, u3, u4, p1, p2, p3, p4, n1, n2]
    refine bgoal ?_
    simp [manyB]
    omega
  by_cases h21 : k = 21
  · subst h21
    simp +contextual -implicitDefEqProofs (maxSteps := 10000000) only [x53, fA, go_sem, ↓reduceIte, Nat.reduceEqDiff, Nat.reduceAdd, Int.reduceBEq, u1, u2, u3, u4, p1, p2, p3, p4, n1, n2]
    refine bgoal ?_
    simp [manyB]
    omega
  by_cases h10 : k = 10
  · subst h10
    simp +contextual -implicitDefEqProofs (maxSteps := 10000000) only [x53, fA, go_sem, ↓reduceIte, Nat.reduceEqDiff, Nat.reduceAdd, Int.reduceBEq, u1, u2, u3, u4, p1, p2, p3, p4, n1, n2]
    refine bgoal ?_
    simp [manyB]
    omega
  by_cases h19 : k = 19
  · subst h19
    simp +contextual -implicitDefEqProofs (maxSteps := 10000000) only [x53, fA, go_sem, ↓reduceIte, Nat.reduceEqDiff, Nat.reduceAdd, Int.reduceBEq, u1, u2, u3, u4, p1, p2, p3, p4, n1, n2]
    refine bgoal ?_
    simp [manyB]
    omega
  simp +contextual -implicitDefEqProofs (maxSteps := 10000000) only [x53, fA, go_sem, ↓reduceIte, Nat.reduceEqDiff, Nat.reduceAdd, u1, u2, u3, u4, p1, p2, p3, p4, n1, n2, h3, h20, h21, h10, h19]
  refine bgoal ?_
  simp [manyB, h3, h20, h21, h10, h19]
theorem u1_cases (k : Int) : (hasN k = false ∧ hasO k = false ∧ hasI k = false ∧ u1 k = 0) ∨ (hasN k = true ∧ hasO k = false ∧ hasI k = false ∧ u1 k = 1) ∨ (hasN k = true ∧ hasO k = true ∧ hasI k = false ∧ u1 k = 3) ∨ (hasN k = false ∧ hasO k = false ∧ hasI k = true ∧ u1 k = 4) := by
  unfold hasN hasO hasI u1
  by_cases h : k = 3
  · subst h; simp
  by_cases h1 : k = 19
  · subst h1; simp
  by_cases h2 : k = 20
  · subst h2; simp
  by_cases h3 : k = 21
  · subst h3; simp
  by_cases h4 : 11 ≤ k ∧ k ≤ 18
  · have : k = 11 ∨ k = 12 ∨ k = 13 ∨ k = 14 ∨ k = 15 ∨ k = 16 ∨ k = 17 ∨ k = 18 := by omega
    simp [h, h1, h2, h3, h4.1, h4.2, this]
  · have : ¬ (k = 11 ∨ k = 12 ∨ k = 13 ∨ k = 14 ∨ k = 15 ∨ k = 16 ∨ k = 17 ∨ k = 18) := by omega
    simp [h, h1, h2, h3, this]
    omega
theorem and_facts : ints .i64 .and 0 1 = some (.int .i64 0) ∧ ints .i64 .and 0 2 = some (.int .i64 0) ∧ ints .i64 .and 0 4 = some (.int .i64 0) ∧ ints .i64 .and 1 1 = some (.int .i64 1) ∧ ints .i64 .and 1 2 = some (.int .i64 0) ∧ ints .i64 .and 1 4 = some (.int .i64 0) ∧
    ints .i64 .and 3 1 = some (.int .i64 1) ∧ ints .i64 .and 3 2 = some (.int .i64 2) ∧ ints .i64 .and 3 4 = some (.int .i64 0) ∧ ints .i64 .and 4 1 = some (.int .i64 0) ∧ ints .i64 .and 4 2 = some (.int .i64 0) ∧ ints .i64 .and 4 4 = some (.int .i64 4) :=
  ⟨rfl, rfl, rfl, rfl, rfl, rfl, rfl, rfl, rfl, rfl, rfl, rfl⟩
theorem u_nn (k : Int) : (u2 k = -2 ∨ u2 k = -1 ∨ 0 ≤ u2 k) ∧ (u3 k = -2 ∨ u3 k = -1 ∨ 0 ≤ u3 k) ∧ (u4 k = -2 ∨ u4 k = -1 ∨ 0 ≤ u4 k) ∧ (u5 k = -2 ∨ u5 k = -1 ∨ 0 ≤ u5 k) := by
  unfold u2 u3 u4 u5
  refine ⟨?_, ?_, ?_, ?_⟩ <;> (repeat' split) <;> omega
theorem p_formed1 (x : List UInt8) (hp : Heap) : CL X (fun _ => []) 100 [.str x] hp = some (.bool (!nameB x), hp) := by
  have h := p_name x
  rw [CL_eq (fn := x100) rfl]
  simp +contextual -implicitDefEqProofs (maxSteps := 10000000) only [x100, go_sem, ↓reduceIte, reduceCtorEq, h]
theorem any_not (ws : List (List UInt8)) : (ws.any fun x => !nameB x) = !(ws.all nameB) := by
  induction ws with
  | nil => rfl
  | cons w l ih => rw [List.any_cons, List.all_cons, ih, Bool.not_and]
theorem p_formed (k : Int) (n : List UInt8) (op : Int) (v t : AV) (lo hi : Int) (o : Bool) (s r : AV) (vs : List (List UInt8)) (fs gs hs : List (List AV)) (hv : Sl 1 v (tx vs)) (ht : Sl 7 t fs) (hs' : Sl 10 s gs) (hr : Sl 3 r hs)
    (hm : vs.length ≤ 9223372036854775806) (hp : Heap) :
    CL X (fun _ => []) 77 [fA k n op v t lo hi o s r] hp = some (.bool (cntB k vs.length fs.length gs.length hs.length && vs.all nameB && fldB k n op lo hi o), hp) := by
  obtain ⟨p1, q1, n1, d1, f1⟩ := hv.one
  obtain ⟨p2, q2, n2, d2, f2⟩ := ht.one
  obtain ⟨p3, q3, n3, d3, f3⟩ := hs'.one
  obtain ⟨p4, q4, n4, d4, f4⟩ := hr.one
  rw [tx_len] at n1
  have hform := fun hp => p_form k hp
  have hname := p_name n
  have hivl := fun hp => p_ivl lo hi o hp
  obtain ⟨w2, w3, w4, w5⟩ := u_nn k
  have hcount : ∀ hp, CL X (fun _ => []) 98 [.lst .tight 1 [[.int .i64 vs.length], [.int .i64 (u2 k)], [.int .i64 fs.length], [.int .i64 (u3 k)], [.int .i64 gs.length], [.int .i64 (u4 k)], [.int .i64 hs.length], [.int .i64 (u5 k)]]] hp = some (.bool (cntB k vs.length fs.length gs.length hs.length), hp) := by
    intro hp
    have := p_count [(vs.length, u2 k), (fs.length, u3 k), (gs.length, u4 k), (hs.length, u5 k)] (by simp) (by intro p hp; simp at hp; rcases hp with rfl | rfl | rfl | rfl <;> assumption) .tight (.inr rfl) hp
    simp only [prs, cntL, Bool.and_true] at this
    rw [this]
    simp only [cntB, Bool.and_assoc]
  have hany := fun hp => p_containsf vs (fun x => !nameB x) 100 [] [] v hv hm hp (fun w _ => p_formed1 w _)
  simp only [any_not] at hany
  obtain ⟨a1, a2, a3, a4, a5, a6, a7, a8, a9, a10, a11, a12⟩ := and_facts
  rw [CL_eq (fn := x77) rfl]
  obtain ⟨c, hc⟩ : ∃ c, cntB k vs.length fs.length gs.length hs.length = c := ⟨_, rfl⟩
  obtain ⟨al, hal⟩ : ∃ c, vs.all nameB = c := ⟨_, rfl⟩
  simp only [hc] at hcount
  simp only [hal] at hany
  rw [hc, hal]
  cases c
  · simp +contextual -implicitDefEqProofs (maxSteps := 10000000) only [x77, fA, go_sem, ↓reduceIte, Nat.reduceEqDiff, Nat.reduceAdd, Nat.reduceLeDiff, Nat.reduceLT, Nat.reduceDiv, q1, q2, q3, q4, p1, p2, p3, p4, n1, n2, n3, n4, hform, hcount, Nat.reduceDiv]
    simp
  cases al
  · simp +contextual -implicitDefEqProofs (maxSteps := 10000000) only [x77, fA, go_sem, ↓reduceIte, Nat.reduceEqDiff, Nat.reduceAdd, Nat.reduceLeDiff, Nat.reduceLT, Nat.reduceDiv, q1, q2, q3, q4, p1, p2, p3, p4, n1, n2, n3, n4, hform, hcount, Nat.reduceDiv, hany, o_callw, cwK_same]
    simp
  obtain ⟨nb, hnb⟩ : ∃ c, nameB n = c := ⟨_, rfl⟩
  obtain ⟨iv, hiv⟩ : ∃ c, ivl lo hi o = c := ⟨_, rfl⟩
  rw [hnb] at hname
  simp only [hiv] at hivl
  rcases u1_cases k with ⟨g1, g2, g3, g4⟩ | ⟨g1, g2, g3, g4⟩ | ⟨g1, g2, g3, g4⟩ | ⟨g1, g2, g3, g4⟩
  all_goals rw [g4] at hform
  · by_cases hn : n = []
    · simp +contextual -implicitDefEqProofs (maxSteps := 10000000) only [x77, fA, go_sem, ↓reduceIte, Nat.reduceEqDiff, Nat.reduceAdd, Nat.reduceLeDiff, Int.reduceBNe, Nat.reduceLT, Nat.reduceDiv, q1, q2, q3, q4, p1, p2, p3, p4, n1, n2, n3, n4, hform, hcount, Nat.reduceDiv, hany, o_callw, cwK_same, hivl, a1, a2, a3, hn]
      refine bgoal ?_
      by_cases ho : op = 0 <;> simp [fldB, g1, g2, g3, ho] <;> cases o <;> simp
    · simp +contextual -implicitDefEqProofs (maxSteps := 10000000) only [x77, fA, go_sem, ↓reduceIte, Nat.reduceEqDiff, Nat.reduceAdd, Nat.reduceLeDiff, Int.reduceBNe, Nat.reduceLT, Nat.reduceDiv, q1, q2, q3, q4, p1, p2, p3, p4, n1, n2, n3, n4, hform, hcount, Nat.reduceDiv, hany, o_callw, cwK_same, hname, a1, a2, a3, hn]
      refine bgoal ?_
      simp [fldB, g1, g2, g3, hn]
  · cases nb
    · simp +contextual -implicitDefEqProofs (maxSteps := 10000000) only [x77, fA, go_sem, ↓reduceIte, Nat.reduceEqDiff, Nat.reduceAdd, Nat.reduceLeDiff, Int.reduceBNe, Nat.reduceLT, Nat.reduceDiv, q1, q2, q3, q4, p1, p2, p3, p4, n1, n2, n3, n4, hform, hcount, Nat.reduceDiv, hany, o_callw, cwK_same, hname, a4, a5, a6]
      refine bgoal ?_
      simp [fldB, g1, g2, g3, hnb]
    · simp +contextual -implicitDefEqProofs (maxSteps := 10000000) only [x77, fA, go_sem, ↓reduceIte, Nat.reduceEqDiff, Nat.reduceAdd, Nat.reduceLeDiff, Int.reduceBNe, Nat.reduceLT, Nat.reduceDiv, q1, q2, q3, q4, p1, p2, p3, p4, n1, n2, n3, n4, hform, hcount, Nat.reduceDiv, hany, o_callw, cwK_same, hname, hivl, a4, a5, a6]
      refine bgoal ?_
      by_cases ho : op = 0 <;> simp [fldB, g1, g2, g3, hnb, ho] <;> cases o <;> simp
  · cases nb
    · simp +contextual -implicitDefEqProofs (maxSteps := 10000000) only [x77, fA, go_sem, ↓reduceIte, Nat.reduceEqDiff, Nat.reduceAdd, Nat.reduceLeDiff, Int.reduceBNe, Nat.reduceLT, Nat.reduceDiv, q1, q2, q3, q4, p1, p2, p3, p4, n1, n2, n3, n4, hform, hcount, Nat.reduceDiv, hany, o_callw, cwK_same, hname, a7, a8, a9]
      refine bgoal ?_
      simp [fldB, g1, g2, g3, hnb]
    · by_cases ho : 1 ≤ op
      · by_cases ho2 : op ≤ 6
        · simp +contextual -implicitDefEqProofs (maxSteps := 10000000) only [x77, fA, go_sem, ↓reduceIte, Nat.reduceEqDiff, Nat.reduceAdd, Nat.reduceLeDiff, Int.reduceBNe, Nat.reduceLT, Nat.reduceDiv, q1, q2, q3, q4, p1, p2, p3, p4, n1, n2, n3, n4, hform, hcount, Nat.reduceDiv, hany, o_callw, cwK_same, hname, hivl, a7, a8, a9, ho, ho2]
          refine bgoal ?_
          simp [fldB, g1, g2, g3, hnb, ho, ho2]
          cases o <;> simp
        · simp +contextual -implicitDefEqProofs (maxSteps := 10000000) only [x77, fA, go_sem, ↓reduceIte, Nat.reduceEqDiff, Nat.reduceAdd, Nat.reduceLeDiff, Int.reduceBNe, Nat.reduceLT, Nat.reduceDiv, q1, q2, q3, q4, p1, p2, p3, p4, n1, n2, n3, n4, hform, hcount, Nat.reduceDiv, hany, o_callw, cwK_same, hname, a7, a8, a9, ho, ho2]
          refine bgoal ?_
          simp [fldB, g1, g2, g3, hnb, ho, ho2]
      · simp +contextual -implicitDefEqProofs (maxSteps := 10000000) only [x77, fA, go_sem, ↓reduceIte, Nat.reduceEqDiff, Nat.reduceAdd, Nat.reduceLeDiff, Int.reduceBNe, Nat.reduceLT, Nat.reduceDiv, q1, q2, q3, q4, p1, p2, p3, p4, n1, n2, n3, n4, hform, hcount, Nat.reduceDiv, hany, o_callw, cwK_same, hname, a7, a8, a9, ho]
        refine bgoal ?_
        simp [fldB, g1, g2, g3, hnb, ho]
  · by_cases hn : n = []
    · simp +contextual -implicitDefEqProofs (maxSteps := 10000000) only [x77, fA, go_sem, ↓reduceIte, Nat.reduceEqDiff, Nat.reduceAdd, Nat.reduceLeDiff, Int.reduceBNe, Nat.reduceLT, Nat.reduceDiv, q1, q2, q3, q4, p1, p2, p3, p4, n1, n2, n3, n4, hform, hcount, Nat.reduceDiv, hany, o_callw, cwK_same, hivl, a10, a11, a12, hn]
      refine bgoal ?_
      by_cases ho : op = 0 <;> simp [fldB, g1, g2, g3, ho, hiv]
    · simp +contextual -implicitDefEqProofs (maxSteps := 10000000) only [x77, fA, go_sem, ↓reduceIte, Nat.reduceEqDiff, Nat.reduceAdd, Nat.reduceLeDiff, Int.reduceBNe, Nat.reduceLT, Nat.reduceDiv, q1, q2, q3, q4, p1, p2, p3, p4, n1, n2, n3, n4, hform, hcount, Nat.reduceDiv, hany, o_callw, cwK_same, hname, a10, a11, a12, hn]
      refine bgoal ?_
      simp [fldB, g1, g2, g3, hn]
def formB (k : Int) (n : List UInt8) (op lo hi : Int) (o : Bool) : Bool :=
  (hasN k || n == []) && (if hasO k then decide (1 ≤ op) && decide (op ≤ 6) else op == 0) && (hasI k || (lo == 0 && hi == 0 && o == false))
theorem p_rform (k : Int) (n : List UInt8) (op : Int) (v t : AV) (lo hi : Int) (o : Bool) (s r : AV) (es fs gs hs : List (List AV)) (hv : Sl 1 v es) (ht : Sl 7 t fs) (hs' : Sl 10 s gs) (hr : Sl 3 r hs) (hp : Heap) :
    CL X (fun _ => []) 54 [fA k n op v t lo hi o s r] hp = some (.bool (cntB k es.length fs.length gs.length hs.length && formB k n op lo hi o), hp) := by
  obtain ⟨p1, q1, n1, d1, f1⟩ := hv.one
  obtain ⟨p2, q2, n2, d2, f2⟩ := ht.one
  obtain ⟨p3, q3, n3, d3, f3⟩ := hs'.one
  obtain ⟨p4, q4, n4, d4, f4⟩ := hr.one
  have huses := fun hp => p_uses k hp
  have s1 := fun hp => p_so es.length (u2 k) hp
  have s2 := fun hp => p_so fs.length (u3 k) hp
  have s3 := fun hp => p_so gs.length (u4 k) hp
  have s4 := fun hp => p_so hs.length (u5 k) hp
  obtain ⟨b1, hb1⟩ : ∃ c, cnt es.length (u2 k) = c := ⟨_, rfl⟩
  obtain ⟨b2, hb2⟩ : ∃ c, cnt fs.length (u3 k) = c := ⟨_, rfl⟩
  obtain ⟨b3, hb3⟩ : ∃ c, cnt gs.length (u4 k) = c := ⟨_, rfl⟩
  obtain ⟨b4, hb4⟩ : ∃ c, cnt hs.length (u5 k) = c := ⟨_, rfl⟩
  simp only [hb1] at s1
  simp only [hb2] at s2
  simp only [hb3] at s3
  simp only [hb4] at s4
  have hcb : cntB k es.length fs.length gs.length hs.length = (b1 && b2 && b3 && b4) := by simp [cntB, hb1, hb2, hb3, hb4]
  rw [hcb]
  unfold uA at huses
  rw [CL_eq (fn := x54) rfl]
  rcases u1_cases k with ⟨g1, g2, g3, g4⟩ | ⟨g1, g2, g3, g4⟩ | ⟨g1, g2, g3, g4⟩ | ⟨g1, g2, g3, g4⟩
  all_goals rw [g1, g2, g3] at huses
  · by_cases hn : n = []
    · by_cases ho : op = 0
      · by_cases hl : lo = 0
        · by_cases hh : hi = 0
          · cases o
            · simp +contextual -implicitDefEqProofs (maxSteps := 10000000) only [x54, fA, go_sem, ↓reduceIte, Nat.reduceEqDiff, Nat.reduceAdd, Nat.reduceLeDiff, Int.reduceBNe, q1, q2, q3, q4, p1, p2, p3, p4, n1, n2, n3, n4, huses, s1, s2, s3, s4, hn, ho, hl, hh]
              refine bgoal ?_
              simp [formB, g1, g2, g3, and_assoc]
            · simp +contextual -implicitDefEqProofs (maxSteps := 10000000) only [x54, fA, go_sem, ↓reduceIte, Nat.reduceEqDiff, Nat.reduceAdd, Nat.reduceLeDiff, Int.reduceBNe, q1, q2, q3, q4, p1, p2, p3, p4, huses, hn, ho, hl, hh]
              refine bgoal ?_
              simp [formB, g1, g2, g3]
          · simp +contextual -implicitDefEqProofs (maxSteps := 10000000) only [x54, fA, go_sem, ↓reduceIte, Nat.reduceEqDiff, Nat.reduceAdd, Nat.reduceLeDiff, Int.reduceBNe, q1, q2, q3, q4, p1, p2, p3, p4, n1, n2, n3, n4, huses, s1, s2, s3, s4, hn, ho, hl, hh]
            refine bgoal ?_
            simp [formB, g1, g2, g3, hh]
        · simp +contextual -implicitDefEqProofs (maxSteps := 10000000) only [x54, fA, go_sem, ↓reduceIte, Nat.reduceEqDiff, Nat.reduceAdd, Nat.reduceLeDiff, Int.reduceBNe, q1, q2, q3, q4, p1, p2, p3, p4, n1, n2, n3, n4, huses, s1, s2, s3, s4, hn, ho, hl]
          refine bgoal ?_
          simp [formB, g1, g2, g3, hl]
      · simp +contextual -implicitDefEqProofs (maxSteps := 10000000) only [x54, fA, go_sem, ↓reduceIte, Nat.reduceEqDiff, Nat.reduceAdd, q1, q2, q3, q4, p1, p2, p3, p4, huses, hn, ho]
        refine bgoal ?_
        simp [formB, g1, g2, g3, ho]
    · simp +contextual -implicitDefEqProofs (maxSteps := 10000000) only [x54, fA, go_sem, ↓reduceIte, Nat.reduceEqDiff, Nat.reduceAdd, q1, q2, q3, q4, p1, p2, p3, p4, huses, hn]
      refine bgoal ?_
      simp [formB, g1, g2, g3, hn]
  · by_cases ho : op = 0
    · by_cases hl : lo = 0
      · by_cases hh : hi = 0
        · cases o
          · simp +contextual -implicitDefEqProofs (maxSteps := 10000000) only [x54, fA, go_sem, ↓reduceIte, Nat.reduceEqDiff, Nat.reduceAdd, Nat.reduceLeDiff, Int.reduceBNe, q1, q2, q3, q4, p1, p2, p3, p4, n1, n2, n3, n4, huses, s1, s2, s3, s4, ho, hl, hh]
            refine bgoal ?_
            simp [formB, g1, g2, g3, and_assoc]
          · simp +contextual -implicitDefEqProofs (maxSteps := 10000000) only [x54, fA, go_sem, ↓reduceIte, Nat.reduceEqDiff, Nat.reduceAdd, Nat.reduceLeDiff, Int.reduceBNe, q1, q2, q3, q4, p1, p2, p3, p4, huses, ho, hl, hh]
            refine bgoal ?_
            simp [formB, g1, g2, g3]
        · simp +contextual -implicitDefEqProofs (maxSteps := 10000000) only [x54, fA, go_sem, ↓reduceIte, Nat.reduceEqDiff, Nat.reduceAdd, Nat.reduceLeDiff, Int.reduceBNe, q1, q2, q3, q4, p1, p2, p3, p4, n1, n2, n3, n4, huses, s1, s2, s3, s4, ho, hl, hh]
          refine bgoal ?_
          simp [formB, g1, g2, g3, hh]
      · simp +contextual -implicitDefEqProofs (maxSteps := 10000000) only [x54, fA, go_sem, ↓reduceIte, Nat.reduceEqDiff, Nat.reduceAdd, Nat.reduceLeDiff, Int.reduceBNe, q1, q2, q3, q4, p1, p2, p3, p4, n1, n2, n3, n4, huses, s1, s2, s3, s4, ho, hl]
        refine bgoal ?_
        simp [formB, g1, g2, g3, hl]
    · simp +contextual -implicitDefEqProofs (maxSteps := 10000000) only [x54, fA, go_sem, ↓reduceIte, Nat.reduceEqDiff, Nat.reduceAdd, q1, q2, q3, q4, p1, p2, p3, p4, huses, ho]
      refine bgoal ?_
      simp [formB, g1, g2, g3, ho]
  · by_cases ho1 : op < 1
    · simp +contextual -implicitDefEqProofs (maxSteps := 10000000) only [x54, fA, go_sem, ↓reduceIte, Nat.reduceEqDiff, Nat.reduceAdd, q1, q2, q3, q4, p1, p2, p3, p4, huses, ho1]
      refine bgoal ?_
      simp [formB, g1, g2, g3]
      omega
    by_cases ho2 : 6 < op
    · simp +contextual -implicitDefEqProofs (maxSteps := 10000000) only [x54, fA, go_sem, ↓reduceIte, Nat.reduceEqDiff, Nat.reduceAdd, q1, q2, q3, q4, p1, p2, p3, p4, huses, ho1, ho2]
      refine bgoal ?_
      simp [formB, g1, g2, g3]
      omega
    have e1 : decide (1 ≤ op) = true := by simp; omega
    have e2 : decide (op ≤ 6) = true := by simp; omega
    by_cases hl : lo = 0
    · by_cases hh : hi = 0
      · cases o
        · simp +contextual -implicitDefEqProofs (maxSteps := 10000000) only [x54, fA, go_sem, ↓reduceIte, Nat.reduceEqDiff, Nat.reduceAdd, Nat.reduceLeDiff, q1, q2, q3, q4, p1, p2, p3, p4, n1, n2, n3, n4, huses, s1, s2, s3, s4, ho1, ho2, hl, hh]
          refine bgoal ?_
          simp [formB, g1, g2, g3, and_assoc, e1, e2]
        · simp +contextual -implicitDefEqProofs (maxSteps := 10000000) only [x54, fA, go_sem, ↓reduceIte, Nat.reduceEqDiff, Nat.reduceAdd, Nat.reduceLeDiff, q1, q2, q3, q4, p1, p2, p3, p4, huses, ho1, ho2, hl, hh]
          refine bgoal ?_
          simp [formB, g1, g2, g3]
      · simp +contextual -implicitDefEqProofs (maxSteps := 10000000) only [x54, fA, go_sem, ↓reduceIte, Nat.reduceEqDiff, Nat.reduceAdd, Nat.reduceLeDiff, q1, q2, q3, q4, p1, p2, p3, p4, n1, n2, n3, n4, huses, s1, s2, s3, s4, ho1, ho2, hl, hh]
        refine bgoal ?_
        simp [formB, g1, g2, g3, hh]
    · simp +contextual -implicitDefEqProofs (maxSteps := 10000000) only [x54, fA, go_sem, ↓reduceIte, Nat.reduceEqDiff, Nat.reduceAdd, Nat.reduceLeDiff, q1, q2, q3, q4, p1, p2, p3, p4, n1, n2, n3, n4, huses, s1, s2, s3, s4, ho1, ho2, hl]
      refine bgoal ?_
      simp [formB, g1, g2, g3, hl]
  · by_cases hn : n = []
    · by_cases ho : op = 0
      · simp +contextual -implicitDefEqProofs (maxSteps := 10000000) only [x54, fA, go_sem, ↓reduceIte, Nat.reduceEqDiff, Nat.reduceAdd, Int.reduceBNe, q1, q2, q3, q4, p1, p2, p3, p4, n1, n2, n3, n4, huses, s1, s2, s3, s4, hn, ho]
        refine bgoal ?_
        simp [formB, g1, g2, g3, and_assoc]
      · simp +contextual -implicitDefEqProofs (maxSteps := 10000000) only [x54, fA, go_sem, ↓reduceIte, Nat.reduceEqDiff, Nat.reduceAdd, q1, q2, q3, q4, p1, p2, p3, p4, huses, hn, ho]
        refine bgoal ?_
        simp [formB, g1, g2, g3, ho]
    · simp +contextual -implicitDefEqProofs (maxSteps := 10000000) only [x54, fA, go_sem, ↓reduceIte, Nat.reduceEqDiff, Nat.reduceAdd, q1, q2, q3, q4, p1, p2, p3, p4, huses, hn]
      refine bgoal ?_
      simp [formB, g1, g2, g3, hn]
theorem p_named (k : Int) (n : List UInt8) (op : Int) (v t : AV) (lo hi : Int) (o : Bool) (s r : AV) (vs : List (List UInt8)) (fs gs hs : List (List AV)) (hv : Sl 1 v (tx vs)) (ht : Sl 7 t fs) (hs' : Sl 10 s gs) (hr : Sl 3 r hs)
    (hm : vs.length ≤ 9223372036854775806) (hp : Heap) :
    CL X (fun _ => []) 55 [fA k n op v t lo hi o s r] hp = some (.bool ((!hasN k || nameB n) && vs.all nameB && (!hasI k || ivl lo hi o)), hp) := by
  obtain ⟨p1, q1, n1, d1, f1⟩ := hv.one
  obtain ⟨p2, q2, n2, d2, f2⟩ := ht.one
  obtain ⟨p3, q3, n3, d3, f3⟩ := hs'.one
  obtain ⟨p4, q4, n4, d4, f4⟩ := hr.one
  have huses := fun hp => p_uses k hp
  have h1 := p_rname n
  have h2 := fun hp => p_rnames vs v hv hm hp
  have h3 := fun hp => p_rivl lo hi o hp
  obtain ⟨b1, hb1⟩ : ∃ c, nameB n = c := ⟨_, rfl⟩
  obtain ⟨b2, hb2⟩ : ∃ c, vs.all nameB = c := ⟨_, rfl⟩
  obtain ⟨b3, hb3⟩ : ∃ c, ivl lo hi o = c := ⟨_, rfl⟩
  simp only [hb1] at h1
  simp only [hb2] at h2
  simp only [hb3] at h3
  rw [hb1, hb2, hb3]
  unfold uA at huses
  obtain ⟨x, hx⟩ : ∃ c, hasN k = c := ⟨_, rfl⟩
  obtain ⟨y, hy⟩ : ∃ c, hasI k = c := ⟨_, rfl⟩
  simp only [hx, hy] at huses
  rw [hx, hy]
  rw [CL_eq (fn := x55) rfl]
  cases x <;> cases y <;> cases b1 <;> cases b2
  all_goals (simp +contextual -implicitDefEqProofs (maxSteps := 10000000) only [x55, fA, go_sem, ↓reduceIte, Nat.reduceEqDiff, Nat.reduceAdd, Nat.reduceLeDiff, q1, q2, q3, q4, p1, p2, p3, p4, f1, huses, h1, h2, h3]; try simp)
theorem form_named (k : Int) (n : List UInt8) (op lo hi : Int) (o al : Bool) : (formB k n op lo hi o && ((!hasN k || nameB n) && al && (!hasI k || ivl lo hi o))) = (al && fldB k n op lo hi o) := by
  unfold formB fldB
  generalize nameB n = nb
  cases nb <;> cases hasN k <;> cases hasI k <;> cases al <;> simp
  all_goals (first | done | (generalize (if hasO k = true then decide (1 ≤ op) && decide (op ≤ 6) else op == 0) = z; cases z <;> simp))
theorem wkC_eq (s : Wk) : wkC s = [.int .i64 (s.n : Int), .int .i64 s.m, .int .i64 s.e] := rfl
theorem p_must (r : Ref) (ok : Bool) (c : Int) (hp : Heap) (h : isWk (cellsAt hp r) = true) :
    CL X (fun _ => []) 50 [.ptr r 0, .bool ok, .int .i64 c] hp = some (.bool (decide ((mustW ok c (wkOf (cellsAt hp r))).e = 0)), bput hp r (wkC (mustW ok c (wkOf (cellsAt hp r))))) := by
  have h0 := isWk_of h
  generalize wkOf (cellsAt hp r) = s at h0
  have hne := cellsAt_ne h0
  have hb := fun b => cellsAt_bput h0 b
  have hs := bput_same h0
  obtain ⟨n, m, e⟩ := s
  simp only [wkC_eq] at h0 hs
  rw [CL_eq (fn := x50) rfl]
  cases ok
  · by_cases he : e = 0
    · by_cases hc : c = 0
      · simp +contextual -implicitDefEqProofs (maxSteps := 10000000) only [x50, go_sem, ↓reduceIte, reduceCtorEq, Nat.reduceEqDiff, Nat.reduceAdd, h0, hne, hb, ldAt_cons, stAt_cons, stB_some, bput_len, wkC_eq, mustW, he, hc]
      · simp +contextual -implicitDefEqProofs (maxSteps := 10000000) only [x50, go_sem, ↓reduceIte, reduceCtorEq, Nat.reduceEqDiff, Nat.reduceAdd, h0, hne, hb, ldAt_cons, stAt_cons, stB_some, bput_len, wkC_eq, mustW, he, hc]
        simp [hc]
    · simp +contextual -implicitDefEqProofs (maxSteps := 10000000) only [x50, go_sem, ↓reduceIte, reduceCtorEq, Nat.reduceEqDiff, h0, hne, ldAt_cons, wkC_eq, mustW, he, hs]
      simp [he]
  · by_cases he : e = 0
    · simp +contextual -implicitDefEqProofs (maxSteps := 10000000) only [x50, go_sem, ↓reduceIte, reduceCtorEq, Nat.reduceEqDiff, h0, hne, ldAt_cons, wkC_eq, mustW, he]
      try simp []
      try rw [he] at hs
      try simp [hs]
    · simp +contextual -implicitDefEqProofs (maxSteps := 10000000) only [x50, go_sem, ↓reduceIte, reduceCtorEq, Nat.reduceEqDiff, h0, hne, ldAt_cons, wkC_eq, mustW, he, hs]
      simp [he]
theorem p_enter (r : Ref) (d : Int) (hp : Heap) (h : isWk (cellsAt hp r) = true) :
    CL X (fun _ => []) 75 [.ptr r 0, .int .i64 d] hp = some (.bool (decide ((enterW d (wkOf (cellsAt hp r))).e = 0)), bput hp r (wkC (enterW d (wkOf (cellsAt hp r))))) := by
  have hm := fun ok c hp h => p_must r ok c hp h
  have h0 := isWk_of h
  generalize wkOf (cellsAt hp r) = s at h0
  have hne := cellsAt_ne h0
  have hb := fun b => cellsAt_bput h0 b
  have hs := bput_same h0
  obtain ⟨n, m, e⟩ := s
  simp only [wkC_eq] at h0 hs
  rw [CL_eq (fn := x75) rfl]
  by_cases he : e = 0
  · subst he
    by_cases hd : d ≤ 24
    · have hd' : ¬ (24 < d) := by omega
      by_cases hn : n < 256
      · have hn' : ((n : Int) < 256) = True := by simp; omega
        have hn2 : ¬ (256 ≤ n) := by omega
        have w1 : wr .i64 ((n : Int) + 1) = ((n + 1 : Nat) : Int) := by rw [wr_i64 _ (by omega)]; omega
        simp +contextual -implicitDefEqProofs (maxSteps := 10000000) only [x75, go_sem, ↓reduceIte, reduceCtorEq, Nat.reduceEqDiff, Nat.reduceAdd, Nat.reduceLeDiff, Int.reduceBNe, h0, hne, hb, ldAt_cons, stAt_cons, stB_some, bput_len, wkC_eq, mustW, hd, hn', hm, isWk_some, wkOf_some, cellsAt_cons, bput_cons, bput_bput, o_callw, cwK_top, enterW, hd', hn2, w1]
      · have hn' : ((n : Int) < 256) = False := by simp; omega
        have hn2 : (256 ≤ n) = True := by simp; omega
        simp +contextual -implicitDefEqProofs (maxSteps := 10000000) only [x75, go_sem, ↓reduceIte, reduceCtorEq, Nat.reduceEqDiff, Int.reduceEq, Int.reduceBNe, h0, hne, hb, ldAt_cons, bput_len, wkC_eq, mustW, hd, hn', hm, isWk_some, wkOf_some, cellsAt_cons, bput_cons, bput_bput, o_callw, cwK_top, enterW, hd', hn2]
    · have hd' : 24 < d := by omega
      simp +contextual -implicitDefEqProofs (maxSteps := 10000000) only [x75, go_sem, ↓reduceIte, reduceCtorEq, Nat.reduceEqDiff, Int.reduceEq, Int.reduceBNe, h0, hne, ldAt_cons, bput_len, wkC_eq, mustW, hd, hm, isWk_some, wkOf_some, cellsAt_cons, bput_cons, o_callw, cwK_top, enterW, hd']
  · simp +contextual -implicitDefEqProofs (maxSteps := 10000000) only [x75, go_sem, ↓reduceIte, reduceCtorEq, Nat.reduceEqDiff, h0, hne, ldAt_cons, wkC_eq, he, enterW, hs]
theorem flatTm {t : Tm} (h : t.fit) : t.cells.length = 7 ∧ t.cells.all plain1 = true ∧ t.cells.map uf = t.cells ∧ t.cells.take 7 = t.cells ∧ splice [.int .i64 0, .str [], .int .i64 0, .int .i64 0, .int .i64 0, .str [], .nilsl] 0 t.cells = t.cells := by
  obtain ⟨h1, h2, h3⟩ := (Tm.tmp t h).flat
  have h1' : t.cells.length = 7 := h1
  exact ⟨h1', h2, h3, List.take_of_length_le (by omega), splice_all _ _ (by rw [h1']; rfl)⟩
theorem p_allTm (l : List Tm) (hfit : Tm.fitL l) (hl : l.length * 8 ≤ 140737488351232) (r : Ref) (d : Int) (v : AV) (hv : Sl 7 v (Tm.cellsL l)) (hp : Heap) (h : isWk (cellsAt hp r) = true)
    (ih : ∀ t ∈ l, ∀ hp, isWk (cellsAt hp r) = true → CL X (fun _ => []) 80 [.ptr r 0, .agg t.cells, .int .i64 d] hp = some (.tup [], bput hp r (wkC (t.wk d (wkOf (cellsAt hp r)))))) :
    CL X (fun _ => []) 79 [.fn 80 [.ptr r 0] [], .int .i64 d, v] hp = some (.tup [], bput hp r (wkC (Tm.wkL l d (wkOf (cellsAt hp r))))) := by
  have h0 := isWk_of h
  generalize wkOf (cellsAt hp r) = s at h0
  have hne := cellsAt_ne h0
  have hb := fun b => cellsAt_bput h0 b
  have hs := bput_same h0
  obtain ⟨p1, u1, n1, d1, f1⟩ := hv.one
  have hlen := Tm.cellsL_len l
  rw [hlen] at n1
  rw [CL_eq (fn := x79) rfl]
  simp +contextual -implicitDefEqProofs (maxSteps := 10000000) only [x79, go_sem, ↓reduceIte, u1, n1]
  obtain ⟨I, hI⟩ : ∃ I : Nat → List AV → Heap → Prop, ∀ i fr hp', I i fr hp' ↔ ((∃ L, hp' = L :: bput hp r (wkC (Tm.wkL (l.take i) d s))) ∧ fget fr 0 = .fn 80 [.ptr r 0] [] ∧ fget fr 1 = .int .i64 d ∧ fget fr 8 = v ∧ fget fr 9 = .int .i64 l.length ∧ fget fr 10 = .int .i64 (i : Nat)) := ⟨_, fun _ _ _ => Iff.rfl⟩
  obtain ⟨Q, hQ⟩ : ∃ Q : XExit → List AV → Heap → Prop, ∀ e fr hp', Q e fr hp' ↔ ((∃ L, hp' = L :: bput hp r (wkC (Tm.wkL l d s))) ∧ e = .exit 0) := ⟨_, fun _ _ _ => Iff.rfl⟩
  refine LC_upK l.length I Q (fun r => finK _ (blockK 0 r) = _) ?_ ?_ ?_ ?_
  · rw [hI]
    refine ⟨⟨[], by rw [List.take_zero, Tm.wkL, hs]⟩, ?_, ?_, ?_, ?_, ?_⟩ <;> simp only [go_sem, ↓reduceIte, reduceCtorEq, Nat.reduceEqDiff, Int.natCast_zero]
  · intro i hi fr hp' h
    obtain ⟨⟨L, rfl⟩, h0', h1, h8, h9, h10⟩ := (hI _ _ _).1 h
    have hv' : v = .lst .none 7 (Tm.cellsL l) := by
      rcases hv with ⟨_, e⟩ | e
      · rw [e] at hlen; simp at hlen; omega
      · exact e
    have k1 : ((i : Int) < (l.length : Int)) = True := by simp; omega
    have k2 : (i < (Tm.cellsL l).length) = True := by rw [hlen]; simp; omega
    have w1 : wr .i64 ((i : Int) + 1) = ((i + 1 : Nat) : Int) := by rw [wr_i64 _ (by omega)]; omega
    have g1 : (Tm.cellsL l).getD i [] = (l[i]).cells := by simp [Tm.cellsL_eq, List.getD, hi]
    have hmem : l[i] ∈ l := List.getElem_mem hi
    obtain ⟨a1, a2, a3, a4, a5⟩ := flatTm (Tm.fitL_mem hfit _ hmem)
    have a1' : (7 ≤ (l[i]).cells.length) = True := by simp; omega
    have hih := ih _ hmem
    have htk := Tm.wkL_take l i hi d s
    simp +contextual -implicitDefEqProofs (maxSteps := 10000000) only [x79_l0_run, go_sem, ↓reduceIte, reduceCtorEq, Nat.reduceEqDiff, Nat.reduceAdd, h0', h1, h8, h9, h10, hv', k1, k2, w1, g1, a1, a2, a3, a4, a5, o_calld, hih, cellsAt_cons, bput_cons, bput_bput, bput_len, hne, hb, isWk_C, wkOf_C, cwK_top, stAt_topc, ldAt_topc]
    rw [hI]
    refine ⟨⟨_, by rw [htk]⟩, ?_, ?_, ?_, ?_, ?_⟩ <;> simp only [go_sem, ↓reduceIte, reduceCtorEq, Nat.reduceEqDiff, h0', h1, h8, h9, hv']
  · intro fr hp' h
    obtain ⟨⟨L, rfl⟩, h0', h1, h8, h9, h10⟩ := (hI _ _ _).1 h
    simp +contextual -implicitDefEqProofs (maxSteps := 10000000) only [x79_l0_run, go_sem, ↓reduceIte, h9, h10, Int.lt_irrefl]
    rw [hQ]
    exact ⟨⟨L, by rw [List.take_length]⟩, rfl⟩
  · intro e fr hp' he h
    obtain ⟨⟨L, rfl⟩, rfl⟩ := (hQ _ _ _).1 h
    simp +contextual -implicitDefEqProofs (maxSteps := 10000000) only [go_sem, ↓reduceIte]
theorem flatRx {t : Rx} (h : t.fit) : t.cells.length = 3 ∧ t.cells.all plain1 = true ∧ t.cells.map uf = t.cells ∧ t.cells.take 3 = t.cells ∧ splice [.int .i64 0, .nilsl, .nilsl] 0 t.cells = t.cells := by
  obtain ⟨h1, h2, h3⟩ := (Rx.fxp t h).flat
  have h1' : t.cells.length = 3 := h1
  exact ⟨h1', h2, h3, List.take_of_length_le (by omega), splice_all _ _ (by rw [h1']; rfl)⟩
theorem p_allRx (l : List Rx) (hfit : Rx.fitL l) (hl : l.length * 8 ≤ 140737488351232) (r : Ref) (d : Int) (v : AV) (hv : Sl 3 v (Rx.cellsL l)) (hp : Heap) (h : isWk (cellsAt hp r) = true)
    (ih : ∀ t ∈ l, ∀ hp, isWk (cellsAt hp r) = true → CL X (fun _ => []) 82 [.ptr r 0, .agg t.cells, .int .i64 d] hp = some (.tup [], bput hp r (wkC (t.wk d (wkOf (cellsAt hp r)))))) :
    CL X (fun _ => []) 81 [.fn 82 [.ptr r 0] [], .int .i64 d, v] hp = some (.tup [], bput hp r (wkC (Rx.wkL l d (wkOf (cellsAt hp r))))) := by
  have h0 := isWk_of h
  generalize wkOf (cellsAt hp r) = s at h0
  have hne := cellsAt_ne h0
  have hb := fun b => cellsAt_bput h0 b
  have hs := bput_same h0
  obtain ⟨p1, u1, n1, d1, f1⟩ := hv.one
  have hlen := Rx.cellsL_len l
  rw [hlen] at n1
  rw [CL_eq (fn := x81) rfl]
  simp +contextual -implicitDefEqProofs (maxSteps := 10000000) only [x81, go_sem, ↓reduceIte, u1, n1]
  obtain ⟨I, hI⟩ : ∃ I : Nat → List AV → Heap → Prop, ∀ i fr hp', I i fr hp' ↔ ((∃ L, hp' = L :: bput hp r (wkC (Rx.wkL (l.take i) d s))) ∧ fget fr 0 = .fn 82 [.ptr r 0] [] ∧ fget fr 1 = .int .i64 d ∧ fget fr 8 = v ∧ fget fr 9 = .int .i64 l.length ∧ fget fr 10 = .int .i64 (i : Nat)) := ⟨_, fun _ _ _ => Iff.rfl⟩
  obtain ⟨Q, hQ⟩ : ∃ Q : XExit → List AV → Heap → Prop, ∀ e fr hp', Q e fr hp' ↔ ((∃ L, hp' = L :: bput hp r (wkC (Rx.wkL l d s))) ∧ e = .exit 0) := ⟨_, fun _ _ _ => Iff.rfl⟩
  refine LC_upK l.length I Q (fun r => finK _ (blockK 0 r) = _) ?_ ?_ ?_ ?_
  · rw [hI]
    refine ⟨⟨[], by rw [List.take_zero, Rx.wkL, hs]⟩, ?_, ?_, ?_, ?_, ?_⟩ <;> simp only [go_sem, ↓reduceIte, reduceCtorEq, Nat.reduceEqDiff, Int.natCast_zero]
  · intro i hi fr hp' h
    obtain ⟨⟨L, rfl⟩, h0', h1, h8, h9, h10⟩ := (hI _ _ _).1 h
    have hv' : v = .lst .none 3 (Rx.cellsL l) := by
      rcases hv with ⟨_, e⟩ | e
      · rw [e] at hlen; simp at hlen; omega
      · exact e
    have k1 : ((i : Int) < (l.length : Int)) = True := by simp; omega
    have k2 : (i < (Rx.cellsL l).length) = True := by rw [hlen]; simp; omega
    have w1 : wr .i64 ((i : Int) + 1) = ((i + 1 : Nat) : Int) := by rw [wr_i64 _ (by omega)]; omega
    have g1 : (Rx.cellsL l).getD i [] = (l[i]).cells := by simp [Rx.cellsL_eq, List.getD, hi]
    have hmem : l[i] ∈ l := List.getElem_mem hi
    obtain ⟨a1, a2, a3, a4, a5⟩ := flatRx (Rx.fitL_mem hfit _ hmem)
    have a1' : (3 ≤ (l[i]).cells.length) = True := by simp; omega
    have hih := ih _ hmem
    have htk := Rx.wkL_take l i hi d s
    simp +contextual -implicitDefEqProofs (maxSteps := 10000000) only [x81_l0_run, go_sem, ↓reduceIte, reduceCtorEq, Nat.reduceEqDiff, Nat.reduceAdd, h0', h1, h8, h9, h10, hv', k1, k2, w1, g1, a1, a2, a3, a4, a5, o_calld, hih, cellsAt_cons, bput_cons, bput_bput, bput_len, hne, hb, isWk_C, wkOf_C, cwK_top, stAt_topc, ldAt_topc]
    rw [hI]
    refine ⟨⟨_, by rw [htk]⟩, ?_, ?_, ?_, ?_, ?_⟩ <;> simp only [go_sem, ↓reduceIte, reduceCtorEq, Nat.reduceEqDiff, h0', h1, h8, h9, hv']
  · intro fr hp' h
    obtain ⟨⟨L, rfl⟩, h0', h1, h8, h9, h10⟩ := (hI _ _ _).1 h
    simp +contextual -implicitDefEqProofs (maxSteps := 10000000) only [x81_l0_run, go_sem, ↓reduceIte, h9, h10, Int.lt_irrefl]
    rw [hQ]
    exact ⟨⟨L, by rw [List.take_length]⟩, rfl⟩
  · intro e fr hp' he h
    obtain ⟨⟨L, rfl⟩, rfl⟩ := (hQ _ _ _).1 h
    simp +contextual -implicitDefEqProofs (maxSteps := 10000000) only [go_sem, ↓reduceIte]
theorem flatFm {t : Fm} (h : t.fit) : t.cells.length = 10 ∧ t.cells.all plain1 = true ∧ t.cells.map uf = t.cells ∧ t.cells.take 10 = t.cells ∧ splice [.int .i64 0, .str [], .int .i64 0, .nilsl, .nilsl, .int .i64 0, .int .i64 0, .bool false, .nilsl, .nilsl] 0 t.cells = t.cells := by
  obtain ⟨h1, h2, h3⟩ := (Fm.fxp t h).flat
  have h1' : t.cells.length = 10 := h1
  exact ⟨h1', h2, h3, List.take_of_length_le (by omega), splice_all _ _ (by rw [h1']; rfl)⟩
theorem p_allFm (l : List Fm) (hfit : Fm.fitL l) (hl : l.length * 8 ≤ 140737488351232) (r : Ref) (d : Int) (v : AV) (hv : Sl 10 v (Fm.cellsL l)) (hp : Heap) (h : isWk (cellsAt hp r) = true)
    (ih : ∀ t ∈ l, ∀ hp, isWk (cellsAt hp r) = true → CL X (fun _ => []) 49 [.ptr r 0, .agg t.cells, .int .i64 d] hp = some (.tup [], bput hp r (wkC (t.wk d (wkOf (cellsAt hp r)))))) :
    CL X (fun _ => []) 83 [.fn 49 [.ptr r 0] [], .int .i64 d, v] hp = some (.tup [], bput hp r (wkC (Fm.wkL l d (wkOf (cellsAt hp r))))) := by
  have h0 := isWk_of h
  generalize wkOf (cellsAt hp r) = s at h0
  have hne := cellsAt_ne h0
  have hb := fun b => cellsAt_bput h0 b
  have hs := bput_same h0
  obtain ⟨p1, u1, n1, d1, f1⟩ := hv.one
  have hlen := Fm.cellsL_len l
  rw [hlen] at n1
  rw [CL_eq (fn := x83) rfl]
  simp +contextual -implicitDefEqProofs (maxSteps := 10000000) only [x83, go_sem, ↓reduceIte, u1, n1]
  obtain ⟨I, hI⟩ : ∃ I : Nat → List AV → Heap → Prop, ∀ i fr hp', I i fr hp' ↔ ((∃ L, hp' = L :: bput hp r (wkC (Fm.wkL (l.take i) d s))) ∧ fget fr 0 = .fn 49 [.ptr r 0] [] ∧ fget fr 1 = .int .i64 d ∧ fget fr 8 = v ∧ fget fr 9 = .int .i64 l.length ∧ fget fr 10 = .int .i64 (i : Nat)) := ⟨_, fun _ _ _ => Iff.rfl⟩
  obtain ⟨Q, hQ⟩ : ∃ Q : XExit → List AV → Heap → Prop, ∀ e fr hp', Q e fr hp' ↔ ((∃ L, hp' = L :: bput hp r (wkC (Fm.wkL l d s))) ∧ e = .exit 0) := ⟨_, fun _ _ _ => Iff.rfl⟩
  refine LC_upK l.length I Q (fun r => finK _ (blockK 0 r) = _) ?_ ?_ ?_ ?_
  · rw [hI]
    refine ⟨⟨[], by rw [List.take_zero, Fm.wkL, hs]⟩, ?_, ?_, ?_, ?_, ?_⟩ <;> simp only [go_sem, ↓reduceIte, reduceCtorEq, Nat.reduceEqDiff, Int.natCast_zero]
  · intro i hi fr hp' h
    obtain ⟨⟨L, rfl⟩, h0', h1, h8, h9, h10⟩ := (hI _ _ _).1 h
    have hv' : v = .lst .none 10 (Fm.cellsL l) := by
      rcases hv with ⟨_, e⟩ | e
      · rw [e] at hlen; simp at hlen; omega
      · exact e
    have k1 : ((i : Int) < (l.length : Int)) = True := by simp; omega
    have k2 : (i < (Fm.cellsL l).length) = True := by rw [hlen]; simp; omega
    have w1 : wr .i64 ((i : Int) + 1) = ((i + 1 : Nat) : Int) := by rw [wr_i64 _ (by omega)]; omega
    have g1 : (Fm.cellsL l).getD i [] = (l[i]).cells := by simp [Fm.cellsL_eq, List.getD, hi]
    have hmem : l[i] ∈ l := List.getElem_mem hi
    obtain ⟨a1, a2, a3, a4, a5⟩ := flatFm (Fm.fitL_mem hfit _ hmem)
    have a1' : (10 ≤ (l[i]).cells.length) = True := by simp; omega
    have hih := ih _ hmem
    have htk := Fm.wkL_take l i hi d s
    simp +contextual -implicitDefEqProofs (maxSteps := 10000000) only [x83_l0_run, go_sem, ↓reduceIte, reduceCtorEq, Nat.reduceEqDiff, Nat.reduceAdd, h0', h1, h8, h9, h10, hv', k1, k2, w1, g1, a1, a2, a3, a4, a5, o_calld, hih, cellsAt_cons, bput_cons, bput_bput, bput_len, hne, hb, isWk_C, wkOf_C, cwK_top, stAt_topc, ldAt_topc]
    rw [hI]
    refine ⟨⟨_, by rw [htk]⟩, ?_, ?_, ?_, ?_, ?_⟩ <;> simp only [go_sem, ↓reduceIte, reduceCtorEq, Nat.reduceEqDiff, h0', h1, h8, h9, hv']
  · intro fr hp' h
    obtain ⟨⟨L, rfl⟩, h0', h1, h8, h9, h10⟩ := (hI _ _ _).1 h
    simp +contextual -implicitDefEqProofs (maxSteps := 10000000) only [x83_l0_run, go_sem, ↓reduceIte, h9, h10, Int.lt_irrefl]
    rw [hQ]
    exact ⟨⟨L, by rw [List.take_length]⟩, rfl⟩
  · intro e fr hp' he h
    obtain ⟨⟨L, rfl⟩, rfl⟩ := (hQ _ _ _).1 h
    simp +contextual -implicitDefEqProofs (maxSteps := 10000000) only [go_sem, ↓reduceIte]
end Go.Proofs.YtnmaahfipddkmaaGreat.Sx.T
