/- Layer 8, part 1: signatures and points; what their checks answer. -/
import Derived.Test.YtjbgceogkgpjpaaGreatDoorR
import Derived.Test.YtjbgceogkgpjpaaGreatDoorW
import Derived.Test.YtjbgceogkgpjpaaGreatDoorEvS
import Derived.Test.YtjbgceogkgpjpaaGreatDoorV
import Derived.Test.YtjbgceogkgpjpaaGreatDoorEvU
set_option linter.unusedVariables false
set_option linter.unusedSimpArgs false
namespace Go.Proofs.YtjbgceogkgpjpaaGreatDoor.Sx.T
open Go Go.Proofs.YtjbgceogkgpjpaaGreatDoor.Sx
set_option maxRecDepth 100000
set_option maxHeartbeats 8000000
def Ls (z : Nat) (x : AV) (es : List (List AV)) : Prop := (x = .nilsl ∧ es = []) ∨ ∃ o, (o = .none ∨ o = .tight) ∧ x = .lst o z es
theorem Ls.one {z : Nat} {x : AV} {es : List (List AV)} (h : Ls z x es) : plain1 x = true ∧ uf x = x ∧ lensK false x = some (.int .i64 es.length) ∧ (∀ fr t, drop1K x fr t = fr) ∧ refFree x = true := by
  rcases h with ⟨rfl, rfl⟩ | ⟨o, rfl | rfl, rfl⟩
  · exact ⟨rfl, rfl, rfl, fun _ _ => rfl, rfl⟩
  · exact ⟨rfl, rfl, by simp [lensK_lst, lenB], fun _ _ => rfl, rfl⟩
  · exact ⟨rfl, rfl, by simp [lensK_lst, lenB], fun _ _ => rfl, rfl⟩
theorem Ls.at {z : Nat} {x : AV} {es : List (List AV)} (h : Ls z x es) {k : Nat} (hk : k < es.length) : iaddrK z x (some k) = some (.elp (es.getD k [])) := by
  rcases h with ⟨rfl, rfl⟩ | ⟨o, _, rfl⟩
  · simp at hk
  · rw [iaddrK_lst, if_pos ⟨rfl, hk⟩]
structure Dc where
  n : List UInt8
  ks : List Int
  kv : AV
instance : Inhabited Dc := ⟨⟨[], [], .nilsl⟩⟩
def nums (l : List Int) : List (List AV) := l.map fun k => [.int .i64 k]
def Dc.cells (d : Dc) : List AV := [.str d.n, d.kv]
def Dc.ok (d : Dc) : Prop := Ls 1 d.kv (nums d.ks) ∧ d.ks.length ≤ 9223372036854775806 ∧ d.n.length ≤ 9223372036854775806
structure Et where
  n : List UInt8
  vl : List Val
  av : AV
instance : Inhabited Et := ⟨⟨[], [], .nilsl⟩⟩
def vals (l : List Val) : List (List AV) := l.map Val.cells
theorem vals_len (l : List Val) : (vals l).length = l.length := by simp [vals]
theorem vals_get (l : List Val) (i : Nat) (h : i < l.length) : (vals l).getD i [] = (l.getD i default).cells := by simp [vals, List.getD, h]
def Et.cells (e : Et) : List AV := [.str e.n, e.av]
def Et.ok (e : Et) : Prop := Ls 4 e.av (vals e.vl) ∧ e.vl.length ≤ 9223372036854775806 ∧ (∀ v ∈ e.vl, v.ok) ∧ e.n.length ≤ 9223372036854775806
def dcs (l : List Dc) : List (List AV) := l.map Dc.cells
theorem dcs_len (l : List Dc) : (dcs l).length = l.length := by simp [dcs]
def ets (l : List Et) : List (List AV) := l.map Et.cells
theorem ets_len (l : List Et) : (ets l).length = l.length := by simp [ets]
theorem ets_get (l : List Et) (i : Nat) (h : i < l.length) : (ets l).getD i [] = (l.getD i default).cells := by simp [ets, List.getD, h]
def SigV (x : AV) (l : List Dc) : Prop := Ls 2 x (dcs l) ∧ (∀ d ∈ l, d.ok) ∧ l.length ≤ 9223372036854775806
def EvV (x : AV) (l : List Et) : Prop := Ls 2 x (ets l) ∧ (∀ d ∈ l, d.ok) ∧ l.length ≤ 9223372036854775806
theorem mem_getD {α : Type} [Inhabited α] (l : List α) (i : Nat) (h : i < l.length) : l.getD i default ∈ l := by simp [List.getD, h]
/-! ### what is answered -/
def firstE (e : Nat → Int) : Nat → Nat → Int
  | 0, _ => 0
  | m + 1, i => if e i ≠ 0 then e i else firstE e m (i + 1)
theorem firstE_step (e : Nat → Int) (n i : Nat) (h : i < n) : firstE e (n - i) i = if e i ≠ 0 then e i else firstE e (n - (i + 1)) (i + 1) := by
  obtain ⟨m, hm⟩ : ∃ m, n - i = m + 1 := ⟨n - i - 1, by omega⟩
  rw [hm, firstE, show n - (i + 1) = m by omega]
def szP (t : Int) (n : Nat) : Int := if t < 0 ∨ 1099511627776 < t then 5 else if 64 < n then 3 else 0
def vals8 (l : List Val) : Int := firstE (fun i => chkV (l.getD i default)) l.length 0
end Go.Proofs.YtjbgceogkgpjpaaGreatDoor.Sx.T
namespace Go.Proofs.YtjbgceogkgpjpaaGreatDoor.Sx.T
open Go Go.Proofs.YtjbgceogkgpjpaaGreatDoor.Sx
set_option maxRecDepth 100000
set_option maxHeartbeats 8000000
end Go.Proofs.YtjbgceogkgpjpaaGreatDoor.Sx.T
namespace Go.Proofs.YtjbgceogkgpjpaaGreatDoor.Sx.T
open Go Go.Proofs.YtjbgceogkgpjpaaGreatDoor.Sx
set_option maxRecDepth 100000
set_option maxHeartbeats 16000000
end Go.Proofs.YtjbgceogkgpjpaaGreatDoor.Sx.T
namespace Go.Proofs.YtjbgceogkgpjpaaGreatDoor.Sx.T
open Go Go.Proofs.YtjbgceogkgpjpaaGreatDoor.Sx
set_option maxRecDepth 100000
set_option maxHeartbeats 16000000
theorem SigV.take {v : AV} {sig : List Dc} (h : SigV v sig) (i : Nat) (hi : i < sig.length) : sslK 2 v none (some (.int .i64 (i : Int))) none = some (.lst .none 2 (dcs (sig.take i))) ∧ SigV (.lst .none 2 (dcs (sig.take i))) (sig.take i) := by
  obtain ⟨hl, hok, hm⟩ := h
  refine ⟨?_, .inr ⟨.none, .inl rfl, rfl⟩, fun d hd => hok d (List.mem_of_mem_take hd), by simp; omega⟩
  rcases hl with ⟨rfl, e⟩ | ⟨o, ho, rfl⟩
  · exfalso
    have := dcs_len sig
    rw [e] at this
    simp at this; omega
  · rw [sslK_hi, dcs_len, if_pos ⟨rfl, by omega⟩]
    simp [dcs, List.map_take]
end Go.Proofs.YtjbgceogkgpjpaaGreatDoor.Sx.T
namespace Go.Proofs.YtjbgceogkgpjpaaGreatDoor.Sx.T
open Go Go.Proofs.YtjbgceogkgpjpaaGreatDoor.Sx
set_option maxRecDepth 100000
set_option maxHeartbeats 16000000
theorem ets_free (x : AV) (es : List (List AV)) (z : Nat) (h : Ls z x es) (t : Int) : refFreeL [AV.int .i64 t, x] = true := by
  obtain ⟨_, _, _, _, f⟩ := h.one
  simp only [refFreeL, f]; rfl
theorem p_sizes (t : Int) (evs : List Et) (v : AV) (hv : EvV v evs) (hp : Heap) : CL X GV 24 [.agg [.int .i64 t, v]] hp = some (.int .i64 (szP t evs.length), hp) := by
  obtain ⟨p1, u1, n1, d1, f1⟩ := hv.1.one
  rw [ets_len] at n1
  rw [CL_eq (fn := x24) rfl, szP]
  by_cases c1 : t < 0
  · simp +contextual -implicitDefEqProofs (maxSteps := 10000000) only [x24, go_sem, ↓reduceIte, Nat.reduceEqDiff, Nat.reduceAdd, u1, n1, p1, c1, true_or]
  · by_cases c2 : 1099511627776 < t
    · simp +contextual -implicitDefEqProofs (maxSteps := 10000000) only [x24, go_sem, ↓reduceIte, Nat.reduceEqDiff, Nat.reduceAdd, u1, n1, p1, c1, c2, or_true]
    · by_cases c3 : 64 < evs.length
      · have c3' : ((64 : Int) < (evs.length : Int)) = True := by simp; omega
        simp +contextual -implicitDefEqProofs (maxSteps := 10000000) only [x24, go_sem, ↓reduceIte, Nat.reduceEqDiff, Nat.reduceAdd, u1, n1, p1, c1, c2, c3, c3', or_self]
      · have c3' : ((64 : Int) < (evs.length : Int)) = False := by simp; omega
        simp +contextual -implicitDefEqProofs (maxSteps := 10000000) only [x24, go_sem, ↓reduceIte, Nat.reduceEqDiff, Nat.reduceAdd, u1, n1, p1, c1, c2, c3, c3', or_self]
theorem p_rsizes (t : Int) (evs : List Et) (v : AV) (hv : EvV v evs) (hp : Heap) : CL X GV 29 [.agg [.int .i64 t, v]] hp = some (.int .i64 (szP t evs.length), hp) := by
  obtain ⟨p1, u1, n1, d1, f1⟩ := hv.1.one
  rw [ets_len] at n1
  rw [CL_eq (fn := x29) rfl, szP]
  by_cases c1 : t < 0
  · simp +contextual -implicitDefEqProofs (maxSteps := 10000000) only [x29, go_sem, ↓reduceIte, Nat.reduceEqDiff, Nat.reduceAdd, u1, p1, c1, true_or]
  · by_cases c2 : 1099511627776 < t
    · simp +contextual -implicitDefEqProofs (maxSteps := 10000000) only [x29, go_sem, ↓reduceIte, Nat.reduceEqDiff, Nat.reduceAdd, u1, p1, c1, c2, or_true]
    · by_cases c3 : 64 < evs.length
      · have c3' : ((64 : Int) < (evs.length : Int)) = True := by simp; omega
        simp +contextual -implicitDefEqProofs (maxSteps := 10000000) only [x29, go_sem, ↓reduceIte, Nat.reduceEqDiff, Nat.reduceAdd, u1, n1, p1, c1, c2, c3, c3', or_self]
      · have c3' : ((64 : Int) < (evs.length : Int)) = False := by simp; omega
        simp +contextual -implicitDefEqProofs (maxSteps := 10000000) only [x29, go_sem, ↓reduceIte, Nat.reduceEqDiff, Nat.reduceAdd, u1, n1, p1, c1, c2, c3, c3', or_self]
theorem p_rvals (l : List Val) (v : AV) (hl : Ls 4 v (vals l)) (hok : ∀ x ∈ l, x.ok) (hm : l.length ≤ 9223372036854775806) : CL X GV 30 [v] [] = some (.int .i64 (vals8 l), []) := by
  obtain ⟨p1, u1, n1, d1, f1⟩ := hl.one
  rw [vals_len] at n1
  rw [CL_eq (fn := x30) rfl, vals8]
  generalize hE : (fun i => chkV (l.getD i default)) = E
  simp +contextual -implicitDefEqProofs (maxSteps := 10000000) only [x30, go_sem, ↓reduceIte]
  obtain ⟨I, hI⟩ : ∃ I : Nat → List AV → Heap → Prop, ∀ i fr hp', I i fr hp' ↔ ((∃ L, hp' = L :: []) ∧ fget fr 0 = v ∧ fget fr 3 = .int .i64 (i : Nat) ∧ firstE E l.length 0 = firstE E (l.length - i) i) := ⟨_, fun _ _ _ => Iff.rfl⟩
  obtain ⟨Q, hQ⟩ : ∃ Q : XExit → List AV → Heap → Prop, ∀ e fr hp', Q e fr hp' ↔ ((∃ L, hp' = L :: []) ∧ ((e = .exit 0 ∧ firstE E l.length 0 = 0) ∨ (e = .ret ∧ fget fr 2 = .int .i64 (firstE E l.length 0)))) := ⟨_, fun _ _ _ => Iff.rfl⟩
  refine LC_upK l.length I Q (fun r => finK _ (seqK (blockK 0 r) _) = _) ?_ ?_ ?_ ?_
  · rw [hI]
    refine ⟨⟨_, rfl⟩, ?_, ?_, by rw [Nat.sub_zero]⟩ <;> simp only [go_sem, ↓reduceIte, reduceCtorEq, Int.natCast_zero]
  · intro i hi fr hp' h
    obtain ⟨⟨L, rfl⟩, h0, h3, hd⟩ := (hI _ _ _).1 h
    have k1 : ((i : Int) < (l.length : Int)) = True := by simp; omega
    have g1 := hl.at (k := i) (by rw [vals_len]; exact hi)
    rw [vals_get l i hi] at g1
    have hmem := mem_getD l i hi
    have w1 : wr .i64 ((i : Int) + 1) = ((i + 1 : Nat) : Int) := by rw [wr_i64 _ (by omega)]; omega
    rw [firstE_step _ _ _ hi] at hd
    have vok := hok _ hmem
    obtain ⟨e0, he0⟩ : ∃ e, E i = e := ⟨_, rfl⟩
    rw [he0] at hd
    have he1 : e0 = chkV (l.getD i default) := by rw [← he0, ← hE]
    obtain ⟨y, hy⟩ : ∃ y, l.getD i default = y := ⟨_, rfl⟩
    rw [hy] at he1 g1 vok
    obtain ⟨k, n, d, s⟩ := y
    obtain ⟨o1, o2, o3⟩ : I64 k ∧ I64 n ∧ I64 d := vok
    simp only [Val.cells, chkV] at g1 he1
    have hc := v_rcheck k n d s o2 o3
    simp only [vA, ← he1] at hc
    clear he0 he1
    by_cases c : e0 = 0
    · subst c
      simp +contextual -implicitDefEqProofs (maxSteps := 10000000) only [x30_l0_run, go_sem, ↓reduceIte, reduceCtorEq, Nat.reduceEqDiff, Nat.reduceAdd, Int.reduceBNe, h0, h3, n1, k1, g1, w1, hc, u1]
      rw [hI]
      refine ⟨⟨_, rfl⟩, ?_, ?_, by rw [hd, if_neg (by simp)]⟩ <;> simp only [go_sem, ↓reduceIte, reduceCtorEq, h0]
    · have c' : (e0 = 0) = False := by simp [c]
      simp +contextual -implicitDefEqProofs (maxSteps := 10000000) only [x30_l0_run, go_sem, ↓reduceIte, reduceCtorEq, Nat.reduceEqDiff, Nat.reduceAdd, h0, h3, n1, k1, g1, hc, u1, c']
      rw [hQ]
      exact ⟨⟨_, rfl⟩, .inr ⟨rfl, by simp only [go_sem, ↓reduceIte]; rw [hd, if_pos c]⟩⟩
  · intro fr hp' h
    obtain ⟨⟨L, rfl⟩, h0, h3, hd⟩ := (hI _ _ _).1 h
    simp +contextual -implicitDefEqProofs (maxSteps := 10000000) only [x30_l0_run, go_sem, ↓reduceIte, reduceCtorEq, Nat.reduceEqDiff, h0, h3, n1, u1, Int.lt_irrefl]
    rw [hQ]
    exact ⟨⟨_, rfl⟩, .inl ⟨rfl, by rw [hd, Nat.sub_self]; rfl⟩⟩
  · intro e fr hp' he h
    rcases (hQ _ _ _).1 h with ⟨⟨L, rfl⟩, ⟨rfl, h1⟩ | ⟨rfl, h1⟩⟩
    · simp +contextual -implicitDefEqProofs (maxSteps := 10000000) only [go_sem, ↓reduceIte, h1]
    · simp +contextual -implicitDefEqProofs (maxSteps := 10000000) only [go_sem, h1]
end Go.Proofs.YtjbgceogkgpjpaaGreatDoor.Sx.T
namespace Go.Proofs.YtjbgceogkgpjpaaGreatDoor.Sx.T
open Go Go.Proofs.YtjbgceogkgpjpaaGreatDoor.Sx
set_option maxRecDepth 100000
set_option maxHeartbeats 16000000
end Go.Proofs.YtjbgceogkgpjpaaGreatDoor.Sx.T
namespace Go.Proofs.YtjbgceogkgpjpaaGreatDoor.Sx.T
open Go Go.Proofs.YtjbgceogkgpjpaaGreatDoor.Sx
set_option maxRecDepth 100000
set_option maxHeartbeats 16000000
end Go.Proofs.YtjbgceogkgpjpaaGreatDoor.Sx.T
namespace Go.Proofs.YtjbgceogkgpjpaaGreatDoor.Sx.T
open Go Go.Proofs.YtjbgceogkgpjpaaGreatDoor.Sx
set_option maxRecDepth 100000
set_option maxHeartbeats 16000000
def prVs (vl : List Val) : List UInt8 := vl.flatMap fun v => 32 :: prt v
def prE (e : Et) : List UInt8 := 32 :: 40 :: (e.n ++ (prVs e.vl ++ [41]))
def prEs (l : List Et) : List UInt8 := l.flatMap prE
open Classical in noncomputable def errE (e : Et) : Int := if ¬ nameP e.n then 1 else vals8 e.vl
noncomputable def errP (t : Int) (evs : List Et) : Int := if szP t evs.length ≠ 0 then szP t evs.length else firstE (fun i => errE (evs.getD i default)) evs.length 0
noncomputable def ptE (t : Int) (evs : List Et) : Int := if errP t evs ≠ 0 then errP t evs else if 4096 < (64 :: (decI t ++ prEs evs)).length then 2 else 0
noncomputable def ptS (t : Int) (evs : List Et) : List UInt8 := if ptE t evs ≠ 0 then [] else 64 :: (decI t ++ prEs evs)
theorem qt_len (s : List UInt8) : (qt s).length ≤ 4 * s.length + 2 := by
  have := flat_len s
  simp only [qt, List.length_cons, List.length_append, List.length_nil]
  omega
theorem prt_len (v : Val) : (prt v).length ≤ 258 := by
  unfold prt
  by_cases hc : chkV v = 0
  · rw [if_neg (by simp [hc])]
    by_cases k1 : v.k = 1
    · rw [if_pos k1]; have := decI_len v.n; omega
    · rw [if_neg k1]
      by_cases k2 : v.k = 2
      · rw [if_pos k2, List.length_append, List.length_cons]; have := decI_len v.n; have := decI_len v.d; omega
      · rw [if_neg k2]
        have h1 := qt_len v.s
        have h2 : v.s.length ≤ 64 := by
          unfold chkV chk at hc
          rw [if_neg k1, if_neg k2] at hc
          split at hc
          · split at hc
            · split at hc
              · assumption
              · cases hc
            · cases hc
          · cases hc
        omega
  · rw [if_pos hc]; simp
theorem prVs_len (vl : List Val) : (prVs vl).length ≤ 259 * vl.length := by
  induction vl with
  | nil => simp [prVs]
  | cons v l ih =>
    have := prt_len v
    simp only [prVs, List.flatMap_cons, List.length_append, List.length_cons] at ih ⊢
    omega
theorem prVs_take (vl : List Val) (i : Nat) (h : i < vl.length) : prVs (vl.take (i + 1)) = prVs (vl.take i) ++ (32 :: prt (vl.getD i default)) := by
  rw [prVs, List.take_succ_eq_append_getElem h, List.flatMap_append, List.flatMap_singleton]
  simp [prVs, List.getD, h]
theorem prEs_take (l : List Et) (i : Nat) (h : i < l.length) : prEs (l.take (i + 1)) = prEs (l.take i) ++ prE (l.getD i default) := by
  rw [prEs, List.take_succ_eq_append_getElem h, List.flatMap_append, List.flatMap_singleton]
  simp [prEs, List.getD, h]
def bnd : List Et → Nat
  | [] => 0
  | e :: l => 3 + e.n.length + 259 * e.vl.length + bnd l
theorem bnd_take : ∀ (l : List Et) (i : Nat), i < l.length → bnd (l.take i) + (3 + (l.getD i default).n.length + 259 * (l.getD i default).vl.length) ≤ bnd l
  | [], i, h => by simp at h
  | e :: l, 0, _ => by simp [bnd]
  | e :: l, i + 1, h => by
    have := bnd_take l i (by simpa using h)
    simp only [List.take_succ_cons, bnd, List.getD_cons_succ]
    omega
theorem prEs_len (l : List Et) : (prEs l).length ≤ bnd l := by
  induction l with
  | nil => simp [prEs, bnd]
  | cons e l ih =>
    have := prVs_len e.vl
    simp only [prEs, prE, List.flatMap_cons, List.length_append, List.length_cons, List.length_nil, bnd] at ih ⊢
    omega
theorem avnE_vals (l : List Val) : l.length ≤ avnE (vals l) := by
  induction l with
  | nil => simp [vals, avnE]
  | cons v l ih => simp only [vals, List.map_cons, avnE, List.length_cons] at ih ⊢; omega
theorem bnd_avn (l : List Et) (h : ∀ e ∈ l, e.ok) : bnd l ≤ 259 * avnE (ets l) := by
  induction l with
  | nil => simp [ets, avnE, bnd]
  | cons e l ih =>
    have ih := ih (fun x hx => h x (by simp [hx]))
    have h1 : e.vl.length ≤ avn e.av := by
      rcases (h e (by simp)).1 with ⟨_, e2⟩ | ⟨o, _, e2⟩
      · have := vals_len e.vl
        rw [e2] at this
        simp at this; omega
      · rw [e2, avn]; exact avnE_vals e.vl
    simp only [ets, List.map_cons, avnE, bnd, Et.cells, avnL, avn] at ih ⊢
    omega
def OArg (b : Int) (vl : List Val) (B : List UInt8) (a1 a2 a3 : AV) (r : Option (XExit × St)) : Prop :=
  (b = 0 ∧ ∃ fr' L, r = some (.exit 2, ⟨fr', [L]⟩) ∧ fget fr' 5 = .lst .own 1 (listOfBytes (B ++ prVs vl)) ∧ fget fr' 23 = a1 ∧ fget fr' 24 = a2 ∧ fget fr' 25 = a3) ∨
  (b ≠ 0 ∧ ∃ fr' L, r = some (.ret, ⟨fr', [L]⟩) ∧ fget fr' 2 = .str [] ∧ fget fr' 3 = .int .i64 b)
theorem l_args (vl : List Val) (av : AV) (hl : Ls 4 av (vals vl)) (hok : ∀ x ∈ vl, x.ok) (B : List UInt8) (hB : B.length + 259 * vl.length ≤ 1000000000) (a1 a2 a3 : AV) (fr : List AV) (L : Level)
    (h5 : fget fr 5 = .lst .own 1 (listOfBytes B)) (h23 : fget fr 23 = a1) (h24 : fget fr 24 = a2) (h25 : fget fr 25 = a3) (h39 : fget fr 39 = av) (h40 : fget fr 40 = .int .i64 vl.length) (h41 : fget fr 41 = .int .i64 0) :
    OArg (vals8 vl) vl B a1 a2 a3 (LC X GV (.loop x16_l0) ⟨fr, [L]⟩) := by
  obtain ⟨p1, u1, n1, d1, f1⟩ := hl.one
  rw [vals8]
  generalize hE : (fun i => chkV (vl.getD i default)) = E
  obtain ⟨I, hI⟩ : ∃ I : Nat → List AV → Heap → Prop, ∀ i fr hp', I i fr hp' ↔ ((∃ L, hp' = L :: []) ∧ fget fr 5 = .lst .own 1 (listOfBytes (B ++ prVs (vl.take i))) ∧ fget fr 23 = a1 ∧ fget fr 24 = a2 ∧ fget fr 25 = a3 ∧ fget fr 39 = av ∧ fget fr 40 = .int .i64 vl.length ∧ fget fr 41 = .int .i64 (i : Nat) ∧ firstE E vl.length 0 = firstE E (vl.length - i) i) := ⟨_, fun _ _ _ => Iff.rfl⟩
  obtain ⟨Q, hQ⟩ : ∃ Q : XExit → List AV → Heap → Prop, ∀ e fr hp', Q e fr hp' ↔ ((∃ L, hp' = L :: []) ∧ ((e = .exit 2 ∧ firstE E vl.length 0 = 0 ∧ fget fr 5 = .lst .own 1 (listOfBytes (B ++ prVs vl)) ∧ fget fr 23 = a1 ∧ fget fr 24 = a2 ∧ fget fr 25 = a3) ∨ (e = .ret ∧ firstE E vl.length 0 ≠ 0 ∧ fget fr 2 = .str [] ∧ fget fr 3 = .int .i64 (firstE E vl.length 0)))) := ⟨_, fun _ _ _ => Iff.rfl⟩
  refine LC_upK vl.length I Q _ ?_ ?_ ?_ ?_
  · rw [hI]
    exact ⟨⟨_, rfl⟩, by rw [h5]; simp [prVs], h23, h24, h25, h39, h40, h41, by rw [Nat.sub_zero]⟩
  · intro i hi fr hp' h
    obtain ⟨⟨L, rfl⟩, h5, h23, h24, h25, h39, h40, h41, hd⟩ := (hI _ _ _).1 h
    have k1 : ((i : Int) < (vl.length : Int)) = True := by simp; omega
    have g1 := hl.at (k := i) (by rw [vals_len]; exact hi)
    rw [vals_get vl i hi] at g1
    have hmem := mem_getD vl i hi
    have w1 : wr .i64 ((i : Int) + 1) = ((i + 1 : Nat) : Int) := by rw [wr_i64 _ (by omega)]; omega
    rw [firstE_step _ _ _ hi] at hd
    have vok := hok _ hmem
    obtain ⟨e0, he0⟩ : ∃ e, E i = e := ⟨_, rfl⟩
    rw [he0] at hd
    have he1 : e0 = chkV (vl.getD i default) := by rw [← he0, ← hE]
    have hpr := v_print (vl.getD i default) vok []
    have hpl := prt_len (vl.getD i default)
    have hPl := prVs_len (vl.take i)
    rw [List.length_take] at hPl
    have htk := prVs_take vl i hi
    rw [← he1] at hpr
    obtain ⟨y, hy⟩ : ∃ y, vl.getD i default = y := ⟨_, rfl⟩
    obtain ⟨q, hq⟩ : ∃ q, prt (vl.getD i default) = q := ⟨_, rfl⟩
    rw [hq] at hpr hpl htk
    rw [hy] at g1 hpr
    obtain ⟨A, hA⟩ : ∃ A, B ++ prVs (vl.take i) = A := ⟨_, rfl⟩
    have hAl : A.length ≤ B.length + 259 * i := by rw [← hA, List.length_append]; omega
    have hA' : B ++ prVs (vl.take (i + 1)) = A ++ (32 :: q) := by rw [htk, ← hA, List.append_assoc]
    rw [hA] at h5
    obtain ⟨k, n, d, s⟩ := y
    simp only [Val.cells, Val.av, vA] at g1 hpr
    clear he0 he1
    by_cases c : e0 = 0
    · subst c
      have r1 : ((1 : Nat) + q.length ≤ 140737488355328) = True := by simp; omega
      have r2 : ([32].length + q.length ≤ 140737488355328) = True := by simp; omega
      have hap : appsK false (.lst .own 1 (listOfBytes A)) (.str (32 :: q)) = some (.lst .own 1 (listOfBytes (A ++ (32 :: q)))) := by
        rw [appsK_own _ _ (by simp) (by rw [bytes_len]; simp [room]; omega)]
        simp [listOfBytes]
      simp +contextual -implicitDefEqProofs (maxSteps := 10000000) only [x16_l0_run, go_sem, ↓reduceIte, Nat.reduceEqDiff, Nat.reduceAdd, Int.reduceBNe, h5, h39, h40, h41, k1, g1, w1, hpr, u1, stAt_topc, ldAt_topc, r1, o_appstr, hap]
      rw [hI]
      refine ⟨⟨_, rfl⟩, ?_, ?_, ?_, ?_, ?_, ?_, ?_, by rw [hd, if_neg (by simp)]⟩ <;> simp only [go_sem, ↓reduceIte, Nat.reduceEqDiff, h23, h24, h25, h39, h40, hA']
    · have c' : (e0 = 0) = False := by simp [c]
      simp +contextual -implicitDefEqProofs (maxSteps := 10000000) only [x16_l0_run, go_sem, ↓reduceIte, Nat.reduceEqDiff, Nat.reduceAdd, h39, h40, h41, k1, g1, hpr, u1, stAt_topc, ldAt_topc, c']
      rw [hQ]
      have hd' : firstE E vl.length 0 = e0 := by rw [hd, if_pos c]
      exact ⟨⟨_, rfl⟩, .inr ⟨rfl, by rw [hd']; exact c, by simp only [go_sem, ↓reduceIte, Nat.reduceEqDiff], by simp only [go_sem, ↓reduceIte, hd']⟩⟩
  · intro fr hp' h
    obtain ⟨⟨L, rfl⟩, h5, h23, h24, h25, h39, h40, h41, hd⟩ := (hI _ _ _).1 h
    simp +contextual -implicitDefEqProofs (maxSteps := 10000000) only [x16_l0_run, go_sem, ↓reduceIte, h40, h41, Int.lt_irrefl]
    rw [hQ]
    refine ⟨⟨_, rfl⟩, .inl ⟨rfl, by rw [hd, Nat.sub_self]; rfl, ?_, ?_, ?_, ?_⟩⟩ <;> simp only [go_sem, ↓reduceIte, Nat.reduceEqDiff, h5, h23, h24, h25, List.take_length]
  · intro e fr hp' he h
    rcases (hQ _ _ _).1 h with ⟨⟨L, rfl⟩, ⟨rfl, h1, h2, h3, h4, h5⟩ | ⟨rfl, h1, h2, h3⟩⟩
    · exact .inl ⟨h1, _, _, rfl, h2, h3, h4, h5⟩
    · exact .inr ⟨h1, _, _, rfl, h2, h3⟩
end Go.Proofs.YtjbgceogkgpjpaaGreatDoor.Sx.T
namespace Go.Proofs.YtjbgceogkgpjpaaGreatDoor.Sx.T
open Go Go.Proofs.YtjbgceogkgpjpaaGreatDoor.Sx
set_option maxRecDepth 100000
set_option maxHeartbeats 16000000
open Classical in
theorem p_print8 (t : Int) (ht : I64 t) (evs : List Et) (u : AV) (hu : EvV u evs) (hb : bnd evs ≤ 900000000) : CL X GV 16 [.agg [.int .i64 t, u]] [] = some (.tup [.str (ptS t evs), .int .i64 (ptE t evs)], []) := by
  obtain ⟨hul, huo, hum⟩ := id hu
  obtain ⟨p2, u2, n2, d2, f2⟩ := hul.one
  rw [ets_len] at n2
  have hf2 := ets_free u _ _ hul t
  have hsz := p_sizes t evs u hu []
  have hdec := primX_dec t ht
  have hdl := decI_len t
  obtain ⟨P, hP⟩ : ∃ P, ptS t evs = P := ⟨_, rfl⟩
  obtain ⟨R, hR⟩ : ∃ R, ptE t evs = R := ⟨_, rfl⟩
  rw [hP, hR]
  rw [ptS, hR] at hP
  rw [ptE] at hR
  obtain ⟨R1, hR1⟩ : ∃ R, errP t evs = R := ⟨_, rfl⟩
  rw [hR1] at hR
  rw [errP] at hR1
  rw [CL_eq (fn := x16) rfl]
  by_cases c2 : szP t evs.length = 0
  case neg =>
    have c2' : (szP t evs.length = 0) = False := by simp [c2]
    rw [if_pos c2] at hR1
    rw [← hR1, if_pos c2] at hR
    rw [← hR, if_pos c2] at hP
    subst hP hR
    simp +contextual -implicitDefEqProofs (maxSteps := 10000000) only [x16, go_sem, ↓reduceIte, Nat.reduceEqDiff, Nat.reduceAdd, u2, p2, hf2, hsz, c2', ldAt_topc, List.length_nil]
  rw [if_neg (by simp [c2])] at hR1
  rw [c2] at hsz
  generalize hE : (fun i => errE (evs.getD i default)) = E at hR1
  obtain ⟨D, hD⟩ : ∃ D, decI t = D := ⟨_, rfl⟩
  rw [hD] at hdec hdl hP hR
  have r1 : ((1 : Nat) + D.length ≤ 140737488355328) = True := by simp; omega
  have r2 : (D.length + 1 ≤ room) = True := by simp [room]; omega
  simp +contextual -implicitDefEqProofs (maxSteps := 10000000) only [x16, go_sem, ↓reduceIte, Nat.reduceEqDiff, Nat.reduceAdd, Int.reduceBNe, u2, n2, p2, hf2, hsz, ldAt_topc, List.length_nil, hdec, r1, r2, List.length_cons]
  obtain ⟨I, hI⟩ : ∃ I : Nat → List AV → Heap → Prop, ∀ i fr hp', I i fr hp' ↔ ((∃ L, hp' = L :: []) ∧ fget fr 5 = .lst .own 1 (listOfBytes (64 :: (D ++ prEs (evs.take i)))) ∧ fget fr 23 = u ∧ fget fr 24 = .int .i64 evs.length ∧ fget fr 25 = .int .i64 (i : Nat) ∧ firstE E evs.length 0 = firstE E (evs.length - i) i) := ⟨_, fun _ _ _ => Iff.rfl⟩
  obtain ⟨Q, hQ⟩ : ∃ Q : XExit → List AV → Heap → Prop, ∀ e fr hp', Q e fr hp' ↔ ((∃ L, hp' = L :: []) ∧ ((e = .exit 0 ∧ firstE E evs.length 0 = 0 ∧ fget fr 5 = .lst .own 1 (listOfBytes (64 :: (D ++ prEs evs)))) ∨ (e = .ret ∧ firstE E evs.length 0 ≠ 0 ∧ fget fr 2 = .str [] ∧ fget fr 3 = .int .i64 (firstE E evs.length 0)))) := ⟨_, fun _ _ _ => Iff.rfl⟩
  refine LC_upK evs.length I Q (fun r => finK _ (seqK (blockK 0 r) _) = _) ?_ ?_ ?_ ?_
  · rw [hI]
    refine ⟨⟨_, rfl⟩, ?_, ?_, ?_, ?_, by rw [Nat.sub_zero]⟩ <;> simp only [go_sem, ↓reduceIte, Nat.reduceEqDiff, Int.natCast_zero, List.take_zero, prEs, List.flatMap_nil]
  · intro i hi fr hp' h
    obtain ⟨⟨L, rfl⟩, h5, h23, h24, h25, hd⟩ := (hI _ _ _).1 h
    have k1 : ((i : Int) < (evs.length : Int)) = True := by simp; omega
    have g1 := hul.at (k := i) (by rw [ets_len]; exact hi)
    rw [ets_get evs i hi] at g1
    have w1 : wr .i64 ((i : Int) + 1) = ((i + 1 : Nat) : Int) := by rw [wr_i64 _ (by omega)]; omega
    rw [firstE_step _ _ _ hi] at hd
    have eok := huo _ (mem_getD evs i hi)
    obtain ⟨e0, he0⟩ : ∃ e, E i = e := ⟨_, rfl⟩
    rw [he0] at hd
    have he1 : e0 = errE (evs.getD i default) := by rw [← he0, ← hE]
    rw [errE] at he1
    have hbt := bnd_take evs i hi
    have hpl := prEs_len (evs.take i)
    have htk := prEs_take evs i hi
    obtain ⟨y, hy⟩ : ∃ y, evs.getD i default = y := ⟨_, rfl⟩
    rw [hy] at he1 g1 eok hbt htk
    obtain ⟨yn, vl, av⟩ := y
    obtain ⟨q1, q2, q3, q4⟩ := eok
    obtain ⟨p3, u3, n3, d3, f3⟩ := q1.one
    simp only [Et.cells] at g1 he1 q1 q2 q3 q4 p3 u3 n3 d3 f3 hbt
    rw [vals_len] at n3
    have hf3 : refFreeL [AV.str yn, av] = true := by simp only [refFreeL, f3]; rfl
    have hnm := v_name yn
    obtain ⟨A, hA⟩ : ∃ A, 64 :: (D ++ prEs (evs.take i)) = A := ⟨_, rfl⟩
    have hAl : A.length ≤ 22 + bnd (evs.take i) := by rw [← hA, List.length_cons, List.length_append]; omega
    rw [hA] at h5
    have hA' : 64 :: (D ++ prEs (evs.take (i + 1))) = A ++ (32 :: 40 :: yn) ++ prVs vl ++ [41] := by
      rw [htk, ← hA]; simp [prE]
    clear he0
    by_cases c1 : nameP yn
    case neg =>
      rw [if_pos c1] at he1
      subst he1
      simp +contextual -implicitDefEqProofs (maxSteps := 10000000) only [x16_l1_run, go_sem, ↓reduceIte, Nat.reduceEqDiff, Nat.reduceAdd, h23, h24, h25, k1, g1, hnm, c1, u2, u3, p3, stAt_topc, ldAt_topc, decide_false, Bool.not_false]
      rw [hQ]
      have hd' : firstE E evs.length 0 = 1 := by rw [hd, if_pos (by decide)]
      exact ⟨⟨_, rfl⟩, .inr ⟨rfl, by rw [hd']; decide, by simp only [go_sem, ↓reduceIte, Nat.reduceEqDiff], by simp only [go_sem, ↓reduceIte, hd']⟩⟩
    rw [if_neg (by simp [c1])] at he1
    obtain ⟨N2, hN2⟩ : ∃ N2, (32 :: 40 :: yn : List UInt8) = N2 := ⟨_, rfl⟩
    have hN2l : N2.length = 2 + yn.length := by rw [← hN2]; simp; omega
    have hN2n : N2 ≠ [] := by rw [← hN2]; simp
    have hadd : strs .add [32, 40] yn = some (.str N2) := by
      rw [strs_add, ← hN2, if_pos (by simp; omega)]; rfl
    have hap : appsK false (.lst .own 1 (listOfBytes A)) (.str N2) = some (.lst .own 1 (listOfBytes (A ++ N2))) := by
      rw [appsK_own _ _ hN2n (by rw [bytes_len]; simp [room]; omega)]
      simp [listOfBytes]
    rw [hN2] at hA'
    simp +contextual -implicitDefEqProofs (maxSteps := 10000000) only [x16_l1_run, go_sem, ↓reduceIte, Nat.reduceEqDiff, Nat.reduceAdd, h5, h23, h24, h25, k1, g1, hnm, c1, u2, u3, n3, p3, stAt_topc, ldAt_topc, decide_true, Bool.not_true, o_appstr, hap, hadd]
    refine elimL (fun r => StepOk (I (i + 1)) Q (seqK (blockK 1 (seqK (blockK 2 r) _)) _)) (l_args vl av q1 q3 (A ++ N2) (by rw [List.length_append]; omega) u (.int .i64 evs.length) (.int .i64 (i : Nat)) _ _ ?_ ?_ ?_ ?_ ?_ ?_ ?_) ?_
    · simp only [go_sem, ↓reduceIte, Nat.reduceEqDiff]
    · simp only [go_sem, ↓reduceIte, Nat.reduceEqDiff, h23]
    · simp only [go_sem, ↓reduceIte, Nat.reduceEqDiff, h24]
    · simp only [go_sem, ↓reduceIte, Nat.reduceEqDiff, h25]
    · simp only [go_sem, ↓reduceIte, Nat.reduceEqDiff]
    · simp only [go_sem, ↓reduceIte, Nat.reduceEqDiff]
    · simp only [go_sem, ↓reduceIte]
    rintro r (⟨hb0, fr', L', rfl, g5, g23, g24, g25⟩ | ⟨hb0, fr', L', rfl, g2, g3⟩)
    · rw [hb0] at he1
      subst he1
      obtain ⟨Z, hZ⟩ : ∃ Z, A ++ N2 ++ prVs vl = Z := ⟨_, rfl⟩
      rw [hZ] at g5 hA'
      have hZl : Z.length ≤ 1000000000 := by
        have := prVs_len vl
        rw [← hZ, List.length_append, List.length_append]; omega
      have r3 : ((listOfBytes Z).length + 1 ≤ room) = True := by rw [bytes_len]; simp [room]; omega
      have hs41 : listOfBytes Z ++ [[AV.int .u8 41]] = listOfBytes (Z ++ [41]) := bytes_snoc Z 41
      simp +contextual -implicitDefEqProofs (maxSteps := 10000000) only [go_sem, ↓reduceIte, reduceCtorEq, Nat.reduceEqDiff, Nat.reduceLT, Nat.reduceDiv, g5, g25, w1, r3, List.flatten_cons, List.flatten_nil]
      rw [hI]
      refine ⟨⟨_, rfl⟩, ?_, ?_, ?_, ?_, by rw [hd, if_neg (by simp)]⟩ <;> simp only [go_sem, ↓reduceIte, Nat.reduceEqDiff, g23, g24, hs41, hA']
    · rw [← he1] at hb0 g3
      simp +contextual -implicitDefEqProofs (maxSteps := 10000000) only [go_sem]
      rw [hQ]
      have hd' : firstE E evs.length 0 = e0 := by rw [hd, if_pos hb0]
      exact ⟨⟨_, rfl⟩, .inr ⟨rfl, by rw [hd']; exact hb0, by simp only [go_sem, g2], by simp only [go_sem, g3, hd']⟩⟩
  · intro fr hp' h
    obtain ⟨⟨L, rfl⟩, h5, h23, h24, h25, hd⟩ := (hI _ _ _).1 h
    simp +contextual -implicitDefEqProofs (maxSteps := 10000000) only [x16_l1_run, go_sem, ↓reduceIte, h24, h25, Int.lt_irrefl]
    rw [hQ]
    exact ⟨⟨_, rfl⟩, .inl ⟨rfl, by rw [hd, Nat.sub_self]; rfl, by simp only [go_sem, ↓reduceIte, Nat.reduceEqDiff, h5, List.take_length]⟩⟩
  · intro e fr hp' he h
    rcases (hQ _ _ _).1 h with ⟨⟨L, rfl⟩, ⟨rfl, h1, h5⟩ | ⟨rfl, h1, h2, h3⟩⟩
    · rw [hR1] at h1
      rw [if_neg (by simp [h1])] at hR
      obtain ⟨Z, hZ⟩ : ∃ Z, 64 :: (D ++ prEs evs) = Z := ⟨_, rfl⟩
      rw [hZ] at h5 hP hR
      have hln := bytes_len Z
      by_cases c4 : 4096 < Z.length
      · rw [if_pos c4] at hR
        subst hR
        rw [if_pos (by decide)] at hP
        subst hP
        have c4' : ((4096 : Int) < (Z.length : Int)) = True := by simp; omega
        simp +contextual -implicitDefEqProofs (maxSteps := 10000000) only [go_sem, ↓reduceIte, Nat.reduceEqDiff, Nat.reduceAdd, h5, hln, c4']
      · rw [if_neg c4] at hR
        subst hR
        rw [if_neg (by simp)] at hP
        subst hP
        have c4' : ((4096 : Int) < (Z.length : Int)) = False := by simp; omega
        simp +contextual -implicitDefEqProofs (maxSteps := 10000000) only [go_sem, ↓reduceIte, Nat.reduceEqDiff, Nat.reduceAdd, h5, hln, c4']
    · rw [hR1] at h1 h3
      rw [if_pos h1] at hR
      subst hR
      rw [if_pos h1] at hP
      subst hP
      simp +contextual -implicitDefEqProofs (maxSteps := 10000000) only [go_sem, ↓reduceIte, Nat.reduceAdd, h2, h3]
end Go.Proofs.YtjbgceogkgpjpaaGreatDoor.Sx.T
namespace Go.Proofs.YtjbgceogkgpjpaaGreatDoor.Sx.T
open Go Go.Proofs.YtjbgceogkgpjpaaGreatDoor.Sx
set_option maxRecDepth 100000
set_option maxHeartbeats 16000000
def ORArg (vl : List Val) (B : List UInt8) (L : Level) (a0 a1 a6 : AV) (r : Option (XExit × St)) : Prop :=
  ∃ fr', r = some (.exit 2, ⟨fr', [L]⟩) ∧ fget fr' 5 = .str (B ++ prVs vl) ∧ fget fr' 0 = a0 ∧ fget fr' 1 = a1 ∧ fget fr' 6 = a6
theorem l_rargs (vl : List Val) (yn : List UInt8) (av : AV) (hl : Ls 4 av (vals vl)) (hok : ∀ x ∈ vl, x.ok) (B : List UInt8) (hB : B.length + 259 * vl.length ≤ 1000000000) (a0 a1 a6 : AV) (fr : List AV) (L : Level) (w : Nat)
    (hL : lcells L 7 w = some [.str yn, av]) (h0 : fget fr 0 = a0) (h1 : fget fr 1 = a1) (h6 : fget fr 6 = a6) (h5 : fget fr 5 = .str B) (h7 : fget fr 7 = .ptr ⟨0, 7, w⟩ 0) (h10 : fget fr 10 = .int .i64 0) :
    ORArg vl B L a0 a1 a6 (LC X GV (.loop x17_l0) ⟨fr, [L]⟩) := by
  obtain ⟨p1, u1, n1, d1, f1⟩ := hl.one
  rw [vals_len] at n1
  obtain ⟨I, hI⟩ : ∃ I : Nat → List AV → Heap → Prop, ∀ i fr hp', I i fr hp' ↔ (hp' = [L] ∧ fget fr 5 = .str (B ++ prVs (vl.take i)) ∧ fget fr 0 = a0 ∧ fget fr 1 = a1 ∧ fget fr 6 = a6 ∧ fget fr 7 = .ptr ⟨0, 7, w⟩ 0 ∧ fget fr 10 = .int .i64 (i : Nat)) := ⟨_, fun _ _ _ => Iff.rfl⟩
  obtain ⟨Q, hQ⟩ : ∃ Q : XExit → List AV → Heap → Prop, ∀ e fr hp', Q e fr hp' ↔ (hp' = [L] ∧ e = .exit 2 ∧ fget fr 5 = .str (B ++ prVs vl) ∧ fget fr 0 = a0 ∧ fget fr 1 = a1 ∧ fget fr 6 = a6) := ⟨_, fun _ _ _ => Iff.rfl⟩
  refine LC_upK vl.length I Q _ ?_ ?_ ?_ ?_
  · rw [hI]
    exact ⟨rfl, by rw [h5]; simp [prVs], h0, h1, h6, h7, h10⟩
  · intro i hi fr hp' h
    obtain ⟨rfl, h5, h0, h1, h6, h7, h10⟩ := (hI _ _ _).1 h
    have k1 : ((i : Int) < (vl.length : Int)) = True := by simp; omega
    have g1 := hl.at (k := i) (by rw [vals_len]; exact hi)
    rw [vals_get vl i hi] at g1
    have hmem := mem_getD vl i hi
    have w1 : wr .i64 ((i : Int) + 1) = ((i + 1 : Nat) : Int) := by rw [wr_i64 _ (by omega)]; omega
    have hpr := v_rprint (vl.getD i default) (hok _ hmem) []
    have hpl := prt_len (vl.getD i default)
    have hPl := prVs_len (vl.take i)
    rw [List.length_take] at hPl
    have htk := prVs_take vl i hi
    obtain ⟨y, hy⟩ : ∃ y, vl.getD i default = y := ⟨_, rfl⟩
    obtain ⟨q, hq⟩ : ∃ q, prt (vl.getD i default) = q := ⟨_, rfl⟩
    obtain ⟨e0, he0⟩ : ∃ q, chkV (vl.getD i default) = q := ⟨_, rfl⟩
    rw [hq, he0] at hpr
    rw [hq] at hpl htk
    rw [hy] at g1 hpr
    obtain ⟨A, hA⟩ : ∃ A, B ++ prVs (vl.take i) = A := ⟨_, rfl⟩
    have hAl : A.length ≤ B.length + 259 * i := by rw [← hA, List.length_append]; omega
    have hA' : B ++ prVs (vl.take (i + 1)) = A ++ [32] ++ q := by rw [htk, ← hA]; simp
    rw [hA] at h5
    obtain ⟨k, n, d, s⟩ := y
    simp only [Val.cells, Val.av, vA] at g1 hpr
    have s1 : strs .add A [32] = some (.str (A ++ [32])) := by rw [strs_add, if_pos (by simp; omega)]
    have s2 : strs .add (A ++ [32]) q = some (.str (A ++ [32] ++ q)) := by rw [strs_add, if_pos (by simp; omega)]
    obtain ⟨A1, hA1⟩ : ∃ A1, A ++ [32] = A1 := ⟨_, rfl⟩
    obtain ⟨A2, hA2⟩ : ∃ A2, A1 ++ q = A2 := ⟨_, rfl⟩
    rw [hA1] at s1 s2 hA'
    rw [hA2] at s2 hA'
    simp +contextual -implicitDefEqProofs (maxSteps := 10000000) only [x17_l0_run, go_sem, ↓reduceIte, Nat.reduceEqDiff, Nat.reduceAdd, h5, h7, h10, hL, n1, k1, g1, w1, hpr, u1, ldAt_topc, List.length_nil, s1, s2]
    rw [hI]
    refine ⟨rfl, ?_, ?_, ?_, ?_, ?_, ?_⟩ <;> simp only [go_sem, ↓reduceIte, reduceCtorEq, Nat.reduceEqDiff, h0, h1, h6, h7, hA']
  · intro fr hp' h
    obtain ⟨rfl, h5, h0, h1, h6, h7, h10⟩ := (hI _ _ _).1 h
    simp +contextual -implicitDefEqProofs (maxSteps := 10000000) only [x17_l0_run, go_sem, ↓reduceIte, Nat.reduceEqDiff, h7, h10, hL, n1, u1, ldAt_topc, List.length_nil, Int.lt_irrefl]
    rw [hQ]
    refine ⟨rfl, rfl, ?_, ?_, ?_, ?_⟩ <;> simp only [go_sem, ↓reduceIte, reduceCtorEq, Nat.reduceEqDiff, h5, h0, h1, h6, List.take_length]
  · intro e fr hp' he h
    obtain ⟨rfl, rfl, h1, h2, h3, h4⟩ := (hQ _ _ _).1 h
    exact ⟨_, rfl, h1, h2, h3, h4⟩
open Classical in
theorem p_rprint8 (t : Int) (ht : I64 t) (evs : List Et) (u : AV) (hu : EvV u evs) (hb : bnd evs ≤ 900000000) : CL X GV 17 [.agg [.int .i64 t, u]] [] = some (.tup [.str (ptS t evs), .int .i64 (ptE t evs)], []) := by
  obtain ⟨hul, huo, hum⟩ := id hu
  obtain ⟨p2, u2, n2, d2, f2⟩ := hul.one
  rw [ets_len] at n2
  have hf2 := ets_free u _ _ hul t
  have hsz := p_rsizes t evs u hu []
  have hdec := v_dec t ht []
  have hdl := decI_len t
  obtain ⟨P, hP⟩ : ∃ P, ptS t evs = P := ⟨_, rfl⟩
  obtain ⟨R, hR⟩ : ∃ R, ptE t evs = R := ⟨_, rfl⟩
  rw [hP, hR]
  rw [ptS, hR] at hP
  rw [ptE] at hR
  obtain ⟨R1, hR1⟩ : ∃ R, errP t evs = R := ⟨_, rfl⟩
  rw [hR1] at hR
  rw [errP] at hR1
  rw [CL_eq (fn := x17) rfl]
  by_cases c2 : szP t evs.length = 0
  case neg =>
    have c2' : (szP t evs.length = 0) = False := by simp [c2]
    rw [if_pos c2] at hR1
    rw [← hR1, if_pos c2] at hR
    rw [← hR, if_pos c2] at hP
    subst hP hR
    simp +contextual -implicitDefEqProofs (maxSteps := 10000000) only [x17, go_sem, ↓reduceIte, Nat.reduceEqDiff, Nat.reduceAdd, u2, p2, hf2, hsz, c2', ldAt_topc, List.length_nil]
  rw [if_neg (by simp [c2])] at hR1
  rw [c2] at hsz
  generalize hE : (fun i => errE (evs.getD i default)) = E at hR1
  obtain ⟨D, hD⟩ : ∃ D, decI t = D := ⟨_, rfl⟩
  rw [hD] at hdec hdl hP hR
  have s0 : strs .add [64] D = some (.str (64 :: D)) := by rw [strs_add, if_pos (by simp; omega)]; rfl
  simp +contextual -implicitDefEqProofs (maxSteps := 10000000) only [x17, go_sem, ↓reduceIte, Nat.reduceEqDiff, Nat.reduceAdd, Int.reduceBNe, u2, p2, hf2, hsz, ldAt_topc, List.length_nil, hdec, s0]
  obtain ⟨I, hI⟩ : ∃ I : Nat → List AV → Heap → Prop, ∀ i fr hp', I i fr hp' ↔ ((∃ L, hp' = L :: [] ∧ lcells L 1 0 = some [.int .i64 t, u]) ∧ fget fr 5 = .str (64 :: (D ++ prEs (evs.take i))) ∧ fget fr 1 = .ptr ⟨0, 1, 0⟩ 0 ∧ fget fr 6 = .int .i64 (i : Nat) ∧ firstE E evs.length 0 = firstE E (evs.length - i) i) := ⟨_, fun _ _ _ => Iff.rfl⟩
  obtain ⟨Q, hQ⟩ : ∃ Q : XExit → List AV → Heap → Prop, ∀ e fr hp', Q e fr hp' ↔ ((∃ L, hp' = L :: []) ∧ ((e = .exit 0 ∧ firstE E evs.length 0 = 0 ∧ fget fr 5 = .str (64 :: (D ++ prEs evs))) ∨ (e = .ret ∧ firstE E evs.length 0 ≠ 0 ∧ fget fr 2 = .str [] ∧ fget fr 3 = .int .i64 (firstE E evs.length 0)))) := ⟨_, fun _ _ _ => Iff.rfl⟩
  refine LC_upK evs.length I Q (fun r => finK _ (seqK (blockK 0 r) _) = _) ?_ ?_ ?_ ?_
  · rw [hI]
    refine ⟨⟨_, rfl, by simp only [go_sem, ↓reduceIte]⟩, ?_, ?_, ?_, by rw [Nat.sub_zero]⟩ <;> simp only [go_sem, ↓reduceIte, Nat.reduceEqDiff, Int.natCast_zero, List.take_zero, prEs, List.flatMap_nil]
  · intro i hi fr hp' h
    obtain ⟨⟨L, rfl, hL⟩, h5, h1, h6, hd⟩ := (hI _ _ _).1 h
    have k1 : ((i : Int) < (evs.length : Int)) = True := by simp; omega
    have g1 := hul.at (k := i) (by rw [ets_len]; exact hi)
    rw [ets_get evs i hi] at g1
    have w1 : wr .i64 ((i : Int) + 1) = ((i + 1 : Nat) : Int) := by rw [wr_i64 _ (by omega)]; omega
    rw [firstE_step _ _ _ hi] at hd
    have eok := huo _ (mem_getD evs i hi)
    obtain ⟨e0, he0⟩ : ∃ e, E i = e := ⟨_, rfl⟩
    rw [he0] at hd
    have he1 : e0 = errE (evs.getD i default) := by rw [← he0, ← hE]
    rw [errE] at he1
    have hbt := bnd_take evs i hi
    have hpl := prEs_len (evs.take i)
    have htk := prEs_take evs i hi
    obtain ⟨y, hy⟩ : ∃ y, evs.getD i default = y := ⟨_, rfl⟩
    rw [hy] at he1 g1 eok hbt htk
    obtain ⟨yn, vl, av⟩ := y
    obtain ⟨q1, q2, q3, q4⟩ := eok
    obtain ⟨p3, u3, n3, d3, f3⟩ := q1.one
    simp only [Et.cells] at g1 he1 q1 q2 q3 q4 p3 u3 n3 d3 f3 hbt
    rw [vals_len] at n3
    have hf3 : refFreeL [AV.str yn, av] = true := by simp only [refFreeL, f3]; rfl
    have hnm := v_rname yn
    have hvs := p_rvals vl av q1 q3 q2
    obtain ⟨A, hA⟩ : ∃ A, 64 :: (D ++ prEs (evs.take i)) = A := ⟨_, rfl⟩
    have hAl : A.length ≤ 22 + bnd (evs.take i) := by rw [← hA, List.length_cons, List.length_append]; omega
    rw [hA] at h5
    have hA' : 64 :: (D ++ prEs (evs.take (i + 1))) = A ++ [32, 40] ++ yn ++ prVs vl ++ [41] := by
      rw [htk, ← hA]; simp [prE]
    clear he0
    by_cases c1 : nameP yn
    case neg =>
      rw [if_pos c1] at he1
      subst he1
      simp +contextual -implicitDefEqProofs (maxSteps := 10000000) only [x17_l1_run, go_sem, ↓reduceIte, Nat.reduceEqDiff, Nat.reduceAdd, h1, h6, hL, n2, k1, g1, hnm, c1, u2, u3, p3, stAt_topc, ldAt_topc, List.length_nil, decide_false, Bool.not_false]
      rw [hQ]
      have hd' : firstE E evs.length 0 = 1 := by rw [hd, if_pos (by decide)]
      exact ⟨⟨_, rfl⟩, .inr ⟨rfl, by rw [hd']; decide, by simp only [go_sem, ↓reduceIte, Nat.reduceEqDiff], by simp only [go_sem, ↓reduceIte, hd']⟩⟩
    rw [if_neg (by simp [c1])] at he1
    by_cases c3 : vals8 vl = 0
    case neg =>
      rw [← he1] at hvs c3
      have c3' : (e0 = 0) = False := by simp [c3]
      simp +contextual -implicitDefEqProofs (maxSteps := 10000000) only [x17_l1_run, go_sem, ↓reduceIte, Nat.reduceEqDiff, Nat.reduceAdd, h1, h6, hL, n2, k1, g1, hnm, c1, hvs, c3', u2, u3, f3, p3, stAt_topc, ldAt_topc, List.length_nil, decide_true, Bool.not_true]
      rw [hQ]
      have hd' : firstE E evs.length 0 = e0 := by rw [hd, if_pos c3]
      exact ⟨⟨_, rfl⟩, .inr ⟨rfl, by rw [hd']; exact c3, by simp only [go_sem, ↓reduceIte, Nat.reduceEqDiff], by simp only [go_sem, ↓reduceIte, hd']⟩⟩
    rw [c3] at he1 hvs
    subst he1
    have s1 : strs .add A [32, 40] = some (.str (A ++ [32, 40])) := by rw [strs_add, if_pos (by simp; omega)]
    have s2 : strs .add (A ++ [32, 40]) yn = some (.str (A ++ [32, 40] ++ yn)) := by rw [strs_add, if_pos (by simp; omega)]
    obtain ⟨A1, hA1⟩ : ∃ A1, A ++ [32, 40] = A1 := ⟨_, rfl⟩
    have hA1l : A1.length = A.length + 2 := by rw [← hA1]; simp
    rw [hA1] at s1 s2 hA'
    obtain ⟨A2, hA2⟩ : ∃ A2, A1 ++ yn = A2 := ⟨_, rfl⟩
    have hA2l : A2.length = A.length + 2 + yn.length := by rw [← hA2, List.length_append, hA1l]
    rw [hA2] at s2 hA'
    simp +contextual -implicitDefEqProofs (maxSteps := 10000000) only [x17_l1_run, go_sem, ↓reduceIte, Nat.reduceEqDiff, Nat.reduceAdd, Int.reduceBNe, h5, h1, h6, hL, n2, k1, g1, hnm, c1, hvs, u2, u3, f3, p3, stAt_topc, ldAt_topc, List.length_nil, decide_true, Bool.not_true, s1, s2]
    refine elimL (fun r => StepOk (I (i + 1)) Q (seqK (blockK 1 (seqK (blockK 2 r) _)) _)) (l_rargs vl yn av q1 q3 A2 (by omega) (fget fr 0) (.ptr ⟨0, 1, 0⟩ 0) (.int .i64 (i : Nat)) _ _ (nextVer L 7) ?_ ?_ ?_ ?_ ?_ ?_ ?_) ?_
    · simp only [go_sem, ↓reduceIte]
    · simp only [go_sem, ↓reduceIte, reduceCtorEq]
    · simp only [go_sem, ↓reduceIte, Nat.reduceEqDiff, h1]
    · simp only [go_sem, ↓reduceIte, Nat.reduceEqDiff, h6]
    · simp only [go_sem, ↓reduceIte, Nat.reduceEqDiff]
    · simp only [go_sem, ↓reduceIte, Nat.reduceEqDiff]
    · simp only [go_sem, ↓reduceIte]
    rintro r ⟨fr', rfl, g5, g0, g1', g6⟩
    obtain ⟨Z, hZ⟩ : ∃ Z, A2 ++ prVs vl = Z := ⟨_, rfl⟩
    rw [hZ] at g5 hA'
    have hZl : Z.length ≤ 1000000000 := by
      have := prVs_len vl
      rw [← hZ, List.length_append]; omega
    have s3 : strs .add Z [41] = some (.str (Z ++ [41])) := by rw [strs_add, if_pos (by simp; omega)]
    obtain ⟨Z1, hZ1⟩ : ∃ Z1, Z ++ [41] = Z1 := ⟨_, rfl⟩
    rw [hZ1] at s3 hA'
    simp +contextual -implicitDefEqProofs (maxSteps := 10000000) only [go_sem, ↓reduceIte, Nat.reduceEqDiff, g5, g6, w1, s3]
    rw [hI]
    refine ⟨⟨_, rfl, by simp only [go_sem, ↓reduceIte, Nat.reduceEqDiff, hL]⟩, ?_, ?_, ?_, by rw [hd, if_neg (by simp)]⟩ <;> simp only [go_sem, ↓reduceIte, Nat.reduceEqDiff, g1', hA']
  · intro fr hp' h
    obtain ⟨⟨L, rfl, hL⟩, h5, h1, h6, hd⟩ := (hI _ _ _).1 h
    simp +contextual -implicitDefEqProofs (maxSteps := 10000000) only [x17_l1_run, go_sem, ↓reduceIte, Nat.reduceEqDiff, h1, h6, hL, n2, u2, ldAt_topc, List.length_nil, Int.lt_irrefl]
    rw [hQ]
    exact ⟨⟨_, rfl⟩, .inl ⟨rfl, by rw [hd, Nat.sub_self]; rfl, by simp only [go_sem, ↓reduceIte, Nat.reduceEqDiff, h5, List.take_length]⟩⟩
  · intro e fr hp' he h
    rcases (hQ _ _ _).1 h with ⟨⟨L, rfl⟩, ⟨rfl, h1, h5⟩ | ⟨rfl, h1, h2, h3⟩⟩
    · rw [hR1] at h1
      rw [if_neg (by simp [h1])] at hR
      obtain ⟨Z, hZ⟩ : ∃ Z, 64 :: (D ++ prEs evs) = Z := ⟨_, rfl⟩
      rw [hZ] at h5 hP hR
      by_cases c4 : 4096 < Z.length
      · rw [if_pos c4] at hR
        subst hR
        rw [if_pos (by decide)] at hP
        subst hP
        have c4' : ((4096 : Int) < (Z.length : Int)) = True := by simp; omega
        simp +contextual -implicitDefEqProofs (maxSteps := 10000000) only [go_sem, ↓reduceIte, Nat.reduceEqDiff, Nat.reduceAdd, h5, c4']
      · rw [if_neg c4] at hR
        subst hR
        rw [if_neg (by simp)] at hP
        subst hP
        have c4' : ((4096 : Int) < (Z.length : Int)) = False := by simp; omega
        simp +contextual -implicitDefEqProofs (maxSteps := 10000000) only [go_sem, ↓reduceIte, Nat.reduceEqDiff, Nat.reduceAdd, h5, c4']
    · rw [hR1] at h1 h3
      rw [if_pos h1] at hR
      subst hR
      rw [if_pos h1] at hP
      subst hP
      simp +contextual -implicitDefEqProofs (maxSteps := 10000000) only [go_sem, ↓reduceIte, Nat.reduceAdd, h2, h3]
theorem v_TracePrints (t : Int) (evs : List Et) (u : AV) (hu : EvV u evs) (ht : I64 t) (hb : avnE (ets evs) ≤ 1048576) : CL X GV 6 [.agg [.int .i64 t, u]] [] = some (.bool true, []) := by
  obtain ⟨p2, u2, n2, d2, f2⟩ := hu.1.one
  have hf2 := ets_free u _ _ hu.1 t
  have hbn : bnd evs ≤ 900000000 := by have := bnd_avn evs hu.2.1; omega
  have h1 := p_print8 t ht evs u hu hbn
  have h2 := p_rprint8 t ht evs u hu hbn
  have hl : CL X GV 11 [] [] = some (.bool true, []) := liveTold
  rw [CL_eq (fn := x6) rfl]
  simp +contextual -implicitDefEqProofs (maxSteps := 10000000) only [x6, go_sem, ↓reduceIte, Nat.reduceEqDiff, Nat.reduceAdd, u2, p2, hf2, h1, h2, hl, ldAt_topc, List.length_nil]
end Go.Proofs.YtjbgceogkgpjpaaGreatDoor.Sx.T
