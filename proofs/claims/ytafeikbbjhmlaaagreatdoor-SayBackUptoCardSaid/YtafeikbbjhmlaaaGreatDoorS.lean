/- Layer 21, part 1: tables; what their checks and texts are. -/
import Derived.Test.YtafeikbbjhmlaaaGreatDoorA
import Derived.Test.YtafeikbbjhmlaaaGreatDoorV
import Derived.Test.YtafeikbbjhmlaaaGreatDoorTold
set_option linter.unusedVariables false
set_option linter.unusedSimpArgs false
namespace Go.Proofs.YtafeikbbjhmlaaaGreatDoor.Sx.T
open Go Go.Proofs.YtafeikbbjhmlaaaGreatDoor.Sx
set_option maxRecDepth 100000
set_option maxHeartbeats 8000000
def wds (l : List (List UInt8)) : List (List AV) := l.map fun w => [.str w]
theorem wds_len (l : List (List UInt8)) : (wds l).length = l.length := by simp [wds]
theorem wds_get (l : List (List UInt8)) (i : Nat) (h : i < l.length) : (wds l).getD i [] = [.str (l.getD i [])] := by simp [wds, List.getD, h]
structure Rw where
  vl : List Val
  av : AV
instance : Inhabited Rw := ⟨⟨[], .nilsl⟩⟩
def Rw.ok (r : Rw) : Prop := Ls 4 r.av (vals r.vl) ∧ r.vl.length ≤ 9223372036854775806 ∧ ∀ v ∈ r.vl, v.ok
def rws (l : List Rw) : List (List AV) := l.map fun r => [r.av]
theorem rws_len (l : List Rw) : (rws l).length = l.length := by simp [rws]
theorem rws_get (l : List Rw) (i : Nat) (h : i < l.length) : (rws l).getD i [] = [(l.getD i default).av] := by simp [rws, List.getD, h]
theorem Rw.row {r : Rw} (h : r.ok) : IsRow r.av r.vl := by
  rcases h.1 with ⟨h1, h2⟩ | ⟨o, h1, h2⟩
  · exact .inl ⟨h1, by simpa [vals] using h2⟩
  · exact .inr ⟨o, h1, h2⟩
structure Tb where
  vs : List (List UInt8)
  rs : List Rw
  xv : AV
  xr : AV
def Tb.cells (t : Tb) : List AV := [t.xv, t.xr]
def Tb.bulk (t : Tb) : Nat := (t.vs.map fun w => w.length + 1).sum + (t.rs.map fun r => 259 * r.vl.length + 4).sum
def Tb.ok (t : Tb) : Prop := Ls 1 t.xv (wds t.vs) ∧ Ls 1 t.xr (rws t.rs) ∧ (∀ r ∈ t.rs, r.ok) ∧ t.vs.length ≤ 1048576 ∧ t.rs.length ≤ 1048576 ∧ t.bulk ≤ 900000000
theorem Tb.flat {t : Tb} (h : t.ok) : t.cells.length = 2 ∧ t.cells.all plain1 = true ∧ t.cells.map uf = t.cells ∧ refFreeL t.cells = true := by
  obtain ⟨p, u, _, _, f⟩ := h.1.one
  obtain ⟨p2, u2, _, _, f2⟩ := h.2.1.one
  exact ⟨rfl, by simp only [Tb.cells, List.all_cons, List.all_nil, p, p2, Bool.and_true], by simp only [Tb.cells, List.map_cons, List.map_nil, u, u2], by simp only [Tb.cells, refFreeL, f, f2, Bool.and_true]⟩
theorem qt_lenS (s : List UInt8) : (qt s).length ≤ 4 * s.length + 2 := by
  have := flat_len s
  simp only [qt, List.length_cons, List.length_append, List.length_nil]
  omega
theorem prt_lenS (v : Val) : (prt v).length ≤ 258 := by
  unfold prt
  by_cases hc : chkV v = 0
  · rw [if_neg (by simp [hc])]
    by_cases k1 : v.k = 1
    · rw [if_pos k1]; have := decI_len v.n; omega
    · rw [if_neg k1]
      by_cases k2 : v.k = 2
      · rw [if_pos k2, List.length_append, List.length_cons]; have := decI_len v.n; have := decI_len v.d; omega
      · rw [if_neg k2]
        have h1 := qt_lenS v.s
        have h2 : v.s.length ≤ 64 := by
          unfold chkV chk at hc
          rw [if_neg k1, if_neg k2] at hc
          split at hc
          · split at hc
            · split at hc
              · assumption
              · cases hc
            · cases hc
          · cases hc
        omega
  · rw [if_pos hc]; simp
/-! ### what is answered -/
def upB : List (List UInt8) → Bool
  | a :: b :: l => bless a b && upB (b :: l)
  | _ => true
def rwE (n : Nat) (r : Rw) : Int := if r.vl.length ≠ n then 1 else vals8 r.vl
def rE (t : Tb) (i : Nat) : Int := if rwE t.vs.length (t.rs.getD i default) ≠ 0 then rwE t.vs.length (t.rs.getD i default) else if 0 < i ∧ 0 ≤ rowcmp (t.rs.getD (i - 1) default).vl (t.rs.getD i default).vl then 1 else 0
def tE (t : Tb) : Int := if 8 < t.vs.length ∨ upB t.vs = false then 30 else firstE (rE t) t.rs.length 0
open Classical in noncomputable def tabE (t : Tb) : Int := if tE t ≠ 0 then tE t else if ∀ i, i < t.vs.length → nameP (t.vs.getD i []) then 0 else 30
def jn (l : List (List UInt8)) : List UInt8 := [32].intercalate l
def rowT (r : Rw) : List UInt8 := 32 :: 40 :: (jn (r.vl.map prt) ++ [41])
def rowsT (l : List Rw) : List UInt8 := l.flatMap rowT
def tabT (t : Tb) : List UInt8 := 40 :: (jn t.vs ++ (41 :: rowsT t.rs))
noncomputable def tabS (t : Tb) : List UInt8 := if tabE t = 0 then tabT t else []
theorem jn_nil : jn [] = [] := rfl
theorem jn_one (w : List UInt8) : jn [w] = w := by simp [jn, List.intercalate, List.intersperse]
theorem jn_cons (a b : List UInt8) (l : List (List UInt8)) : jn (a :: b :: l) = a ++ (32 :: jn (b :: l)) := by simp [jn, List.intercalate, List.intersperse]
theorem jn_len : ∀ l : List (List UInt8), (jn l).length ≤ (l.map fun w => w.length + 1).sum
  | [] => by simp [jn_nil]
  | [a] => by simp [jn_one]
  | a :: b :: l => by
    have ih := jn_len (b :: l)
    rw [jn_cons, List.map_cons, List.sum_cons, List.length_append, List.length_cons]
    omega
theorem sum_prt : ∀ l : List Val, ((l.map prt).map fun w => w.length + 1).sum ≤ 259 * l.length
  | [] => by simp
  | v :: l => by
    have ih := sum_prt l
    have := prt_lenS v
    simp only [List.map_cons, List.sum_cons, List.length_cons] at ih ⊢
    omega
theorem rowT_len (r : Rw) : (rowT r).length ≤ 259 * r.vl.length + 3 := by
  have h1 := jn_len (r.vl.map prt)
  have h2 := sum_prt r.vl
  simp only [rowT, List.length_cons, List.length_append, List.length_nil]
  omega
theorem rowsT_take (l : List Rw) (i : Nat) (h : i < l.length) : rowsT (l.take (i + 1)) = rowsT (l.take i) ++ rowT (l.getD i default) := by
  rw [rowsT, List.take_succ_eq_append_getElem h, List.flatMap_append, List.flatMap_singleton]
  simp [rowsT, List.getD, h]
theorem rowsT_len : ∀ l : List Rw, (rowsT l).length ≤ (l.map fun r => 259 * r.vl.length + 4).sum
  | [] => by simp [rowsT]
  | r :: l => by
    have ih := rowsT_len l
    have := rowT_len r
    simp only [rowsT, List.flatMap_cons, List.length_append, List.map_cons, List.sum_cons] at ih ⊢
    omega
theorem sum_take (f : Rw → Nat) : ∀ (l : List Rw) (i : Nat), ((l.take i).map f).sum ≤ (l.map f).sum
  | [], i => by simp
  | r :: l, 0 => by simp
  | r :: l, i + 1 => by
    have := sum_take f l i
    simp only [List.take_succ_cons, List.map_cons, List.sum_cons]
    omega
theorem upB_false {l : List (List UInt8)} (i : Nat) (h0 : 0 < i) (h : i < l.length) (hb : bless (l.getD (i - 1) []) (l.getD i []) = false) : upB l = false := by
  induction l generalizing i with
  | nil => simp at h
  | cons a l ih =>
    cases l with
    | nil => simp at h; omega
    | cons b l =>
      rw [upB]
      match i, h0 with
      | 1, _ => simp at hb; rw [hb]; rfl
      | i + 2, _ =>
        rw [ih (i + 1) (by omega) (by simpa using h) (by simpa using hb), Bool.and_false]
theorem upB_true : ∀ {l : List (List UInt8)}, (∀ i, 0 < i → i < l.length → bless (l.getD (i - 1) []) (l.getD i []) = true) → upB l = true
  | [], _ => rfl
  | [a], _ => rfl
  | a :: b :: l, h => by
    rw [upB, show bless a b = true from h 1 (by omega) (by simp), Bool.true_and]
    exact upB_true fun i h0 hi => by
      obtain ⟨j, rfl⟩ : ∃ j, i = j + 1 := ⟨i - 1, by omega⟩
      have := h (j + 2) (by omega) (by simpa using hi)
      simpa using this
end Go.Proofs.YtafeikbbjhmlaaaGreatDoor.Sx.T
namespace Go.Proofs.YtafeikbbjhmlaaaGreatDoor.Sx.T
open Go Go.Proofs.YtafeikbbjhmlaaaGreatDoor.Sx
set_option maxRecDepth 100000
set_option maxHeartbeats 8000000
theorem strs_geq (x y : List UInt8) : strs .geq x y = some (.bool !(bless x y)) := rfl
theorem up_at {x : AV} {vs : List (List UInt8)} (h : Ls 1 x (wds vs)) (i : Nat) (hi : i < vs.length) : iaddrK 1 x (some i) = some (.elp [.str (vs.getD i [])]) := by
  rw [h.at (by rw [wds_len]; exact hi), wds_get vs i hi]
theorem p_rises (vs : List (List UInt8)) (x : AV) (hx : Ls 1 x (wds vs)) (hl : vs.length ≤ 1048576) (hp : Heap) : CL X GV 46 [x] hp = some (.bool (upB vs), hp) := by
  obtain ⟨p1, u1, n1, d1, f1⟩ := hx.one
  rw [wds_len] at n1
  rw [CL_eq (fn := x46) rfl]
  simp +contextual -implicitDefEqProofs (maxSteps := 10000000) only [x46, go_sem, ↓reduceIte]
  obtain ⟨I, hI⟩ : ∃ I : Nat → List AV → Heap → Prop, ∀ i fr hp', I i fr hp' ↔ (hp' = [] :: hp ∧ fget fr 0 = x ∧ fget fr 3 = .int .i64 ((i + 1 : Nat) : Int) ∧ ∀ j, 0 < j → j < i + 1 → j < vs.length → bless (vs.getD (j - 1) []) (vs.getD j []) = true) := ⟨_, fun _ _ _ => Iff.rfl⟩
  obtain ⟨Q, hQ⟩ : ∃ Q : XExit → List AV → Heap → Prop, ∀ e fr hp', Q e fr hp' ↔ (hp' = [] :: hp ∧ ((e = .exit 0 ∧ upB vs = true) ∨ (e = .ret ∧ upB vs = false ∧ fget fr 2 = .bool false))) := ⟨_, fun _ _ _ => Iff.rfl⟩
  refine LC_upK (vs.length - 1) I Q (fun r => finK _ (seqK (blockK 0 r) _) = _) ?_ ?_ ?_ ?_
  · rw [hI]
    refine ⟨rfl, ?_, ?_, fun j h1 h2 => by omega⟩ <;> simp only [go_sem, ↓reduceIte, reduceCtorEq] <;> rfl
  · intro i hi fr hp' hh
    obtain ⟨rfl, h0, h3, hd⟩ := (hI _ _ _).1 hh
    have k1 : (((i + 1 : Nat) : Int) < (vs.length : Int)) = True := by simp; omega
    have w0 : wr .i64 (((i + 1 : Nat) : Int) - 1) = ((i : Nat) : Int) := by rw [wr_i64 _ (by omega)]; omega
    have w1 : wr .i64 (((i + 1 : Nat) : Int) + 1) = ((i + 1 + 1 : Nat) : Int) := by rw [wr_i64 _ (by omega)]; omega
    have g0 := up_at hx i (by omega)
    have g1 := up_at hx (i + 1) (by omega)
    obtain ⟨q, hq⟩ : ∃ q : Nat, i + 1 = q := ⟨_, rfl⟩
    rw [hq] at k1 w0 w1 g1 h3
    cases hb : bless (vs.getD i []) (vs.getD q []) with
    | true =>
      simp +contextual -implicitDefEqProofs (maxSteps := 10000000) only [x46_l0_run, go_sem, ↓reduceIte, reduceCtorEq, Nat.reduceEqDiff, h0, h3, k1, w0, w1, u1, n1, g0, g1, strs_geq, hb]
      rw [hI]
      refine ⟨rfl, ?_, ?_, fun j h1 h2 h4 => ?_⟩
      · simp only [go_sem, ↓reduceIte, reduceCtorEq, h0]
      · simp only [go_sem, ↓reduceIte, hq]
      · by_cases hj : j = i + 1
        · subst hj
          rw [hq, show q - 1 = i by omega]
          exact hb
        · exact hd j h1 (by omega) h4
    | false =>
      have hup := upB_false (l := vs) q (by omega) (by omega) (by rw [show q - 1 = i by omega]; exact hb)
      simp +contextual -implicitDefEqProofs (maxSteps := 10000000) only [x46_l0_run, go_sem, ↓reduceIte, reduceCtorEq, Nat.reduceEqDiff, h0, h3, k1, w0, u1, n1, g0, g1, strs_geq, hb]
      rw [hQ]
      exact ⟨rfl, .inr ⟨rfl, hup, by simp only [go_sem, ↓reduceIte]⟩⟩
  · intro fr hp' hh
    obtain ⟨rfl, h0, h3, hd⟩ := (hI _ _ _).1 hh
    have hup := upB_true (l := vs) fun i h1 h2 => hd i h1 (by omega) h2
    have k1 : (((vs.length - 1 + 1 : Nat) : Int) < (vs.length : Int)) = False := by simp; omega
    simp +contextual -implicitDefEqProofs (maxSteps := 10000000) only [x46_l0_run, go_sem, ↓reduceIte, reduceCtorEq, Nat.reduceEqDiff, h0, h3, k1, u1, n1]
    rw [hQ]
    exact ⟨rfl, .inl ⟨rfl, hup⟩⟩
  · intro e fr hp' he hh
    rcases (hQ _ _ _).1 hh with ⟨rfl, ⟨rfl, h1⟩ | ⟨rfl, h1, h2⟩⟩
    · rw [h1]
      simp +contextual -implicitDefEqProofs (maxSteps := 10000000) only [go_sem, ↓reduceIte]
    · rw [h1]
      simp +contextual -implicitDefEqProofs (maxSteps := 10000000) only [go_sem, h2]
theorem le_sum_at (f : Rw → Nat) : ∀ (l : List Rw) (i : Nat), i < l.length → f (l.getD i default) ≤ (l.map f).sum
  | [], i, h => by simp at h
  | r :: l, 0, _ => by simp
  | r :: l, i + 1, h => by
    have := le_sum_at f l i (by simpa using h)
    simp only [List.getD_cons_succ, List.map_cons, List.sum_cons]
    omega
theorem row_len {t : Tb} (ht : t.ok) (i : Nat) (hi : i < t.rs.length) : (t.rs.getD i default).vl.length ≤ 1000000000 := by
  have h1 := le_sum_at (fun r => 259 * r.vl.length + 4) t.rs i hi
  have h2 := ht.2.2.2.2.2
  unfold Tb.bulk at h2
  omega
theorem p_checkRow (n : Nat) (r : Rw) (hr : r.ok) (hl : r.vl.length ≤ 1000000000) (hp : Heap) : CL X GV 47 [.int .i64 (n : Nat), r.av] hp = some (.int .i64 (rwE n r), hp) := by
  obtain ⟨hrl, hrn, hro⟩ := hr
  obtain ⟨p1, u1, n1, d1, f1⟩ := hrl.one
  rw [vals_len] at n1
  rw [CL_eq (fn := x47) rfl, rwE]
  by_cases hne : r.vl.length = n
  case neg =>
    have b1 : (((r.vl.length : Nat) : Int) != ((n : Nat) : Int)) = true := by simp; omega
    rw [if_pos hne]
    simp +contextual -implicitDefEqProofs (maxSteps := 10000000) only [x47, go_sem, ↓reduceIte, reduceCtorEq, Nat.reduceEqDiff, u1, n1, b1]
  have b1 : (((r.vl.length : Nat) : Int) != ((n : Nat) : Int)) = false := by simp; omega
  rw [if_neg (by simpa using hne)]
  simp +contextual -implicitDefEqProofs (maxSteps := 10000000) only [x47, go_sem, ↓reduceIte, reduceCtorEq, Nat.reduceEqDiff, u1, n1, b1]
  rw [vals8]
  generalize hE : (fun i => chkV (r.vl.getD i default)) = E
  generalize r.av = x at *
  obtain ⟨I, hI⟩ : ∃ I : Nat → List AV → Heap → Prop, ∀ i fr hp', I i fr hp' ↔ ((∃ L, hp' = L :: hp) ∧ fget fr 12 = x ∧ fget fr 13 = .int .i64 r.vl.length ∧ fget fr 14 = .int .i64 (i : Nat) ∧ firstE E r.vl.length 0 = firstE E (r.vl.length - i) i) := ⟨_, fun _ _ _ => Iff.rfl⟩
  obtain ⟨Q, hQ⟩ : ∃ Q : XExit → List AV → Heap → Prop, ∀ e fr hp', Q e fr hp' ↔ ((∃ L, hp' = L :: hp) ∧ ((e = .exit 0 ∧ firstE E r.vl.length 0 = 0) ∨ (e = .ret ∧ fget fr 4 = .int .i64 (firstE E r.vl.length 0)))) := ⟨_, fun _ _ _ => Iff.rfl⟩
  refine LC_upK r.vl.length I Q (fun r => finK _ (seqK (blockK 0 r) _) = _) ?_ ?_ ?_ ?_
  · rw [hI]
    refine ⟨⟨_, rfl⟩, ?_, ?_, ?_, by rw [Nat.sub_zero]⟩ <;> simp only [go_sem, ↓reduceIte, Nat.reduceEqDiff, Int.natCast_zero]
  · intro i hi fr hp' hh
    obtain ⟨⟨L, rfl⟩, h12, h13, h14, hd⟩ := (hI _ _ _).1 hh
    have k1 : ((i : Int) < (r.vl.length : Int)) = True := by simp; omega
    have g1 := hrl.at (k := i) (by rw [vals_len]; exact hi)
    rw [vals_get r.vl i hi] at g1
    have w1 : wr .i64 ((i : Int) + 1) = ((i + 1 : Nat) : Int) := by rw [wr_i64 _ (by omega)]; omega
    rw [firstE_step _ _ _ hi] at hd
    have vok := hro _ (mem_getD r.vl i hi)
    obtain ⟨e0, he0⟩ : ∃ e, E i = e := ⟨_, rfl⟩
    rw [he0] at hd
    have he1 : e0 = chkV (r.vl.getD i default) := by rw [← he0, ← hE]
    generalize r.vl.getD i default = y at g1 vok he1
    have hck := v_check y.k y.n y.d y.s vok.2.1 vok.2.2
    obtain ⟨k, n2, d, s⟩ := y
    simp only [Val.cells, chkV, vA] at g1 he1 hck
    rw [← he1] at hck
    clear he0 he1
    by_cases c : e0 = 0
    · subst c
      simp +contextual -implicitDefEqProofs (maxSteps := 10000000) only [x47_l0_run, go_sem, ↓reduceIte, Nat.reduceEqDiff, Nat.reduceAdd, Int.reduceBNe, h12, h13, h14, k1, g1, w1, hck, u1, stAt_topc, ldAt_topc]
      rw [hI]
      refine ⟨⟨_, rfl⟩, ?_, ?_, ?_, by rw [hd, if_neg (by simp)]⟩ <;> simp only [go_sem, ↓reduceIte, Nat.reduceEqDiff, h12, h13]
    · have c' : (e0 = 0) = False := by simp [c]
      simp +contextual -implicitDefEqProofs (maxSteps := 10000000) only [x47_l0_run, go_sem, ↓reduceIte, Nat.reduceEqDiff, Nat.reduceAdd, h12, h13, h14, k1, g1, hck, u1, stAt_topc, ldAt_topc, c']
      rw [hQ]
      exact ⟨⟨_, rfl⟩, .inr ⟨rfl, by simp only [go_sem, ↓reduceIte, hd, if_pos c]⟩⟩
  · intro fr hp' hh
    obtain ⟨⟨L, rfl⟩, h12, h13, h14, hd⟩ := (hI _ _ _).1 hh
    simp +contextual -implicitDefEqProofs (maxSteps := 10000000) only [x47_l0_run, go_sem, ↓reduceIte, h13, h14, Int.lt_irrefl]
    rw [hQ]
    exact ⟨⟨_, rfl⟩, .inl ⟨rfl, by rw [hd, Nat.sub_self]; rfl⟩⟩
  · intro e fr hp' he hh
    rcases (hQ _ _ _).1 hh with ⟨⟨L, rfl⟩, ⟨rfl, h1⟩ | ⟨rfl, h1⟩⟩
    · simp +contextual -implicitDefEqProofs (maxSteps := 10000000) only [go_sem, ↓reduceIte, h1]
    · simp +contextual -implicitDefEqProofs (maxSteps := 10000000) only [go_sem, h1]
theorem p_tcheck (t : Tb) (ht : t.ok) : CL X GV 21 [.agg t.cells] [] = some (.int .i64 (tE t), []) := by
  obtain ⟨hxv, hxr, hro, hvl, hrl, _⟩ := id ht
  obtain ⟨pv, uv, nv, dv, fv⟩ := hxv.one
  obtain ⟨pr, ur, nr, dr, fr0⟩ := hxr.one
  rw [wds_len] at nv
  rw [rws_len] at nr
  have hup := p_rises t.vs t.xv hxv hvl
  rw [CL_eq (fn := x21) rfl, tE]
  simp only [Tb.cells]
  by_cases h8 : 8 < t.vs.length
  · have k0 : ((8 : Int) < (t.vs.length : Int)) = True := by simp; omega
    rw [if_pos (.inl h8)]
    simp +contextual -implicitDefEqProofs (maxSteps := 10000000) only [x21, go_sem, ↓reduceIte, Nat.reduceEqDiff, Nat.reduceAdd, pv, uv, nv, pr, ur, k0, ldAt_topc]
  have k0 : ((8 : Int) < (t.vs.length : Int)) = False := by simp; omega
  by_cases hu : upB t.vs = false
  · rw [if_pos (.inr hu)]
    simp +contextual -implicitDefEqProofs (maxSteps := 10000000) only [x21, go_sem, ↓reduceIte, Nat.reduceEqDiff, Nat.reduceAdd, pv, uv, nv, fv, pr, ur, k0, hup, hu, ldAt_topc]
  have hu' : upB t.vs = true := by simpa using hu
  rw [if_neg (by simp [hu']; omega)]
  obtain ⟨C, hC⟩ : ∃ C, [t.xv, t.xr] = C := ⟨_, rfl⟩
  simp +contextual -implicitDefEqProofs (maxSteps := 10000000) only [x21, go_sem, ↓reduceIte, Nat.reduceEqDiff, Nat.reduceAdd, pv, uv, nv, fv, pr, ur, nr, k0, hup, hu', ldAt_topc]
  generalize hE : rE t = E
  obtain ⟨I, hI⟩ : ∃ I : Nat → List AV → Heap → Prop, ∀ i fr hp', I i fr hp' ↔ ((∃ L, hp' = [L] ∧ lcells L 1 0 = some C) ∧ fget fr 1 = .ptr ⟨0, 1, 0⟩ 0 ∧ fget fr 17 = t.xr ∧ fget fr 18 = .int .i64 t.rs.length ∧ fget fr 19 = .int .i64 (i : Nat) ∧ firstE E t.rs.length 0 = firstE E (t.rs.length - i) i) := ⟨_, fun _ _ _ => Iff.rfl⟩
  obtain ⟨Q, hQ⟩ : ∃ Q : XExit → List AV → Heap → Prop, ∀ e fr hp', Q e fr hp' ↔ ((∃ L, hp' = [L]) ∧ ((e = .exit 0 ∧ firstE E t.rs.length 0 = 0) ∨ (e = .ret ∧ fget fr 2 = .int .i64 (firstE E t.rs.length 0)))) := ⟨_, fun _ _ _ => Iff.rfl⟩
  refine LC_upK t.rs.length I Q (fun r => finK _ (seqK (blockK 0 r) _) = _) ?_ ?_ ?_ ?_
  · rw [hI]
    refine ⟨⟨_, rfl, ?_⟩, ?_, ?_, ?_, ?_, by rw [Nat.sub_zero]⟩
    · rw [lcells_put, ← hC]; simp
    all_goals simp only [go_sem, ↓reduceIte, Nat.reduceEqDiff, Int.natCast_zero]
  · intro i hi fr hp' hh
    obtain ⟨⟨L, rfl, hL⟩, h1, h17, h18, h19, hd⟩ := (hI _ _ _).1 hh
    have hL' : lcells L 1 0 = some [t.xv, t.xr] := by rw [hL, ← hC]
    have k1 : ((i : Int) < (t.rs.length : Int)) = True := by simp; omega
    have g1 := hxr.at (k := i) (by rw [rws_len]; exact hi)
    rw [rws_get t.rs i hi] at g1
    have w1 : wr .i64 ((i : Int) + 1) = ((i + 1 : Nat) : Int) := by rw [wr_i64 _ (by omega)]; omega
    rw [firstE_step _ _ _ hi] at hd
    have hrow := hro _ (mem_getD t.rs i hi)
    obtain ⟨e0, he0⟩ : ∃ e, E i = e := ⟨_, rfl⟩
    rw [he0] at hd
    have he1 : e0 = rE t i := by rw [← he0, ← hE]
    rw [rE] at he1
    have hbl : (t.rs.getD i default).vl.length ≤ 1000000000 := row_len ht i hi
    obtain ⟨pw, uw, nw, dw, fw⟩ := hrow.1.one
    have hcr := p_checkRow t.vs.length (t.rs.getD i default) hrow hbl
    obtain ⟨e1, he2⟩ : ∃ e, rwE t.vs.length (t.rs.getD i default) = e := ⟨_, rfl⟩
    rw [he2] at hcr he1
    by_cases c1 : e1 = 0
    case neg =>
      have c1' : (e1 = 0) = False := by simp [c1]
      rw [if_pos c1] at he1
      subst he1
      simp +contextual -implicitDefEqProofs (maxSteps := 10000000) only [x21_l0_run, go_sem, ↓reduceIte, Nat.reduceEqDiff, h1, h17, h18, h19, k1, ur, g1, uw, dw, fw, hL', uv, nv, hcr, c1', ldAt_topc]
      rw [hQ]
      exact ⟨⟨_, rfl⟩, .inr ⟨rfl, by simp only [go_sem, ↓reduceIte, hd, if_pos c1]⟩⟩
    rw [if_neg (by simp [c1])] at he1
    subst c1
    by_cases c0 : i = 0
    · have ci : ((0 : Int) < (i : Int)) = False := by simp; omega
      rw [if_neg (by omega)] at he1
      subst he1
      simp +contextual -implicitDefEqProofs (maxSteps := 10000000) only [x21_l0_run, go_sem, ↓reduceIte, Nat.reduceEqDiff, Int.reduceBNe, h1, h17, h18, h19, k1, w1, ur, g1, uw, dw, fw, hL', uv, nv, hcr, ci, ldAt_topc]
      rw [hI]
      refine ⟨⟨_, rfl, hL⟩, ?_, ?_, ?_, ?_, by rw [hd, if_neg (by simp)]⟩ <;> simp only [go_sem, ↓reduceIte, Nat.reduceEqDiff, h1, h17, h18]
    · have ci : ((0 : Int) < (i : Int)) = True := by simp; omega
      obtain ⟨j, rfl⟩ : ∃ j, i = j + 1 := ⟨i - 1, by omega⟩
      have w0 : wr .i64 (((j + 1 : Nat) : Int) - 1) = ((j : Nat) : Int) := by rw [wr_i64 _ (by omega)]; omega
      have g0 := hxr.at (k := j) (by rw [rws_len]; omega)
      rw [rws_get t.rs j (by omega)] at g0
      have hrow0 := hro _ (mem_getD t.rs j (by omega))
      have hbl0 : (t.rs.getD j default).vl.length ≤ 1000000000 := row_len ht j (by omega)
      obtain ⟨pw0, uw0, nw0, dw0, fw0⟩ := hrow0.1.one
      have hcmp := v_row (t.rs.getD j default).vl (t.rs.getD (j + 1) default).vl _ _ (Rw.row hrow0) (Rw.row hrow) hrow0.2.2 hrow.2.2 (by omega)
      simp only [Nat.add_sub_cancel, Nat.zero_lt_succ, true_and] at he1
      obtain ⟨R, hR⟩ : ∃ R, rowcmp (t.rs.getD j default).vl (t.rs.getD (j + 1) default).vl = R := ⟨_, rfl⟩
      rw [hR] at hcmp he1
      obtain ⟨q, hq⟩ : ∃ q : Nat, j + 1 = q := ⟨_, rfl⟩
      rw [hq] at k1 w0 w1 g1 h19 ci uw dw fw hcr hcmp
      by_cases c2 : 0 ≤ R
      · have c2' : (0 ≤ R) = True := by simp [c2]
        rw [if_pos c2] at he1
        subst he1
        simp +contextual -implicitDefEqProofs (maxSteps := 10000000) only [x21_l0_run, go_sem, ↓reduceIte, Nat.reduceEqDiff, Int.reduceBNe, h1, h17, h18, h19, k1, w0, ur, g1, g0, uw, dw, fw, uw0, fw0, hL', uv, nv, hcr, ci, hcmp, c2', ldAt_topc]
        rw [hQ]
        exact ⟨⟨_, rfl⟩, .inr ⟨rfl, by simp only [go_sem, ↓reduceIte, Int.reduceEq, hd]⟩⟩
      · have c2' : (0 ≤ R) = False := by simp [c2]
        rw [if_neg c2] at he1
        subst he1
        simp +contextual -implicitDefEqProofs (maxSteps := 10000000) only [x21_l0_run, go_sem, ↓reduceIte, Nat.reduceEqDiff, Int.reduceBNe, h1, h17, h18, h19, k1, w1, w0, ur, g1, g0, uw, dw, fw, uw0, fw0, hL', uv, nv, hcr, ci, hcmp, c2', ldAt_topc]
        rw [hI]
        refine ⟨⟨_, rfl, hL⟩, ?_, ?_, ?_, ?_, by rw [hd, if_neg (by simp)]⟩ <;> simp only [go_sem, ↓reduceIte, Nat.reduceEqDiff, h1, h17, h18, hq]
  · intro fr hp' hh
    obtain ⟨⟨L, rfl, hL⟩, h1, h17, h18, h19, hd⟩ := (hI _ _ _).1 hh
    simp +contextual -implicitDefEqProofs (maxSteps := 10000000) only [x21_l0_run, go_sem, ↓reduceIte, h18, h19, Int.lt_irrefl]
    rw [hQ]
    exact ⟨⟨_, rfl⟩, .inl ⟨rfl, by rw [hd, Nat.sub_self]; rfl⟩⟩
  · intro e fr hp' he hh
    rcases (hQ _ _ _).1 hh with ⟨⟨L, rfl⟩, ⟨rfl, h1⟩ | ⟨rfl, h1⟩⟩
    · simp +contextual -implicitDefEqProofs (maxSteps := 10000000) only [go_sem, ↓reduceIte, h1]
    · simp +contextual -implicitDefEqProofs (maxSteps := 10000000) only [go_sem, h1]
end Go.Proofs.YtafeikbbjhmlaaaGreatDoor.Sx.T
namespace Go.Proofs.YtafeikbbjhmlaaaGreatDoor.Sx.T
open Go Go.Proofs.YtafeikbbjhmlaaaGreatDoor.Sx
set_option maxRecDepth 100000
set_option maxHeartbeats 8000000
end Go.Proofs.YtafeikbbjhmlaaaGreatDoor.Sx.T
namespace Go.Proofs.YtafeikbbjhmlaaaGreatDoor.Sx.T
open Go Go.Proofs.YtafeikbbjhmlaaaGreatDoor.Sx
set_option maxRecDepth 100000
set_option maxHeartbeats 8000000
theorem strsOf_wds : ∀ l : List (List UInt8), strsOf (wds l) = some l
  | [] => rfl
  | w :: l => by
    have ih := strsOf_wds l
    simp only [wds, List.map_cons] at ih ⊢
    simp only [strsOf, ih]
theorem lstR_ls {x : AV} {es : List (List AV)} (h : Ls 1 x es) : lstR x = some es := by
  rcases h with ⟨rfl, rfl⟩ | ⟨o, ho, rfl⟩
  · rfl
  · rcases ho with rfl | rfl <;> rfl
theorem pJ (x : AV) (ws : List (List UInt8)) (h : Ls 1 x (wds ws)) (h1 : ws.length ≤ 140737488355328) (h2 : (jn ws).length ≤ 140737488355328) : primX 8 [x, .str [32]] = some (.str (jn ws)) := by
  simp only [primX, lstR_ls h, strsOf_wds]
  exact if_pos ⟨h1, h2⟩
theorem p_bw2 (L : Level) (s v : Nat) (str : List UInt8) : CL X GV 35 [.ptr ⟨0, s, v⟩ 0, .str str] [[], L] = match bwK 56005 s v str L [] (lbld L s v) with | some (a, h) => some (a, [] :: h) | none => none := by
  have h1 := hp_writeK (l := L) (h := []) (n := 0) (s := s) (v := v) (id := 56005) (str := str) rfl (by decide)
  rw [CL_spec (1000000 + 56005) (fn := x35) rfl rfl, ← h1]
  have h2 : hget [[], L] ⟨0, s, v⟩ = hget [L] ⟨0, s, v⟩ := rfl
  unfold hprimX
  simp only [h2]
  split
  · split
    · split
      · rfl
      · rfl
    · rfl
  · rfl
theorem p_bs (L : Level) (s v : Nat) : CL X GV 27 [.ptr ⟨0, s, v⟩ 0] [L] = bsK 56005 s v L [] (lbld L s v) := by
  rw [CL_spec (2000000 + 56005) (fn := x27) rfl rfl]
  exact hp_stringK rfl (by decide)
theorem p_put (L : Level) (s v : Nat) (a b P : List UInt8) (x : AV) (ws : List (List UInt8)) (hx : Ls 1 x (wds ws)) (hL : lbld L s v = some (56, 5, P)) (h1 : ws.length ≤ 1000000000) (h2 : (jn ws).length ≤ 2000000000) (h3 : P.length ≤ 4000000000) (h4 : a.length ≤ 2) (h5 : b.length ≤ 2) :
    CL X GV 25 [.ptr ⟨0, s, v⟩ 0, .str a, .str b, x] [L] = some (.tup [], [lputb L s v 56 5 (P ++ (a ++ jn ws ++ b))]) := by
  obtain ⟨p1, u1, n1, d1, f1⟩ := hx.one
  have hj := pJ x ws hx (by omega) (by omega)
  have hbw := p_bw2 L s v
  have b1 : (a.length + (jn ws).length ≤ 140737488355328) = True := by simp; omega
  have b2 : ((a ++ jn ws).length + b.length ≤ 140737488355328) = True := by simp only [List.length_append, eq_iff_iff, iff_true]; omega
  have b3 : (P.length + (a ++ jn ws ++ b).length ≤ 140737488355328) = True := by simp only [List.length_append, eq_iff_iff, iff_true]; omega
  rw [CL_eq (fn := x25) rfl]
  simp +contextual -implicitDefEqProofs (maxSteps := 10000000) only [x25, go_sem, ↓reduceIte, Nat.reduceEqDiff, Nat.reduceAdd, Nat.reduceMul, u1, hj, hbw, hL, bwK_some, b1, b2, b3, o_callw, cwK_top]
end Go.Proofs.YtafeikbbjhmlaaaGreatDoor.Sx.T
namespace Go.Proofs.YtafeikbbjhmlaaaGreatDoor.Sx.T
open Go Go.Proofs.YtafeikbbjhmlaaaGreatDoor.Sx
set_option maxRecDepth 100000
set_option maxHeartbeats 8000000
def ol : List (List AV) → AV
  | [] => .nilsl
  | e :: l => .lst .own 1 (e :: l)
theorem ol_cons (l : List (List AV)) (e : List AV) : ol (l ++ [e]) = .lst .own 1 (l ++ [e]) := by
  cases l <;> rfl
theorem ol_ls (l : List (List AV)) : Ls 1 (uf (ol l)) l := by
  cases l with
  | nil => exact .inl ⟨rfl, rfl⟩
  | cons e l => exact .inr ⟨.none, .inl rfl, rfl⟩
theorem take_snoc {α : Type} (l : List α) (i : Nat) (d : α) (h : i < l.length) : l.take (i + 1) = l.take i ++ [l.getD i d] := by
  rw [List.take_succ_eq_append_getElem h]
  simp [List.getD, h]
theorem wds_snoc (l : List (List UInt8)) (w : List UInt8) : wds (l ++ [w]) = wds l ++ [[.str w]] := by simp [wds]
theorem p_idxS (vs : List (List UInt8)) (p : List UInt8 → Bool) (f : Nat) (ds cs : List AV) (v : AV) (hl : Ls 1 v (wds vs)) (hm : vs.length ≤ 9223372036854775806) (hp : Heap)
    (hf : ∀ k ∈ vs, CL X GV f ((ds ++ [AV.str k] ++ cs).map uf) ([] :: hp) = some (.bool (p k), [] :: hp)) :
    CL X GV 49 [v, .fn f ds cs] hp = some (.int .i64 (idxG p vs 0), hp) := by
  obtain ⟨p1, u1, n1, d1, f1⟩ := hl.one
  rw [wds_len] at n1
  rw [CL_eq (fn := x49) rfl]
  simp +contextual -implicitDefEqProofs (maxSteps := 10000000) only [x49, go_sem, ↓reduceIte, reduceCtorEq, Int.reduceNeg, u1, n1]
  obtain ⟨I, hI⟩ : ∃ I : Nat → List AV → Heap → Prop, ∀ i fr hp', I i fr hp' ↔ (hp' = [] :: hp ∧ fget fr 0 = v ∧ fget fr 1 = .fn f ds cs ∧ fget fr 7 = .int .i64 vs.length ∧ fget fr 8 = .int .i64 (i : Nat) ∧ idxG p vs 0 = idxG p (vs.drop i) i) := ⟨_, fun _ _ _ => Iff.rfl⟩
  obtain ⟨Q, hQ⟩ : ∃ Q : XExit → List AV → Heap → Prop, ∀ e fr hp', Q e fr hp' ↔ (hp' = [] :: hp ∧ ((e = .exit 0 ∧ idxG p vs 0 = -1) ∨ (e = .ret ∧ fget fr 4 = .int .i64 (idxG p vs 0)))) := ⟨_, fun _ _ _ => Iff.rfl⟩
  refine LC_upK vs.length I Q (fun r => finK _ (seqK (blockK 0 r) _) = _) ?_ ?_ ?_ ?_
  · rw [hI]
    refine ⟨rfl, ?_, ?_, ?_, ?_, by rw [List.drop_zero]⟩ <;> simp only [go_sem, ↓reduceIte, reduceCtorEq, Nat.reduceEqDiff, Int.natCast_zero]
  · intro i hi fr hp' h
    obtain ⟨rfl, h0, h1, h7, h8, hd⟩ := (hI _ _ _).1 h
    have k1 : ((i : Int) < (vs.length : Int)) = True := by simp; omega
    have g1 := up_at hl i hi
    have hmem : vs.getD i [] ∈ vs := by simp [List.getD, hi]
    have w1 : wr .i64 ((i : Int) + 1) = ((i + 1 : Nat) : Int) := by rw [wr_i64 _ (by omega)]; omega
    have hw := hf _ hmem
    have hd0 : idxG p (vs.drop i) i = if p (vs.getD i []) then (i : Int) else idxG p (vs.drop (i + 1)) (i + 1) := idxG_drop p vs i hi
    rw [hd0] at hd
    by_cases c : p (vs.getD i []) = true
    · rw [c] at hw
      simp +contextual -implicitDefEqProofs (maxSteps := 10000000) only [x49_l0_run, go_sem, ↓reduceIte, reduceCtorEq, Nat.reduceEqDiff, h0, h1, h7, h8, k1, g1, hw, o_calld, cwK_same, u1]
      rw [hQ]
      refine ⟨rfl, .inr ⟨rfl, ?_⟩⟩
      simp only [go_sem, ↓reduceIte, hd, c]
    · have c2 : p (vs.getD i []) = false := by simpa using c
      rw [c2] at hw
      simp +contextual -implicitDefEqProofs (maxSteps := 10000000) only [x49_l0_run, go_sem, ↓reduceIte, reduceCtorEq, Nat.reduceEqDiff, h0, h1, h7, h8, k1, g1, w1, hw, o_calld, cwK_same, u1]
      rw [hI]
      refine ⟨rfl, ?_, ?_, ?_, ?_, by rw [hd, if_neg c]⟩ <;> simp only [go_sem, ↓reduceIte, reduceCtorEq, Nat.reduceEqDiff, h0, h1, h7]
  · intro fr hp' h
    obtain ⟨rfl, h0, h1, h7, h8, hd⟩ := (hI _ _ _).1 h
    simp +contextual -implicitDefEqProofs (maxSteps := 10000000) only [x49_l0_run, go_sem, ↓reduceIte, h7, h8, Int.lt_irrefl]
    rw [hQ]
    exact ⟨rfl, .inl ⟨rfl, by rw [hd, List.drop_length]; rfl⟩⟩
  · intro e fr hp' he h
    rcases (hQ _ _ _).1 h with ⟨rfl, ⟨rfl, h1⟩ | ⟨rfl, h1⟩⟩
    · simp +contextual -implicitDefEqProofs (maxSteps := 10000000) only [go_sem, ↓reduceIte, Int.reduceNeg, h1]
    · simp +contextual -implicitDefEqProofs (maxSteps := 10000000) only [go_sem, Int.reduceNeg, h1]
theorem p_hasS (vs : List (List UInt8)) (p : List UInt8 → Bool) (f : Nat) (ds cs : List AV) (v : AV) (hl : Ls 1 v (wds vs)) (hm : vs.length ≤ 9223372036854775806) (hp : Heap)
    (hf : ∀ k ∈ vs, CL X GV f ((ds ++ [AV.str k] ++ cs).map uf) ([] :: [] :: hp) = some (.bool (p k), [] :: [] :: hp)) :
    CL X GV 22 [v, .fn f ds cs] hp = some (.bool (vs.any p), hp) := by
  have h1 := p_idxS vs p f ds cs v hl hm ([] :: hp) hf
  obtain ⟨p1, u1, n1, d1, f1⟩ := hl.one
  have hb := idxG_any p vs 0
  rw [CL_eq (fn := x22) rfl]
  simp +contextual -implicitDefEqProofs (maxSteps := 10000000) only [x22, go_sem, ↓reduceIte, reduceCtorEq, Nat.reduceEqDiff, u1, h1, hb, o_callw, cwK_same]
open Classical in
theorem p_tnot (w : List UInt8) (hp : Heap) : CL X GV 23 [.str w] hp = some (.bool (!decide (nameP w)), hp) := by
  rw [CL_eq (fn := x23) rfl]
  simp +contextual -implicitDefEqProofs (maxSteps := 10000000) only [x23, go_sem, ↓reduceIte, reduceCtorEq, v_name]
theorem l_sayVals (r : Rw) (hr : r.ok) (hl : r.vl.length ≤ 1000000000) (P : List UInt8) (xr : AV) (n i : Int) {fr : List AV} {L : Level} (K : Option (XExit × St) → Prop)
    (h5 : fget fr 5 = .ptr ⟨0, 5, 0⟩ 0) (h8 : fget fr 8 = .nilsl) (h25 : fget fr 25 = xr) (h26 : fget fr 26 = .int .i64 n) (h27 : fget fr 27 = .int .i64 i) (h31 : fget fr 31 = r.av) (h32 : fget fr 32 = .int .i64 r.vl.length) (h33 : fget fr 33 = .int .i64 0) (hL : lbld L 5 0 = some (56, 5, P))
    (hk : ∀ fr' L', fget fr' 5 = .ptr ⟨0, 5, 0⟩ 0 → fget fr' 8 = ol (wds (r.vl.map prt)) → fget fr' 25 = xr → fget fr' 26 = .int .i64 n → fget fr' 27 = .int .i64 i → lbld L' 5 0 = some (56, 5, P) → K (some (.exit 2, ⟨fr', [L']⟩))) :
    K (LC X GV (.loop x9_l0) ⟨fr, [L]⟩) := by
  obtain ⟨hx, hn, hro⟩ := hr
  obtain ⟨p1, u1, n1, d1, f1⟩ := hx.one
  rw [vals_len] at n1
  obtain ⟨I, hI⟩ : ∃ I : Nat → List AV → Heap → Prop, ∀ j fr hp', I j fr hp' ↔ ((∃ L, hp' = [L] ∧ lbld L 5 0 = some (56, 5, P)) ∧ fget fr 5 = .ptr ⟨0, 5, 0⟩ 0 ∧ fget fr 8 = ol (wds ((r.vl.map prt).take j)) ∧ fget fr 25 = xr ∧ fget fr 26 = .int .i64 n ∧ fget fr 27 = .int .i64 i ∧ fget fr 31 = r.av ∧ fget fr 32 = .int .i64 r.vl.length ∧ fget fr 33 = .int .i64 (j : Nat)) := ⟨_, fun _ _ _ => Iff.rfl⟩
  obtain ⟨Q, hQ⟩ : ∃ Q : XExit → List AV → Heap → Prop, ∀ e fr hp', Q e fr hp' ↔ (e = .exit 2 ∧ (∃ L, hp' = [L] ∧ lbld L 5 0 = some (56, 5, P)) ∧ fget fr 5 = .ptr ⟨0, 5, 0⟩ 0 ∧ fget fr 8 = ol (wds (r.vl.map prt)) ∧ fget fr 25 = xr ∧ fget fr 26 = .int .i64 n ∧ fget fr 27 = .int .i64 i) := ⟨_, fun _ _ _ => Iff.rfl⟩
  refine LC_upK r.vl.length I Q K ?_ ?_ ?_ ?_
  · rw [hI]
    exact ⟨⟨L, rfl, hL⟩, h5, by rw [h8]; rfl, h25, h26, h27, h31, h32, h33⟩
  · intro j hj fr hp' hh
    obtain ⟨⟨L, rfl, hL⟩, h5, h8, h25, h26, h27, h31, h32, h33⟩ := (hI _ _ _).1 hh
    have k1 : ((j : Int) < (r.vl.length : Int)) = True := by simp; omega
    have g1 := hx.at (k := j) (by rw [vals_len]; exact hj)
    rw [vals_get r.vl j hj] at g1
    have w1 : wr .i64 ((j : Int) + 1) = ((j + 1 : Nat) : Int) := by rw [wr_i64 _ (by omega)]; omega
    have vok := hro _ (mem_getD r.vl j hj)
    have hpr := v_print (r.vl.getD j default) vok []
    have htk : (r.vl.map prt).take (j + 1) = (r.vl.map prt).take j ++ [prt (r.vl.getD j default)] := by
      rw [take_snoc _ j [] (by simpa using hj)]
      simp [List.getD, hj]
    obtain ⟨q, hq⟩ : ∃ q, prt (r.vl.getD j default) = q := ⟨_, rfl⟩
    obtain ⟨e0, he⟩ : ∃ q, chkV (r.vl.getD j default) = q := ⟨_, rfl⟩
    rw [hq, he] at hpr
    rw [hq] at htk
    clear hq he
    generalize r.vl.getD j default = y at g1 hpr
    obtain ⟨k, n2, d, s⟩ := y
    simp only [Val.cells, Val.av, vA] at g1 hpr
    have hlen : ((r.vl.map prt).take j).length = j := by rw [List.length_take, List.length_map]; omega
    have hnew : ol (wds ((r.vl.map prt).take (j + 1))) = .lst .own 1 (wds ((r.vl.map prt).take j) ++ [[.str q]]) := by rw [htk, wds_snoc, ol_cons]
    have rf : (refFreeL [[AV.str q]].flatten = true ∧ [[AV.str q]].flatten.all plain1 = true) = True := by simp [refFreeL, refFree, plain1]
    cases hw : (r.vl.map prt).take j with
    | nil =>
      rw [hw] at h8 hnew
      have h8' : fget fr 8 = .nilsl := h8
      have hnew' : ol (wds ((r.vl.map prt).take (j + 1))) = .lst .own 1 [[.str q]] := hnew
      simp +contextual -implicitDefEqProofs (maxSteps := 10000000) only [x9_l0_run, go_sem, ↓reduceIte, reduceCtorEq, Nat.reduceEqDiff, Nat.reduceAdd, Nat.reduceLeDiff, Nat.reduceMul, Nat.reduceLT, Nat.reduceDiv, h8', h31, h32, h33, k1, g1, w1, u1, hpr, stAt_topc, ldAt_topc, room, rf]
      rw [hI]
      refine ⟨⟨_, rfl, ?_⟩, ?_, ?_, ?_, ?_, ?_, ?_, ?_, ?_⟩
      · simp [lbld_put, hL]
      all_goals simp only [go_sem, ↓reduceIte, Nat.reduceEqDiff, h5, h25, h26, h27, h31, h32, hnew']
    | cons w0 ws0 =>
      rw [hw] at h8 hnew hlen
      obtain ⟨W, hW⟩ : ∃ W, wds (w0 :: ws0) = W := ⟨_, rfl⟩
      have hWl : W.length = j := by rw [← hW, wds_len, hlen]
      have h8' : fget fr 8 = .lst .own 1 W := by rw [← hW]; exact h8
      rw [hW] at hnew
      have b1 : ((W.length + 1) * 16 ≤ 140737488355328) = True := by simp; omega
      simp +contextual -implicitDefEqProofs (maxSteps := 10000000) only [x9_l0_run, go_sem, ↓reduceIte, reduceCtorEq, Nat.reduceEqDiff, Nat.reduceAdd, Nat.reduceLT, Nat.reduceDiv, h8', h31, h32, h33, k1, g1, w1, u1, hpr, stAt_topc, ldAt_topc, room, rf, b1]
      rw [hI]
      refine ⟨⟨_, rfl, ?_⟩, ?_, ?_, ?_, ?_, ?_, ?_, ?_, ?_⟩
      · simp [lbld_put, hL]
      all_goals simp only [go_sem, ↓reduceIte, Nat.reduceEqDiff, h5, h25, h26, h27, h31, h32, hnew]
  · intro fr hp' hh
    obtain ⟨⟨L, rfl, hL⟩, h5, h8, h25, h26, h27, h31, h32, h33⟩ := (hI _ _ _).1 hh
    simp +contextual -implicitDefEqProofs (maxSteps := 10000000) only [x9_l0_run, go_sem, ↓reduceIte, h32, h33, Int.lt_irrefl]
    rw [hQ]
    rw [List.take_of_length_le (by simp)] at h8
    refine ⟨rfl, ⟨L, rfl, hL⟩, ?_, ?_, ?_, ?_, ?_⟩ <;> simp only [go_sem, ↓reduceIte, Nat.reduceEqDiff, h5, h8, h25, h26, h27]
  · intro e fr hp' he hh
    obtain ⟨rfl, ⟨L, rfl, hL⟩, h5, h8, h25, h26, h27⟩ := (hQ _ _ _).1 hh
    exact hk fr L h5 h8 h25 h26 h27 hL
theorem rws_bulk (l : List Rw) (i : Nat) : (rowsT (l.take i)).length ≤ (l.map fun r => 259 * r.vl.length + 4).sum :=
  Nat.le_trans (rowsT_len _) (sum_take _ l i)
open Classical in
theorem tabE_ok {t : Tb} (h : tE t = 0) : tabE t = if ∀ i, i < t.vs.length → nameP (t.vs.getD i []) then 0 else 30 := by
  rw [tabE, if_neg (by simp [h])]
open Classical in
theorem any_not {vs : List (List UInt8)} : (vs.any fun w => !decide (nameP w)) = !decide (∀ i, i < vs.length → nameP (vs.getD i [])) := by
  cases h : vs.any fun w => !decide (nameP w) with
  | true =>
    obtain ⟨w, hw, hn⟩ := List.any_eq_true.1 h
    obtain ⟨i, hi, rfl⟩ := List.mem_iff_getElem.1 hw
    have : ¬ ∀ i, i < vs.length → nameP (vs.getD i []) := fun hh => by
      have := hh i hi
      simp only [List.getD, List.getElem?_eq_getElem hi, Option.getD_some] at this
      simp [this] at hn
    rw [decide_eq_false this]; rfl
  | false =>
    have h2 := List.any_eq_false.1 h
    have : ∀ i, i < vs.length → nameP (vs.getD i []) := fun i hi => by
      have := h2 (vs.getD i []) (by simp [List.getD, hi])
      simpa using this
    rw [decide_eq_true this]; rfl
open Classical in
theorem p_sayTab (t : Tb) (ht : t.ok) : CL X GV 9 [.agg t.cells] [] = some (.tup [.str (tabS t), .int .i64 (tabE t)], []) := by
  obtain ⟨hxv, hxr, hro, hvl, hrl, hbk⟩ := id ht
  obtain ⟨pv, uv, nv, dv, fv⟩ := hxv.one
  obtain ⟨pr, ur, nr, dr, fr0⟩ := hxr.one
  rw [wds_len] at nv
  rw [rws_len] at nr
  have hck := p_tcheck t ht
  have hhas := fun hp => p_hasS t.vs (fun w => !@decide (nameP w) (Classical.propDecidable _)) 23 [] [] t.xv hxv (by omega) hp (fun k _ => p_tnot k _)
  rw [CL_eq (fn := x9) rfl]
  simp only [Tb.cells] at hck ⊢
  by_cases hE : tE t = 0
  case neg =>
    have e1 : tabE t = tE t := by rw [tabE, if_pos hE]
    have e2 : tabS t = [] := by rw [tabS, if_neg (by rw [e1]; exact hE)]
    rw [e1, e2]
    have c1 : (tE t = 0) = False := by simp [hE]
    simp +contextual -implicitDefEqProofs (maxSteps := 10000000) only [x9, go_sem, ↓reduceIte, Nat.reduceEqDiff, Nat.reduceAdd, pv, uv, fv, pr, ur, fr0, hck, c1, ldAt_topc]
  have hT := tabE_ok hE
  rw [hE] at hck
  by_cases hN : ∀ i, i < t.vs.length → nameP (t.vs.getD i [])
  case neg =>
    rw [if_neg hN] at hT
    have e2 : tabS t = [] := by rw [tabS, if_neg (by rw [hT]; simp)]
    rw [hT, e2]
    rw [any_not, decide_eq_false hN] at hhas
    simp +contextual -implicitDefEqProofs (maxSteps := 10000000) only [x9, go_sem, ↓reduceIte, Nat.reduceEqDiff, Nat.reduceAdd, Int.reduceBNe, pv, uv, fv, pr, ur, fr0, hck, hhas, o_callw, cwK_same, ldAt_topc]
  rw [if_pos hN] at hT
  have e2 : tabS t = tabT t := by rw [tabS, if_pos hT]
  rw [hT, e2]
  rw [any_not, decide_eq_true hN] at hhas
  have hb2 : (jn t.vs).length ≤ 1000000000 := by
    have := jn_len t.vs
    unfold Tb.bulk at hbk
    omega
  have hput := fun L hL => p_put L 5 0 [40] [41] [] t.xv t.vs hxv hL (by omega) (by omega) (by simp) (by simp) (by simp)
  have nv5 : nextVer (lputc [] 1 0 [t.xv, t.xr]) 5 = 0 := rfl
  have hL0 : lbld (lputb (lputc [] 1 0 [t.xv, t.xr]) 5 0 56 5 []) 5 0 = some (56, 5, []) := rfl
  have hput0 := hput _ hL0
  have hb0 : ((lbld (lputb (lputc [] 1 0 [t.xv, t.xr]) 5 0 56 5 []) 5 0)).isSome = true := rfl
  simp +contextual -implicitDefEqProofs (maxSteps := 10000000) only [x9, go_sem, ↓reduceIte, Nat.reduceEqDiff, Nat.reduceAdd, Int.reduceBNe, pv, uv, fv, pr, ur, nr, fr0, hck, hhas, o_callw, cwK_same, ldAt_topc, o_allocb, nv5, hput0, cwK_putb, lcells_putb, lbld_putb, Option.isSome_some]
  obtain ⟨A, hA⟩ : ∃ A, 40 :: (jn t.vs ++ [41]) = A := ⟨_, rfl⟩
  have hAl : A.length ≤ 1000000002 := by rw [← hA]; simp only [List.length_cons, List.length_append, List.length_nil]; omega
  have hbk2 : (t.rs.map fun r => 259 * r.vl.length + 4).sum ≤ 1000000000 := by unfold Tb.bulk at hbk; omega
  rw [hA]
  obtain ⟨I, hI⟩ : ∃ I : Nat → List AV → Heap → Prop, ∀ i fr hp', I i fr hp' ↔ ((∃ L, hp' = [L] ∧ lbld L 5 0 = some (56, 5, A ++ rowsT (t.rs.take i))) ∧ fget fr 5 = .ptr ⟨0, 5, 0⟩ 0 ∧ fget fr 25 = t.xr ∧ fget fr 26 = .int .i64 t.rs.length ∧ fget fr 27 = .int .i64 (i : Nat)) := ⟨_, fun _ _ _ => Iff.rfl⟩
  obtain ⟨Q, hQ⟩ : ∃ Q : XExit → List AV → Heap → Prop, ∀ e fr hp', Q e fr hp' ↔ (e = .exit 0 ∧ (∃ L, hp' = [L] ∧ lbld L 5 0 = some (56, 5, A ++ rowsT t.rs)) ∧ fget fr 5 = .ptr ⟨0, 5, 0⟩ 0) := ⟨_, fun _ _ _ => Iff.rfl⟩
  refine LC_upK t.rs.length I Q (fun r => finK _ (seqK (blockK 0 r) _) = _) ?_ ?_ ?_ ?_
  · rw [hI]
    refine ⟨⟨_, rfl, ?_⟩, ?_, ?_, ?_, ?_⟩
    · rw [lbld_putb, if_pos rfl, if_pos rfl]; simp [rowsT]
    all_goals simp only [go_sem, ↓reduceIte, Nat.reduceEqDiff, Int.natCast_zero]
  · intro i hi fr hp' hh
    obtain ⟨⟨L, rfl, hL⟩, h5, h25, h26, h27⟩ := (hI _ _ _).1 hh
    have k1 : ((i : Int) < (t.rs.length : Int)) = True := by simp; omega
    have g1 := hxr.at (k := i) (by rw [rws_len]; exact hi)
    rw [rws_get t.rs i hi] at g1
    have w1 : wr .i64 ((i : Int) + 1) = ((i + 1 : Nat) : Int) := by rw [wr_i64 _ (by omega)]; omega
    have hrow := hro _ (mem_getD t.rs i hi)
    have hbl : (t.rs.getD i default).vl.length ≤ 1000000000 := row_len ht i hi
    have htk := rowsT_take t.rs i hi
    have hTl := rws_bulk t.rs i
    have hbl3 : 259 * (t.rs.getD i default).vl.length + 4 ≤ 1000000000 := Nat.le_trans (le_sum_at (fun r => 259 * r.vl.length + 4) t.rs i hi) hbk2
    generalize t.rs.getD i default = r at g1 hrow hbl htk hbl3
    obtain ⟨pw, uw, nw, dw, fw⟩ := hrow.1.one
    rw [vals_len] at nw
    obtain ⟨T, hT⟩ : ∃ T, A ++ rowsT (t.rs.take i) = T := ⟨_, rfl⟩
    have hTl' : T.length ≤ 3000000000 := by rw [← hT, List.length_append]; omega
    rw [hT] at hL
    simp +contextual -implicitDefEqProofs (maxSteps := 10000000) only [x9_l1_run, go_sem, ↓reduceIte, Nat.reduceEqDiff, h25, h26, h27, k1, g1, ur, uw, dw, nw]
    refine l_sayVals r hrow hbl T t.xr t.rs.length i (fun r => StepOk (I (i + 1)) Q (seqK (blockK 1 (seqK (blockK 2 r) _)) _)) ?_ ?_ ?_ ?_ ?_ ?_ ?_ ?_ ?_ ?_
    all_goals first | (simp only [go_sem, ↓reduceIte, Nat.reduceEqDiff, h5, h25, h26, h27]; done) | skip
    · exact hL
    · intro fr' L' g5 g8 g25 g26 g27 gL
      have hX := ol_ls (wds (r.vl.map prt))
      generalize ol (wds (r.vl.map prt)) = Y at g8 hX
      obtain ⟨px, ux, nx, dx, fx⟩ := hX.one
      have h1 := jn_len (r.vl.map prt)
      have h2 := sum_prt r.vl
      have hput2 := fun L hL => p_put L 5 0 [32, 40] [41] T (uf Y) (r.vl.map prt) hX hL (by rw [List.length_map]; omega) (by omega) (by omega) (by simp) (by simp)
      have hput3 := hput2 _ gL
      have hbb : (lbld L' 5 0).isSome = true := by rw [gL]; rfl
      simp +contextual -implicitDefEqProofs (maxSteps := 10000000) only [go_sem, ↓reduceIte, Nat.reduceEqDiff, g5, g8, g27, w1, ux, hput3, gL, o_callw, cwK_putb, Option.isSome_some]
      rw [hI]
      refine ⟨⟨_, rfl, ?_⟩, ?_, ?_, ?_, ?_⟩
      · rw [lbld_putb, if_pos rfl, if_pos rfl, htk, ← List.append_assoc, hT]; simp [rowT]
      all_goals simp only [go_sem, ↓reduceIte, Nat.reduceEqDiff, g5, g25, g26]
  · intro fr hp' hh
    obtain ⟨⟨L, rfl, hL⟩, h5, h25, h26, h27⟩ := (hI _ _ _).1 hh
    simp +contextual -implicitDefEqProofs (maxSteps := 10000000) only [x9_l1_run, go_sem, ↓reduceIte, h26, h27, Int.lt_irrefl]
    rw [hQ]
    rw [List.take_length] at hL
    exact ⟨rfl, ⟨L, rfl, hL⟩, by simp only [go_sem, ↓reduceIte, Nat.reduceEqDiff, h5]⟩
  · intro e fr hp' he hh
    obtain ⟨rfl, ⟨L, rfl, hL⟩, h5⟩ := (hQ _ _ _).1 hh
    have hbs := p_bs
    have hbb : (lbld L 5 0).isSome = true := by rw [hL]; rfl
    have htt : tabT t = A ++ rowsT t.rs := by rw [tabT, ← hA]; simp
    simp +contextual -implicitDefEqProofs (maxSteps := 10000000) only [go_sem, ↓reduceIte, Nat.reduceEqDiff, Nat.reduceAdd, Nat.reduceMul, h5, hbs, hL, bsK_some, o_callw, cwK_putbc, Option.isSome_some, htt]
end Go.Proofs.YtafeikbbjhmlaaaGreatDoor.Sx.T
namespace Go.Proofs.YtafeikbbjhmlaaaGreatDoor.Sx.T
open Go Go.Proofs.YtafeikbbjhmlaaaGreatDoor.Sx
set_option maxRecDepth 100000
set_option maxHeartbeats 8000000
def bl (B : List UInt8) : AV := .lst .own 1 (listOfBytes B)
end Go.Proofs.YtafeikbbjhmlaaaGreatDoor.Sx.T
namespace Go.Proofs.YtafeikbbjhmlaaaGreatDoor.Sx.T
open Go Go.Proofs.YtafeikbbjhmlaaaGreatDoor.Sx
set_option maxRecDepth 100000
set_option maxHeartbeats 8000000
structure Vd where
  at_ : Int
  tm : Int
  t : Tb
def Vd.cells (v : Vd) : List AV := [.int .i64 v.at_, .int .i64 v.tm, v.t.xv, v.t.xr]
def Vd.ok (v : Vd) : Prop := I64 v.at_ ∧ I64 v.tm ∧ v.t.ok
def Vd.bad (v : Vd) : Prop := v.at_ < 0 ∨ 4096 ≤ v.at_ ∨ v.tm < 0 ∨ 1099511627776 < v.tm
theorem tabT_len {t : Tb} (ht : t.ok) : (tabT t).length ≤ 2000000010 := by
  have h1 := jn_len t.vs
  have h2 := rowsT_len t.rs
  have h3 := ht.2.2.2.2.2
  unfold Tb.bulk at h3
  simp only [tabT, List.length_cons, List.length_append]
  omega
end Go.Proofs.YtafeikbbjhmlaaaGreatDoor.Sx.T
namespace Go.Proofs.YtafeikbbjhmlaaaGreatDoor.Sx.T
open Go Go.Proofs.YtafeikbbjhmlaaaGreatDoor.Sx
set_option maxRecDepth 100000
set_option maxHeartbeats 8000000
theorem o_boxe {C : CallT} {gl : Nat → List AV} (d : Nat) (a : XArg) (n : Nat) (fr : List AV) (hp : Heap) : evO1 C gl (some d) (.boxe a n) fr hp =
    if (cellsOf (earg fr a)).length = n ∧ (cellsOf (earg fr a)).all plain1 = true ∧ refFreeL (cellsOf (earg fr a)) = true then some (fput fr d (.elp (cellsOf (earg fr a))), hp) else none := by
  simp only [evO1, evOp]
  by_cases h : (cellsOf (earg fr a)).length = n ∧ (cellsOf (earg fr a)).all plain1 = true ∧ refFreeL (cellsOf (earg fr a)) = true
  · rw [if_pos h, if_pos h]; rfl
  · rw [if_neg h, if_neg h]
def loadeK (v : AV) (n : Nat) (agg : Bool) : Option AV := match v with | .elp cs => ldCells cs n agg | _ => none
theorem loadeK_elp (cs : List AV) (n : Nat) (agg : Bool) : loadeK (.elp cs) n agg = ldCells cs n agg := rfl
theorem o_loade {C : CallT} {gl : Nat → List AV} (d : Nat) (a : XArg) (n : Nat) (agg : Bool) (fr : List AV) (hp : Heap) : evO1 C gl (some d) (.loade a n agg) fr hp = vK (loadeK (earg fr a) n agg) (fun v => some (fput fr d v, hp)) := by
  simp only [evO1, evOp, loadeK]
  cases earg fr a <;> simp only [vK] <;> try rfl
  rename_i cs
  cases ldCells cs n agg <;> rfl
structure Se where
  ks : List Int
  kv : AV
  at_ : Int
  t : Tb
instance : Inhabited Se := ⟨⟨[], .nilsl, 0, ⟨[], [], .nilsl, .nilsl⟩⟩⟩
def Se.cells (s : Se) : List AV := [s.kv, .int .i64 s.at_, s.t.xv, s.t.xr]
def Se.ok (s : Se) : Prop := Ls 1 s.kv (nums s.ks) ∧ s.ks.length ≤ 1048576 ∧ I64 s.at_ ∧ s.t.ok
def offK (k : Int) : Bool := decide (k < 0) || decide (256 ≤ k)
noncomputable def oneE (s : Se) : Int := if 24 < s.ks.length ∨ s.at_ < 0 ∨ 4096 ≤ s.at_ then 1 else if s.ks.any offK then 1 else tabE s.t
def oneT (s : Se) : List UInt8 := 91 :: (jn (s.ks.map decI) ++ ([93, 32] ++ (decI s.at_ ++ ([32] ++ (tabT s.t ++ [10])))))
noncomputable def oneS (s : Se) : List UInt8 := if oneE s = 0 then oneT s else []
theorem jn_decs : ∀ l : List Int, ((l.map decI).map fun w => w.length + 1).sum ≤ 22 * l.length
  | [] => by simp
  | k :: l => by
    have ih := jn_decs l
    have := decI_len k
    simp only [List.map_cons, List.sum_cons, List.length_cons] at ih ⊢
    omega
theorem tabT_bulk (t : Tb) : (tabT t).length ≤ t.bulk + 2 := by
  have h1 := jn_len t.vs
  have h2 := rowsT_len t.rs
  unfold Tb.bulk
  simp only [tabT, List.length_cons, List.length_append]
  omega
theorem oneS_len (s : Se) : (oneS s).length ≤ s.t.bulk + 700 := by
  unfold oneS
  by_cases h : oneE s = 0
  · rw [if_pos h]
    have h24 : s.ks.length ≤ 24 := by
      unfold oneE at h
      split at h
      · simp at h
      · omega
    have h1 := jn_len (s.ks.map decI)
    have h2 := jn_decs s.ks
    have h3 := decI_len s.at_
    have h4 := tabT_bulk s.t
    simp only [oneT, List.length_cons, List.length_append, List.length_nil]
    omega
  · rw [if_neg h]; simp
theorem any_step {l : List Int} {i : Nat} (h : i < l.length) (p : Int → Bool) (hb : p (l.getD i 0) = true) : l.any p = true :=
  List.any_eq_true.2 ⟨l.getD i 0, by simp [List.getD, h], hb⟩
theorem any_none {l : List Int} (p : Int → Bool) (h : ∀ i, i < l.length → p (l.getD i 0) = false) : l.any p = false := by
  rw [List.any_eq_false]
  intro x hx
  obtain ⟨i, hi, rfl⟩ := List.mem_iff_getElem.1 hx
  have := h i hi
  simp only [List.getD, List.getElem?_eq_getElem hi, Option.getD_some] at this
  simp [this]
theorem l_onePath (ks : List Int) (kv : AV) (hk : Ls 1 kv (nums ks)) (hl : ks.length ≤ 24) (B : AV) {fr : List AV} {L : Level} (K : Option (XExit × St) → Prop)
    (h1 : fget fr 1 = B) (h4 : fget fr 4 = .nilsl) (h25 : fget fr 25 = kv) (h26 : fget fr 26 = .int .i64 ks.length) (h27 : fget fr 27 = .int .i64 0)
    (hk0 : ks.any offK = false → ∀ fr', fget fr' 1 = B → fget fr' 4 = ol (wds (ks.map decI)) → K (some (.exit 0, ⟨fr', [L]⟩)))
    (hk1 : ks.any offK = true → ∀ fr', fget fr' 2 = .str [] → fget fr' 3 = .int .i64 1 → K (some (.ret, ⟨fr', [L]⟩))) : K (LC X GV (.loop x34_l0) ⟨fr, [L]⟩) := by
  obtain ⟨p1, u1, n1, d1, f1⟩ := hk.one
  obtain ⟨I, hI⟩ : ∃ I : Nat → List AV → Heap → Prop, ∀ i fr hp', I i fr hp' ↔ (hp' = [L] ∧ fget fr 1 = B ∧ fget fr 4 = ol (wds ((ks.map decI).take i)) ∧ fget fr 25 = kv ∧ fget fr 26 = .int .i64 ks.length ∧ fget fr 27 = .int .i64 (i : Nat) ∧ ∀ j, j < i → offK (ks.getD j 0) = false) := ⟨_, fun _ _ _ => Iff.rfl⟩
  obtain ⟨Q, hQ⟩ : ∃ Q : XExit → List AV → Heap → Prop, ∀ e fr hp', Q e fr hp' ↔ (hp' = [L] ∧ ((e = .exit 0 ∧ ks.any offK = false ∧ fget fr 1 = B ∧ fget fr 4 = ol (wds (ks.map decI))) ∨ (e = .ret ∧ ks.any offK = true ∧ fget fr 2 = .str [] ∧ fget fr 3 = .int .i64 1))) := ⟨_, fun _ _ _ => Iff.rfl⟩
  refine LC_upK ks.length I Q K ?_ ?_ ?_ ?_
  · rw [hI]
    exact ⟨rfl, h1, by rw [h4]; rfl, h25, h26, h27, fun j h => by omega⟩
  · intro i hi fr hp' hh
    obtain ⟨rfl, h1, h4, h25, h26, h27, hd⟩ := (hI _ _ _).1 hh
    have k1 : ((i : Int) < (ks.length : Int)) = True := by simp; omega
    have g1 := hk.at (k := i) (by rw [nums_len]; exact hi)
    rw [nums_get ks i hi] at g1
    have w1 : wr .i64 ((i : Int) + 1) = ((i + 1 : Nat) : Int) := by rw [wr_i64 _ (by omega)]; omega
    have hany := any_step hi offK
    have hnext : offK (ks.getD i 0) = false → ∀ j, j < i + 1 → offK (ks.getD j 0) = false := fun h j hj => by
      by_cases e : j = i
      · subst e; exact h
      · exact hd j (by omega)
    have htk : (ks.map decI).take (i + 1) = (ks.map decI).take i ++ [decI (ks.getD i 0)] := by
      rw [take_snoc _ i [] (by simpa using hi)]
      simp [List.getD, hi]
    generalize ks.getD i 0 = k at g1 hany hnext htk
    by_cases c1 : k < 0
    · have ho : ks.any offK = true := hany (by simp [offK, c1])
      simp +contextual -implicitDefEqProofs (maxSteps := 10000000) only [x34_l0_run, go_sem, ↓reduceIte, Nat.reduceEqDiff, h25, h26, h27, k1, g1, u1, c1]
      rw [hQ]
      exact ⟨rfl, .inr ⟨rfl, ho, by simp only [go_sem, ↓reduceIte, Nat.reduceEqDiff], by simp only [go_sem, ↓reduceIte]⟩⟩
    by_cases c2 : 256 ≤ k
    · have ho : ks.any offK = true := hany (by simp [offK, c2])
      simp +contextual -implicitDefEqProofs (maxSteps := 10000000) only [x34_l0_run, go_sem, ↓reduceIte, Nat.reduceEqDiff, h25, h26, h27, k1, g1, u1, c1, c2]
      rw [hQ]
      exact ⟨rfl, .inr ⟨rfl, ho, by simp only [go_sem, ↓reduceIte, Nat.reduceEqDiff], by simp only [go_sem, ↓reduceIte]⟩⟩
    have hoff : offK k = false := by simp [offK]; omega
    have hi9 : primX 9 [.int .i64 k] = some (.str (decI k)) := if_pos ⟨by omega, by omega⟩
    generalize decI k = q at hi9 htk
    have rf : (refFreeL [[AV.str q]].flatten = true ∧ [[AV.str q]].flatten.all plain1 = true) = True := by simp [refFreeL, refFree, plain1]
    have hlen : ((ks.map decI).take i).length = i := by rw [List.length_take, List.length_map]; omega
    have hnew : ol (wds ((ks.map decI).take (i + 1))) = .lst .own 1 (wds ((ks.map decI).take i) ++ [[.str q]]) := by rw [htk, wds_snoc, ol_cons]
    cases hw : (ks.map decI).take i with
    | nil =>
      rw [hw] at h4 hnew
      have h4' : fget fr 4 = .nilsl := h4
      have hnew' : ol (wds ((ks.map decI).take (i + 1))) = .lst .own 1 [[.str q]] := hnew
      simp +contextual -implicitDefEqProofs (maxSteps := 10000000) only [x34_l0_run, go_sem, ↓reduceIte, reduceCtorEq, Nat.reduceEqDiff, Nat.reduceLeDiff, Nat.reduceMul, Nat.reduceLT, Nat.reduceDiv, h4', h25, h26, h27, k1, g1, w1, u1, c1, c2, hi9, room, rf]
      rw [hI]
      refine ⟨rfl, ?_, ?_, ?_, ?_, ?_, hnext hoff⟩ <;> simp only [go_sem, ↓reduceIte, Nat.reduceEqDiff, h1, h25, h26, hnew']
    | cons w0 ws0 =>
      rw [hw] at h4 hnew hlen
      obtain ⟨W, hW⟩ : ∃ W, wds (w0 :: ws0) = W := ⟨_, rfl⟩
      have hWl : W.length = i := by rw [← hW, wds_len, hlen]
      have h4' : fget fr 4 = .lst .own 1 W := by rw [← hW]; exact h4
      rw [hW] at hnew
      have b1 : ((W.length + 1) * 16 ≤ 140737488355328) = True := by simp; omega
      simp +contextual -implicitDefEqProofs (maxSteps := 10000000) only [x34_l0_run, go_sem, ↓reduceIte, reduceCtorEq, Nat.reduceEqDiff, Nat.reduceLT, Nat.reduceDiv, h4', h25, h26, h27, k1, g1, w1, u1, c1, c2, hi9, room, rf, b1]
      rw [hI]
      refine ⟨rfl, ?_, ?_, ?_, ?_, ?_, hnext hoff⟩ <;> simp only [go_sem, ↓reduceIte, Nat.reduceEqDiff, h1, h25, h26, hnew]
  · intro fr hp' hh
    obtain ⟨rfl, h1, h4, h25, h26, h27, hd⟩ := (hI _ _ _).1 hh
    simp +contextual -implicitDefEqProofs (maxSteps := 10000000) only [x34_l0_run, go_sem, ↓reduceIte, h26, h27, Int.lt_irrefl]
    rw [hQ]
    rw [List.take_of_length_le (by simp)] at h4
    exact ⟨rfl, .inl ⟨rfl, any_none offK hd, by simp only [go_sem, ↓reduceIte, Nat.reduceEqDiff, h1], by simp only [go_sem, ↓reduceIte, Nat.reduceEqDiff, h4]⟩⟩
  · intro e fr hp' he hh
    rcases (hQ _ _ _).1 hh with ⟨rfl, ⟨rfl, a1, a2, a3⟩ | ⟨rfl, a1, a2, a3⟩⟩
    · exact hk0 a1 fr a2 a3
    · exact hk1 a1 fr a2 a3
theorem p_sayOne (s : Se) (hs : s.ok) : CL X GV 34 [.agg s.cells] [] = some (.tup [.str (oneS s), .int .i64 (oneE s)], []) := by
  obtain ⟨hk, hkl, ha, ht⟩ := hs
  obtain ⟨pk, uk, nk, dk, fk⟩ := hk.one
  rw [nums_len] at nk
  obtain ⟨pv, uv, nv, dv, fv⟩ := ht.1.one
  obtain ⟨pr, ur, nr, dr, fr0⟩ := ht.2.1.one
  have htab := p_sayTab s.t ht
  have hlen := tabT_len ht
  rw [CL_eq (fn := x34) rfl]
  obtain ⟨ks, kv, a, t⟩ := s
  simp only [Se.cells, Tb.cells] at *
  have hE : oneE ⟨ks, kv, a, t⟩ = if 24 < ks.length ∨ a < 0 ∨ 4096 ≤ a then 1 else if ks.any offK then 1 else tabE t := rfl
  by_cases c0 : 24 < ks.length
  · have c0' : ((24 : Int) < (ks.length : Int)) = True := by simp; omega
    rw [if_pos (.inl c0)] at hE
    rw [oneS, hE, if_neg (by simp)]
    simp +contextual -implicitDefEqProofs (maxSteps := 10000000) only [x34, go_sem, ↓reduceIte, Nat.reduceEqDiff, Nat.reduceAdd, Nat.reduceLeDiff, pk, uk, nk, fk, pv, uv, fv, pr, ur, fr0, c0', o_boxe]
  have c0' : ((24 : Int) < (ks.length : Int)) = False := by simp; omega
  by_cases c1 : a < 0
  · rw [if_pos (.inr (.inl c1))] at hE
    rw [oneS, hE, if_neg (by simp)]
    simp +contextual -implicitDefEqProofs (maxSteps := 10000000) only [x34, go_sem, ↓reduceIte, Nat.reduceEqDiff, Nat.reduceAdd, Nat.reduceLeDiff, pk, uk, nk, fk, pv, uv, fv, pr, ur, fr0, c0', c1, o_boxe]
  by_cases c2 : 4096 ≤ a
  · rw [if_pos (.inr (.inr c2))] at hE
    rw [oneS, hE, if_neg (by simp)]
    simp +contextual -implicitDefEqProofs (maxSteps := 10000000) only [x34, go_sem, ↓reduceIte, Nat.reduceEqDiff, Nat.reduceAdd, Nat.reduceLeDiff, pk, uk, nk, fk, pv, uv, fv, pr, ur, fr0, c0', c1, c2, o_boxe]
  rw [if_neg (by omega)] at hE
  simp +contextual -implicitDefEqProofs (maxSteps := 10000000) only [x34, go_sem, ↓reduceIte, Nat.reduceEqDiff, Nat.reduceAdd, Nat.reduceLeDiff, pk, uk, nk, fk, pv, uv, fv, pr, ur, fr0, c0', c1, c2, o_boxe]
  refine l_onePath ks kv hk (by omega) (.elp [kv, .int .i64 a, t.xv, t.xr]) (fun r => finK _ (seqK (blockK 0 r) _) = _) ?_ ?_ ?_ ?_ ?_ ?_ ?_
  all_goals first | (simp only [go_sem, ↓reduceIte, Nat.reduceEqDiff, Nat.reduceAdd]; done) | skip
  · intro hN fr g1 g4
    rw [hN, if_neg (by simp)] at hE
    by_cases hT : tabE t = 0
    case neg =>
      have e2 : tabS t = [] := by rw [tabS, if_neg hT]
      rw [e2] at htab
      rw [oneS, hE, if_neg hT]
      generalize tabE t = e at *
      have c5 : (e = 0) = False := by simp [hT]
      simp +contextual -implicitDefEqProofs (maxSteps := 10000000) only [go_sem, ↓reduceIte, Nat.reduceEqDiff, Nat.reduceAdd, Nat.reduceLeDiff, g1, uv, fv, ur, fr0, c5, htab]
    rw [tabS, if_pos hT, hT] at htab
    rw [oneS, hE, if_pos hT, hT]
    have hone : oneT ⟨ks, kv, a, t⟩ = 91 :: (jn (ks.map decI) ++ ([93, 32] ++ (decI a ++ ([32] ++ (tabT t ++ [10]))))) := rfl
    rw [hone]
    generalize tabT t = T at *
    have hi : primX 9 [.int .i64 a] = some (.str (decI a)) := if_pos ⟨by omega, by omega⟩
    have l1 := decI_len a
    have l2 := jn_len (ks.map decI)
    have l3 := jn_decs ks
    have hX := ol_ls (wds (ks.map decI))
    generalize ol (wds (ks.map decI)) = Y at g4 hX
    obtain ⟨px, ux, nx, dx, fx⟩ := hX.one
    have hput := fun L hL => p_put L 9 0 [91] [93, 32] [] (uf Y) (ks.map decI) hX hL (by rw [List.length_map]; omega) (by omega) (by simp) (by simp) (by simp)
    have nv9 : nextVer [] 9 = 0 := rfl
    have hL0 : lbld (lputb [] 9 0 56 5 []) 9 0 = some (56, 5, []) := rfl
    have hput0 := hput _ hL0
    have hb0 : (lbld (lputb [] 9 0 56 5 []) 9 0).isSome = true := rfl
    have hbs := p_bs
    generalize jn (ks.map decI) = N at *
    generalize decI a = A at *
    simp +contextual -implicitDefEqProofs (maxSteps := 10000000) only [go_sem, ↓reduceIte, Nat.reduceEqDiff, Nat.reduceAdd, Nat.reduceLeDiff, Nat.reduceMul, Int.reduceBNe, g1, g4, uv, fv, ur, fr0, ux, htab, hi, o_loade, loadeK_elp, o_allocb, nv9, hput0, o_callw, cwK_putb, cwK_putbc, hbs, bsK_some, lbld_putb, Option.isSome_some]
    rw [if_pos (by simp only [List.length_append, List.length_cons, List.length_nil]; omega), if_pos (by simp only [List.length_append, List.length_cons, List.length_nil]; omega), if_pos (by simp only [List.length_append, List.length_cons, List.length_nil]; omega), if_pos (by simp only [List.length_append, List.length_cons, List.length_nil]; omega)]
    simp only [List.append_assoc, List.cons_append, List.nil_append]
  · intro hN fr g2 g3
    rw [hN, if_pos rfl] at hE
    rw [oneS, hE, if_neg (by simp)]
    simp +contextual -implicitDefEqProofs (maxSteps := 10000000) only [go_sem, ↓reduceIte, Nat.reduceAdd, g2, g3]
end Go.Proofs.YtafeikbbjhmlaaaGreatDoor.Sx.T
namespace Go.Proofs.YtafeikbbjhmlaaaGreatDoor.Sx.T
open Go Go.Proofs.YtafeikbbjhmlaaaGreatDoor.Sx
set_option maxRecDepth 100000
set_option maxHeartbeats 8000000
end Go.Proofs.YtafeikbbjhmlaaaGreatDoor.Sx.T
namespace Go.Proofs.YtafeikbbjhmlaaaGreatDoor.Sx.T
open Go Go.Proofs.YtafeikbbjhmlaaaGreatDoor.Sx
set_option maxRecDepth 100000
set_option maxHeartbeats 8000000
theorem p_bw (L : Level) (s v : Nat) (str : List UInt8) : CL X GV 35 [.ptr ⟨0, s, v⟩ 0, .str str] [L] = bwK 56005 s v str L [] (lbld L s v) := by
  rw [CL_spec (1000000 + 56005) (fn := x35) rfl rfl]
  exact hp_writeK rfl (by decide)
def ses (l : List Se) : List (List AV) := l.map Se.cells
theorem ses_len (l : List Se) : (ses l).length = l.length := by simp [ses]
theorem ses_get (l : List Se) (i : Nat) (h : i < l.length) : (ses l).getD i [] = (l.getD i default).cells := by simp [ses, List.getD, h]
def SesV (x : AV) (l : List Se) : Prop := Ls 4 x (ses l) ∧ (∀ s ∈ l, s.ok) ∧ l.length ≤ 1048576 ∧ (l.map fun s => s.t.bulk).sum ≤ 900000000
noncomputable def shE (l : List Se) : Int := if 4096 < l.length then 3 else firstE (fun i => oneE (l.getD i default)) l.length 0
noncomputable def shT (l : List Se) : List UInt8 := l.flatMap oneS
noncomputable def shS (l : List Se) : List UInt8 := if shE l = 0 then shT l else []
theorem shT_take (l : List Se) (i : Nat) (h : i < l.length) : shT (l.take (i + 1)) = shT (l.take i) ++ oneS (l.getD i default) := by
  rw [shT, List.take_succ_eq_append_getElem h, List.flatMap_append, List.flatMap_singleton]
  simp [shT, List.getD, h]
theorem shT_len : ∀ l : List Se, (shT l).length ≤ (l.map fun s => s.t.bulk).sum + 700 * l.length
  | [] => by simp [shT]
  | s :: l => by
    have ih := shT_len l
    have := oneS_len s
    simp only [shT, List.flatMap_cons, List.length_append, List.map_cons, List.sum_cons, List.length_cons] at ih ⊢
    omega
theorem sumS_take (f : Se → Nat) : ∀ (l : List Se) (i : Nat), ((l.take i).map f).sum ≤ (l.map f).sum
  | [], i => by simp
  | r :: l, 0 => by simp
  | r :: l, i + 1 => by
    have := sumS_take f l i
    simp only [List.take_succ_cons, List.map_cons, List.sum_cons]
    omega
theorem shT_bound {x : AV} {l : List Se} (h : SesV x l) (i : Nat) : (shT (l.take i)).length ≤ 2000000000 := by
  have h1 := shT_len (l.take i)
  have h2 := sumS_take (fun s => s.t.bulk) l i
  have h3 := h.2.2.1
  have h4 := h.2.2.2
  rw [List.length_take] at h1
  omega
theorem p_sayShs (l : List Se) (x : AV) (hx : SesV x l) : CL X GV 13 [x] [] = some (.tup [.str (shS l), .int .i64 (shE l)], []) := by
  obtain ⟨hl, hok, hn, hb⟩ := id hx
  obtain ⟨p1, u1, n1, d1, f1⟩ := hl.one
  rw [ses_len] at n1
  have hTb := shT_bound hx
  rw [CL_eq (fn := x13) rfl]
  by_cases h4 : 4096 < l.length
  · have k0 : ((4096 : Int) < (l.length : Int)) = True := by simp; omega
    have e1 : shE l = 3 := by rw [shE, if_pos h4]
    have e2 : shS l = [] := by rw [shS, e1, if_neg (by simp)]
    rw [e1, e2]
    simp +contextual -implicitDefEqProofs (maxSteps := 10000000) only [x13, go_sem, ↓reduceIte, reduceCtorEq, Nat.reduceEqDiff, Nat.reduceAdd, u1, n1, k0]
  have k0 : ((4096 : Int) < (l.length : Int)) = False := by simp; omega
  have hE : shE l = firstE (fun i => oneE (l.getD i default)) l.length 0 := by rw [shE, if_neg h4]
  rw [shS, hE]
  generalize hF : (fun i => oneE (l.getD i default)) = E
  have nv4 : nextVer [] 4 = 0 := rfl
  simp +contextual -implicitDefEqProofs (maxSteps := 10000000) only [x13, go_sem, ↓reduceIte, reduceCtorEq, u1, n1, k0, o_allocb, nv4]
  obtain ⟨I, hI⟩ : ∃ I : Nat → List AV → Heap → Prop, ∀ i fr hp', I i fr hp' ↔ ((∃ L, hp' = [L] ∧ lbld L 4 0 = some (56, 5, shT (l.take i))) ∧ fget fr 4 = .ptr ⟨0, 4, 0⟩ 0 ∧ fget fr 12 = x ∧ fget fr 13 = .int .i64 l.length ∧ fget fr 14 = .int .i64 (i : Nat) ∧ firstE E l.length 0 = firstE E (l.length - i) i) := ⟨_, fun _ _ _ => Iff.rfl⟩
  obtain ⟨Q, hQ⟩ : ∃ Q : XExit → List AV → Heap → Prop, ∀ e fr hp', Q e fr hp' ↔ ((e = .exit 0 ∧ firstE E l.length 0 = 0 ∧ (∃ L, hp' = [L] ∧ lbld L 4 0 = some (56, 5, shT l)) ∧ fget fr 4 = .ptr ⟨0, 4, 0⟩ 0) ∨ (e = .ret ∧ firstE E l.length 0 ≠ 0 ∧ (∃ L, hp' = [L]) ∧ fget fr 2 = .str [] ∧ fget fr 3 = .int .i64 (firstE E l.length 0))) := ⟨_, fun _ _ _ => Iff.rfl⟩
  refine LC_upK l.length I Q (fun r => finK _ (seqK (blockK 0 r) _) = _) ?_ ?_ ?_ ?_
  · rw [hI]
    refine ⟨⟨_, rfl, ?_⟩, ?_, ?_, ?_, ?_, by rw [Nat.sub_zero]⟩
    · rw [lbld_putb, if_pos rfl, if_pos rfl]; rfl
    all_goals simp only [go_sem, ↓reduceIte, Nat.reduceEqDiff, Int.natCast_zero]
  · intro i hi fr hp' hh
    obtain ⟨⟨L, rfl, hL⟩, h4, h12, h13, h14, hd⟩ := (hI _ _ _).1 hh
    have k1 : ((i : Int) < (l.length : Int)) = True := by simp; omega
    have g1 := hl.at (k := i) (by rw [ses_len]; exact hi)
    rw [ses_get l i hi] at g1
    have w1 : wr .i64 ((i : Int) + 1) = ((i + 1 : Nat) : Int) := by rw [wr_i64 _ (by omega)]; omega
    rw [firstE_step _ _ _ hi] at hd
    have sok := hok _ (mem_getD l i hi)
    have hone := p_sayOne (l.getD i default) sok
    have htk := shT_take l i hi
    have hTl := hTb i
    have hTl1 := hTb (i + 1)
    obtain ⟨e0, he0⟩ : ∃ e, E i = e := ⟨_, rfl⟩
    rw [he0] at hd
    have he1 : oneE (l.getD i default) = e0 := by rw [← he0, ← hF]
    rw [he1] at hone
    have hq0 : e0 ≠ 0 → oneS (l.getD i default) = [] := fun h => by rw [oneS, he1, if_neg h]
    obtain ⟨q, hq⟩ : ∃ q, oneS (l.getD i default) = q := ⟨_, rfl⟩
    rw [hq] at hone htk hq0
    clear he1 he0 hq
    generalize l.getD i default = s at g1 sok hone
    obtain ⟨pk, uk, nk, dk, fk⟩ := sok.1.one
    obtain ⟨pv, uv, nv, dv, fv⟩ := sok.2.2.2.1.one
    obtain ⟨pr, ur, nr, dr, fr0⟩ := sok.2.2.2.2.1.one
    obtain ⟨ks, kv, a, t⟩ := s
    simp only [Se.cells] at *
    obtain ⟨T, hT⟩ : ∃ T, shT (l.take i) = T := ⟨_, rfl⟩
    rw [hT] at hL htk hTl
    by_cases c : e0 = 0
    · subst c
      have b1 : (T.length + q.length ≤ 140737488355328) = True := by
        rw [htk, List.length_append] at hTl1
        simp; omega
      have hbw := p_bw
      simp +contextual -implicitDefEqProofs (maxSteps := 10000000) only [x13_l0_run, go_sem, ↓reduceIte, Nat.reduceEqDiff, Nat.reduceAdd, Nat.reduceMul, Int.reduceBNe, h4, h12, h13, h14, k1, g1, w1, u1, pk, uk, fk, pv, uv, fv, pr, ur, fr0, hone, hbw, lbld_put, hL, bwK_some, b1, o_callw, cwK_putb, Option.isSome_some, stAt_topc, ldAt_topc]
      rw [hI]
      refine ⟨⟨_, rfl, ?_⟩, ?_, ?_, ?_, ?_, by rw [hd, if_neg (by simp)]⟩
      · rw [lbld_putb, if_pos rfl, if_pos rfl, htk]
      all_goals simp only [go_sem, ↓reduceIte, Nat.reduceEqDiff, h4, h12, h13]
    · have c' : (e0 = 0) = False := by simp [c]
      have hq1 := hq0 c
      subst hq1
      simp +contextual -implicitDefEqProofs (maxSteps := 10000000) only [x13_l0_run, go_sem, ↓reduceIte, Nat.reduceEqDiff, Nat.reduceAdd, h12, h13, h14, k1, g1, u1, pk, uk, fk, pv, uv, fv, pr, ur, fr0, hone, c', stAt_topc, ldAt_topc]
      rw [hQ]
      have hd' : firstE E l.length 0 = e0 := by rw [hd, if_pos c]
      exact .inr ⟨rfl, by rw [hd']; exact c, ⟨_, rfl⟩, by simp only [go_sem, ↓reduceIte, Nat.reduceEqDiff], by simp only [go_sem, ↓reduceIte, hd']⟩
  · intro fr hp' hh
    obtain ⟨⟨L, rfl, hL⟩, h4, h12, h13, h14, hd⟩ := (hI _ _ _).1 hh
    simp +contextual -implicitDefEqProofs (maxSteps := 10000000) only [x13_l0_run, go_sem, ↓reduceIte, h13, h14, Int.lt_irrefl]
    rw [hQ]
    rw [List.take_length] at hL
    exact .inl ⟨rfl, by rw [hd, Nat.sub_self]; rfl, ⟨L, rfl, hL⟩, by simp only [go_sem, ↓reduceIte, Nat.reduceEqDiff, h4]⟩
  · intro e fr hp' he hh
    rcases (hQ _ _ _).1 hh with ⟨rfl, h0, ⟨L, rfl, hL⟩, h4⟩ | ⟨rfl, h0, ⟨L, rfl⟩, h2, h3⟩
    · have hbs := p_bs
      have hbb : (lbld L 4 0).isSome = true := by rw [hL]; rfl
      rw [h0, if_pos rfl]
      simp +contextual -implicitDefEqProofs (maxSteps := 10000000) only [go_sem, ↓reduceIte, Nat.reduceEqDiff, Nat.reduceAdd, Nat.reduceMul, h4, hbs, hL, bsK_some, o_callw, cwK_putbc, Option.isSome_some]
    · rw [if_neg h0]
      simp +contextual -implicitDefEqProofs (maxSteps := 10000000) only [go_sem, ↓reduceIte, Nat.reduceAdd, h2, h3]
structure Sh where
  l : List Se
  x : AV
end Go.Proofs.YtafeikbbjhmlaaaGreatDoor.Sx.T
namespace Go.Proofs.YtafeikbbjhmlaaaGreatDoor.Sx.T
open Go Go.Proofs.YtafeikbbjhmlaaaGreatDoor.Sx
set_option maxRecDepth 100000
set_option maxHeartbeats 8000000
theorem list_eq_at {α : Type} (d : α) : ∀ {a b : List α}, a.length = b.length → (∀ i, i < a.length → a.getD i d = b.getD i d) → a = b
  | [], [], _, _ => rfl
  | [], b :: l, h, _ => by simp at h
  | a :: l, [], h, _ => by simp at h
  | a :: l, b :: m, h, hh => by
    have h0 := hh 0 (by simp)
    have ih := list_eq_at d (a := l) (b := m) (by simpa using h) (fun i hi => by simpa using hh (i + 1) (by simpa using hi))
    simp at h0
    rw [h0, ih]
theorem list_ne_at {α : Type} (d : α) {a b : List α} (i : Nat) (h : a.getD i d ≠ b.getD i d) : a ≠ b := fun e => h (by rw [e])
theorem p_sameVars (a b : List (List UInt8)) (x y : AV) (hx : Ls 1 x (wds a)) (hy : Ls 1 y (wds b)) (hl : a.length ≤ 9223372036854775806) (hp : Heap) :
    CL X GV 44 [x, y] hp = some (.bool (decide (a = b)), hp) := by
  obtain ⟨p1, u1, n1, d1, f1⟩ := hx.one
  obtain ⟨p2, u2, n2, d2, f2⟩ := hy.one
  rw [wds_len] at n1 n2
  rw [CL_eq (fn := x44) rfl]
  by_cases hne : a.length = b.length
  case neg =>
    have b1 : (((a.length : Nat) : Int) != ((b.length : Nat) : Int)) = true := by rw [bne_iff_ne]; omega
    have e : a ≠ b := fun e => hne (by rw [e])
    rw [decide_eq_false e]
    simp +contextual -implicitDefEqProofs (maxSteps := 10000000) only [x44, go_sem, ↓reduceIte, reduceCtorEq, Nat.reduceEqDiff, u1, u2, n1, n2, b1]
  have b1 : (((a.length : Nat) : Int) != ((b.length : Nat) : Int)) = false := by rw [hne]; simp
  simp +contextual -implicitDefEqProofs (maxSteps := 10000000) only [x44, go_sem, ↓reduceIte, reduceCtorEq, Nat.reduceEqDiff, u1, u2, n1, n2, b1]
  obtain ⟨I, hI⟩ : ∃ I : Nat → List AV → Heap → Prop, ∀ i fr hp', I i fr hp' ↔ (hp' = [] :: hp ∧ fget fr 0 = x ∧ fget fr 1 = y ∧ fget fr 5 = .int .i64 (i : Nat) ∧ ∀ j, j < i → a.getD j [] = b.getD j []) := ⟨_, fun _ _ _ => Iff.rfl⟩
  obtain ⟨Q, hQ⟩ : ∃ Q : XExit → List AV → Heap → Prop, ∀ e fr hp', Q e fr hp' ↔ (hp' = [] :: hp ∧ ((e = .exit 0 ∧ a = b) ∨ (e = .ret ∧ a ≠ b ∧ fget fr 4 = .bool false))) := ⟨_, fun _ _ _ => Iff.rfl⟩
  refine LC_upK a.length I Q (fun r => finK _ (seqK (blockK 0 r) _) = _) ?_ ?_ ?_ ?_
  · rw [hI]
    refine ⟨rfl, ?_, ?_, ?_, fun j h => by omega⟩
    all_goals simp only [go_sem, ↓reduceIte, reduceCtorEq, Nat.reduceEqDiff, Int.natCast_zero]
  · intro i hi fr hp' hh
    obtain ⟨rfl, h0, h1, h5, hd⟩ := (hI _ _ _).1 hh
    have k1 : ((i : Int) < (a.length : Int)) = True := by simp; omega
    have k2 : ((i : Int) < (b.length : Int)) = True := by simp; omega
    have w1 : wr .i64 ((i : Int) + 1) = ((i + 1 : Nat) : Int) := by rw [wr_i64 _ (by omega)]; omega
    have g1 := up_at hx i hi
    have g2 := up_at hy i (by omega)
    have hne2 := list_ne_at (a := a) (b := b) ([] : List UInt8) i
    have hnext : a.getD i [] = b.getD i [] → ∀ j, j < i + 1 → a.getD j [] = b.getD j [] := fun h j hj => by
      by_cases e : j = i
      · subst e; exact h
      · exact hd j (by omega)
    generalize a.getD i [] = v at g1 hne2 hnext
    generalize b.getD i [] = w at g2 hne2 hnext
    by_cases c : v = w
    · have c' : (v = w) = True := by simp [c]
      simp +contextual -implicitDefEqProofs (maxSteps := 10000000) only [x44_l0_run, go_sem, ↓reduceIte, reduceCtorEq, Nat.reduceEqDiff, h0, h1, h5, k1, g1, g2, w1, u1, u2, n1, c']
      rw [hI]
      refine ⟨rfl, ?_, ?_, ?_, hnext c⟩ <;> simp only [go_sem, ↓reduceIte, reduceCtorEq, Nat.reduceEqDiff, h0, h1]
    · have c' : (v = w) = False := by simp [c]
      simp +contextual -implicitDefEqProofs (maxSteps := 10000000) only [x44_l0_run, go_sem, ↓reduceIte, reduceCtorEq, Nat.reduceEqDiff, h0, h1, h5, k1, g1, g2, u1, u2, n1, c']
      rw [hQ]
      exact ⟨rfl, .inr ⟨rfl, hne2 c, by simp only [go_sem, ↓reduceIte]⟩⟩
  · intro fr hp' hh
    obtain ⟨rfl, h0, h1, h5, hd⟩ := (hI _ _ _).1 hh
    simp +contextual -implicitDefEqProofs (maxSteps := 10000000) only [x44_l0_run, go_sem, ↓reduceIte, reduceCtorEq, Nat.reduceEqDiff, h0, h5, u1, n1, Int.lt_irrefl]
    rw [hQ]
    exact ⟨rfl, .inl ⟨rfl, list_eq_at [] hne hd⟩⟩
  · intro e fr hp' he hh
    rcases (hQ _ _ _).1 hh with ⟨rfl, ⟨rfl, h1⟩ | ⟨rfl, h1, h2⟩⟩
    · rw [decide_eq_true h1]
      simp +contextual -implicitDefEqProofs (maxSteps := 10000000) only [go_sem, ↓reduceIte]
    · rw [decide_eq_false h1]
      simp +contextual -implicitDefEqProofs (maxSteps := 10000000) only [go_sem, h2]
theorem p_sameRow (a b : List Val) (x y : AV) (hx : Ls 4 x (vals a)) (hy : Ls 4 y (vals b)) (hl : a.length ≤ 9223372036854775806) (hp : Heap) :
    CL X GV 45 [x, y] hp = some (.bool (decide (a = b)), hp) := by
  obtain ⟨p1, u1, n1, d1, f1⟩ := hx.one
  obtain ⟨p2, u2, n2, d2, f2⟩ := hy.one
  rw [vals_len] at n1 n2
  rw [CL_eq (fn := x45) rfl]
  by_cases hne : a.length = b.length
  case neg =>
    have b1 : (((a.length : Nat) : Int) != ((b.length : Nat) : Int)) = true := by rw [bne_iff_ne]; omega
    have e : a ≠ b := fun e => hne (by rw [e])
    rw [decide_eq_false e]
    simp +contextual -implicitDefEqProofs (maxSteps := 10000000) only [x45, go_sem, ↓reduceIte, reduceCtorEq, Nat.reduceEqDiff, u1, u2, n1, n2, b1]
  have b1 : (((a.length : Nat) : Int) != ((b.length : Nat) : Int)) = false := by rw [hne]; simp
  simp +contextual -implicitDefEqProofs (maxSteps := 10000000) only [x45, go_sem, ↓reduceIte, reduceCtorEq, Nat.reduceEqDiff, u1, u2, n1, n2, b1]
  obtain ⟨I, hI⟩ : ∃ I : Nat → List AV → Heap → Prop, ∀ i fr hp', I i fr hp' ↔ (hp' = [] :: hp ∧ fget fr 0 = x ∧ fget fr 1 = y ∧ fget fr 5 = .int .i64 (i : Nat) ∧ ∀ j, j < i → a.getD j default = b.getD j default) := ⟨_, fun _ _ _ => Iff.rfl⟩
  obtain ⟨Q, hQ⟩ : ∃ Q : XExit → List AV → Heap → Prop, ∀ e fr hp', Q e fr hp' ↔ (hp' = [] :: hp ∧ ((e = .exit 0 ∧ a = b) ∨ (e = .ret ∧ a ≠ b ∧ fget fr 4 = .bool false))) := ⟨_, fun _ _ _ => Iff.rfl⟩
  refine LC_upK a.length I Q (fun r => finK _ (seqK (blockK 0 r) _) = _) ?_ ?_ ?_ ?_
  · rw [hI]
    refine ⟨rfl, ?_, ?_, ?_, fun j h => by omega⟩
    all_goals simp only [go_sem, ↓reduceIte, reduceCtorEq, Nat.reduceEqDiff, Int.natCast_zero]
  · intro i hi fr hp' hh
    obtain ⟨rfl, h0, h1, h5, hd⟩ := (hI _ _ _).1 hh
    have k1 : ((i : Int) < (a.length : Int)) = True := by simp; omega
    have w1 : wr .i64 ((i : Int) + 1) = ((i + 1 : Nat) : Int) := by rw [wr_i64 _ (by omega)]; omega
    have g1 := hx.at (k := i) (by rw [vals_len]; exact hi)
    have g2 := hy.at (k := i) (by rw [vals_len]; omega)
    rw [vals_get a i hi] at g1
    rw [vals_get b i (by omega)] at g2
    have hsm := v_rsame (a.getD i default) (b.getD i default)
    have hne2 := list_ne_at (a := a) (b := b) (default : Val) i
    have hnext : a.getD i default = b.getD i default → ∀ j, j < i + 1 → a.getD j default = b.getD j default := fun h j hj => by
      by_cases e : j = i
      · subst e; exact h
      · exact hd j (by omega)
    generalize a.getD i default = v at g1 hne2 hnext hsm
    generalize b.getD i default = w at g2 hne2 hnext hsm
    by_cases c : v = w
    · rw [decide_eq_true c] at hsm
      have hnx := hnext c
      obtain ⟨k, n, d, s⟩ := v
      obtain ⟨k', n', d', s'⟩ := w
      simp only [Val.cells, Val.av, vA] at g1 g2 hsm
      simp +contextual -implicitDefEqProofs (maxSteps := 10000000) only [x45_l0_run, go_sem, ↓reduceIte, reduceCtorEq, Nat.reduceEqDiff, Nat.reduceAdd, h0, h1, h5, k1, g1, g2, w1, u1, u2, n1, hsm]
      rw [hI]
      refine ⟨rfl, ?_, ?_, ?_, hnx⟩ <;> simp only [go_sem, ↓reduceIte, reduceCtorEq, Nat.reduceEqDiff, h0, h1]
    · rw [decide_eq_false c] at hsm
      have hnx := hne2 c
      clear hne2 hnext c
      obtain ⟨k, n, d, s⟩ := v
      obtain ⟨k', n', d', s'⟩ := w
      simp only [Val.cells, Val.av, vA] at g1 g2 hsm
      simp +contextual -implicitDefEqProofs (maxSteps := 10000000) only [x45_l0_run, go_sem, ↓reduceIte, reduceCtorEq, Nat.reduceEqDiff, Nat.reduceAdd, h0, h1, h5, k1, g1, g2, u1, u2, n1, hsm]
      rw [hQ]
      exact ⟨rfl, .inr ⟨rfl, hnx, by simp only [go_sem, ↓reduceIte]⟩⟩
  · intro fr hp' hh
    obtain ⟨rfl, h0, h1, h5, hd⟩ := (hI _ _ _).1 hh
    simp +contextual -implicitDefEqProofs (maxSteps := 10000000) only [x45_l0_run, go_sem, ↓reduceIte, reduceCtorEq, Nat.reduceEqDiff, h0, h5, u1, n1, Int.lt_irrefl]
    rw [hQ]
    exact ⟨rfl, .inl ⟨rfl, list_eq_at default hne hd⟩⟩
  · intro e fr hp' he hh
    rcases (hQ _ _ _).1 hh with ⟨rfl, ⟨rfl, h1⟩ | ⟨rfl, h1, h2⟩⟩
    · rw [decide_eq_true h1]
      simp +contextual -implicitDefEqProofs (maxSteps := 10000000) only [go_sem, ↓reduceIte]
    · rw [decide_eq_false h1]
      simp +contextual -implicitDefEqProofs (maxSteps := 10000000) only [go_sem, h2]
def Tb.rows (t : Tb) : List (List Val) := t.rs.map fun r => r.vl
def Tb.same (t u : Tb) : Prop := t.vs = u.vs ∧ t.rows = u.rows
instance (t u : Tb) : Decidable (t.same u) := inferInstanceAs (Decidable (_ ∧ _))
theorem rows_get (t : Tb) (i : Nat) (h : i < t.rs.length) : t.rows.getD i [] = (t.rs.getD i default).vl := by simp [Tb.rows, List.getD, h]
def Tb.ok1 (t : Tb) : Prop := Ls 1 t.xv (wds t.vs) ∧ Ls 1 t.xr (rws t.rs) ∧ (∀ r ∈ t.rs, r.ok) ∧ t.vs.length ≤ 1000000000 ∧ t.rs.length ≤ 1000000000
theorem Tb.ok.one {t : Tb} (h : t.ok) : t.ok1 := ⟨h.1, h.2.1, h.2.2.1, by have := h.2.2.2.1; omega, by have := h.2.2.2.2.1; omega⟩
theorem p_rtsame (t u : Tb) (ht : t.ok1) (hu : u.ok1) : CL X GV 19 [.agg t.cells, .agg u.cells] [] = some (.bool (decide (t.same u)), []) := by
  obtain ⟨hxv, hxr, hro, hvl, hrl⟩ := ht
  obtain ⟨hyv, hyr, hso, hwl, hsl⟩ := hu
  obtain ⟨pv, uv, nv, dv, fv⟩ := hxv.one
  obtain ⟨pr, ur, nr, dr, fr0⟩ := hxr.one
  obtain ⟨pv2, uv2, nv2, dv2, fv2⟩ := hyv.one
  obtain ⟨pr2, ur2, nr2, dr2, fr2⟩ := hyr.one
  rw [wds_len] at nv nv2
  rw [rws_len] at nr nr2
  have hsv := p_sameVars t.vs u.vs t.xv u.xv hxv hyv (by omega)
  rw [CL_eq (fn := x19) rfl]
  simp only [Tb.cells]
  by_cases hv : t.vs = u.vs
  case neg =>
    have e : ¬ t.same u := fun h => hv h.1
    rw [decide_eq_false e]
    rw [decide_eq_false hv] at hsv
    simp +contextual -implicitDefEqProofs (maxSteps := 10000000) only [x19, go_sem, ↓reduceIte, Nat.reduceEqDiff, Nat.reduceAdd, pv, uv, fv, pr, ur, pv2, uv2, fv2, pr2, ur2, hsv, ldAt_topc]
  rw [decide_eq_true hv] at hsv
  by_cases hn : t.rs.length = u.rs.length
  case neg =>
    have b1 : (((t.rs.length : Nat) : Int) != ((u.rs.length : Nat) : Int)) = true := by rw [bne_iff_ne]; omega
    have e : ¬ t.same u := fun h => hn (by have := congrArg List.length h.2; simpa [Tb.rows] using this)
    rw [decide_eq_false e]
    simp +contextual -implicitDefEqProofs (maxSteps := 10000000) only [x19, go_sem, ↓reduceIte, Nat.reduceEqDiff, Nat.reduceAdd, pv, uv, fv, pr, ur, nr, pv2, uv2, fv2, pr2, ur2, nr2, hsv, b1, ldAt_topc]
  have b1 : (((t.rs.length : Nat) : Int) != ((u.rs.length : Nat) : Int)) = false := by rw [hn]; simp
  obtain ⟨C, hC⟩ : ∃ C, [t.xv, t.xr] = C := ⟨_, rfl⟩
  obtain ⟨D, hD⟩ : ∃ D, [u.xv, u.xr] = D := ⟨_, rfl⟩
  simp +contextual -implicitDefEqProofs (maxSteps := 10000000) only [x19, go_sem, ↓reduceIte, Nat.reduceEqDiff, Nat.reduceAdd, pv, uv, fv, pr, ur, nr, pv2, uv2, fv2, pr2, ur2, nr2, hsv, b1, ldAt_topc]
  obtain ⟨I, hI⟩ : ∃ I : Nat → List AV → Heap → Prop, ∀ i fr hp', I i fr hp' ↔ ((∃ L, hp' = [L] ∧ lcells L 2 0 = some C ∧ lcells L 3 0 = some D) ∧ fget fr 2 = .ptr ⟨0, 2, 0⟩ 0 ∧ fget fr 3 = .ptr ⟨0, 3, 0⟩ 0 ∧ fget fr 6 = .int .i64 (i : Nat) ∧ ∀ j, j < i → t.rows.getD j [] = u.rows.getD j []) := ⟨_, fun _ _ _ => Iff.rfl⟩
  obtain ⟨Q, hQ⟩ : ∃ Q : XExit → List AV → Heap → Prop, ∀ e fr hp', Q e fr hp' ↔ ((∃ L, hp' = [L]) ∧ ((e = .exit 0 ∧ t.rows = u.rows) ∨ (e = .ret ∧ t.rows ≠ u.rows ∧ fget fr 4 = .bool false))) := ⟨_, fun _ _ _ => Iff.rfl⟩
  have hrl1 : t.rows.length = t.rs.length := by simp [Tb.rows]
  have hrl2 : u.rows.length = u.rs.length := by simp [Tb.rows]
  refine LC_upK t.rs.length I Q (fun r => finK _ (seqK (blockK 0 r) _) = _) ?_ ?_ ?_ ?_
  · rw [hI]
    refine ⟨⟨_, rfl, ?_, ?_⟩, ?_, ?_, ?_, fun j h => by omega⟩
    · simp [lcells_put, ← hC]
    · simp [lcells_put, ← hD]
    all_goals simp only [go_sem, ↓reduceIte, Nat.reduceEqDiff, Int.natCast_zero]
  · intro i hi fr hp' hh
    obtain ⟨⟨L, rfl, hL, hM⟩, h2, h3, h6, hd⟩ := (hI _ _ _).1 hh
    rw [← hC] at hL
    rw [← hD] at hM
    have k1 : ((i : Int) < (t.rs.length : Int)) = True := by simp; omega
    have w1 : wr .i64 ((i : Int) + 1) = ((i + 1 : Nat) : Int) := by rw [wr_i64 _ (by omega)]; omega
    have g1 := hxr.at (k := i) (by rw [rws_len]; exact hi)
    have g2 := hyr.at (k := i) (by rw [rws_len]; omega)
    rw [rws_get t.rs i hi] at g1
    rw [rws_get u.rs i (by omega)] at g2
    have r1 := hro _ (mem_getD t.rs i hi)
    have r2 := hso _ (mem_getD u.rs i (by omega))
    obtain ⟨q1, q2, q3, q4, q5⟩ := r1.1.one
    obtain ⟨q6, q7, q8, q9, q10⟩ := r2.1.one
    have hsm := p_sameRow _ _ _ _ r1.1 r2.1 r1.2.1
    have hne2 := list_ne_at (a := t.rows) (b := u.rows) ([] : List Val) i
    have hnext : t.rows.getD i [] = u.rows.getD i [] → ∀ j, j < i + 1 → t.rows.getD j [] = u.rows.getD j [] := fun h j hj => by
      by_cases e : j = i
      · subst e; exact h
      · exact hd j (by omega)
    rw [rows_get t i hi, rows_get u i (by omega)] at hne2 hnext
    generalize t.rs.getD i default = v at g1 hne2 hnext hsm q1 q2 q3 q4 q5
    generalize u.rs.getD i default = w at g2 hne2 hnext hsm q6 q7 q8 q9 q10
    by_cases c : v.vl = w.vl
    · rw [decide_eq_true c] at hsm
      simp +contextual -implicitDefEqProofs (maxSteps := 10000000) only [x19_l0_run, go_sem, ↓reduceIte, Nat.reduceEqDiff, h2, h3, h6, hL, hM, k1, g1, g2, w1, ur, nr, ur2, q2, q5, q7, q10, hsm, ldAt_topc]
      rw [hI]
      refine ⟨⟨_, rfl, by rw [hL, hC], by rw [hM, hD]⟩, ?_, ?_, ?_, hnext c⟩ <;> simp only [go_sem, ↓reduceIte, Nat.reduceEqDiff, h2, h3]
    · rw [decide_eq_false c] at hsm
      simp +contextual -implicitDefEqProofs (maxSteps := 10000000) only [x19_l0_run, go_sem, ↓reduceIte, Nat.reduceEqDiff, h2, h3, h6, hL, hM, k1, g1, g2, ur, nr, ur2, q2, q5, q7, q10, hsm, ldAt_topc]
      rw [hQ]
      exact ⟨⟨_, rfl⟩, .inr ⟨rfl, hne2 c, by simp only [go_sem, ↓reduceIte]⟩⟩
  · intro fr hp' hh
    obtain ⟨⟨L, rfl, hL, hM⟩, h2, h3, h6, hd⟩ := (hI _ _ _).1 hh
    rw [← hC] at hL
    simp +contextual -implicitDefEqProofs (maxSteps := 10000000) only [x19_l0_run, go_sem, ↓reduceIte, Nat.reduceEqDiff, h2, h6, hL, ur, nr, Int.lt_irrefl, ldAt_topc]
    rw [hQ]
    exact ⟨⟨_, rfl⟩, .inl ⟨rfl, list_eq_at [] (by omega) (fun i hi => hd i (by omega))⟩⟩
  · intro e fr hp' he hh
    rcases (hQ _ _ _).1 hh with ⟨⟨L, rfl⟩, ⟨rfl, h1⟩ | ⟨rfl, h1, h2⟩⟩
    · rw [decide_eq_true (show t.same u from ⟨hv, h1⟩)]
      simp +contextual -implicitDefEqProofs (maxSteps := 10000000) only [go_sem, ↓reduceIte]
    · rw [decide_eq_false (show ¬ t.same u from fun h => h1 h.2)]
      simp +contextual -implicitDefEqProofs (maxSteps := 10000000) only [go_sem, h2]
end Go.Proofs.YtafeikbbjhmlaaaGreatDoor.Sx.T
namespace Go.Proofs.YtafeikbbjhmlaaaGreatDoor.Sx.T
open Go Go.Proofs.YtafeikbbjhmlaaaGreatDoor.Sx
set_option maxRecDepth 100000
set_option maxHeartbeats 8000000
def cl (c : UInt8) : Prop := c ≠ 32 ∧ c ≠ 41 ∧ c ≠ 34
theorem dig_cl {c : UInt8} (h : isDig c) : cl c := by
  unfold isDig at h
  refine ⟨?_, ?_, ?_⟩ <;> (rintro rfl; simp at h)
theorem decI_cl (n : Int) : ∀ c ∈ decI n, cl c := by
  intro c hc
  unfold decI at hc
  split at hc
  · rcases List.mem_cons.1 hc with h | h
    · subst h; exact ⟨by decide, by decide, by decide⟩
    · exact dig_cl (decF_dig 20 _ c h)
  · exact dig_cl (decF_dig 20 _ c hc)
theorem name_cl {w : List UInt8} (h : nameP w) : ∀ c ∈ w, cl c := by
  intro c hc
  obtain ⟨i, hi, rfl⟩ := List.mem_iff_getElem.1 hc
  have hr := h.2.2.2 i (Nat.zero_le _) hi
  have e : w.getD i 0 = w[i] := by simp [List.getD, hi]
  rw [e] at hr
  generalize w[i] = c at hr
  unfold chA chB at hr
  refine ⟨?_, ?_, ?_⟩ <;> (rintro rfl; simp at hr)
def goodV (v : Val) : Prop := v.ok ∧ chkV v = 0
theorem first0 {e : Nat → Int} : ∀ (m i : Nat), firstE e m i = 0 → ∀ j, i ≤ j → j < i + m → e j = 0
  | 0, i, _, j, h1, h2 => by omega
  | m + 1, i, h, j, h1, h2 => by
    rw [firstE] at h
    split at h
    · rename_i hn; exact absurd h hn
    · rename_i hn
      by_cases hj : j = i
      · subst hj; simpa using hn
      · exact first0 m (i + 1) h j (by omega) (by omega)
theorem tab_good {t : Tb} (ht : t.ok) (h : tabE t = 0) : (∀ w ∈ t.vs, nameP w) ∧ ∀ r ∈ t.rs, ∀ v ∈ r.vl, goodV v := by
  have hE : tE t = 0 := by
    unfold tabE at h
    split at h
    · rename_i hn; exact absurd h hn
    · rename_i hn; simpa using hn
  have hN : ∀ i, i < t.vs.length → nameP (t.vs.getD i []) := by
    rw [tabE_ok hE] at h
    split at h
    · rename_i hn; exact hn
    · simp at h
  refine ⟨fun w hw => ?_, fun r hr v hv => ?_⟩
  · obtain ⟨i, hi, rfl⟩ := List.mem_iff_getElem.1 hw
    have := hN i hi
    simpa [List.getD, hi] using this
  · have hr0 : firstE (rE t) t.rs.length 0 = 0 := by
      unfold tE at hE
      split at hE
      · simp at hE
      · exact hE
    obtain ⟨i, hi, rfl⟩ := List.mem_iff_getElem.1 hr
    have h1 := first0 _ _ hr0 i (Nat.zero_le _) (by omega)
    have e : t.rs.getD i default = t.rs[i] := by simp [List.getD, hi]
    unfold rE at h1
    rw [e] at h1
    have h2 : rwE t.vs.length t.rs[i] = 0 := by
      split at h1
      · rename_i hn; exact absurd h1 hn
      · rename_i hn; simpa using hn
    unfold rwE at h2
    split at h2
    · simp at h2
    · unfold vals8 at h2
      obtain ⟨j, hj, rfl⟩ := List.mem_iff_getElem.1 hv
      have h3 := first0 _ _ h2 j (Nat.zero_le _) (by omega)
      have e2 : t.rs[i].vl.getD j default = t.rs[i].vl[j] := by simp [List.getD, hj]
      rw [e2] at h3
      exact ⟨(ht.2.2.1 _ hr).2.2 _ hv, h3⟩
end Go.Proofs.YtafeikbbjhmlaaaGreatDoor.Sx.T
namespace Go.Proofs.YtafeikbbjhmlaaaGreatDoor.Sx.T
open Go Go.Proofs.YtafeikbbjhmlaaaGreatDoor.Sx
set_option maxRecDepth 100000
set_option maxHeartbeats 8000000
theorem p_pre (q : UInt8) (s : List UInt8) (hp : Heap) : CL X GV 91 [.str s, .str [q]] hp = some (.bool (decide (s.head? = some q)), hp) := by
  have h : ∀ hp, CL X GV 116 [.str s, .str [q]] hp = some (.bool (decide (s.head? = some q)), hp) := by
    intro hp
    rw [CL_eq (fn := x116) rfl]
    have n1 : ((1 : Nat) : Int) = 1 := rfl
    cases s with
    | nil => simp +contextual -implicitDefEqProofs (maxSteps := 10000000) only [x116, go_sem, ↓reduceIte, reduceCtorEq, Nat.reduceEqDiff, List.head?_nil, reduceCtorEq, le10]
    | cons c r =>
      have e1 : ((1 : Int) ≤ (r.length : Int) + 1) = True := by simp; omega
      have e2 := sstr_one c r
      simp +contextual -implicitDefEqProofs (maxSteps := 10000000) only [x116, go_sem, ↓reduceIte, reduceCtorEq, Nat.reduceEqDiff, e2, n1]
      simp
      try omega
  rw [CL_eq (fn := x91) rfl]
  simp +contextual -implicitDefEqProofs (maxSteps := 10000000) only [x91, go_sem, ↓reduceIte, reduceCtorEq, Nat.reduceEqDiff, h]
def trimP (q : UInt8) (s : List UInt8) : List UInt8 := if s.head? = some q then s.drop 1 else s
theorem p_preL (q : UInt8) (s : List UInt8) (hp : Heap) : CL X GV 116 [.str s, .str [q]] hp = some (.bool (decide (s.head? = some q)), hp) := by
  rw [CL_eq (fn := x116) rfl]
  have n1 : ((1 : Nat) : Int) = 1 := rfl
  cases s with
  | nil => simp +contextual -implicitDefEqProofs (maxSteps := 10000000) only [x116, go_sem, ↓reduceIte, reduceCtorEq, Nat.reduceEqDiff, List.head?_nil, reduceCtorEq, le10]
  | cons c r =>
    have e1 : ((1 : Int) ≤ (r.length : Int) + 1) = True := by simp; omega
    have e2 := sstr_one c r
    simp +contextual -implicitDefEqProofs (maxSteps := 10000000) only [x116, go_sem, ↓reduceIte, reduceCtorEq, Nat.reduceEqDiff, e2, n1]
    simp
    try omega
theorem p_trimL (q : UInt8) (s : List UInt8) (hp : Heap) : CL X GV 92 [.str s, .str [q]] hp = some (.str (trimP q s), hp) := by
  have h := p_preL q s
  rw [CL_eq (fn := x92) rfl, trimP]
  by_cases hc : s.head? = some q
  · have hl : 1 ≤ s.length := by cases s with | nil => simp at hc | cons c r => simp
    have hd : sstrK (.str s) (some (.int .i64 1)) none = some (.str (s.drop 1)) := by
      have := sstrK_lo s .i64 1
      rw [if_pos hl] at this
      exact this
    rw [decide_eq_true hc] at h
    rw [if_pos hc]
    simp +contextual -implicitDefEqProofs (maxSteps := 10000000) only [x92, go_sem, ↓reduceIte, reduceCtorEq, Nat.reduceEqDiff, h]
    rw [if_pos hl]
  · rw [decide_eq_false hc] at h
    rw [if_neg hc]
    simp +contextual -implicitDefEqProofs (maxSteps := 10000000) only [x92, go_sem, ↓reduceIte, reduceCtorEq, Nat.reduceEqDiff, h]
theorem p_trim (q : UInt8) (s : List UInt8) (hp : Heap) : CL X GV 65 [.str s, .str [q]] hp = some (.str (trimP q s), hp) := by
  have h := p_trimL q s
  rw [CL_eq (fn := x65) rfl]
  simp +contextual -implicitDefEqProofs (maxSteps := 10000000) only [x65, go_sem, ↓reduceIte, reduceCtorEq, Nat.reduceEqDiff, h]
theorem decodeAt_pos (s : List UInt8) (i : Nat) (h : i < s.length) : 1 ≤ (decodeAt s i).2 := by
  by_cases hc : (s.getD i 0).toNat < 128
  · rw [dec_low s i h hc]; exact Nat.le_refl _
  · have e : s.getD i 0 = s[i] := by simp [List.getD, h]
    rw [e] at hc
    exact (Go.decode_high ⟨s.toArray⟩ i h (Nat.le_of_not_lt hc)).2
/-! ### groups -/
def sub (s : List UInt8) (a b : Nat) : List UInt8 := (s.take b).drop a
def grL (s : List UInt8) : Nat → Nat → Nat → Bool → Bool → List (List UInt8) → Option (List (List UInt8) × Nat)
  | 0, _, _, _, _, _ => none
  | n + 1, i, fr, q, k, l => if s.length ≤ i then none
    else if 128 ≤ (s.getD i 0).toNat then grL s n (i + (decodeAt s i).2) fr q false l
    else if k = true then grL s n (i + 1) fr q false l
    else if q = true ∧ s.getD i 0 = 92 then grL s n (i + 1) fr q true l
    else if s.getD i 0 = 34 then grL s n (i + 1) fr (!q) false l
    else if q = false ∧ 0 < i ∧ s.getD i 0 = 32 then grL s n (i + 1) (i + 1) q false (l ++ [sub s fr i])
    else if q = false ∧ 0 < i ∧ s.getD i 0 = 41 then some (l ++ [sub s fr i], i + 1)
    else grL s n (i + 1) fr q false l
def ungr (l : List (List UInt8)) : List (List UInt8) := if l = [[]] then [] else l
def grp (s : List UInt8) : Option (List (List UInt8) × List UInt8) := if s.head? = some 40 then (match grL s (s.length + 1) 0 1 false false [] with | some (l, j) => some (ungr l, s.drop j) | none => none) else none
def grV : Option (List (List UInt8) × List UInt8) → AV
  | some (l, r) => .tup [uf (ol (wds l)), .str r, .bool true]
  | none => .tup [.nilsl, .str [], .bool false]
theorem ol_app (W : List (List AV)) (q : List UInt8) (h : W.length ≤ 1000000000) : appK false 1 16 (ol W) (some [[.str q]]) = some (ol (W ++ [[.str q]])) := by
  rw [ol_cons]
  cases W with
  | nil =>
    show appK false 1 16 .nilsl _ = _
    rw [appK_nilsl, if_neg (by simp), if_pos (by simp [refFreeL, refFree, plain1]), if_pos (by simp [room])]
    rfl
  | cons e W =>
    show appK false 1 16 (.lst .own 1 (e :: W)) _ = _
    rw [appK_lst, if_neg (by simp), if_pos (by simp [refFreeL, refFree, plain1]), if_pos ⟨rfl, rfl, by simp only [List.length_cons, List.length_nil, room] at h ⊢; omega⟩]
    rfl
theorem ol_drop (W : List (List AV)) (fr : List AV) (t z : Nat) (h : t ≠ z) : fget (drop1K (ol W) fr t) z = fget fr z := by
  cases W with
  | nil => rfl
  | cons e W =>
    show fget (drop1K (.lst .own 1 (e :: W)) fr t) z = _
    rw [drop1K_own, fget_fput, if_neg (fun e => h e.symm)]
def OG (s : List UInt8) (o : Option (List (List UInt8) × Nat)) (r : Option (XExit × St)) : Prop :=
  match o with
  | some (l, j) => ∃ fr' L, r = some (.ret, ⟨fr', [L]⟩) ∧ fget fr' 2 = uf (ol (wds (ungr l))) ∧ fget fr' 3 = .str (s.drop j) ∧ fget fr' 4 = .bool true
  | none => ∃ fr' L, r = some (.exit 0, ⟨fr', [L]⟩)
theorem l_group (s : List UInt8) (hl : s.length ≤ 1000000000) : ∀ (m i fr0 : Nat) (q k : Bool) (l : List (List UInt8)) (fr : List AV), s.length < i + m → fr0 ≤ i + 1 → (0 < i → fr0 ≤ i) → l.length ≤ i →
    fget fr 0 = .str s → fget fr 15 = .ptr ⟨0, 15, 0⟩ 0 → fget fr 5 = ol (wds l) → fget fr 6 = .int .i64 fr0 → fget fr 7 = .bool q → fget fr 8 = .bool k →
    OG s (grL s m i fr0 q k l) (LC X GV (.loop x64_l0) ⟨fr, [lputi [] 15 0 s i]⟩) := by
  intro m
  induction m with
  | zero =>
    intro i fr0 q k l fr hm h1 h1b hli g0 g15 g5 g6 g7 g8
    rw [LC_loop, grL]
    have hc : (i < s.length) = False := by simp; omega
    simp +contextual -implicitDefEqProofs (maxSteps := 10000000) only [x64_l0_run, go_sem, ↓reduceIte, g15, hc, o_nexts]
    exact ⟨_, _, rfl⟩
  | succ m ih =>
    intro i fr0 q k l fr hm h1 h1b hli g0 g15 g5 g6 g7 g8
    rw [LC_loop, grL]
    by_cases hi : s.length ≤ i
    · rw [if_pos hi]
      have hc : (i < s.length) = False := by simp; omega
      simp +contextual -implicitDefEqProofs (maxSteps := 10000000) only [x64_l0_run, go_sem, ↓reduceIte, g15, hc, o_nexts]
      exact ⟨_, _, rfl⟩
    rw [if_neg hi]
    have ki : i < s.length := by omega
    have hc : (i < s.length) = True := by simp; omega
    have hlo := dec_low s i ki
    have hhi := dec_high s i ki
    have hw := decodeAt_pos s i ki
    obtain ⟨r, w, hd⟩ : ∃ r w, decodeAt s i = (r, w) := ⟨_, _, rfl⟩
    rw [hd] at hlo hhi hw ⊢
    simp only [Prod.mk.injEq] at hlo hhi hw ⊢
    have hch : ∀ b : UInt8, s.getD i 0 = b ↔ (s.getD i 0).toNat = b.toNat := fun b => ⟨fun h => by rw [h], fun h => UInt8.toNat_inj.1 h⟩
    have h92 := hch 92
    have h34 := hch 34
    have h32 := hch 32
    have h41 := hch 41
    rw [show (92 : UInt8).toNat = 92 from rfl] at h92
    rw [show (34 : UInt8).toNat = 34 from rfl] at h34
    rw [show (32 : UInt8).toNat = 32 from rfl] at h32
    rw [show (41 : UInt8).toNat = 41 from rfl] at h41
    simp only [h92, h34, h32, h41]
    obtain ⟨c, hcc⟩ : ∃ c, (s.getD i 0).toNat = c := ⟨_, rfl⟩
    rw [hcc] at hlo hhi ⊢
    clear hch h92 h34 h32 h41
    by_cases hb : 128 ≤ c
    · rw [if_pos hb]
      have hr := hhi hb
      have e1 : ((r : Int) = 92) = False := by simp; omega
      have e2 : ((r : Int) = 34) = False := by simp; omega
      have e3 : ((r : Int) = 32) = False := by simp; omega
      have e4 : ((r : Int) = 41) = False := by simp; omega
      cases k with
      | true =>
        simp +contextual -implicitDefEqProofs (maxSteps := 10000000) only [x64_l0_run, go_sem, ↓reduceIte, reduceCtorEq, Nat.reduceEqDiff, Int.reduceBEq, g15, g5, g7, g8, hc, hd, o_nexts]
        refine ih (i + w) fr0 q false l _ (by omega) (by omega) (fun _ => by omega) (by omega) ?_ ?_ ?_ ?_ ?_ ?_ <;> simp only [go_sem, ↓reduceIte, reduceCtorEq, Nat.reduceEqDiff, g0, g15, g5, g6, g7]
      | false =>
        cases q with
        | true =>
          simp +contextual -implicitDefEqProofs (maxSteps := 10000000) only [x64_l0_run, go_sem, ↓reduceIte, reduceCtorEq, Nat.reduceEqDiff, g15, g5, g7, g8, hc, hd, o_nexts, e1, e2]
          refine ih (i + w) fr0 true false l _ (by omega) (by omega) (fun _ => by omega) (by omega) ?_ ?_ ?_ ?_ ?_ ?_ <;> simp only [go_sem, ↓reduceIte, reduceCtorEq, Nat.reduceEqDiff, g0, g15, g5, g6, g7, g8]
        | false =>
          by_cases i0 : 0 < i
          · have z0 : ((0 : Int) < (i : Int)) = True := by simp; omega
            simp +contextual -implicitDefEqProofs (maxSteps := 10000000) only [x64_l0_run, go_sem, ↓reduceIte, reduceCtorEq, Nat.reduceEqDiff, g15, g5, g7, g8, hc, hd, o_nexts, e2, e3, e4, z0]
            refine ih (i + w) fr0 false false l _ (by omega) (by omega) (fun _ => by omega) (by omega) ?_ ?_ ?_ ?_ ?_ ?_ <;> simp only [go_sem, ↓reduceIte, reduceCtorEq, Nat.reduceEqDiff, g0, g15, g5, g6, g7, g8]
          · have z0 : ((0 : Int) < (i : Int)) = False := by simp; omega
            simp +contextual -implicitDefEqProofs (maxSteps := 10000000) only [x64_l0_run, go_sem, ↓reduceIte, reduceCtorEq, Nat.reduceEqDiff, g15, g5, g7, g8, hc, hd, o_nexts, e2, z0]
            refine ih (i + w) fr0 false false l _ (by omega) (by omega) (fun _ => by omega) (by omega) ?_ ?_ ?_ ?_ ?_ ?_ <;> simp only [go_sem, ↓reduceIte, reduceCtorEq, Nat.reduceEqDiff, g0, g15, g5, g6, g7, g8]
    rw [if_neg hb]
    obtain ⟨hr, hw1⟩ := hlo (by omega)
    subst hw1
    subst hr
    cases k with
    | true =>
      rw [if_pos rfl]
      simp +contextual -implicitDefEqProofs (maxSteps := 10000000) only [x64_l0_run, go_sem, ↓reduceIte, reduceCtorEq, Nat.reduceEqDiff, Int.reduceBEq, g15, g5, g7, g8, hc, hd, o_nexts]
      refine ih (i + 1) fr0 q false l _ (by omega) (by omega) (fun _ => by omega) (by omega) ?_ ?_ ?_ ?_ ?_ ?_ <;> simp only [go_sem, ↓reduceIte, reduceCtorEq, Nat.reduceEqDiff, g0, g15, g5, g6, g7]
    | false =>
      rw [if_neg (by simp)]
      by_cases c34 : r = 34
      · have e1 : ((r : Int) = 92) = False := by simp; omega
        have e2 : ((r : Int) = 34) = True := by simp; omega
        rw [if_neg (by rintro ⟨_, h⟩; omega), if_pos c34]
        cases q with
        | true =>
          simp +contextual -implicitDefEqProofs (maxSteps := 10000000) only [x64_l0_run, go_sem, ↓reduceIte, reduceCtorEq, Nat.reduceEqDiff, g15, g5, g7, g8, hc, hd, o_nexts, e1, e2]
          refine ih (i + 1) fr0 false false l _ (by omega) (by omega) (fun _ => by omega) (by omega) ?_ ?_ ?_ ?_ ?_ ?_ <;> simp only [go_sem, ↓reduceIte, reduceCtorEq, Nat.reduceEqDiff, g0, g15, g5, g6, g8]
        | false =>
          simp +contextual -implicitDefEqProofs (maxSteps := 10000000) only [x64_l0_run, go_sem, ↓reduceIte, reduceCtorEq, Nat.reduceEqDiff, Int.reduceBEq, g15, g5, g7, g8, hc, hd, o_nexts, e2]
          refine ih (i + 1) fr0 true false l _ (by omega) (by omega) (fun _ => by omega) (by omega) ?_ ?_ ?_ ?_ ?_ ?_ <;> simp only [go_sem, ↓reduceIte, reduceCtorEq, Nat.reduceEqDiff, g0, g15, g5, g6, g8]
      have e2 : ((r : Int) = 34) = False := by simp; omega
      cases q with
      | true =>
        by_cases c92 : r = 92
        · have e1 : ((r : Int) = 92) = True := by simp; omega
          rw [if_pos ⟨rfl, c92⟩]
          simp +contextual -implicitDefEqProofs (maxSteps := 10000000) only [x64_l0_run, go_sem, ↓reduceIte, reduceCtorEq, Nat.reduceEqDiff, Int.reduceBEq, g15, g5, g7, g8, hc, hd, o_nexts, e1]
          refine ih (i + 1) fr0 true true l _ (by omega) (by omega) (fun _ => by omega) (by omega) ?_ ?_ ?_ ?_ ?_ ?_ <;> simp only [go_sem, ↓reduceIte, reduceCtorEq, Nat.reduceEqDiff, g0, g15, g5, g6, g7]
        · have e1 : ((r : Int) = 92) = False := by simp; omega
          rw [if_neg (by rintro ⟨_, h⟩; omega), if_neg c34, if_neg (by simp), if_neg (by simp)]
          simp +contextual -implicitDefEqProofs (maxSteps := 10000000) only [x64_l0_run, go_sem, ↓reduceIte, reduceCtorEq, Nat.reduceEqDiff, g15, g5, g7, g8, hc, hd, o_nexts, e1, e2]
          refine ih (i + 1) fr0 true false l _ (by omega) (by omega) (fun _ => by omega) (by omega) ?_ ?_ ?_ ?_ ?_ ?_ <;> simp only [go_sem, ↓reduceIte, reduceCtorEq, Nat.reduceEqDiff, g0, g15, g5, g6, g7, g8]
      | false =>
        rw [if_neg (by simp), if_neg c34]
        by_cases i0 : 0 < i
        case neg =>
          have z0 : ((0 : Int) < (i : Int)) = False := by simp; omega
          rw [if_neg (by rintro ⟨_, h, _⟩; omega), if_neg (by rintro ⟨_, h, _⟩; omega)]
          simp +contextual -implicitDefEqProofs (maxSteps := 10000000) only [x64_l0_run, go_sem, ↓reduceIte, reduceCtorEq, Nat.reduceEqDiff, g15, g5, g7, g8, hc, hd, o_nexts, e2, z0]
          refine ih (i + 1) fr0 false false l _ (by omega) (by omega) (fun _ => by omega) (by omega) ?_ ?_ ?_ ?_ ?_ ?_ <;> simp only [go_sem, ↓reduceIte, reduceCtorEq, Nat.reduceEqDiff, g0, g15, g5, g6, g7, g8]
        have z0 : ((0 : Int) < (i : Int)) = True := by simp; omega
        have hss : sstrK (.str s) (some (.int .i64 (fr0 : Nat))) (some (.int .i64 (i : Nat))) = some (.str (sub s fr0 i)) := by
          rw [sstrK_two, if_pos ⟨h1b i0, by omega⟩]; rfl
        have hap := ol_app (wds l) (sub s fr0 i) (by rw [wds_len]; omega)
        rw [← wds_snoc] at hap
        have w1 : wr .i64 ((i : Int) + 1) = ((i + 1 : Nat) : Int) := by rw [wr_i64 _ (by omega)]; omega
        by_cases c32 : r = 32
        · have e3 : ((r : Int) = 32) = True := by simp; omega
          have e4 : ((r : Int) = 41) = False := by simp; omega
          rw [if_pos ⟨rfl, i0, c32⟩]
          simp +contextual -implicitDefEqProofs (maxSteps := 10000000) only [x64_l0_run, go_sem, ↓reduceIte, reduceCtorEq, Nat.reduceEqDiff, Nat.reduceLT, Nat.reduceDiv, g0, g15, g5, g6, g7, g8, hc, hd, o_nexts, e2, e3, e4, z0, hss, hap, w1, ol_drop]
          refine ih (i + 1) (i + 1) false false (l ++ [sub s fr0 i]) _ (by omega) (by omega) (fun _ => by omega) (by simp; omega) ?_ ?_ ?_ ?_ ?_ ?_ <;> simp only [go_sem, ↓reduceIte, reduceCtorEq, Nat.reduceEqDiff, g0, g15, g7, g8, ol_drop]
        have e3 : ((r : Int) = 32) = False := by simp; omega
        rw [if_neg (by rintro ⟨_, _, h⟩; omega)]
        by_cases c41 : r = 41
        · have e4 : ((r : Int) = 41) = True := by simp; omega
          rw [if_pos ⟨rfl, i0, c41⟩]
          obtain ⟨l', hl'⟩ : ∃ l', l ++ [sub s fr0 i] = l' := ⟨_, rfl⟩
          have hll : 0 < l'.length := by rw [← hl']; simp
          rw [hl'] at hap ⊢
          have hL := ol_ls (wds l')
          have hat := up_at hL 0 hll
          obtain ⟨px, ux, nx, dx, fx⟩ := hL.one
          rw [wds_len] at nx
          have hrs : sstrK (.str s) (some (.int .i64 ((i + 1 : Nat) : Int))) none = some (.str (s.drop (i + 1))) := by
            rw [sstrK_lo, if_pos (by omega)]
          by_cases hn1 : l'.length = 1
          · obtain ⟨x, rfl⟩ : ∃ x, l' = [x] := by
              match l', hn1 with
              | [x], _ => exact ⟨x, rfl⟩
            have n1 : ((([x] : List (List UInt8)).length : Nat) : Int) = 1 := rfl
            have hat' : iaddrK 1 (uf (ol (wds [x]))) (some 0) = some (.elp [.str x]) := hat
            by_cases hx0 : x = []
            · subst hx0
              simp +contextual -implicitDefEqProofs (maxSteps := 10000000) only [x64_l0_run, go_sem, ↓reduceIte, reduceCtorEq, Nat.reduceEqDiff, Int.reduceLE, Int.reduceToNat, Nat.reduceLT, Nat.reduceDiv, g0, g15, g5, g6, g7, g8, hc, hd, o_nexts, e2, e3, e4, z0, hss, hap, w1, ol_drop, ux, nx, dx, hat', hrs]
              exact ⟨_, _, rfl, by simp only [go_sem, ↓reduceIte, Nat.reduceEqDiff]; rfl, by simp only [go_sem, ↓reduceIte, Nat.reduceEqDiff], by simp only [go_sem, ↓reduceIte]⟩
            · have hx0' : (x = []) = False := by simp [hx0]
              have hu : ungr [x] = [x] := by unfold ungr; rw [if_neg (by simpa using hx0)]
              simp +contextual -implicitDefEqProofs (maxSteps := 10000000) only [x64_l0_run, go_sem, ↓reduceIte, reduceCtorEq, Nat.reduceEqDiff, Int.reduceLE, Int.reduceToNat, Nat.reduceLT, Nat.reduceDiv, g0, g15, g5, g6, g7, g8, hc, hd, o_nexts, e2, e3, e4, z0, hss, hap, w1, ol_drop, ux, nx, dx, hat', hrs, hx0']
              exact ⟨_, _, rfl, by simp only [go_sem, ↓reduceIte, Nat.reduceEqDiff, hu], by simp only [go_sem, ↓reduceIte, Nat.reduceEqDiff], by simp only [go_sem, ↓reduceIte]⟩
          · have n1 : ((l'.length : Int) = 1) = False := by simp; omega
            have hu : ungr l' = l' := by unfold ungr; rw [if_neg (by intro h; rw [h] at hn1; exact hn1 rfl)]
            simp +contextual -implicitDefEqProofs (maxSteps := 10000000) only [x64_l0_run, go_sem, ↓reduceIte, reduceCtorEq, Nat.reduceEqDiff, Int.reduceLE, Int.reduceToNat, Nat.reduceLT, Nat.reduceDiv, g0, g15, g5, g6, g7, g8, hc, hd, o_nexts, e2, e3, e4, z0, hss, hap, w1, ol_drop, nx, dx, n1, hrs]
            exact ⟨_, _, rfl, by simp only [go_sem, ↓reduceIte, Nat.reduceEqDiff, hu], by simp only [go_sem, ↓reduceIte, Nat.reduceEqDiff], by simp only [go_sem, ↓reduceIte]⟩
        · have e4 : ((r : Int) = 41) = False := by simp; omega
          rw [if_neg (by rintro ⟨_, _, h⟩; omega)]
          simp +contextual -implicitDefEqProofs (maxSteps := 10000000) only [x64_l0_run, go_sem, ↓reduceIte, reduceCtorEq, Nat.reduceEqDiff, g15, g5, g7, g8, hc, hd, o_nexts, e2, e3, e4, z0]
          refine ih (i + 1) fr0 false false l _ (by omega) (by omega) (fun _ => by omega) (by omega) ?_ ?_ ?_ ?_ ?_ ?_ <;> simp only [go_sem, ↓reduceIte, reduceCtorEq, Nat.reduceEqDiff, g0, g15, g5, g6, g7, g8]
theorem retOf_ol (hp : Heap) (n : Nat) (W : List (List AV)) : shut hp n 6 (uf (ol W)) = some (uf (ol W)) := by
  cases W <;> rfl
theorem isU_ol (W : List (List AV)) : isU (uf (ol W)) = false := by
  cases W <;> rfl
theorem p_group (s : List UInt8) (hl : s.length ≤ 1000000000) (hp : Heap) : CL X GV 64 [.str s] [] = some (grV (grp s), []) := by
  have hpre := p_pre 40 s
  rw [CL_eq (fn := x64) rfl, grp]
  by_cases h40 : s.head? = some 40
  case neg =>
    rw [decide_eq_false h40] at hpre
    rw [if_neg h40]
    simp +contextual -implicitDefEqProofs (maxSteps := 10000000) only [x64, go_sem, ↓reduceIte, reduceCtorEq, Nat.reduceEqDiff, Nat.reduceAdd, hpre]
    rfl
  rw [decide_eq_true h40] at hpre
  rw [if_pos h40]
  have hg := fun fr => l_group s hl (s.length + 1) 0 1 false false [] fr (by omega) (by omega) (fun h => by omega) (by simp)
  simp +contextual -implicitDefEqProofs (maxSteps := 10000000) only [x64, go_sem, ↓reduceIte, reduceCtorEq, hpre, o_rngs, rngK_str, rngP_some]
  obtain ⟨o, ho⟩ : ∃ o, grL s (s.length + 1) 0 1 false false [] = o := ⟨_, rfl⟩
  rw [ho] at hg ⊢
  refine (fun key => key _ (hg _ ?_ ?_ ?_ ?_ ?_ ?_)) (?_ : ∀ r, OG s o r → finK _ (seqK (blockK 0 r) _) = _)
  · intro r hr
    unfold OG at hr
    cases o with
    | none =>
      obtain ⟨fr', L, rfl⟩ := hr
      simp +contextual -implicitDefEqProofs (maxSteps := 10000000) only [go_sem, ↓reduceIte, Nat.reduceEqDiff, Nat.reduceAdd]
      rfl
    | some x =>
      obtain ⟨l, j⟩ := x
      obtain ⟨fr', L, rfl, a2, a3, a4⟩ := hr
      have h1 := retOf_ol [L] 0 (wds (ungr l))
      have h2 := isU_ol (wds (ungr l))
      simp +contextual -implicitDefEqProofs (maxSteps := 10000000) only [go_sem, ↓reduceIte, Nat.reduceAdd, a2, a3, a4, h1, h2, grV]
  all_goals first | (simp only [go_sem, ↓reduceIte, reduceCtorEq, Nat.reduceEqDiff]; done) | (simp only [go_sem, ↓reduceIte, Nat.reduceEqDiff]; rfl)
end Go.Proofs.YtafeikbbjhmlaaaGreatDoor.Sx.T
namespace Go.Proofs.YtafeikbbjhmlaaaGreatDoor.Sx.T
open Go Go.Proofs.YtafeikbbjhmlaaaGreatDoor.Sx
set_option maxRecDepth 100000
set_option maxHeartbeats 8000000
theorem sub_len (s : List UInt8) (a b : Nat) : (sub s a b).length ≤ b - a := by
  simp only [sub, List.length_drop, List.length_take]
  omega
def wsum (l : List (List UInt8)) : Nat := (l.map fun w => w.length + 1).sum
theorem wsum_snoc (l : List (List UInt8)) (w : List UInt8) : wsum (l ++ [w]) = wsum l + (w.length + 1) := by simp [wsum]
theorem grL_ok (s : List UInt8) : ∀ (n i fr : Nat) (q k : Bool) (l l' : List (List UInt8)) (j : Nat), grL s n i fr q k l = some (l', j) → wsum l + 1 ≤ fr → fr ≤ i + 1 → (0 < i → fr ≤ i) → wsum l' + 1 ≤ j ∧ j ≤ s.length ∧ 2 ≤ j := by
  intro n
  induction n with
  | zero => intro i fr q k l l' j h; simp [grL] at h
  | succ n ih =>
    intro i fr q k l l' j h h1 h2 h3
    rw [grL] at h
    by_cases hi : s.length ≤ i
    · rw [if_pos hi] at h; cases h
    rw [if_neg hi] at h
    have hw := decodeAt_pos s i (by omega)
    split at h
    · exact ih _ _ _ _ _ _ _ h h1 (by omega) (fun _ => by omega)
    split at h
    · exact ih _ _ _ _ _ _ _ h h1 (by omega) (fun _ => by omega)
    split at h
    · exact ih _ _ _ _ _ _ _ h h1 (by omega) (fun _ => by omega)
    split at h
    · exact ih _ _ _ _ _ _ _ h h1 (by omega) (fun _ => by omega)
    split at h
    · rename_i hc
      have := sub_len s fr i
      have := h3 hc.2.1
      exact ih _ _ _ _ _ _ _ h (by rw [wsum_snoc]; omega) (by omega) (fun _ => by omega)
    split at h
    · rename_i hc
      have := sub_len s fr i
      have := h3 hc.2.1
      injection h with h
      injection h with h4 h5
      subst h4 h5
      rw [wsum_snoc]
      omega
    · exact ih _ _ _ _ _ _ _ h h1 (by omega) (fun _ => by omega)
theorem wsum_len (l : List (List UInt8)) : l.length ≤ wsum l := by
  induction l with
  | nil => simp
  | cons w l ih => simp only [wsum, List.map_cons, List.sum_cons, List.length_cons] at ih ⊢; omega
theorem wsum_mem {l : List (List UInt8)} {w : List UInt8} (h : w ∈ l) : w.length ≤ wsum l := by
  induction l with
  | nil => cases h
  | cons x l ih =>
    simp only [wsum, List.map_cons, List.sum_cons] at ih ⊢
    rcases List.mem_cons.1 h with rfl | h
    · omega
    · have := ih h
      omega
theorem grp_ok {s : List UInt8} {l : List (List UInt8)} {r : List UInt8} (h : grp s = some (l, r)) : wsum l + 1 + r.length ≤ s.length ∧ 2 + r.length ≤ s.length := by
  unfold grp at h
  split at h
  · split at h
    · rename_i l' j hg
      injection h with h
      injection h with h1 h2
      subst h1 h2
      obtain ⟨a1, a2, a3⟩ := grL_ok s _ _ _ _ _ _ _ _ hg (by simp [wsum]) (by omega) (fun h => by omega)
      rw [List.length_drop]
      have : wsum (ungr l') ≤ wsum l' := by
        unfold ungr
        split
        · simp [wsum]
        · exact Nat.le_refl _
      omega
    · cases h
  · cases h
theorem trimP_len (q : UInt8) (s : List UInt8) : (trimP q s).length ≤ s.length := by
  unfold trimP
  split
  · rw [List.length_drop]; omega
  · exact Nat.le_refl _
def okW (w : List UInt8) : Bool := decide ((parP w).2 = 0)
def valW (w : List UInt8) : Val := (parP w).1
def rdR : Nat → List UInt8 → List (List Val) → Option (List (List Val) × Bool)
  | 0, _, rows => some (rows, false)
  | n + 1, rest, rows => if rest = [] then some (rows, true) else match grp (trimP 32 rest) with
    | none => some (rows, false)
    | some (l, r) => if l.all okW = true then rdR n r (rows ++ [l.map valW]) else none
def rbulk (rows : List (List Val)) : Nat := (rows.map fun vl => 259 * vl.length + 4).sum
theorem rbulk_snoc (rows : List (List Val)) (vl : List Val) : rbulk (rows ++ [vl]) = rbulk rows + (259 * vl.length + 4) := by simp [rbulk]
theorem rdR_ok : ∀ (n : Nat) (rest : List UInt8) (rows rows' : List (List Val)) (b : Bool), rdR n rest rows = some (rows', b) → (∀ vl ∈ rows, ∀ v ∈ vl, v.ok) → rbulk rows' ≤ rbulk rows + 259 * rest.length ∧ ∀ vl ∈ rows', ∀ v ∈ vl, v.ok := by
  intro n
  induction n with
  | zero =>
    intro rest rows rows' b h ho
    simp only [rdR, Option.some.injEq, Prod.mk.injEq] at h
    obtain ⟨rfl, _⟩ := h
    exact ⟨by omega, ho⟩
  | succ n ih =>
    intro rest rows rows' b h ho
    rw [rdR] at h
    split at h
    · simp only [Option.some.injEq, Prod.mk.injEq] at h
      obtain ⟨rfl, _⟩ := h
      exact ⟨by omega, ho⟩
    · split at h
      · simp only [Option.some.injEq, Prod.mk.injEq] at h
        obtain ⟨rfl, _⟩ := h
        exact ⟨by omega, ho⟩
      · rename_i l r hg
        split at h
        · obtain ⟨g1, g2⟩ := grp_ok hg
          have g3 := trimP_len 32 rest
          have g4 := wsum_len l
          obtain ⟨i1, i2⟩ := ih _ _ _ _ h (fun vl hv v hvv => by
            rcases List.mem_append.1 hv with hv | hv
            · exact ho vl hv v hvv
            · simp only [List.mem_singleton] at hv
              subst hv
              obtain ⟨w, _, rfl⟩ := List.mem_map.1 hvv
              exact par_ok w)
          rw [rbulk_snoc, List.length_map] at i1
          exact ⟨by omega, i2⟩
        · cases h
def rav (vl : List Val) : AV := match vl with | [] => .lst .tight 4 [] | v :: l => .lst .own 4 (vals (v :: l))
theorem rav_ls (vl : List Val) : Ls 4 (uf (rav vl)) (vals vl) := by
  cases vl with
  | nil => exact .inr ⟨.tight, .inr rfl, rfl⟩
  | cons v l => exact .inr ⟨.none, .inl rfl, rfl⟩
def rw1 (vl : List Val) : Rw := ⟨vl, uf (rav vl)⟩
def tbOf (vs : List (List UInt8)) (rows : List (List Val)) : Tb := ⟨vs, rows.map rw1, uf (ol (wds vs)), uf (ol (rws (rows.map rw1)))⟩
theorem tbOf_rows (vs : List (List UInt8)) (rows : List (List Val)) : (tbOf vs rows).rows = rows := by
  simp only [Tb.rows, tbOf, List.map_map]
  rw [show ((fun r : Rw => r.vl) ∘ rw1) = id from rfl, List.map_id]
theorem tbOf_ok (vs : List (List UInt8)) (rows : List (List Val)) (h1 : vs.length ≤ 1048576) (h2 : rows.length ≤ 1048576) (h3 : wsum vs + rbulk rows ≤ 900000000) (h4 : ∀ vl ∈ rows, ∀ v ∈ vl, v.ok) : (tbOf vs rows).ok := by
  refine ⟨ol_ls _, ol_ls _, fun r hr => ?_, h1, by simpa [tbOf] using h2, ?_⟩
  · obtain ⟨vl, hvl, rfl⟩ := List.mem_map.1 hr
    refine ⟨rav_ls vl, ?_, h4 vl hvl⟩
    have : 259 * vl.length + 4 ≤ rbulk rows := by
      clear h1 h2 h3 h4 hr
      induction rows with
      | nil => cases hvl
      | cons x l ih =>
        simp only [rbulk, List.map_cons, List.sum_cons] at ih ⊢
        rcases List.mem_cons.1 hvl with rfl | h
        · omega
        · have := ih h; omega
    simp only [rw1]
    omega
  · unfold Tb.bulk
    simp only [tbOf, List.map_map]
    exact h3
end Go.Proofs.YtafeikbbjhmlaaaGreatDoor.Sx.T
namespace Go.Proofs.YtafeikbbjhmlaaaGreatDoor.Sx.T
open Go Go.Proofs.YtafeikbbjhmlaaaGreatDoor.Sx
set_option maxRecDepth 100000
set_option maxHeartbeats 8000000
theorem index_fits : ∀ (s t : List UInt8), 0 ≤ Go.Lib.index s t → (Go.Lib.index s t).toNat + t.length ≤ s.length
  | [], t, h => by
    rw [Go.Lib.index] at h ⊢
    cases t with
    | nil => simp
    | cons a t => simp at h
  | b :: l, t, h => by
    have ih := index_fits l t
    rw [Go.Lib.index] at h ⊢
    split
    · rename_i hp
      have := List.IsPrefix.length_le (List.isPrefixOf_iff_prefix.1 hp)
      simp only [List.length_cons] at this ⊢
      simpa using this
    · rename_i hp
      rw [if_neg hp] at h
      split
      · rename_i hn
        rw [if_pos hn] at h
        simp at h
      · rename_i hn
        rw [if_neg hn] at h
        have hn' : Go.Lib.index l t ≠ -1 := by simpa using hn
        have := ih (by have := Go.Lib.index_ge l t; omega)
        simp only [List.length_cons]
        have := Go.Lib.index_ge l t
        omega
def cutG (s t : List UInt8) : List UInt8 × List UInt8 × Bool := if 0 ≤ Go.Lib.index s t then (s.take (Go.Lib.index s t).toNat, s.drop ((Go.Lib.index s t).toNat + t.length), true) else (s, [], false)
theorem p_cutG (s t : List UInt8) (hl : s.length ≤ 1000000000) (ht : t.length ≤ 100) (hp : Heap) : CL X GV 41 [.str s, .str t] hp = some (.tup [.str (cutG s t).1, .str (cutG s t).2.1, .bool (cutG s t).2.2], hp) := by
  have hi : primX 12 [.str s, .str t] = some (.int .i64 (Go.Lib.index s t)) := if_pos (by omega)
  have hf := index_fits s t
  have h : ∀ hp, CL X GV 72 [.str s, .str t] hp = some (.tup [.str (cutG s t).1, .str (cutG s t).2.1, .bool (cutG s t).2.2], hp) := by
    intro hp
    unfold cutG
    rw [CL_eq (fn := x72) rfl]
    by_cases h0 : 0 ≤ Go.Lib.index s t
    · have hf := hf h0
      rw [if_pos h0]
      obtain ⟨i, hii⟩ : ∃ i : Nat, Go.Lib.index s t = i := ⟨(Go.Lib.index s t).toNat, by omega⟩
      rw [hii] at hi hf ⊢
      simp only [Int.toNat_natCast] at hf ⊢
      have e1 : ((0 : Int) ≤ (i : Int)) = True := by simp
      have k1 : (i ≤ s.length) = True := by simp; omega
      have k2 : (i + t.length ≤ s.length) = True := by simp; omega
      have w1 : wr .i64 ((i : Int) + (t.length : Int)) = ((i + t.length : Nat) : Int) := by rw [wr_i64 _ (by omega)]; omega
      simp +contextual -implicitDefEqProofs (maxSteps := 10000000) only [x72, go_sem, ↓reduceIte, reduceCtorEq, Nat.reduceEqDiff, Nat.reduceAdd, hi, e1, k1, k2, w1]
    · rw [if_neg h0]
      generalize Go.Lib.index s t = i at *
      have e1 : ((0 : Int) ≤ i) = False := by simp; omega
      simp +contextual -implicitDefEqProofs (maxSteps := 10000000) only [x72, go_sem, ↓reduceIte, reduceCtorEq, Nat.reduceEqDiff, Nat.reduceAdd, hi, e1]
  rw [CL_eq (fn := x41) rfl]
  simp +contextual -implicitDefEqProofs (maxSteps := 10000000) only [x41, go_sem, ↓reduceIte, reduceCtorEq, Nat.reduceEqDiff, Nat.reduceAdd, h]
theorem index_one : ∀ (s : List UInt8) (c : UInt8), Go.Lib.index s [c] = match s.findIdx? (fun b => b == c) with | some i => (i : Int) | none => -1
  | [], c => by rw [Go.Lib.index]; simp
  | b :: l, c => by
    have ih := index_one l c
    rw [Go.Lib.index, List.findIdx?_cons]
    by_cases h : b = c
    · subst h
      simp [List.isPrefixOf]
    · have h2 : (b == c) = false := by simp [h]
      have h3 : ([c] : List UInt8).isPrefixOf (b :: l) = false := by
        simp only [List.isPrefixOf, Bool.and_true]
        simp [Ne.symm h]
      rw [h3, h2, ih]
      cases l.findIdx? (fun b => b == c) with
      | none => simp
      | some i =>
        have : ((i : Int) == -1) = false := by rw [beq_eq_false_iff_ne]; omega
        simp only [this, Bool.false_eq_true, if_false, Option.map_some]
        rfl
theorem cutG_slash (s : List UInt8) : cutG s [47] = cutS s := by
  have h := index_one s 47
  unfold cutG cutS slash
  cases hs : s.findIdx? (fun b => b == 47) with
  | none =>
    rw [hs] at h
    simp only at h
    rw [h, if_neg (by simp)]
  | some i =>
    rw [hs] at h
    simp only at h
    rw [h, if_pos (by simp)]
    simp
theorem p_cut47 (s : List UInt8) (hl : s.length ≤ 1000000000) (hp : Heap) : CL X GV 41 [.str s, .str [47]] hp = some (.tup [.str (cutS s).1, .str (cutS s).2.1, .bool (cutS s).2.2], hp) := by
  rw [p_cutG s [47] hl (by simp), cutG_slash]
theorem p_parse (s : List UInt8) (hl : s.length ≤ 1000000000) (hp : Heap) : CL X GV 66 [.str s] hp = some (.tup [(parP s).1.av, .int .i64 (parP s).2], hp) := by
  have hpre := fun hp => v_pre s hp
  unfold parP
  by_cases hq : s.head? = some 34
  · rw [if_pos hq]
    have hpre : ∀ hp, CL X GV 91 [.str s, .str [34]] hp = some (.bool true, hp) := fun hp => by rw [hpre hp, decide_eq_true hq]
    cases s with
    | nil => cases hq
    | cons c r =>
      have hu := fun hp => v_unq c r (by omega) hp
      have hlen : (unP (c :: r)).length ≤ (c :: r).length := by
        refine Nat.le_trans (dP_len _ _) (Nat.le_trans (trim_len _) ?_)
        simp
      have hqt := fun hp => v_quoted (unP (c :: r)) (by omega) hp
      generalize unP (c :: r) = t at *
      generalize c :: r = s at *
      unfold parQ
      rw [CL_eq (fn := x66) rfl]
      by_cases e : qt t = s
      · by_cases l : 64 < t.length
        · have e1 : ((64 : Int) < (t.length : Int)) = True := by simp; omega
          rw [if_pos e, if_pos l]
          simp +contextual -implicitDefEqProofs (maxSteps := 10000000) only [x66, go_sem, ↓reduceIte, reduceCtorEq, Nat.reduceEqDiff, Nat.reduceAdd, hpre, hu, hqt, e, e1, zV, Val.av, vA]
        · have e1 : ((64 : Int) < (t.length : Int)) = False := by simp; omega
          rw [if_pos e, if_neg l]
          simp +contextual -implicitDefEqProofs (maxSteps := 10000000) only [x66, go_sem, ↓reduceIte, reduceCtorEq, Nat.reduceEqDiff, Nat.reduceAdd, Nat.reduceLeDiff, hpre, hu, hqt, e, e1, Val.av, vA]
      · rw [if_neg e]
        simp +contextual -implicitDefEqProofs (maxSteps := 10000000) only [x66, go_sem, ↓reduceIte, reduceCtorEq, Nat.reduceEqDiff, Nat.reduceAdd, hpre, hu, hqt, e, zV, Val.av, vA]
  · rw [if_neg hq]
    have hpre : ∀ hp, CL X GV 91 [.str s, .str [34]] hp = some (.bool false, hp) := fun hp => by rw [hpre hp, decide_eq_false hq]
    have hc := fun hp => p_cut47 s hl hp
    obtain ⟨l1, l2⟩ := cut_len s
    have p1 := primX_par (cutS s).1 (by omega)
    have p2 := primX_par (cutS s).2.1 (by omega)
    have i1 := parI_in (cutS s).1
    have i2 := parI_in (cutS s).2.1
    unfold parN rawP
    obtain ⟨⟨x, y, b⟩, hcc⟩ : ∃ z, cutS s = z := ⟨_, rfl⟩
    rw [hcc] at p1 p2 i1 i2 ⊢
    simp only [hcc] at hc p1 p2 i1 i2 ⊢
    rw [CL_eq (fn := x66) rfl]
    have k1 : I64 1 := by unfold I64; omega
    have k2 : I64 2 := by unfold I64; omega
    have k0 : I64 0 := by unfold I64; omega
    cases b with
    | true =>
      have hv := fun hp => v_print ⟨2, parI x, parI y, []⟩ ⟨k2, i1, i2⟩ hp
      simp only [if_true]
      obtain ⟨cv, hcv⟩ : ∃ cv, chkV ⟨2, parI x, parI y, []⟩ = cv := ⟨_, rfl⟩
      obtain ⟨pv, hpv⟩ : ∃ pv, prt ⟨2, parI x, parI y, []⟩ = pv := ⟨_, rfl⟩
      rw [hcv, hpv]
      simp only [hcv, hpv] at hv
      simp only [Val.av, vA] at hv
      by_cases e1 : cv = 0
      · by_cases e2 : pv = s
        · rw [if_pos ⟨e1, e2⟩]
          simp +contextual -implicitDefEqProofs (maxSteps := 10000000) only [x66, go_sem, ↓reduceIte, reduceCtorEq, Nat.reduceEqDiff, Nat.reduceAdd, Nat.reduceLeDiff, Int.reduceBNe, hpre, hc, p1, p2, hv, e1, e2, Val.av, vA]
        · rw [if_neg (fun h => e2 h.2)]
          simp +contextual -implicitDefEqProofs (maxSteps := 10000000) only [x66, go_sem, ↓reduceIte, reduceCtorEq, Nat.reduceEqDiff, Nat.reduceAdd, Nat.reduceLeDiff, Int.reduceBNe, hpre, hc, p1, p2, hv, e1, e2, zV, Val.av, vA]
      · rw [if_neg (fun h => e1 h.1)]
        simp +contextual -implicitDefEqProofs (maxSteps := 10000000) only [x66, go_sem, ↓reduceIte, reduceCtorEq, Nat.reduceEqDiff, Nat.reduceAdd, Nat.reduceLeDiff, hpre, hc, p1, p2, hv, e1, zV, Val.av, vA]
    | false =>
      have hv := fun hp => v_print ⟨1, parI x, 0, []⟩ ⟨k1, i1, k0⟩ hp
      simp only [Bool.false_eq_true, if_false]
      obtain ⟨cv, hcv⟩ : ∃ cv, chkV ⟨1, parI x, 0, []⟩ = cv := ⟨_, rfl⟩
      obtain ⟨pv, hpv⟩ : ∃ pv, prt ⟨1, parI x, 0, []⟩ = pv := ⟨_, rfl⟩
      rw [hcv, hpv]
      simp only [hcv, hpv] at hv
      simp only [Val.av, vA] at hv
      by_cases e1 : cv = 0
      · by_cases e2 : pv = s
        · rw [if_pos ⟨e1, e2⟩]
          simp +contextual -implicitDefEqProofs (maxSteps := 10000000) only [x66, go_sem, ↓reduceIte, reduceCtorEq, Nat.reduceEqDiff, Nat.reduceAdd, Nat.reduceLeDiff, Int.reduceBNe, hpre, hc, p1, p2, hv, e1, e2, Val.av, vA]
        · rw [if_neg (fun h => e2 h.2)]
          simp +contextual -implicitDefEqProofs (maxSteps := 10000000) only [x66, go_sem, ↓reduceIte, reduceCtorEq, Nat.reduceEqDiff, Nat.reduceAdd, Nat.reduceLeDiff, Int.reduceBNe, hpre, hc, p1, p2, hv, e1, e2, zV, Val.av, vA]
      · rw [if_neg (fun h => e1 h.1)]
        simp +contextual -implicitDefEqProofs (maxSteps := 10000000) only [x66, go_sem, ↓reduceIte, reduceCtorEq, Nat.reduceEqDiff, Nat.reduceAdd, Nat.reduceLeDiff, hpre, hc, p1, p2, hv, e1, zV, Val.av, vA]
end Go.Proofs.YtafeikbbjhmlaaaGreatDoor.Sx.T
namespace Go.Proofs.YtafeikbbjhmlaaaGreatDoor.Sx.T
open Go Go.Proofs.YtafeikbbjhmlaaaGreatDoor.Sx
set_option maxRecDepth 100000
set_option maxHeartbeats 8000000
def lownK (d : Nat) (fr : List AV) (l : Level) (h : Heap) (s v off : Nat) (o : Option (List AV)) : Option (List AV × Heap) := match o with
  | none => none
  | some cs => match cs.drop off with
    | .lst .own z es :: _ => some (fput fr d (.lst .own z es), lputc l s v (splice cs off [.lst .none z es]) :: h)
    | u :: _ => some (fput fr d (uf u), l :: h)
    | [] => none
def lownA (d : Nat) (fr : List AV) (l : Level) (h : Heap) (v : AV) : Option (List AV × Heap) := match v with
  | .ptr r off => match cellsAt (l :: h) r with
    | some cs => match cs.drop off with
      | .lst .own z es :: _ => some (fput fr d (.lst .own z es), hput (l :: h) r (.cells (splice cs off [.lst .none z es])))
      | u :: _ => some (fput fr d (uf u), l :: h)
      | [] => none
    | none => none
  | _ => none
theorem o_lown {C : CallT} {gl : Nat → List AV} (d : Nat) (a : XArg) (fr : List AV) (l : Level) (h : Heap) : evO1 C gl (some d) (.lown a) fr (l :: h) = lownA d fr l h (earg fr a) := by
  simp only [evO1, evOp, lownA]
  cases earg fr a with
  | ptr r off =>
    simp only
    cases cellsAt (l :: h) r with
    | none => rfl
    | some cs =>
      simp only
      cases cs.drop off with
      | nil => rfl
      | cons u q =>
        cases u with
        | lst o z es => cases o <;> rfl
        | _ => rfl
  | _ => rfl
theorem lownA_top (d : Nat) (fr : List AV) (l : Level) (h : Heap) (n s v off : Nat) (hn : n = h.length) : lownA d fr l h (.ptr ⟨n, s, v⟩ off) = lownK d fr l h s v off (lcells l s v) := by
  subst hn
  simp only [lownA, cellsAt_top, lownK]
  cases hc : lcells l s v with
  | none => rfl
  | some cs =>
    simp only
    cases hd : cs.drop off with
    | nil => rfl
    | cons u r =>
      have hp : ∀ x, hput (l :: h) ⟨h.length, s, v⟩ (.cells x) = lputc l s v x :: h := fun x => bput_top l h s v x
      cases u with
      | lst o z es =>
        cases o <;> simp only [hp]
      | _ => rfl
theorem rav_app (l : List Val) (v : Val) (h : l.length ≤ 1000000000) : appK false 4 40 (rav l) (some [v.cells]) = some (rav (l ++ [v])) := by
  have e : rav (l ++ [v]) = .lst .own 4 (vals (l ++ [v])) := by cases l <;> rfl
  have e2 : vals (l ++ [v]) = vals l ++ [v.cells] := by simp [vals]
  rw [e, e2]
  obtain ⟨k, n, d, s⟩ := v
  cases l with
  | nil =>
    show appK false 4 40 (.lst .tight 4 []) _ = _
    rw [appK_lst, if_neg (by simp), if_pos (by simp [Val.cells, refFreeL, refFree, plain1]), if_pos ⟨rfl, rfl, by simp [room]⟩]
    rfl
  | cons a l =>
    show appK false 4 40 (.lst .own 4 (vals (a :: l))) _ = _
    rw [appK_lst, if_neg (by simp), if_pos (by simp [Val.cells, refFreeL, refFree, plain1]), if_pos ⟨rfl, rfl, by rw [vals_len]; simp only [List.length_cons, List.length_nil, room] at h ⊢; omega⟩]
    rfl
theorem rav_drop (l : List Val) (fr : List AV) (t z : Nat) (h : t ≠ z) : fget (drop1K (rav l) fr t) z = fget fr z := by
  cases l with
  | nil => rfl
  | cons a l =>
    show fget (drop1K (.lst .own 4 (vals (a :: l))) fr t) z = _
    rw [drop1K_own, fget_fput, if_neg (fun e => h e.symm)]
theorem l_rdRow (ws : List (List UInt8)) (Y : AV) (hY : Ls 1 Y (wds ws)) (hl : ws.length ≤ 1000000000) (hw : ∀ w ∈ ws, w.length ≤ 1000000000) (rest : List UInt8) (C7 : List AV) {fr : List AV} {L : Level} (K : Option (XExit × St) → Prop)
    (h2 : fget fr 2 = .ptr ⟨0, 2, 0⟩ 0) (h5 : fget fr 5 = .str rest) (h6 : fget fr 6 = .bool true) (h7 : fget fr 7 = .ptr ⟨0, 7, 0⟩ 0) (h9 : fget fr 9 = .lst .tight 4 []) (h37 : fget fr 37 = Y) (h38 : fget fr 38 = .int .i64 ws.length) (h39 : fget fr 39 = .int .i64 0)
    (hL2 : lcells L 2 0 = some [.nilsl, .nilsl]) (hL7 : lcells L 7 0 = some C7)
    (hk0 : ws.all okW = true → ∀ fr' L', fget fr' 2 = .ptr ⟨0, 2, 0⟩ 0 → fget fr' 5 = .str rest → fget fr' 6 = .bool true → fget fr' 7 = .ptr ⟨0, 7, 0⟩ 0 → fget fr' 9 = rav (ws.map valW) → lcells L' 2 0 = some [.nilsl, .nilsl] → lcells L' 7 0 = some C7 → K (some (.exit 2, ⟨fr', [L']⟩)))
    (hk1 : ws.all okW = false → ∀ fr' L', fget fr' 2 = .ptr ⟨0, 2, 0⟩ 0 → fget fr' 3 = .bool false → lcells L' 2 0 = some [.nilsl, .nilsl] → K (some (.ret, ⟨fr', [L']⟩))) :
    K (LC X GV (.loop x37_l0) ⟨fr, [L]⟩) := by
  obtain ⟨p1, u1, n1, d1, f1⟩ := hY.one
  obtain ⟨I, hI⟩ : ∃ I : Nat → List AV → Heap → Prop, ∀ j fr hp', I j fr hp' ↔ ((∃ L, hp' = [L] ∧ lcells L 2 0 = some [.nilsl, .nilsl] ∧ lcells L 7 0 = some C7) ∧ fget fr 2 = .ptr ⟨0, 2, 0⟩ 0 ∧ fget fr 5 = .str rest ∧ fget fr 6 = .bool true ∧ fget fr 7 = .ptr ⟨0, 7, 0⟩ 0 ∧ fget fr 9 = rav ((ws.take j).map valW) ∧ fget fr 37 = Y ∧ fget fr 38 = .int .i64 ws.length ∧ fget fr 39 = .int .i64 (j : Nat) ∧ ∀ w ∈ ws.take j, okW w = true) := ⟨_, fun _ _ _ => Iff.rfl⟩
  obtain ⟨Q, hQ⟩ : ∃ Q : XExit → List AV → Heap → Prop, ∀ e fr hp', Q e fr hp' ↔ ((e = .exit 2 ∧ ws.all okW = true ∧ (∃ L, hp' = [L] ∧ lcells L 2 0 = some [.nilsl, .nilsl] ∧ lcells L 7 0 = some C7) ∧ fget fr 2 = .ptr ⟨0, 2, 0⟩ 0 ∧ fget fr 5 = .str rest ∧ fget fr 6 = .bool true ∧ fget fr 7 = .ptr ⟨0, 7, 0⟩ 0 ∧ fget fr 9 = rav (ws.map valW)) ∨ (e = .ret ∧ ws.all okW = false ∧ (∃ L, hp' = [L] ∧ lcells L 2 0 = some [.nilsl, .nilsl]) ∧ fget fr 2 = .ptr ⟨0, 2, 0⟩ 0 ∧ fget fr 3 = .bool false)) := ⟨_, fun _ _ _ => Iff.rfl⟩
  refine LC_upK ws.length I Q K ?_ ?_ ?_ ?_
  · rw [hI]
    exact ⟨⟨L, rfl, hL2, hL7⟩, h2, h5, h6, h7, by rw [h9]; rfl, h37, h38, h39, by simp⟩
  · intro j hj fr hp' hh
    obtain ⟨⟨L, rfl, hL2, hL7⟩, h2, h5, h6, h7, h9, h37, h38, h39, hd⟩ := (hI _ _ _).1 hh
    have k1 : ((j : Int) < (ws.length : Int)) = True := by simp; omega
    have g1 := up_at hY j hj
    have w1 : wr .i64 ((j : Int) + 1) = ((j + 1 : Nat) : Int) := by rw [wr_i64 _ (by omega)]; omega
    have hmem : ws.getD j [] ∈ ws := by simp [List.getD, hj]
    have hwl := hw _ hmem
    have hpr := p_parse (ws.getD j []) (by omega) []
    have htk := take_snoc ws j [] hj
    have hall : okW (ws.getD j []) = false → ws.all okW = false := fun h => by
      rw [List.all_eq_false]
      exact ⟨_, hmem, by rw [h]; simp⟩
    generalize ws.getD j [] = w at g1 hpr htk hall
    obtain ⟨e0, he⟩ : ∃ e, (parP w).2 = e := ⟨_, rfl⟩
    have hok : okW w = decide (e0 = 0) := by unfold okW; rw [he]
    have hvw : valW w = (parP w).1 := rfl
    rw [he] at hpr
    have hra := rav_app ((ws.take j).map valW) (valW w) (by rw [List.length_map, List.length_take]; omega)
    have hnew : rav ((ws.take (j + 1)).map valW) = rav ((ws.take j).map valW ++ [valW w]) := by rw [htk, List.map_append]; rfl
    have hdr := rav_drop ((ws.take j).map valW ++ [valW w])
    rw [hvw] at hra hnew hdr
    clear he hvw
    generalize (parP w).1 = y at hpr hra hnew hdr
    generalize rav ((ws.take j).map valW ++ [y]) = R2 at hra hnew hdr
    obtain ⟨k, n2, d, s⟩ := y
    simp only [Val.cells, Val.av, vA] at hra hpr
    by_cases c : e0 = 0
    · subst c
      rw [decide_eq_true rfl] at hok
      simp +contextual -implicitDefEqProofs (maxSteps := 10000000) only [x37_l0_run, go_sem, ↓reduceIte, Nat.reduceEqDiff, Nat.reduceAdd, Int.reduceBNe, Nat.reduceLT, Nat.reduceDiv, h2, h9, h37, h38, h39, k1, g1, w1, u1, hpr, stAt_topc, ldAt_topc, hra, rav_drop, hdr]
      rw [hI]
      refine ⟨⟨_, rfl, ?_, ?_⟩, ?_, ?_, ?_, ?_, ?_, ?_, ?_, ?_, fun x hx => ?_⟩
      · simp [lcells_put, hL2]
      · simp [lcells_put, hL7]
      case refine_11 =>
        rw [htk] at hx
        rcases List.mem_append.1 hx with h | h
        · exact hd x h
        · rw [List.mem_singleton.1 h, hok]
      all_goals simp only [go_sem, ↓reduceIte, Nat.reduceEqDiff, h2, h5, h6, h7, h37, h38, rav_drop, hdr, hnew]
    · have c' : (e0 = 0) = False := by simp [c]
      rw [decide_eq_false c] at hok
      simp +contextual -implicitDefEqProofs (maxSteps := 10000000) only [x37_l0_run, go_sem, ↓reduceIte, Nat.reduceEqDiff, Nat.reduceAdd, h2, h37, h38, h39, k1, g1, u1, hpr, c', stAt_topc, hL2]
      rw [hQ]
      exact .inr ⟨rfl, hall hok, ⟨_, rfl, by simp [lcells_put]⟩, by simp only [go_sem, ↓reduceIte, Nat.reduceEqDiff, h2], by simp only [go_sem, ↓reduceIte]⟩
  · intro fr hp' hh
    obtain ⟨⟨L, rfl, hL2, hL7⟩, h2, h5, h6, h7, h9, h37, h38, h39, hd⟩ := (hI _ _ _).1 hh
    simp +contextual -implicitDefEqProofs (maxSteps := 10000000) only [x37_l0_run, go_sem, ↓reduceIte, h38, h39, Int.lt_irrefl]
    rw [hQ]
    rw [List.take_length] at h9 hd
    refine .inl ⟨rfl, List.all_eq_true.2 hd, ⟨L, rfl, hL2, hL7⟩, ?_, ?_, ?_, ?_, ?_⟩ <;> simp only [go_sem, ↓reduceIte, Nat.reduceEqDiff, h2, h5, h6, h7, h9]
  · intro e fr hp' he hh
    rcases (hQ _ _ _).1 hh with ⟨rfl, a0, ⟨L, rfl, hL2, hL7⟩, a2, a5, a6, a7, a9⟩ | ⟨rfl, a0, ⟨L, rfl, hL2⟩, a2, a3⟩
    · exact hk0 a0 fr L a2 a5 a6 a7 a9 hL2 hL7
    · exact hk1 a0 fr L a2 a3 hL2
theorem ol_appx (b : Nat) (W : List (List AV)) (x : AV) (h0 : refFree x = true) (h1 : plain1 x = true) (h : (W.length + 1) * b ≤ 140737488355328) : appK false 1 b (ol W) (some [[x]]) = some (ol (W ++ [[x]])) := by
  rw [ol_cons]
  cases W with
  | nil =>
    show appK false 1 b .nilsl _ = _
    rw [appK_nilsl, if_neg (by simp), if_pos (by simp [refFreeL, h0, h1]), if_pos (by simpa [room] using h)]
    rfl
  | cons e W =>
    show appK false 1 b (.lst .own 1 (e :: W)) _ = _
    rw [appK_lst, if_neg (by simp), if_pos (by simp [refFreeL, h0, h1]), if_pos ⟨rfl, rfl, by simpa [room] using h⟩]
    rfl
theorem lownK_ol (l : Level) (x : AV) (W : List (List AV)) (hl : lcells l 7 0 = some [x, ol W]) : ∃ l2, (∀ d fr, lownK d fr l [] 7 0 1 (some [x, ol W]) = some (fput fr d (ol W), [l2])) ∧ lcells l2 7 0 = some [x, uf (ol W)] ∧ lcells l2 2 0 = lcells l 2 0 := by
  cases W with
  | nil => exact ⟨l, fun _ _ => rfl, hl, rfl⟩
  | cons e W => exact ⟨lputc l 7 0 [x, uf (ol (e :: W))], fun _ _ => rfl, by simp [lcells_put], by simp [lcells_put]⟩
theorem ol_cells (W : List (List AV)) : cellsOf (ol W) = [ol W] ∧ plain1 (ol W) = true := by
  cases W <;> exact ⟨rfl, rfl⟩
def OR (x : AV) (o : Option (List (List Val) × Bool)) (r : Option (XExit × St)) : Prop := match o with
  | some (rows, b) => ∃ fr' L, r = some (.exit 0, ⟨fr', [L]⟩) ∧ fget fr' 2 = .ptr ⟨0, 2, 0⟩ 0 ∧ fget fr' 7 = .ptr ⟨0, 7, 0⟩ 0 ∧ fget fr' 6 = .bool b ∧ lcells L 2 0 = some [.nilsl, .nilsl] ∧ lcells L 7 0 = some [x, ol (rws (rows.map rw1))]
  | none => ∃ fr' L, r = some (.ret, ⟨fr', [L]⟩) ∧ fget fr' 2 = .ptr ⟨0, 2, 0⟩ 0 ∧ fget fr' 3 = .bool false ∧ lcells L 2 0 = some [.nilsl, .nilsl]
theorem l_read (x : AV) : ∀ (n : Nat) (rest : List UInt8) (rows : List (List Val)) (fr : List AV) (L : Level), rest.length < n → rest.length ≤ 1000000000 → rows.length + rest.length ≤ 1000000000 →
    fget fr 2 = .ptr ⟨0, 2, 0⟩ 0 → fget fr 5 = .str rest → fget fr 6 = .bool true → fget fr 7 = .ptr ⟨0, 7, 0⟩ 0 → lcells L 2 0 = some [.nilsl, .nilsl] → lcells L 7 0 = some [x, ol (rws (rows.map rw1))] →
    OR x (rdR n rest rows) (LC X GV (.loop x37_l1) ⟨fr, [L]⟩) := by
  intro n
  induction n with
  | zero => intro rest rows fr L h; omega
  | succ n ih =>
    intro rest rows fr L h hl hr g2 g5 g6 g7 hL2 hL7
    rw [LC_loop, rdR]
    by_cases hn : rest = []
    · subst hn
      rw [if_pos rfl]
      simp +contextual -implicitDefEqProofs (maxSteps := 10000000) only [x37_l1_run, go_sem, ↓reduceIte, Nat.reduceEqDiff, g5, g6]
      exact ⟨_, _, rfl, by simp only [go_sem, ↓reduceIte, Nat.reduceEqDiff, g2], by simp only [go_sem, ↓reduceIte, Nat.reduceEqDiff, g7], by simp only [go_sem, ↓reduceIte, Nat.reduceEqDiff, g6], hL2, hL7⟩
    rw [if_neg hn]
    have hn' : (rest = []) = False := by simp [hn]
    have htr := p_trim 32 rest
    have htl := trimP_len 32 rest
    have hgr := p_group (trimP 32 rest) (by omega) []
    have hok := @grp_ok (trimP 32 rest)
    obtain ⟨o, ho⟩ : ∃ o, grp (trimP 32 rest) = o := ⟨_, rfl⟩
    rw [ho] at hgr hok ⊢
    generalize trimP 32 rest = t at *
    cases o with
    | none =>
      simp only [grV] at hgr
      simp +contextual -implicitDefEqProofs (maxSteps := 10000000) only [x37_l1_run, go_sem, ↓reduceIte, reduceCtorEq, Nat.reduceEqDiff, g5, g6, hn', htr, hgr]
      exact ⟨_, _, rfl, by simp only [go_sem, ↓reduceIte, Nat.reduceEqDiff, g2], by simp only [go_sem, ↓reduceIte, Nat.reduceEqDiff, g7], by simp only [go_sem, ↓reduceIte, Nat.reduceEqDiff], hL2, hL7⟩
    | some y =>
      obtain ⟨l, r⟩ := y
      obtain ⟨a1, a2⟩ := hok rfl
      have hwl := wsum_len l
      simp only [grV] at hgr
      have hY := ol_ls (wds l)
      generalize uf (ol (wds l)) = Y at hgr hY
      obtain ⟨py, uy, ny, dy, fy⟩ := hY.one
      rw [wds_len] at ny
      simp +contextual -implicitDefEqProofs (maxSteps := 10000000) only [x37_l1_run, go_sem, ↓reduceIte, Nat.reduceEqDiff, Nat.reduceLT, Nat.reduceDiv, g5, g6, hn', htr, hgr, uy, ny, dy]
      refine l_rdRow l Y hY (by omega) (fun w hw => by have := wsum_mem hw; omega) r [x, ol (rws (rows.map rw1))] (fun q => OR x _ (seqK (blockK 1 (seqK (blockK 2 q) _)) _)) ?_ ?_ ?_ ?_ ?_ ?_ ?_ ?_ ?_ ?_ ?_ ?_
      all_goals first | (simp only [go_sem, ↓reduceIte, Nat.reduceEqDiff, g2, g7]; done) | skip
      · exact hL2
      · exact hL7
      · intro hall fr' L' b2 b5 b6 b7 b9 bL2 bL7
        rw [if_pos hall]
        have hrv := rav_ls (l.map valW)
        obtain ⟨pw, uw, nw, dw, fw⟩ := hrv.one
        obtain ⟨l2, q1, q2, q3⟩ := lownK_ol L' x _ bL7
        rw [bL2] at q3
        have hap := ol_appx 24 (rws (rows.map rw1)) (uf (rav (l.map valW))) fw pw (by rw [rws_len, List.length_map]; omega)
        have hnew : rws (rows.map rw1) ++ [[uf (rav (l.map valW))]] = rws ((rows ++ [l.map valW]).map rw1) := by simp [rws, rw1]
        rw [hnew] at hap
        have hdr := ol_drop (rws ((rows ++ [l.map valW]).map rw1))
        have hih := ih r (rows ++ [l.map valW])
        have hcs : cellsOf (uf (rav (l.map valW))) = [uf (rav (l.map valW))] := by cases l <;> rfl
        have hso : solid (uf (rav (l.map valW))) = true := by cases l <;> rfl
        have hlen : (rows ++ [l.map valW]).length = rows.length + 1 := by simp
        generalize rows ++ [l.map valW] = rows2 at *
        generalize rav (l.map valW) = R at *
        generalize hU : uf R = U at *
        have hbs : bslK 1 (some (splice [.nilsl] 0 [U])) = some (.lst .tight 1 [[U]]) := by
          rw [show splice [AV.nilsl] 0 [U] = [U] from rfl, bslK_some, if_pos (by simp [refFreeL, fw])]
          simp [chunks]
        have n1 : ([U] : List AV).length = 1 := rfl
        obtain ⟨hc1, hc2⟩ := ol_cells (rws (rows2.map rw1))
        have hod := ol_drop (rws (rows.map rw1))
        simp +contextual -implicitDefEqProofs (maxSteps := 10000000) only [go_sem, ↓reduceIte, Nat.reduceEqDiff, Nat.reduceAdd, Nat.reduceLT, Nat.reduceDiv, b7, b9, bL7, o_lown, lownA_top, q1, q2, hU, uw, fw, hcs, hso, n1, hap, hod, hc1, hc2, stAt_topc]
        refine hih _ _ (by omega) (by omega) (by omega) ?_ ?_ ?_ ?_ ?_ ?_
        · simp only [go_sem, ↓reduceIte, Nat.reduceEqDiff, hdr, hod, b2]
        · simp only [go_sem, ↓reduceIte, Nat.reduceEqDiff, hdr, hod, b5]
        · simp only [go_sem, ↓reduceIte, Nat.reduceEqDiff, hdr, hod, b6]
        · simp only [go_sem, ↓reduceIte, Nat.reduceEqDiff, hdr, hod, b7]
        · rw [lcells_put, if_neg (by decide)]
          exact q3
        · rw [lcells_put, if_pos rfl, if_pos rfl]
      · intro hall fr' L' b2 b3 bL2
        rw [if_neg (by simp [hall])]
        simp +contextual -implicitDefEqProofs (maxSteps := 10000000) only [go_sem]
        exact ⟨_, _, rfl, b2, b3, bL2⟩
end Go.Proofs.YtafeikbbjhmlaaaGreatDoor.Sx.T
namespace Go.Proofs.YtafeikbbjhmlaaaGreatDoor.Sx.T
open Go Go.Proofs.YtafeikbbjhmlaaaGreatDoor.Sx
set_option maxRecDepth 100000
set_option maxHeartbeats 8000000
def wokB : Bool → Bool → List UInt8 → Prop
  | q, k, [] => q = false ∧ k = false
  | q, k, c :: w => c.toNat < 128 ∧ (if k = true then wokB q false w else if q = true ∧ c = 92 then wokB q true w else if c = 34 then wokB (!q) false w else (q = true ∨ (c ≠ 32 ∧ c ≠ 41)) ∧ wokB q false w)
theorem drop_at {s : List UInt8} {i : Nat} {c : UInt8} {r : List UInt8} (h : s.drop i = c :: r) : i < s.length ∧ s.getD i 0 = c ∧ s.drop (i + 1) = r := by
  have hi : i < s.length := by
    by_cases hi : i < s.length
    · exact hi
    · rw [List.drop_eq_nil_of_le (by omega)] at h; cases h
  rw [List.drop_eq_getElem_cons hi] at h
  injection h with h1 h2
  exact ⟨hi, by simp [List.getD, hi, h1], h2⟩
theorem grL_word (s : List UInt8) (fr : Nat) (l : List (List UInt8)) (n : Nat) : ∀ (w : List UInt8) (q k : Bool) (i : Nat) (r : List UInt8), s.drop i = w ++ r → wokB q k w → 0 < i → grL s (n + w.length) i fr q k l = grL s n (i + w.length) fr false false l := by
  intro w
  induction w with
  | nil =>
    intro q k i r _ h _
    obtain ⟨rfl, rfl⟩ := h
    rfl
  | cons c w ih =>
    intro q k i r hd h h0
    obtain ⟨h1, h2⟩ := h
    obtain ⟨hi, hg, hd2⟩ := drop_at (by rw [hd]; rfl)
    have e : i + (c :: w).length = i + 1 + w.length := by simp; omega
    rw [show n + (c :: w).length = (n + w.length) + 1 by simp; omega, grL, if_neg (by omega), hg, if_neg (by omega), e]
    by_cases k1 : k = true
    · rw [if_pos k1] at h2
      rw [if_pos k1]
      exact ih _ _ _ r hd2 h2 (by omega)
    rw [if_neg k1] at h2
    rw [if_neg k1]
    by_cases q1 : q = true ∧ c = 92
    · rw [if_pos q1] at h2
      rw [if_pos q1]
      exact ih _ _ _ r hd2 h2 (by omega)
    rw [if_neg q1] at h2
    rw [if_neg q1]
    by_cases c1 : c = 34
    · rw [if_pos c1] at h2
      rw [if_pos c1]
      exact ih _ _ _ r hd2 h2 (by omega)
    rw [if_neg c1] at h2
    rw [if_neg c1]
    obtain ⟨h3, h4⟩ := h2
    rw [if_neg (by rintro ⟨a, _, b⟩; rcases h3 with h3 | h3
                   · rw [a] at h3; cases h3
                   · exact h3.1 b), if_neg (by rintro ⟨a, _, b⟩; rcases h3 with h3 | h3
                                               · rw [a] at h3; cases h3
                                               · exact h3.2 b)]
    exact ih _ _ _ r hd2 h4 (by omega)
theorem sub_word {s : List UInt8} {i : Nat} {w r : List UInt8} (h : s.drop i = w ++ r) : sub s i (i + w.length) = w := by
  rw [sub, List.drop_take, h, show i + w.length - i = w.length by omega, List.take_left]
theorem drop_word {s : List UInt8} {i : Nat} {w r : List UInt8} (h : s.drop i = w ++ r) : s.drop (i + w.length) = r := by
  rw [← List.drop_drop, h, List.drop_left]
theorem grL_words (s : List UInt8) : ∀ (ws : List (List UInt8)) (n i : Nat) (r : List UInt8) (l : List (List UInt8)), ws ≠ [] → (∀ w ∈ ws, wokB false false w) → s.drop i = jn ws ++ 41 :: r → 0 < i →
    grL s (n + (jn ws).length + 1) i i false false l = some (l ++ ws, i + (jn ws).length + 1)
  | [], _, _, _, _, h, _, _, _ => absurd rfl h
  | [w], n, i, r, l, _, hw, hd, h0 => by
    rw [jn_one] at hd ⊢
    rw [show n + w.length + 1 = (n + 1) + w.length by omega, grL_word s i l (n + 1) w _ _ _ _ hd (hw w (by simp)) h0, sub_word hd |> fun e => show grL s (n + 1) (i + w.length) i false false l = some (l ++ [w], i + w.length + 1) from ?_]
    obtain ⟨hi, hg, _⟩ := drop_at (drop_word hd)
    rw [grL, if_neg (by omega), hg, if_neg (by decide), if_neg (by decide), if_neg (by simp), if_neg (by decide), if_neg (by simp), if_pos ⟨rfl, by omega, rfl⟩, sub_word hd]
  | w :: b :: ws, n, i, r, l, _, hw, hd, h0 => by
    rw [jn_cons] at hd ⊢
    rw [List.append_assoc, List.cons_append] at hd
    obtain ⟨hi, hg, hd2⟩ := drop_at (drop_word hd)
    have ih := grL_words s (b :: ws) n (i + w.length + 1) r (l ++ [w]) (by simp) (fun x hx => hw x (List.mem_cons_of_mem _ hx)) hd2 (by omega)
    rw [List.length_append, List.length_cons, show n + (w.length + ((jn (b :: ws)).length + 1)) + 1 = (n + (jn (b :: ws)).length + 1 + 1) + w.length by omega, grL_word s i l _ w _ _ _ _ hd (hw w (by simp)) h0,
      grL, if_neg (by omega), hg, if_neg (by decide), if_neg (by decide), if_neg (by simp), if_neg (by decide), if_pos ⟨rfl, by omega, rfl⟩, sub_word hd, ih]
    rw [List.append_assoc]
    congr 2
    omega
theorem grp_jn (ws : List (List UInt8)) (r : List UInt8) (hw : ∀ w ∈ ws, wokB false false w ∧ w ≠ []) : grp (40 :: (jn ws ++ 41 :: r)) = some (ws, r) := by
  have hlen : (40 :: (jn ws ++ 41 :: r) : List UInt8).length = (jn ws).length + r.length + 2 := by simp; omega
  have hd : (40 :: (jn ws ++ 41 :: r) : List UInt8).drop 1 = jn ws ++ 41 :: r := rfl
  rw [grp, if_pos (List.head?_cons : (40 :: (jn ws ++ 41 :: r) : List UInt8).head? = some 40)]
  generalize hS : (40 :: (jn ws ++ 41 :: r) : List UInt8) = S at *
  have hg0 : S.getD 0 0 = 40 := by rw [← hS]; rfl
  have h1 : grL S (S.length + 1) 0 1 false false [] = grL S S.length 1 1 false false [] := by
    rw [grL, if_neg (by omega), hg0, if_neg (by decide), if_neg (by decide), if_neg (by simp), if_neg (by decide), if_neg (by simp), if_neg (by simp)]
  have h2 : grL S S.length 1 1 false false [] = some (if ws = [] then [[]] else ws, 1 + (jn ws).length + 1) := by
    by_cases h0 : ws = []
    · subst h0
      rw [if_pos rfl]
      obtain ⟨hi, hg, _⟩ := drop_at hd
      rw [show S.length = (S.length - 1) + 1 by omega, grL, if_neg (by omega), hg, if_neg (by decide), if_neg (by decide), if_neg (by simp), if_neg (by decide), if_neg (by simp), if_pos ⟨rfl, by omega, rfl⟩]
      simp [jn_nil, sub]
    · rw [if_neg h0, show S.length = r.length + 1 + (jn ws).length + 1 by omega, grL_words S ws (r.length + 1) 1 r [] h0 (fun w h => (hw w h).1) hd (by omega)]
      rfl
  rw [h1, h2]
  have h3 : S.drop (1 + (jn ws).length + 1) = r := by
    have := drop_word hd
    exact (drop_at this).2.2
  simp only [h3, Option.some.injEq, Prod.mk.injEq, and_true]
  by_cases h0 : ws = []
  · subst h0; rfl
  · rw [if_neg h0, ungr, if_neg]
    intro e
    rw [e] at hw
    exact (hw [] (by simp)).2 rfl
theorem wok_cl : ∀ (w : List UInt8), (∀ c ∈ w, cl c ∧ c.toNat < 128) → wokB false false w
  | [], _ => ⟨rfl, rfl⟩
  | c :: w, h => by
    obtain ⟨⟨h1, h2, h3⟩, h4⟩ := h c (by simp)
    refine ⟨h4, ?_⟩
    rw [if_neg (by simp), if_neg (by simp), if_neg h3]
    exact ⟨.inr ⟨h1, h2⟩, wok_cl w fun x hx => h x (by simp [hx])⟩
theorem hx_ok : ∀ a : Fin 16, (hx a.val).toNat < 128 ∧ hx a.val ≠ 34 ∧ hx a.val ≠ 92 := by decide
theorem wok_q (c : UInt8) (w : List UInt8) (h1 : c.toNat < 128) (h2 : c ≠ 92) (h3 : c ≠ 34) (h : wokB true false w) : wokB true false (c :: w) := by
  refine ⟨h1, ?_⟩
  rw [if_neg (by simp), if_neg (by simp [h2]), if_neg h3]
  exact ⟨.inl rfl, h⟩
theorem wok_e (c : UInt8) (w : List UInt8) (h1 : c.toNat < 128) (h : wokB true false w) : wokB true false (92 :: c :: w) := by
  refine ⟨by decide, ?_⟩
  rw [if_neg (by simp), if_pos ⟨rfl, rfl⟩]
  exact ⟨h1, by rw [if_pos rfl]; exact h⟩
theorem wok_qc (c : UInt8) (w : List UInt8) (h : wokB true false w) : wokB true false (qc c ++ w) := by
  unfold qc
  by_cases p : c.toNat = 34 ∨ c.toNat = 92
  · rw [if_pos p]
    exact wok_e c w (by omega) h
  · rw [if_neg p]
    by_cases g : 32 ≤ c.toNat ∧ c.toNat ≤ 126
    · rw [if_pos g]
      exact wok_q c w (by omega) (fun e => p (.inr (by rw [e]; rfl))) (fun e => p (.inl (by rw [e]; rfl))) h
    · rw [if_neg g]
      have b1 := c.toNat_lt
      obtain ⟨a1, a2, a3⟩ := hx_ok ⟨c.toNat / 16, by omega⟩
      obtain ⟨b1, b2, b3⟩ := hx_ok ⟨c.toNat % 16, by omega⟩
      exact wok_e _ _ (by decide) (wok_q _ _ a1 a3 a2 (wok_q _ _ b1 b3 b2 h))
theorem wok_flat : ∀ (t : List UInt8) (w : List UInt8), wokB true false w → wokB true false (t.flatMap qc ++ w)
  | [], _, h => h
  | c :: t, w, h => by
    rw [List.flatMap_cons, List.append_assoc]
    exact wok_qc c _ (wok_flat t w h)
theorem wok_qt (t : List UInt8) : wokB false false (qt t) := by
  unfold qt
  refine ⟨by decide, ?_⟩
  rw [if_neg (by simp), if_neg (by simp), if_pos rfl]
  refine wok_flat t [34] ⟨by decide, ?_⟩
  rw [if_neg (by simp), if_neg (by simp), if_pos rfl]
  exact ⟨rfl, rfl⟩
theorem dig_low {c : UInt8} (h : isDig c) : c.toNat < 128 := by unfold isDig at h; omega
theorem decI_low (n : Int) : ∀ c ∈ decI n, c.toNat < 128 := by
  intro c hc
  unfold decI at hc
  split at hc
  · rcases List.mem_cons.1 hc with h | h
    · subst h; decide
    · exact dig_low (decF_dig 20 _ c h)
  · exact dig_low (decF_dig 20 _ c hc)
theorem prt_wok (v : Val) (h : chkV v = 0) : wokB false false (prt v) ∧ prt v ≠ [] := by
  have hp : prt v = if v.k = 1 then decI v.n else if v.k = 2 then decI v.n ++ 47 :: decI v.d else qt v.s := by
    unfold prt
    rw [if_neg (by simp [h])]
  rw [hp]
  by_cases k1 : v.k = 1
  · rw [if_pos k1]
    exact ⟨wok_cl _ fun c hc => ⟨decI_cl _ c hc, decI_low _ c hc⟩, decI_ne _⟩
  · rw [if_neg k1]
    by_cases k2 : v.k = 2
    · rw [if_pos k2]
      refine ⟨wok_cl _ fun c hc => ?_, by simp⟩
      rcases List.mem_append.1 hc with h | h
      · exact ⟨decI_cl _ c h, decI_low _ c h⟩
      · rcases List.mem_cons.1 h with h | h
        · subst h; exact ⟨⟨by decide, by decide, by decide⟩, by decide⟩
        · exact ⟨decI_cl _ c h, decI_low _ c h⟩
    · rw [if_neg k2]
      exact ⟨wok_qt _, by simp [qt]⟩
theorem name_low {w : List UInt8} (h : nameP w) : ∀ c ∈ w, c.toNat < 128 := by
  intro c hc
  obtain ⟨i, hi, rfl⟩ := List.mem_iff_getElem.1 hc
  have hr := h.2.2.2 i (Nat.zero_le _) hi
  have e : w.getD i 0 = w[i] := by simp [List.getD, hi]
  rw [e] at hr
  generalize w[i] = c at hr
  unfold chA chB at hr
  simp at hr
  omega
theorem name_wok {w : List UInt8} (h : nameP w) : wokB false false w ∧ w ≠ [] := ⟨wok_cl _ fun c hc => ⟨name_cl h c hc, name_low h c hc⟩, h.1⟩
theorem okW_prt (v : Val) (h : goodV v) : okW (prt v) = true ∧ valW (prt v) = v := by
  have := par_prt v h.1 h.2
  unfold okW valW
  rw [this]
  exact ⟨rfl, rfl⟩
theorem rdR_rows : ∀ (l : List Rw) (n : Nat) (rows : List (List Val)), (∀ r ∈ l, ∀ v ∈ r.vl, goodV v) → l.length < n → rdR n (rowsT l) rows = some (rows ++ l.map (fun r => r.vl), true)
  | [], n + 1, rows, _, _ => by
    rw [rdR, if_pos (show rowsT [] = [] from rfl)]
    simp
  | r :: l, n + 1, rows, h, hn => by
    have e : rowsT (r :: l) = 32 :: 40 :: (jn (r.vl.map prt) ++ 41 :: rowsT l) := by simp [rowsT, rowT]
    have hv := h r (by simp)
    have hg := grp_jn (r.vl.map prt) (rowsT l) (fun w hw => by
      obtain ⟨v, hvm, rfl⟩ := List.mem_map.1 hw
      exact prt_wok v (hv v hvm).2)
    have ht : trimP 32 (32 :: 40 :: (jn (r.vl.map prt) ++ 41 :: rowsT l)) = 40 :: (jn (r.vl.map prt) ++ 41 :: rowsT l) := rfl
    have ha : (r.vl.map prt).all okW = true := by
      rw [List.all_eq_true]
      intro w hw
      obtain ⟨v, hvm, rfl⟩ := List.mem_map.1 hw
      exact (okW_prt v (hv v hvm)).1
    have hm : (r.vl.map prt).map valW = r.vl := by
      rw [List.map_map]
      conv => rhs; rw [← List.map_id r.vl]
      exact List.map_congr_left fun v hvm => (okW_prt v (hv v hvm)).2
    have ih := rdR_rows l n (rows ++ [r.vl]) (fun x hx => h x (by simp [hx])) (by simpa using hn)
    rw [e, rdR, if_neg (by simp), ht, hg]
    simp only
    rw [if_pos ha, hm, ih]
    simp
def rdT (s : List UInt8) : List (List UInt8) × List (List Val) × Bool := match grp s with
  | none => ([], [], false)
  | some (l, r) => match rdR (r.length + 1) r [] with
    | none => ([], [], false)
    | some (rows, b) => (l, rows, b)
theorem rowsT_ge : ∀ l : List Rw, l.length ≤ (rowsT l).length
  | [] => by simp
  | r :: l => by
    have := rowsT_ge l
    simp only [rowsT, List.flatMap_cons, List.length_append, rowT, List.length_cons] at this ⊢
    omega
theorem rdT_tab {t : Tb} (ht : t.ok) (h : tabE t = 0) : rdT (tabT t) = (t.vs, t.rows, true) := by
  obtain ⟨hn, hv⟩ := tab_good ht h
  have hg := grp_jn t.vs (rowsT t.rs) (fun w hw => name_wok (hn w hw))
  have hl := rowsT_ge t.rs
  have hr := rdR_rows t.rs ((rowsT t.rs).length + 1) [] hv (by omega)
  unfold rdT tabT
  rw [hg]
  simp only [hr]
  rfl
theorem tab_congr {t u : Tb} (h1 : t.vs = u.vs) (h2 : t.rows = u.rows) : tabE t = tabE u ∧ tabT t = tabT u := by
  have hvl : ∀ (x : Tb) i, (x.rs.getD i default).vl = x.rows.getD i [] := fun x i => by
    unfold Tb.rows
    by_cases hi : i < x.rs.length
    · simp [List.getD, hi]
    · simp only [List.getD, List.getElem?_eq_none (show x.rs.length ≤ i by omega), List.getElem?_eq_none (show (x.rs.map fun r => r.vl).length ≤ i by simp; omega), Option.getD_none]; rfl
  have hl : t.rs.length = u.rs.length := by
    have := congrArg List.length h2
    simpa [Tb.rows] using this
  have hrE : rE t = rE u := by
    funext i
    unfold rE rwE
    simp only [hvl, h1, h2]
  have e3 : ∀ x : Tb, rowsT x.rs = x.rows.flatMap fun vl => 32 :: 40 :: (jn (vl.map prt) ++ [41]) := fun x => by
    rw [rowsT, Tb.rows, List.flatMap_map]
    rfl
  have hE : tE t = tE u := by unfold tE; rw [h1, hl, hrE]
  constructor
  · unfold tabE; rw [hE, h1]
  · unfold tabT; rw [e3, e3, h1, h2]
def tbS (s : List UInt8) : Tb := tbOf (rdT s).1 (rdT s).2.1
theorem tbS_tab {t : Tb} (ht : t.ok) (h : tabE t = 0) : t.same (tbS (tabT t)) ∧ tabE (tbS (tabT t)) = 0 ∧ tabT (tbS (tabT t)) = tabT t ∧ (rdT (tabT t)).2.2 = true := by
  have hr := rdT_tab ht h
  have hs : tbS (tabT t) = tbOf t.vs t.rows := by unfold tbS; rw [hr]
  rw [hs]
  obtain ⟨c1, c2⟩ := tab_congr (t := tbOf t.vs t.rows) (u := t) rfl (tbOf_rows _ _)
  exact ⟨⟨rfl, (tbOf_rows _ _).symm⟩, by rw [c1, h], c2, by rw [hr]⟩
theorem rdR_len : ∀ (n : Nat) (rest : List UInt8) (rows rows' : List (List Val)) (b : Bool), rdR n rest rows = some (rows', b) → rows'.length ≤ rows.length + rest.length := by
  intro n
  induction n with
  | zero =>
    intro rest rows rows' b h
    simp only [rdR, Option.some.injEq, Prod.mk.injEq] at h
    obtain ⟨rfl, _⟩ := h
    omega
  | succ n ih =>
    intro rest rows rows' b h
    rw [rdR] at h
    split at h
    · simp only [Option.some.injEq, Prod.mk.injEq] at h
      obtain ⟨rfl, _⟩ := h
      omega
    · split at h
      · simp only [Option.some.injEq, Prod.mk.injEq] at h
        obtain ⟨rfl, _⟩ := h
        omega
      · rename_i l r hg
        split at h
        · obtain ⟨g1, g2⟩ := grp_ok hg
          have g3 := trimP_len 32 rest
          have i1 := ih _ _ _ _ h
          rw [List.length_append, List.length_singleton] at i1
          omega
        · cases h
def PH (s : List UInt8) : Prop := s.length ≤ 1048576 ∨ ∃ t : Tb, t.ok ∧ tabE t = 0 ∧ s = tabT t
theorem tbS_ok {s : List UInt8} (h : PH s) : (tbS s).ok := by
  have h0 : (tbOf [] []).ok := tbOf_ok [] [] (by simp) (by simp) (by simp [wsum, rbulk]) (by simp)
  rcases h with h | ⟨t, ht, hE, rfl⟩
  · unfold tbS rdT
    cases hg : grp s with
    | none => exact h0
    | some y =>
      obtain ⟨l, r⟩ := y
      obtain ⟨g1, g2⟩ := grp_ok hg
      have g3 := wsum_len l
      simp only
      cases hr : rdR (r.length + 1) r [] with
      | none => exact h0
      | some z =>
        obtain ⟨rows, b⟩ := z
        have r1 := rdR_len _ _ _ _ _ hr
        obtain ⟨r2, r3⟩ := rdR_ok _ _ _ _ _ hr (by simp)
        simp only [List.length_nil, Nat.zero_add] at r1
        have r0 : rbulk [] = 0 := rfl
        exact tbOf_ok l rows (by omega) (by omega) (by omega) r3
  · unfold tbS
    rw [rdT_tab ht hE]
    obtain ⟨a1, a2, a3, a4, a5, a6⟩ := ht
    refine tbOf_ok t.vs t.rows a4 (by simpa [Tb.rows] using a5) ?_ ?_
    · unfold Tb.bulk at a6
      unfold wsum rbulk Tb.rows
      rw [List.map_map]
      exact a6
    · intro vl hvl
      obtain ⟨r, hr, rfl⟩ := List.mem_map.1 hvl
      exact (a3 r hr).2.2
theorem PH_len {s : List UInt8} (h : PH s) : s.length ≤ 1000000000 := by
  rcases h with h | ⟨t, ht, hE, rfl⟩
  · omega
  · have h1 := tabT_bulk t
    have h2 := ht.2.2.2.2.2
    omega
end Go.Proofs.YtafeikbbjhmlaaaGreatDoor.Sx.T
namespace Go.Proofs.YtafeikbbjhmlaaaGreatDoor.Sx.T
open Go Go.Proofs.YtafeikbbjhmlaaaGreatDoor.Sx
set_option maxRecDepth 100000
set_option maxHeartbeats 8000000
theorem ls_shut {z : Nat} {x : AV} {es : List (List AV)} (h : Ls z x es) (hp : Heap) (n k : Nat) : shut hp n (k + 1) x = some x := by
  rcases h with ⟨rfl, _⟩ | ⟨o, rfl | rfl, rfl⟩ <;> rfl
theorem p_read (s : List UInt8) (hl : s.length ≤ 1000000000) : CL X GV 37 [.str s] [] = some (.tup [.agg (tbS s).cells, .bool (rdT s).2.2], []) := by
  have hg := p_group s hl []
  have hok := @grp_ok s
  rw [CL_eq (fn := x37) rfl]
  obtain ⟨o, ho⟩ : ∃ o, grp s = o := ⟨_, rfl⟩
  rw [tbS, rdT]
  rw [ho] at hg hok ⊢
  cases o with
  | none =>
    simp only [grV] at hg
    simp +contextual -implicitDefEqProofs (maxSteps := 10000000) only [x37, go_sem, ↓reduceIte, reduceCtorEq, Nat.reduceEqDiff, Nat.reduceAdd, Nat.reduceLeDiff, hg, stAt_topc]
    rw [LC_loop]
    simp +contextual -implicitDefEqProofs (maxSteps := 10000000) only [x37_l1_run, go_sem, ↓reduceIte, Nat.reduceEqDiff, Nat.reduceAdd, stAt_topc, ldAt_topc, ecellK_topc]
    rfl
  | some y =>
    obtain ⟨l, r⟩ := y
    obtain ⟨a1, a2⟩ := hok rfl
    simp only [grV] at hg
    have hY := ol_ls (wds l)
    obtain ⟨py, uy, ny, dy, fy⟩ := hY.one
    have hcY : cellsOf (uf (ol (wds l))) = [uf (ol (wds l))] := by cases l <;> rfl
    have hsY : solid (uf (ol (wds l))) = true := by cases l <;> rfl
    generalize hYe : uf (ol (wds l)) = Y at *
    have n1 : ([Y] : List AV).length = 1 := rfl
    have hR := fun fr L => l_read Y (r.length + 1) r [] fr L (by omega) (by omega) (by simp; omega)
    simp only
    simp +contextual -implicitDefEqProofs (maxSteps := 10000000) only [x37, go_sem, ↓reduceIte, reduceCtorEq, Nat.reduceEqDiff, Nat.reduceAdd, Nat.reduceLeDiff, hg, uy, py, dy, hcY, hsY, n1, stAt_topc]
    obtain ⟨q, hq⟩ : ∃ q, rdR (r.length + 1) r [] = q := ⟨_, rfl⟩
    rw [hq] at hR ⊢
    refine (fun key => key _ (hR _ _ ?_ ?_ ?_ ?_ ?_ ?_)) (?_ : ∀ z, OR Y q z → finK _ (seqK (blockK 0 z) _) = _)
    · intro z hz
      unfold OR at hz
      cases q with
      | none =>
        obtain ⟨fr', L, rfl, b2, b3, bL2⟩ := hz
        simp +contextual -implicitDefEqProofs (maxSteps := 10000000) only [go_sem, ↓reduceIte, Nat.reduceAdd, b2, b3, ecellK_topc, bL2]
        rfl
      | some w =>
        obtain ⟨rows, b⟩ := w
        obtain ⟨fr', L, rfl, b2, b7, b6, bL2, bL7⟩ := hz
        have hX := ol_ls (rws (rows.map rw1))
        obtain ⟨px, ux, nx, dx, fx⟩ := hX.one
        simp only [Tb.cells, tbOf, hYe]
        generalize ol (rws (rows.map rw1)) = R at *
        have sx := fun hp => ls_shut hX hp 0 4
        have sy := fun hp => ls_shut hY hp 0 4
        simp +contextual -implicitDefEqProofs (maxSteps := 10000000) only [go_sem, ↓reduceIte, Nat.reduceEqDiff, Nat.reduceAdd, b2, b7, b6, stAt_topc, ldAt_topc, ecellK_topc, sx, sy, bL2, bL7, uy, ux, py, px]
    all_goals first | (simp only [go_sem, ↓reduceIte, Nat.reduceEqDiff]; done) | (simp only [go_sem, ↓reduceIte]; rfl) | rfl | skip
def ptOk (s : List UInt8) : Prop := (rdT s).2.2 = true ∧ tabE (tbS s) = 0 ∧ tabT (tbS s) = s
open Classical in noncomputable def ptT (s : List UInt8) : Tb := if ptOk s then tbS s else tbOf [] []
open Classical in noncomputable def ptE (s : List UInt8) : Int := if ptOk s then 0 else 70
theorem tb0_ok : (tbOf [] []).ok := tbOf_ok [] [] (by simp) (by simp) (by simp [wsum, rbulk]) (by simp)
theorem ptT_ok {s : List UInt8} (h : PH s) : (ptT s).ok := by
  unfold ptT
  split
  · exact tbS_ok h
  · exact tb0_ok
theorem p_parseTab (s : List UInt8) (h : PH s) : CL X GV 15 [.str s] [] = some (.tup [.agg (ptT s).cells, .int .i64 (ptE s)], []) := by
  have hr := p_read s (PH_len h)
  have hk := tbS_ok h
  have hT := p_sayTab (tbS s) hk
  obtain ⟨pv, uv, nv, dv, fv⟩ := hk.1.one
  obtain ⟨pr, ur, nr, dr, fr0⟩ := hk.2.1.one
  have sx := fun hp => ls_shut hk.1 hp 0 4
  have sy := fun hp => ls_shut hk.2.1 hp 0 4
  rw [CL_eq (fn := x15) rfl]
  have hno : ¬ ptOk s → (ptT s).cells = [.nilsl, .nilsl] ∧ ptE s = 70 := fun hn => by
    unfold ptT ptE
    rw [if_neg hn, if_neg hn]
    exact ⟨rfl, rfl⟩
  have hyes : ptOk s → ptT s = tbS s ∧ ptE s = 0 := fun hn => by
    unfold ptT ptE
    rw [if_pos hn, if_pos hn]
    exact ⟨rfl, rfl⟩
  have hdef : ptOk s ↔ (rdT s).2.2 = true ∧ tabE (tbS s) = 0 ∧ tabT (tbS s) = s := Iff.rfl
  generalize ptT s = T at *
  generalize ptE s = E at *
  rw [tabS] at hT
  generalize tbS s = t at *
  obtain ⟨b, hb⟩ : ∃ b, (rdT s).2.2 = b := ⟨_, rfl⟩
  rw [hb] at hr hdef
  simp only [Tb.cells] at hr hT
  cases b with
  | false =>
    obtain ⟨e1, e2⟩ := hno (by rw [hdef]; simp)
    rw [e1, e2]
    generalize (if tabE t = 0 then tabT t else []) = S at *
    generalize tabE t = e at *
    simp +contextual -implicitDefEqProofs (maxSteps := 10000000) only [x15, go_sem, ↓reduceIte, reduceCtorEq, Nat.reduceEqDiff, Nat.reduceAdd, hr, hT, pv, uv, fv, pr, ur, fr0, stAt_topc, ldAt_topc, ecellK_topc]
  | true =>
    by_cases e0 : tabE t = 0
    · rw [if_pos e0, e0] at hT
      by_cases e1 : tabT t = s
      · obtain ⟨rfl, e2⟩ := hyes (by rw [hdef]; exact ⟨rfl, e0, e1⟩)
        rw [e2]
        simp only [Tb.cells]
        rw [e1] at hT
        simp +contextual -implicitDefEqProofs (maxSteps := 10000000) only [x15, go_sem, ↓reduceIte, reduceCtorEq, Nat.reduceEqDiff, Nat.reduceAdd, Int.reduceBNe, hr, hT, sx, sy, pv, uv, fv, pr, ur, fr0, stAt_topc, ldAt_topc, ecellK_topc]
      · obtain ⟨e3, e2⟩ := hno (by rw [hdef]; exact fun h => e1 h.2.2)
        rw [e3, e2]
        have c1 : (tabT t = s) = False := by simp [e1]
        simp +contextual -implicitDefEqProofs (maxSteps := 10000000) only [x15, go_sem, ↓reduceIte, reduceCtorEq, Nat.reduceEqDiff, Nat.reduceAdd, Int.reduceBNe, hr, hT, c1, pv, uv, fv, pr, ur, fr0, stAt_topc, ldAt_topc, ecellK_topc]
    · obtain ⟨e3, e2⟩ := hno (by rw [hdef]; exact fun h => e0 h.2.1)
      rw [e3, e2]
      rw [if_neg e0] at hT
      have c1 : (tabE t = 0) = False := by simp [e0]
      generalize tabE t = e at *
      simp +contextual -implicitDefEqProofs (maxSteps := 10000000) only [x15, go_sem, ↓reduceIte, reduceCtorEq, Nat.reduceEqDiff, Nat.reduceAdd, hr, hT, c1, pv, uv, fv, pr, ur, fr0, stAt_topc, ldAt_topc, ecellK_topc]
end Go.Proofs.YtafeikbbjhmlaaaGreatDoor.Sx.T
namespace Go.Proofs.YtafeikbbjhmlaaaGreatDoor.Sx.T
open Go Go.Proofs.YtafeikbbjhmlaaaGreatDoor.Sx
set_option maxRecDepth 100000
set_option maxHeartbeats 8000000
theorem index_at (t' r : List UInt8) (c : UInt8) : ∀ a : List UInt8, (∀ x ∈ a, x ≠ c) → Go.Lib.index (a ++ (c :: t') ++ r) (c :: t') = a.length
  | [], _ => by
    rw [List.nil_append, List.cons_append, Go.Lib.index, if_pos]
    · rfl
    · rw [List.isPrefixOf_iff_prefix]
      exact ⟨r, by simp⟩
  | x :: a, h => by
    have ih := index_at t' r c a (fun y hy => h y (by simp [hy]))
    rw [List.cons_append, List.cons_append, Go.Lib.index, if_neg, ih, if_neg]
    · simp
    · simp only [beq_iff_eq]; omega
    · rw [List.isPrefixOf_iff_prefix]
      rintro ⟨z, hz⟩
      rw [List.cons_append, List.cons.injEq] at hz
      exact h x (by simp) hz.1.symm
theorem cutG_at (a t' r : List UInt8) (c : UInt8) (h : ∀ x ∈ a, x ≠ c) : cutG (a ++ (c :: t') ++ r) (c :: t') = (a, r, true) := by
  have hi := index_at t' r c a h
  unfold cutG
  rw [hi, if_pos (by omega), Int.toNat_natCast, List.append_assoc, List.take_left]
  rw [← List.drop_drop, List.drop_left, List.drop_left]
theorem decodeL_low (c : UInt8) (r : List UInt8) (h : c.toNat < 128) : Go.Lib.decodeL (c :: r) = (c.toNat, 1) := by
  have := dec_low (c :: r) 0 (by simp) (by simpa using h)
  simpa [decodeAt, Go.Lib.decodeL] using this
theorem fieldsGo_word : ∀ (w cur r : List UInt8) (f : Nat), (∀ c ∈ w, 33 ≤ c.toNat ∧ c.toNat < 127) → Go.Lib.fieldsGoD (f + w.length) cur (w ++ r) = Go.Lib.fieldsGoD f (cur ++ w) r
  | [], cur, r, f, _ => by simp
  | c :: w, cur, r, f, h => by
    have hc := h c (by simp)
    have ih := fieldsGo_word w (cur ++ [c]) r f (fun x hx => h x (by simp [hx]))
    rw [show f + (c :: w).length = (f + w.length) + 1 by simp; omega, List.cons_append, Go.Lib.fieldsGoD, if_neg (by simp), decodeL_low _ _ (by omega), if_neg]
    · simp only [List.take_succ_cons, List.take_zero, List.drop_succ_cons, List.drop_zero]
      rw [ih, List.append_assoc]
      rfl
    · unfold Go.Lib.isSpaceR
      simp
      omega
theorem fieldsGo_jn : ∀ (ws : List (List UInt8)) (f : Nat), (∀ w ∈ ws, w ≠ [] ∧ ∀ c ∈ w, 33 ≤ c.toNat ∧ c.toNat < 127) → (jn ws).length < f → Go.Lib.fieldsGoD f [] (jn ws) = ws
  | [], f, _, hf => by
    obtain ⟨f, rfl⟩ : ∃ g, f = g + 1 := ⟨f - 1, by omega⟩
    rw [jn_nil, Go.Lib.fieldsGoD, if_pos rfl, if_pos rfl]
  | [w], f, h, hf => by
    rw [jn_one] at hf ⊢
    obtain ⟨g, rfl⟩ : ∃ g, f = (g + 1) + w.length := ⟨f - 1 - w.length, by omega⟩
    have := fieldsGo_word w [] [] (g + 1) (h w (by simp)).2
    rw [List.append_nil, List.nil_append] at this
    rw [this, Go.Lib.fieldsGoD, if_pos rfl, if_neg (h w (by simp)).1]
  | w :: b :: ws, f, h, hf => by
    rw [jn_cons] at hf ⊢
    rw [List.length_append, List.length_cons] at hf
    obtain ⟨g, rfl⟩ : ∃ g, f = (g + 1) + w.length := ⟨f - 1 - w.length, by omega⟩
    have ih := fieldsGo_jn (b :: ws) g (fun x hx => h x (List.mem_cons_of_mem _ hx)) (by omega)
    rw [fieldsGo_word w [] (32 :: jn (b :: ws)) (g + 1) (h w (by simp)).2, List.nil_append, Go.Lib.fieldsGoD, if_neg (by simp), decodeL_low _ _ (by decide), if_pos (by decide), if_neg (h w (by simp)).1]
    simp only [List.drop_succ_cons, List.drop_zero]
    rw [ih]
    rfl
theorem fields_jn (ws : List (List UInt8)) (h : ∀ w ∈ ws, w ≠ [] ∧ ∀ c ∈ w, 33 ≤ c.toNat ∧ c.toNat < 127) : Go.Lib.fieldsD (jn ws) = ws := fieldsGo_jn ws _ h (by omega)
theorem fieldsGo_len : ∀ (f : Nat) (cur l : List UInt8), (Go.Lib.fieldsGoD f cur l).length ≤ l.length + (if cur = [] then 0 else 1) := by
  intro f
  induction f with
  | zero => intro cur l; rw [Go.Lib.fieldsGoD]; split <;> simp
  | succ f ih =>
    intro cur l
    rw [Go.Lib.fieldsGoD]
    split
    · split <;> simp
    · rename_i hl
      have hw : 1 ≤ (Go.Lib.decodeL l).2 := decodeAt_pos l 0 (List.length_pos_iff.2 hl)
      have h0 : 0 < l.length := List.length_pos_iff.2 hl
      split
      · have := ih [] (l.drop (Go.Lib.decodeL l).2)
        rw [List.length_append]
        rw [if_pos rfl, List.length_drop] at this
        split <;> simp <;> omega
      · have := ih (cur ++ l.take (Go.Lib.decodeL l).2) (l.drop (Go.Lib.decodeL l).2)
        rw [List.length_drop] at this
        split at this <;> split <;> omega
theorem fieldsGo_mem : ∀ (f : Nat) (cur l w : List UInt8), w ∈ Go.Lib.fieldsGoD f cur l → w.length ≤ cur.length + l.length := by
  intro f
  induction f with
  | zero => intro cur l w; rw [Go.Lib.fieldsGoD]; split <;> simp; rintro rfl; omega
  | succ f ih =>
    intro cur l w
    rw [Go.Lib.fieldsGoD]
    split
    · split <;> simp; rintro rfl; omega
    · split
      · intro h
        rcases List.mem_append.1 h with h | h
        · split at h
          · simp at h
          · simp at h; subst h; omega
        · have := ih _ _ _ h
          rw [List.length_drop] at this
          simp at this
          omega
      · intro h
        have := ih _ _ _ h
        rw [List.length_append, List.length_take, List.length_drop] at this
        omega
theorem jn_all (P : UInt8 → Prop) (h32 : P 32) : ∀ l : List (List UInt8), (∀ w ∈ l, ∀ c ∈ w, P c) → ∀ c ∈ jn l, P c
  | [], _, c, hc => by simp [jn_nil] at hc
  | [w], h, c, hc => by rw [jn_one] at hc; exact h w (by simp) c hc
  | w :: b :: l, h, c, hc => by
    rw [jn_cons] at hc
    rcases List.mem_append.1 hc with hc | hc
    · exact h w (by simp) c hc
    · rcases List.mem_cons.1 hc with rfl | hc
      · exact h32
      · exact jn_all P h32 (b :: l) (fun x hx => h x (List.mem_cons_of_mem _ hx)) c hc
theorem decI_vis (n : Int) : ∀ c ∈ decI n, 45 ≤ c.toNat ∧ c.toNat < 58 := by
  intro c hc
  unfold decI at hc
  split at hc
  · rcases List.mem_cons.1 hc with h | h
    · subst h; exact ⟨by decide, by decide⟩
    · have := decF_dig 20 _ c h
      unfold isDig at this; omega
  · have := decF_dig 20 _ c hc
    unfold isDig at this; omega
theorem ne_of_nat {a b : UInt8} (h : a.toNat ≠ b.toNat) : a ≠ b := fun e => h (by rw [e])
theorem hx_low : ∀ a : Fin 16, hx a.val ≠ 10 := by decide
theorem qc_no10 (c : UInt8) : ∀ x ∈ qc c, x ≠ 10 := by
  intro x hx'
  unfold qc at hx'
  by_cases p : c.toNat = 34 ∨ c.toNat = 92
  · rw [if_pos p] at hx'
    simp at hx'
    rcases hx' with rfl | rfl
    · decide
    · exact ne_of_nat (by rw [show (10 : UInt8).toNat = 10 from rfl]; omega)
  · rw [if_neg p] at hx'
    by_cases g : 32 ≤ c.toNat ∧ c.toNat ≤ 126
    · rw [if_pos g] at hx'
      simp at hx'
      subst hx'
      exact ne_of_nat (by rw [show (10 : UInt8).toNat = 10 from rfl]; omega)
    · rw [if_neg g] at hx'
      have b1 := c.toNat_lt
      simp at hx'
      rcases hx' with rfl | rfl | rfl | rfl
      · decide
      · decide
      · exact hx_low ⟨c.toNat / 16, by omega⟩
      · exact hx_low ⟨c.toNat % 16, by omega⟩
theorem dec_no10 (n : Int) : ∀ c ∈ decI n, c ≠ 10 := fun c hc => ne_of_nat (by have := decI_vis n c hc; rw [show (10 : UInt8).toNat = 10 from rfl]; omega)
theorem prt_no10 (v : Val) (h : chkV v = 0) : ∀ c ∈ prt v, c ≠ 10 := by
  have hp : prt v = if v.k = 1 then decI v.n else if v.k = 2 then decI v.n ++ 47 :: decI v.d else qt v.s := by
    unfold prt
    rw [if_neg (by simp [h])]
  rw [hp]
  intro c hc
  by_cases k1 : v.k = 1
  · rw [if_pos k1] at hc
    exact dec_no10 _ c hc
  · rw [if_neg k1] at hc
    by_cases k2 : v.k = 2
    · rw [if_pos k2] at hc
      rcases List.mem_append.1 hc with h | h
      · exact dec_no10 _ c h
      · rcases List.mem_cons.1 h with h | h
        · subst h; decide
        · exact dec_no10 _ c h
    · rw [if_neg k2] at hc
      unfold qt at hc
      rcases List.mem_cons.1 hc with h | h
      · subst h; decide
      · rcases List.mem_append.1 h with h | h
        · obtain ⟨x, _, hx'⟩ := List.mem_flatMap.1 h
          exact qc_no10 x c hx'
        · simp at h; subst h; decide
theorem name_no10 {w : List UInt8} (h : nameP w) : ∀ c ∈ w, c ≠ 10 := by
  intro c hc
  obtain ⟨i, hi, rfl⟩ := List.mem_iff_getElem.1 hc
  have hr := h.2.2.2 i (Nat.zero_le _) hi
  have e : w.getD i 0 = w[i] := by simp [List.getD, hi]
  rw [e] at hr
  generalize w[i] = c at hr
  unfold chA chB at hr
  rintro rfl
  simp at hr
theorem tab_no10 {t : Tb} (ht : t.ok) (h : tabE t = 0) : ∀ c ∈ tabT t, c ≠ 10 := by
  obtain ⟨hn, hv⟩ := tab_good ht h
  intro c hc
  unfold tabT at hc
  rcases List.mem_cons.1 hc with rfl | hc
  · decide
  rcases List.mem_append.1 hc with hc | hc
  · exact jn_all (fun c => c ≠ 10) (by decide) _ (fun w hw => name_no10 (hn w hw)) c hc
  rcases List.mem_cons.1 hc with rfl | hc
  · decide
  unfold rowsT at hc
  obtain ⟨r, hr, hc⟩ := List.mem_flatMap.1 hc
  unfold rowT at hc
  rcases List.mem_cons.1 hc with rfl | hc
  · decide
  rcases List.mem_cons.1 hc with rfl | hc
  · decide
  rcases List.mem_append.1 hc with hc | hc
  · refine jn_all (fun c => c ≠ 10) (by decide) _ (fun w hw => ?_) c hc
    obtain ⟨v, hvm, rfl⟩ := List.mem_map.1 hw
    exact prt_no10 v (hv r hr v hvm).2
  · simp at hc; subst hc; decide
end Go.Proofs.YtafeikbbjhmlaaaGreatDoor.Sx.T
namespace Go.Proofs.YtafeikbbjhmlaaaGreatDoor.Sx.T
open Go Go.Proofs.YtafeikbbjhmlaaaGreatDoor.Sx
set_option maxRecDepth 100000
set_option maxHeartbeats 8000000
def atOk (w : List UInt8) : Bool := match Go.Lib.atoiAll w with | .ok _ => true | _ => false
theorem at_yes (w : List UInt8) (hl : w.length ≤ 1000000000) (h : atOk w = true) : primX 1652 [.str w] = some (.tup [.int .i64 (atoI w), .nilif]) := by
  simp only [primX, primY, primZ, Nat.reduceLT, Nat.reduceSub, if_false, if_true]
  rw [if_pos (by omega)]
  unfold atOk at h
  split at h
  · rename_i v hv; simp only [hv]
  · cases h
theorem at_no (w : List UInt8) (hl : w.length ≤ 1000000000) (h : atOk w = false) : primX 1652 [.str w] = some (.tup [.int .i64 (atoI w), .ifc 152 .undef]) := by
  simp only [primX, primY, primZ, Nat.reduceLT, Nat.reduceSub, if_false, if_true]
  rw [if_pos (by omega)]
  unfold atOk at h
  split at h
  · cases h
  · cases e : Go.Lib.atoiAll w with
    | ok v => simp_all
    | _ => rfl
theorem atoI_in (w : List UInt8) : I64 (atoI w) := by
  unfold atoI I64
  cases e : Go.Lib.atoiAll w with
  | ok v => have := Go.Lib.atoiAll_bounds e; simp only; omega
  | range => have := Go.Lib.atoiSat_bounds w; simp only; omega
  | _ => simp only; omega
theorem pFl (s : List UInt8) (h : s.length ≤ 1000000000) : primX 11 [.str s] = some (.lst .tight 1 (wds (Go.Lib.fieldsD s))) := if_pos (by omega)
theorem lownK_ol0 (l : Level) (cs : List AV) (W : List (List AV)) (hl : lcells l 10 0 = some (ol W :: cs)) : ∃ l2, (∀ d fr, lownK d fr l [] 10 0 0 (some (ol W :: cs)) = some (fput fr d (ol W), [l2])) ∧ lcells l2 10 0 = some (uf (ol W) :: cs) ∧ lcells l2 2 0 = lcells l 2 0 := by
  cases W with
  | nil => exact ⟨l, fun _ _ => rfl, hl, rfl⟩
  | cons e W => exact ⟨lputc l 10 0 (splice (ol (e :: W) :: cs) 0 [uf (ol (e :: W))]), fun _ _ => rfl, by simp [lcells_put, splice], by simp [lcells_put]⟩
theorem cutG_len (s t : List UInt8) : (cutG s t).1.length ≤ s.length ∧ (cutG s t).2.1.length ≤ s.length := by
  unfold cutG
  split
  · simp only [List.length_take, List.length_drop]; omega
  · simp
theorem nums_snoc (l : List Int) (k : Int) : nums (l ++ [k]) = nums l ++ [[.int .i64 k]] := by simp [nums]
theorem l_shPath (ws : List (List UInt8)) (hl : ws.length ≤ 1000000000) (hw : ∀ w ∈ ws, w.length ≤ 1000000000) (s a t : List UInt8) {fr : List AV} {L : Level} (K : Option (XExit × St) → Prop)
    (h0 : fget fr 0 = .str s) (h2 : fget fr 2 = .ptr ⟨0, 2, 0⟩ 0) (h7 : fget fr 7 = .str a) (h8 : fget fr 8 = .str t) (h10 : fget fr 10 = .ptr ⟨0, 10, 0⟩ 0) (h42 : fget fr 42 = .lst .tight 1 (wds ws)) (h43 : fget fr 43 = .int .i64 ws.length) (h44 : fget fr 44 = .int .i64 0)
    (hL2 : lcells L 2 0 = some [.nilsl, .int .i64 0, .nilsl, .nilsl]) (hL10 : lcells L 10 0 = some [.nilsl, .int .i64 0, .nilsl, .nilsl])
    (hk0 : ws.all atOk = true → ∀ fr' L', fget fr' 0 = .str s → fget fr' 2 = .ptr ⟨0, 2, 0⟩ 0 → fget fr' 7 = .str a → fget fr' 8 = .str t → fget fr' 10 = .ptr ⟨0, 10, 0⟩ 0 → lcells L' 2 0 = some [.nilsl, .int .i64 0, .nilsl, .nilsl] → lcells L' 10 0 = some [ol (nums (ws.map atoI)), .int .i64 0, .nilsl, .nilsl] → K (some (.exit 0, ⟨fr', [L']⟩)))
    (hk1 : ws.all atOk = false → ∀ fr' L', fget fr' 2 = .ptr ⟨0, 2, 0⟩ 0 → fget fr' 3 = .bool false → lcells L' 2 0 = some [.nilsl, .int .i64 0, .nilsl, .nilsl] → K (some (.ret, ⟨fr', [L']⟩))) :
    K (LC X GV (.loop x42_l0) ⟨fr, [L]⟩) := by
  have hY : Ls 1 (.lst .tight 1 (wds ws)) (wds ws) := .inr ⟨.tight, .inr rfl, rfl⟩
  generalize hYe : (AV.lst .tight 1 (wds ws)) = Y at *
  obtain ⟨p1, u1, n1, d1, f1⟩ := hY.one
  obtain ⟨I, hI⟩ : ∃ I : Nat → List AV → Heap → Prop, ∀ j fr hp', I j fr hp' ↔ ((∃ L, hp' = [L] ∧ lcells L 2 0 = some [.nilsl, .int .i64 0, .nilsl, .nilsl] ∧ lcells L 10 0 = some [ol (nums ((ws.take j).map atoI)), .int .i64 0, .nilsl, .nilsl]) ∧ fget fr 0 = .str s ∧ fget fr 2 = .ptr ⟨0, 2, 0⟩ 0 ∧ fget fr 7 = .str a ∧ fget fr 8 = .str t ∧ fget fr 10 = .ptr ⟨0, 10, 0⟩ 0 ∧ fget fr 42 = Y ∧ fget fr 43 = .int .i64 ws.length ∧ fget fr 44 = .int .i64 (j : Nat) ∧ ∀ w ∈ ws.take j, atOk w = true) := ⟨_, fun _ _ _ => Iff.rfl⟩
  obtain ⟨Q, hQ⟩ : ∃ Q : XExit → List AV → Heap → Prop, ∀ e fr hp', Q e fr hp' ↔ ((e = .exit 0 ∧ ws.all atOk = true ∧ (∃ L, hp' = [L] ∧ lcells L 2 0 = some [.nilsl, .int .i64 0, .nilsl, .nilsl] ∧ lcells L 10 0 = some [ol (nums (ws.map atoI)), .int .i64 0, .nilsl, .nilsl]) ∧ fget fr 0 = .str s ∧ fget fr 2 = .ptr ⟨0, 2, 0⟩ 0 ∧ fget fr 7 = .str a ∧ fget fr 8 = .str t ∧ fget fr 10 = .ptr ⟨0, 10, 0⟩ 0) ∨ (e = .ret ∧ ws.all atOk = false ∧ (∃ L, hp' = [L] ∧ lcells L 2 0 = some [.nilsl, .int .i64 0, .nilsl, .nilsl]) ∧ fget fr 2 = .ptr ⟨0, 2, 0⟩ 0 ∧ fget fr 3 = .bool false)) := ⟨_, fun _ _ _ => Iff.rfl⟩
  refine LC_upK ws.length I Q K ?_ ?_ ?_ ?_
  · rw [hI]
    exact ⟨⟨L, rfl, hL2, hL10⟩, h0, h2, h7, h8, h10, h42, h43, h44, by simp⟩
  · intro j hj fr hp' hh
    obtain ⟨⟨L, rfl, hL2, hL10⟩, h0, h2, h7, h8, h10, h42, h43, h44, hd⟩ := (hI _ _ _).1 hh
    have k1 : ((j : Int) < (ws.length : Int)) = True := by simp; omega
    have g1 := up_at hY j hj
    have w1 : wr .i64 ((j : Int) + 1) = ((j + 1 : Nat) : Int) := by rw [wr_i64 _ (by omega)]; omega
    have hmem : ws.getD j [] ∈ ws := by simp [List.getD, hj]
    have hwl := hw _ hmem
    have htk := take_snoc ws j [] hj
    have hall : atOk (ws.getD j []) = false → ws.all atOk = false := fun h => by
      rw [List.all_eq_false]
      exact ⟨_, hmem, by rw [h]; simp⟩
    generalize ws.getD j [] = w at g1 htk hall hwl
    have t1 : (false != true) = true := rfl
    have t2 : (true != true) = false := rfl
    have hnew : nums ((ws.take (j + 1)).map atoI) = nums ((ws.take j).map atoI) ++ [[.int .i64 (atoI w)]] := by rw [htk, List.map_append, List.map_cons, List.map_nil, nums_snoc]
    cases hb : atOk w with
    | true =>
      have hpr := at_yes w hwl hb
      generalize atoI w = k at hpr hnew
      obtain ⟨l2, q1, q2, q3⟩ := lownK_ol0 L _ _ hL10
      rw [hL2] at q3
      have hap := ol_appx 8 (nums ((ws.take j).map atoI)) (.int .i64 k) rfl rfl (by rw [nums_len, List.length_map, List.length_take]; omega)
      rw [← hnew] at hap
      have hdr := ol_drop (nums ((ws.take (j + 1)).map atoI))
      have hod := ol_drop (nums ((ws.take j).map atoI))
      obtain ⟨hc1, hc2⟩ := ol_cells (nums ((ws.take (j + 1)).map atoI))
      obtain ⟨W2, hW2⟩ : ∃ W2, nums ((ws.take (j + 1)).map atoI) = W2 := ⟨_, rfl⟩
      rw [hW2] at hap hdr hc1 hc2
      simp +contextual -implicitDefEqProofs (maxSteps := 10000000) only [x42_l0_run, go_sem, ↓reduceIte, Nat.reduceEqDiff, Nat.reduceAdd, Nat.reduceLeDiff, Nat.reduceLT, Nat.reduceDiv, h2, h10, h42, h43, h44, k1, g1, w1, u1, hpr, o_eqnil, nilK_nil, t2, uf_nilif, drop1K_nilif, hL10, o_lown, lownA_top, q1, q2, hap, hdr, hod, hc1, hc2, stAt_topc]
      rw [hI]
      refine ⟨⟨_, rfl, ?_, ?_⟩, ?_, ?_, ?_, ?_, ?_, ?_, ?_, ?_, fun x hx => ?_⟩
      · rw [lcells_put, if_neg (by decide)]; exact q3
      · rw [lcells_put, if_pos rfl, if_pos rfl, hW2]
      case refine_11 =>
        rw [htk] at hx
        rcases List.mem_append.1 hx with h | h
        · exact hd x h
        · rw [List.mem_singleton.1 h, hb]
      all_goals simp only [go_sem, ↓reduceIte, reduceCtorEq, Nat.reduceEqDiff, h0, h2, h7, h8, h10, h42, h43, hdr, hod]
    | false =>
      have hpr := at_no w hwl hb
      generalize atoI w = k at hpr hnew
      simp +contextual -implicitDefEqProofs (maxSteps := 10000000) only [x42_l0_run, go_sem, ↓reduceIte, Nat.reduceEqDiff, Nat.reduceAdd, h2, h42, h43, h44, k1, g1, u1, hpr, o_eqnil, nilK_ifc, t1, uf_ifc, drop1K_ifc, stAt_topc, hL2]
      rw [hQ]
      exact .inr ⟨rfl, hall hb, ⟨_, rfl, by simp [lcells_put]⟩, by simp only [go_sem, ↓reduceIte, Nat.reduceEqDiff, h2], by simp only [go_sem, ↓reduceIte]⟩
  · intro fr hp' hh
    obtain ⟨⟨L, rfl, hL2, hL10⟩, h0, h2, h7, h8, h10, h42, h43, h44, hd⟩ := (hI _ _ _).1 hh
    simp +contextual -implicitDefEqProofs (maxSteps := 10000000) only [x42_l0_run, go_sem, ↓reduceIte, h43, h44, Int.lt_irrefl]
    rw [hQ]
    rw [List.take_length] at hL10 hd
    refine .inl ⟨rfl, List.all_eq_true.2 hd, ⟨L, rfl, hL2, hL10⟩, ?_, ?_, ?_, ?_, ?_⟩ <;> simp only [go_sem, ↓reduceIte, reduceCtorEq, Nat.reduceEqDiff, h0, h2, h7, h8, h10]
  · intro e fr hp' he hh
    rcases (hQ _ _ _).1 hh with ⟨rfl, a0, ⟨L, rfl, hL2, hL10⟩, b0, b2, b7, b8, b10⟩ | ⟨rfl, a0, ⟨L, rfl, hL2⟩, a2, a3⟩
    · exact hk0 a0 fr L b0 b2 b7 b8 b10 hL2 hL10
    · exact hk1 a0 fr L a2 a3 hL2
/-! ### a line's sheet -/
def shA (s : List UInt8) : List UInt8 × List UInt8 × Bool := cutG (trimP 91 s) [93, 32]
def shB (s : List UInt8) : List UInt8 × List UInt8 × Bool := cutG (shA s).2.1 [32]
def shW (s : List UInt8) : List (List UInt8) := Go.Lib.fieldsD (shA s).1
noncomputable def shSe (s : List UInt8) : Se := ⟨(shW s).map atoI, uf (ol (nums ((shW s).map atoI))), atoI (shB s).1, ptT (shB s).2.1⟩
def shOk (s : List UInt8) : Prop := (shA s).2.2 = true ∧ (shB s).2.2 = true ∧ (shW s).all atOk = true ∧ atOk (shB s).1 = true ∧ ptE (shB s).2.1 = 0 ∧ oneE (shSe s) = 0 ∧ oneS (shSe s) = s ++ [10]
open Classical in noncomputable def shR (s : List UInt8) : Se := if shOk s then shSe s else default
open Classical in noncomputable def shK (s : List UInt8) : Bool := decide (shOk s)
def LH (s : List UInt8) : Prop := s.length ≤ 1000000000 ∧ (shW s).length ≤ 1048576 ∧ PH (shB s).2.1
theorem shSe_ok {s : List UInt8} (h : LH s) : (shSe s).ok := by
  obtain ⟨h1, h2, h3⟩ := h
  exact ⟨ol_ls _, by simpa [shSe] using h2, atoI_in _, ptT_ok h3⟩
theorem p_sheet (s : List UInt8) (h : LH s) : CL X GV 42 [.str s] [] = some (.tup [.agg (shR s).cells, .bool (shK s)], []) := by
  have hx := shSe_ok h
  obtain ⟨h1, h2, h3⟩ := h
  have ht := fun hp => p_trim 91 s hp
  have htl := trimP_len 91 s
  have ha := fun hp => p_cutG (trimP 91 s) [93, 32] (by omega) (by simp) hp
  obtain ⟨a1, a2⟩ := cutG_len (trimP 91 s) [93, 32]
  have hb := fun hp => p_cutG (shA s).2.1 [32] (by unfold shA; omega) (by simp) hp
  obtain ⟨b1, b2⟩ := cutG_len (shA s).2.1 [32]
  have hf := pFl (shA s).1 (by unfold shA; omega)
  have hT := p_parseTab (shB s).2.1 h3
  have hO := p_sayOne (shSe s) hx
  have hTk := ptT_ok h3
  have hno : ¬ shOk s → (shR s).cells = [.nilsl, .int .i64 0, .nilsl, .nilsl] ∧ shK s = false := fun hn => by
    unfold shR shK
    rw [if_neg hn]
    exact ⟨rfl, by simp [hn]⟩
  have hyes : shOk s → shR s = shSe s ∧ shK s = true := fun hn => by
    unfold shR shK
    rw [if_pos hn]
    exact ⟨rfl, by simp [hn]⟩
  have hdef : shOk s ↔ (shA s).2.2 = true ∧ (shB s).2.2 = true ∧ (shW s).all atOk = true ∧ atOk (shB s).1 = true ∧ ptE (shB s).2.1 = 0 ∧ oneE (shSe s) = 0 ∧ oneS (shSe s) = s ++ [10] := Iff.rfl
  have hwm : ∀ w ∈ shW s, w.length ≤ 1000000000 := fun w hw => by
    have := fieldsGo_mem _ _ _ _ hw
    unfold shA at this
    simp at this
    omega
  have hcells : (shSe s).cells = [uf (ol (nums ((shW s).map atoI))), .int .i64 (atoI (shB s).1), (ptT (shB s).2.1).xv, (ptT (shB s).2.1).xr] := rfl
  have hal : (shB s).1.length ≤ 1000000000 := by
    unfold shB shA at *
    omega
  rw [CL_eq (fn := x42) rfl]
  generalize shR s = R at *
  generalize shK s = KK at *
  generalize shSe s = x at *
  have haE : cutG (trimP 91 s) [93, 32] = shA s := rfl
  have hbE : cutG (shA s).2.1 [32] = shB s := rfl
  have hwE : Go.Lib.fieldsD (shA s).1 = shW s := rfl
  rw [hbE] at hb
  rw [haE] at ha
  rw [hwE] at hf
  clear haE hbE hwE a1 a2 b1 b2 hx
  generalize trimP 91 s = s1 at *
  generalize shW s = ws at *
  generalize shB s = B at *
  generalize shA s = A at *
  obtain ⟨pa, re, oa⟩ := A
  obtain ⟨at', tt, ob⟩ := B
  simp only at ha hb hf hT hdef hcells hal hTk
  generalize ptT tt = T at *
  obtain ⟨pv, uv, nv, dv, fv⟩ := hTk.1.one
  obtain ⟨pr, ur, nr, dr, fr0⟩ := hTk.2.1.one
  have sx := fun hp => ls_shut hTk.1 hp 0 4
  have sy := fun hp => ls_shut hTk.2.1 hp 0 4
  have k2 : (([93, 32] : List UInt8).length : Nat) = 2 := rfl
  cases oa with
  | false =>
    obtain ⟨e1, e2⟩ := hno (by rw [hdef]; simp)
    rw [e1, e2]
    simp +contextual -implicitDefEqProofs (maxSteps := 10000000) only [x42, go_sem, ↓reduceIte, reduceCtorEq, Nat.reduceEqDiff, Nat.reduceAdd, ht, ha, hb, stAt_topc, ecellK_topc]
  | true =>
  cases ob with
  | false =>
    obtain ⟨e1, e2⟩ := hno (by rw [hdef]; simp)
    rw [e1, e2]
    simp +contextual -implicitDefEqProofs (maxSteps := 10000000) only [x42, go_sem, ↓reduceIte, reduceCtorEq, Nat.reduceEqDiff, Nat.reduceAdd, ht, ha, hb, stAt_topc, ecellK_topc]
  | true =>
  have hY : Ls 1 (.lst .tight 1 (wds ws)) (wds ws) := .inr ⟨.tight, .inr rfl, rfl⟩
  obtain ⟨py, uy, ny, dy, fy⟩ := hY.one
  rw [wds_len] at ny
  simp +contextual -implicitDefEqProofs (maxSteps := 10000000) only [x42, go_sem, ↓reduceIte, reduceCtorEq, Nat.reduceEqDiff, Nat.reduceAdd, ht, ha, hb, hf, ny, stAt_topc]
  refine l_shPath ws (by omega) hwm s at' tt (fun q => finK _ (seqK (blockK 0 q) _) = _) ?_ ?_ ?_ ?_ ?_ ?_ ?_ ?_ ?_ ?_ ?_ ?_
  all_goals first | (simp only [go_sem, ↓reduceIte, reduceCtorEq, Nat.reduceEqDiff]; done) | (simp only [go_sem, ↓reduceIte]; rfl) | rfl | skip
  · intro hall fr' L' g0 g2 g7 g8 g10 gL2 gL10
    have hKl := ol_ls (nums (ws.map atoI))
    obtain ⟨pk, uk, nk, dk, fk⟩ := hKl.one
    have sk := fun hp => ls_shut hKl hp 0 4
    generalize hKE : uf (ol (nums (ws.map atoI))) = KV at *
    rw [hcells] at hO
    simp only [Tb.cells] at hT
    have t1 : (false != true) = true := rfl
    have t2 : (true != true) = false := rfl
    have hz : ∀ {P : Prop}, (shOk s → P) → ¬ P → R.cells = [.nilsl, .int .i64 0, .nilsl, .nilsl] ∧ KK = false := fun h hn => hno fun hs => hn (h hs)
    have hI := atoI_in at'
    have hroom : (s.length ≤ 140737488355327) = True := by simp; omega
    cases hat : atOk at' with
    | false =>
      have hpr := at_no at' hal hat
      obtain ⟨e1, e2⟩ := hz (fun h => (hdef.1 h).2.2.2.1) (by rw [hat]; simp)
      rw [e1, e2]
      generalize atoI at' = n at *
      generalize oneS x = S at *
      generalize oneE x = e at *
      generalize ptE tt = E at *
      simp +contextual -implicitDefEqProofs (maxSteps := 10000000) only [go_sem, ↓reduceIte, reduceCtorEq, Nat.reduceEqDiff, Nat.reduceAdd, Nat.reduceLeDiff, g0, g2, g7, g8, g10, gL2, gL10, hpr, hT, hO, hKE, fk, pv, uv, fv, pr, ur, fr0, o_eqnil, nilK_ifc, t1, uf_ifc, drop1K_ifc, stAt_topc, ldAt_topc, ecellK_topc]
    | true =>
      have hpr := at_yes at' hal hat
      generalize atoI at' = n at *
      by_cases c1 : ptE tt = 0
      case neg =>
        obtain ⟨e1, e2⟩ := hz (fun h => (hdef.1 h).2.2.2.2.1) c1
        rw [e1, e2]
        generalize oneS x = S at *
        generalize oneE x = e at *
        generalize ptE tt = E at *
        have c1' : (E = 0) = False := by simp [c1]
        simp +contextual -implicitDefEqProofs (maxSteps := 10000000) only [go_sem, ↓reduceIte, reduceCtorEq, Nat.reduceEqDiff, Nat.reduceAdd, Nat.reduceLeDiff, g0, g2, g7, g8, g10, gL2, gL10, hpr, hT, hO, c1', hKE, fk, pv, uv, fv, pr, ur, fr0, o_eqnil, nilK_nil, t2, uf_nilif, drop1K_nilif, stAt_topc, ldAt_topc, ecellK_topc]
      rw [c1] at hT
      by_cases c2 : oneE x = 0
      case neg =>
        obtain ⟨e1, e2⟩ := hz (fun h => (hdef.1 h).2.2.2.2.2.1) c2
        rw [e1, e2]
        generalize oneS x = S at *
        generalize oneE x = e at *
        have c1' : (e = 0) = False := by simp [c2]
        simp +contextual -implicitDefEqProofs (maxSteps := 10000000) only [go_sem, ↓reduceIte, reduceCtorEq, Nat.reduceEqDiff, Nat.reduceAdd, Nat.reduceLeDiff, Int.reduceBNe, g0, g2, g7, g8, g10, gL2, gL10, hpr, hT, hO, c1', hKE, fk, pv, uv, fv, pr, ur, fr0, o_eqnil, nilK_nil, t2, uf_nilif, drop1K_nilif, stAt_topc, ldAt_topc, ecellK_topc]
      rw [c2] at hO
      by_cases c3 : oneS x = s ++ [10]
      case neg =>
        obtain ⟨e1, e2⟩ := hz (fun h => (hdef.1 h).2.2.2.2.2.2) c3
        rw [e1, e2]
        generalize oneS x = S at *
        have c1' : (S = s ++ [10]) = False := by simp [c3]
        simp +contextual -implicitDefEqProofs (maxSteps := 10000000) only [go_sem, ↓reduceIte, reduceCtorEq, Nat.reduceEqDiff, Nat.reduceAdd, Nat.reduceLeDiff, Int.reduceBNe, g0, g2, g7, g8, g10, gL2, gL10, hpr, hT, hO, c1', hroom, hKE, fk, pv, uv, fv, pr, ur, fr0, o_eqnil, nilK_nil, t2, uf_nilif, drop1K_nilif, stAt_topc, ldAt_topc, ecellK_topc]
      rw [c3] at hO
      obtain ⟨e1, e2⟩ := hyes (by rw [hdef]; exact ⟨rfl, rfl, hall, hat, c1, c2, c3⟩)
      rw [e1, e2, hcells]
      simp +contextual -implicitDefEqProofs (maxSteps := 10000000) only [go_sem, ↓reduceIte, reduceCtorEq, Nat.reduceEqDiff, Nat.reduceAdd, Nat.reduceLeDiff, Int.reduceBNe, g0, g2, g7, g8, g10, gL2, gL10, hpr, hT, hO, hroom, hKE, pk, uk, fk, pv, uv, fv, pr, ur, fr0, sk, sx, sy, o_eqnil, nilK_nil, t2, uf_nilif, drop1K_nilif, stAt_topc, ldAt_topc, ecellK_topc]
  · intro hall fr' L' g2 g3 gL2
    obtain ⟨e1, e2⟩ := hno (by rw [hdef, hall]; simp)
    rw [e1, e2]
    simp +contextual -implicitDefEqProofs (maxSteps := 10000000) only [go_sem, ↓reduceIte, Nat.reduceAdd, g2, g3, gL2, ecellK_topc]
end Go.Proofs.YtafeikbbjhmlaaaGreatDoor.Sx.T
namespace Go.Proofs.YtafeikbbjhmlaaaGreatDoor.Sx.T
open Go Go.Proofs.YtafeikbbjhmlaaaGreatDoor.Sx
set_option maxRecDepth 100000
set_option maxHeartbeats 8000000
theorem at_small : ∀ k : Fin 4096, Go.Lib.atoiAll (decI ((k.val : Nat) : Int)) = .ok ((k.val : Nat) : Int) := by decide +kernel
theorem at_dec (k : Int) (h0 : 0 ≤ k) (h1 : k < 4096) : atOk (decI k) = true ∧ atoI (decI k) = k := by
  have h := at_small ⟨k.toNat, by omega⟩
  simp only [show ((k.toNat : Nat) : Int) = k by omega] at h
  unfold atOk atoI
  rw [h]
  exact ⟨rfl, rfl⟩
def bdy (x : Se) : List UInt8 := 91 :: (jn (x.ks.map decI) ++ ([93, 32] ++ (decI x.at_ ++ ([32] ++ tabT x.t))))
theorem oneT_bdy (x : Se) : oneT x = bdy x ++ [10] := by simp [oneT, bdy]
theorem oneE_facts {x : Se} (h : oneE x = 0) : x.ks.length ≤ 24 ∧ 0 ≤ x.at_ ∧ x.at_ < 4096 ∧ (∀ k ∈ x.ks, 0 ≤ k ∧ k < 256) ∧ tabE x.t = 0 := by
  unfold oneE at h
  split at h
  · simp at h
  rename_i h1
  split at h
  · simp at h
  rename_i h2
  refine ⟨by omega, by omega, by omega, fun k hk => ?_, h⟩
  have h3 : x.ks.any offK = false := by simpa using h2
  rw [List.any_eq_false] at h3
  have := h3 k hk
  unfold offK at this
  simp at this
  omega
theorem bdy_no10 {x : Se} (hx : x.ok) (h : oneE x = 0) : ∀ c ∈ bdy x, c ≠ 10 := by
  obtain ⟨_, _, _, _, hT⟩ := oneE_facts h
  intro c hc
  unfold bdy at hc
  rcases List.mem_cons.1 hc with rfl | hc
  · decide
  rcases List.mem_append.1 hc with hc | hc
  · refine jn_all (fun c => c ≠ 10) (by decide) _ (fun w hw => ?_) c hc
    obtain ⟨k, _, rfl⟩ := List.mem_map.1 hw
    exact dec_no10 k
  rcases List.mem_append.1 hc with hc | hc
  · simp at hc; rcases hc with rfl | rfl <;> decide
  rcases List.mem_append.1 hc with hc | hc
  · exact dec_no10 _ c hc
  rcases List.mem_append.1 hc with hc | hc
  · simp at hc; subst hc; decide
  · exact tab_no10 hx.2.2.2 hT c hc
theorem cut_line {x : Se} (hx : x.ok) (h : oneE x = 0) (r : List UInt8) : cutG (oneT x ++ r) [10] = (bdy x, r, true) := by
  have := cutG_at (bdy x) [] r 10 (bdy_no10 hx h)
  rw [oneT_bdy]
  exact this
theorem shA_bdy (x : Se) : shA (bdy x) = (jn (x.ks.map decI), decI x.at_ ++ ([32] ++ tabT x.t), true) := by
  have ht : trimP 91 (bdy x) = jn (x.ks.map decI) ++ ([93, 32] ++ (decI x.at_ ++ ([32] ++ tabT x.t))) := rfl
  have hc := cutG_at (jn (x.ks.map decI)) [32] (decI x.at_ ++ ([32] ++ tabT x.t)) 93 (fun c hc => by
    refine jn_all (fun c => c ≠ 93) (by decide) _ (fun w hw => ?_) c hc
    obtain ⟨k, _, rfl⟩ := List.mem_map.1 hw
    intro c hc
    exact ne_of_nat (by have := decI_vis k c hc; rw [show (93 : UInt8).toNat = 93 from rfl]; omega))
  rw [shA, ht, ← List.append_assoc]
  exact hc
theorem shB_bdy (x : Se) : shB (bdy x) = (decI x.at_, tabT x.t, true) := by
  have hc := cutG_at (decI x.at_) [] (tabT x.t) 32 (fun c hc => ne_of_nat (by have := decI_vis _ c hc; rw [show (32 : UInt8).toNat = 32 from rfl]; omega))
  rw [shB, shA_bdy]
  simp only
  rw [← List.append_assoc]
  exact hc
theorem shW_bdy (x : Se) : shW (bdy x) = x.ks.map decI := by
  rw [shW, shA_bdy]
  refine fields_jn _ fun w hw => ?_
  obtain ⟨k, _, rfl⟩ := List.mem_map.1 hw
  exact ⟨decI_ne k, fun c hc => by have := decI_vis k c hc; omega⟩
theorem ptT_tab {t : Tb} (ht : t.ok) (h : tabE t = 0) : ptT (tabT t) = tbS (tabT t) ∧ ptE (tabT t) = 0 := by
  obtain ⟨a1, a2, a3, a4⟩ := tbS_tab ht h
  have hk : ptOk (tabT t) := ⟨a4, a2, a3⟩
  unfold ptT ptE
  rw [if_pos hk, if_pos hk]
  exact ⟨rfl, rfl⟩
theorem at_map {ks : List Int} (h : ∀ k ∈ ks, 0 ≤ k ∧ k < 256) : (ks.map decI).map atoI = ks ∧ (ks.map decI).all atOk = true := by
  constructor
  · rw [List.map_map]
    conv => rhs; rw [← List.map_id ks]
    exact List.map_congr_left fun k hk => (at_dec k (h k hk).1 (by have := (h k hk).2; omega)).2
  · rw [List.all_eq_true]
    intro w hw
    obtain ⟨k, hk, rfl⟩ := List.mem_map.1 hw
    exact (at_dec k (h k hk).1 (by have := (h k hk).2; omega)).1
theorem tbS_bulk (s : List UInt8) : (tbS s).bulk ≤ 259 * s.length := by
  have key : ∀ (vs : List (List UInt8)) (rows : List (List Val)), (tbOf vs rows).bulk = wsum vs + rbulk rows := fun vs rows => by
    unfold Tb.bulk
    simp only [tbOf, List.map_map]
    rfl
  unfold tbS rdT
  cases hg : grp s with
  | none => rw [key]; simp [wsum, rbulk]
  | some y =>
    obtain ⟨l, r⟩ := y
    obtain ⟨g1, g2⟩ := grp_ok hg
    simp only
    cases hr : rdR (r.length + 1) r [] with
    | none => rw [key]; simp [wsum, rbulk]
    | some z =>
      obtain ⟨rows, b⟩ := z
      obtain ⟨r2, r3⟩ := rdR_ok _ _ _ _ _ hr (by simp)
      have r0 : rbulk [] = 0 := rfl
      rw [key]
      simp only
      omega
theorem ptT_bulk (s : List UInt8) : (ptT s).bulk ≤ 259 * s.length := by
  unfold ptT
  split
  · exact tbS_bulk s
  · simp [tbOf, Tb.bulk]
def Se.same (a b : Se) : Prop := a.ks = b.ks ∧ a.at_ = b.at_ ∧ a.t.same b.t
theorem one_congr {a b : Se} (h : a.same b) : oneE a = oneE b ∧ oneT a = oneT b := by
  obtain ⟨h1, h2, h3⟩ := h
  obtain ⟨c1, c2⟩ := tab_congr h3.1 h3.2
  constructor
  · unfold oneE; rw [h1, h2, c1]
  · unfold oneT; rw [h1, h2, c2]
theorem shSe_bdy {x : Se} (hx : x.ok) (h : oneE x = 0) : x.same (shSe (bdy x)) := by
  obtain ⟨_, h1, h2, h3, hT⟩ := oneE_facts h
  unfold shSe
  rw [shW_bdy, shB_bdy]
  simp only
  rw [(at_map h3).1, (at_dec _ h1 h2).2, (ptT_tab hx.2.2.2 hT).1]
  exact ⟨rfl, rfl, (tbS_tab hx.2.2.2 hT).1⟩
theorem shOk_bdy {x : Se} (hx : x.ok) (h : oneE x = 0) : shOk (bdy x) := by
  have hs := one_congr (shSe_bdy hx h)
  obtain ⟨_, h1, h2, h3, hT⟩ := oneE_facts h
  refine ⟨by rw [shA_bdy], by rw [shB_bdy], by rw [shW_bdy]; exact (at_map h3).2, by rw [shB_bdy]; exact (at_dec _ h1 h2).1, by rw [shB_bdy]; exact (ptT_tab hx.2.2.2 hT).2, by rw [← hs.1, h], ?_⟩
  rw [oneS, if_pos (by rw [← hs.1, h]), ← hs.2, oneT_bdy]
theorem LH_bdy {x : Se} (hx : x.ok) (h : oneE x = 0) (hl : (bdy x).length ≤ 1000000000) : LH (bdy x) := by
  obtain ⟨h0, h1, h2, h3, hT⟩ := oneE_facts h
  refine ⟨hl, by rw [shW_bdy, List.length_map]; omega, ?_⟩
  rw [shB_bdy]
  exact .inr ⟨x.t, hx.2.2.2, hT, rfl⟩
theorem LH_small {s : List UInt8} (h : s.length ≤ 1048576) : LH s := by
  have htl := trimP_len 91 s
  obtain ⟨a1, a2⟩ := cutG_len (trimP 91 s) [93, 32]
  obtain ⟨b1, b2⟩ := cutG_len (shA s).2.1 [32]
  refine ⟨by omega, ?_, .inl ?_⟩
  · have := fieldsGo_len ((shA s).1.length + 1) [] (shA s).1
    rw [if_pos rfl] at this
    show (Go.Lib.fieldsGoD _ _ _).length ≤ _
    unfold shA at *
    omega
  · show (cutG (shA s).2.1 [32]).2.1.length ≤ _
    unfold shA at *
    omega
def TH (s : List UInt8) : Prop := s.length ≤ 1048576 ∨ ∃ l : List Se, (∀ x ∈ l, x.ok ∧ oneE x = 0) ∧ s = l.flatMap oneT
theorem cutG_split (s : List UInt8) (h : (cutG s [10]).2.2 = true) : s = (cutG s [10]).1 ++ 10 :: (cutG s [10]).2.1 := by
  have hi := index_one s 10
  unfold cutG at h ⊢
  cases hf : s.findIdx? (fun b => b == 10) with
  | none => rw [hf] at hi; simp only at hi; rw [hi] at h; simp at h
  | some i =>
    rw [hf] at hi
    simp only at hi
    rw [hi, if_pos (by omega)]
    simp only [Int.toNat_natCast, List.length_cons, List.length_nil]
    obtain ⟨h1, h2, _⟩ := List.findIdx?_eq_some_iff_getElem.1 hf
    have h3 : s[i] = 10 := by simpa using h2
    conv => lhs; rw [← List.take_append_drop i s, List.drop_eq_getElem_cons h1, h3]
theorem cutG_lens (s : List UInt8) (h : s ≠ []) : (cutG s [10]).1.length + (cutG s [10]).2.1.length ≤ s.length ∧ (cutG s [10]).2.1.length < s.length := by
  have h0 : 0 < s.length := List.length_pos_iff.2 h
  by_cases h2 : (cutG s [10]).2.2 = true
  · have := congrArg List.length (cutG_split s h2)
    rw [List.length_append, List.length_cons] at this
    omega
  · unfold cutG at h2 ⊢
    split
    · rename_i hc
      rw [if_pos hc] at h2
      exact absurd rfl h2
    · simp only [List.length_nil]; omega
theorem TH_step {s : List UInt8} (h : TH s) (hl : s.length ≤ 1000000000) (hn : s ≠ []) : LH (cutG s [10]).1 ∧ TH (cutG s [10]).2.1 := by
  obtain ⟨c1, c2⟩ := cutG_lens s hn
  rcases h with h | ⟨l, hx, rfl⟩
  · exact ⟨LH_small (by omega), .inl (by omega)⟩
  · cases l with
    | nil => exact absurd rfl hn
    | cons x l =>
      obtain ⟨h1, h2⟩ := hx x (by simp)
      have e : (x :: l).flatMap oneT = oneT x ++ l.flatMap oneT := by simp
      rw [e] at c1 c2 hl ⊢
      rw [cut_line h1 h2] at c1 c2 ⊢
      refine ⟨LH_bdy h1 h2 (by simp only at c1; omega), .inr ⟨l, fun y hy => hx y (by simp [hy]), rfl⟩⟩
noncomputable def psR : Nat → List UInt8 → Nat → List Se → List Se × Int × Nat
  | 0, _, k, _ => ([], 70, k)
  | n + 1, s, k, out => if s = [] then (out, 0, 0) else if shK (cutG s [10]).1 = true ∧ (cutG s [10]).2.2 = true then psR n (cutG s [10]).2.1 (k + 1) (out ++ [shR (cutG s [10]).1]) else ([], 70, k)
noncomputable def psM (s : List UInt8) : List Se × Int × Nat := if 4096 < s.count 10 then ([], 3, 0) else psR (s.length + 1) s 1 []
theorem shR_yes {s : List UInt8} (h : shOk s) : shR s = shSe s ∧ shK s = true := by
  unfold shR shK
  rw [if_pos h]
  exact ⟨rfl, by simp [h]⟩
theorem shK_yes {s : List UInt8} (h : shK s = true) : shOk s := by
  unfold shK at h
  simpa using h
theorem psR_lines : ∀ (l : List Se) (n k : Nat) (out : List Se), (∀ x ∈ l, x.ok ∧ oneE x = 0) → l.length < n → psR n (l.flatMap oneT) k out = (out ++ l.map (fun x => shSe (bdy x)), 0, 0)
  | [], n, k, out, _, hn => by
    obtain ⟨n, rfl⟩ : ∃ m, n = m + 1 := ⟨n - 1, by omega⟩
    rw [psR, if_pos (by rfl)]
    simp
  | x :: l, n, k, out, h, hn => by
    obtain ⟨n, rfl⟩ : ∃ m, n = m + 1 := ⟨n - 1, by omega⟩
    obtain ⟨h1, h2⟩ := h x (by simp)
    have e : (x :: l).flatMap oneT = oneT x ++ l.flatMap oneT := by simp
    have hs := shR_yes (shOk_bdy h1 h2)
    have ih := psR_lines l n (k + 1) (out ++ [shSe (bdy x)]) (fun y hy => h y (by simp [hy])) (by simpa using hn)
    rw [psR, e, if_neg (by simp [oneT]), cut_line h1 h2]
    simp only
    rw [if_pos ⟨hs.2, trivial⟩, hs.1, ih]
    simp
theorem oneT_count {x : Se} (hx : x.ok) (h : oneE x = 0) : (oneT x).count 10 = 1 := by
  rw [oneT_bdy, List.count_append, List.count_eq_zero.2 (fun hm => bdy_no10 hx h 10 hm rfl)]
  rfl
theorem lines_count : ∀ l : List Se, (∀ x ∈ l, x.ok ∧ oneE x = 0) → (l.flatMap oneT).count 10 = l.length ∧ l.length ≤ (l.flatMap oneT).length
  | [], _ => by simp
  | x :: l, h => by
    obtain ⟨h1, h2⟩ := h x (by simp)
    obtain ⟨i1, i2⟩ := lines_count l (fun y hy => h y (by simp [hy]))
    have hc := oneT_count h1 h2
    have e : (x :: l).flatMap oneT = oneT x ++ l.flatMap oneT := by simp
    rw [e, List.count_append, i1, hc, List.length_append]
    have : 0 < (oneT x).length := by simp [oneT]
    simp only [List.length_cons]
    omega
theorem psM_lines (l : List Se) (h : ∀ x ∈ l, x.ok ∧ oneE x = 0) (hn : l.length ≤ 4096) : psM (l.flatMap oneT) = (l.map (fun x => shSe (bdy x)), 0, 0) := by
  obtain ⟨c1, c2⟩ := lines_count l h
  rw [psM, if_neg (by omega), psR_lines l _ 1 [] h (by omega)]
  rfl
theorem psR_back : ∀ (n : Nat) (s : List UInt8) (k : Nat) (out m : List Se) (a : Nat), psR n s k out = (m, 0, a) → ∃ m', m = out ++ m' ∧ (∀ x ∈ m', oneE x = 0) ∧ m'.flatMap oneT = s ∧ (s.length ≤ 1048576 → (∀ x ∈ m', x.ok) ∧ (m'.map fun x => x.t.bulk).sum ≤ 259 * s.length) := by
  intro n
  induction n with
  | zero => intro s k out m a h; simp [psR] at h
  | succ n ih =>
    intro s k out m a h
    rw [psR] at h
    split at h
    · rename_i h0
      simp only [Prod.mk.injEq] at h
      refine ⟨[], by rw [← h.1]; simp, by simp, by rw [h0]; rfl, by simp⟩
    · rename_i hn
      split at h
      · rename_i hc
        have hk := shK_yes hc.1
        obtain ⟨m', e1, e2, e3, e4⟩ := ih _ _ _ _ _ h
        have hs := cutG_split s hc.2
        have hR := (shR_yes hk).1
        have h1 : oneE (shSe (cutG s [10]).1) = 0 := hk.2.2.2.2.2.1
        have h2 := hk.2.2.2.2.2.2
        rw [oneS, if_pos h1] at h2
        refine ⟨shSe (cutG s [10]).1 :: m', ?_, fun x hx => ?_, ?_, fun hl => ?_⟩
        · rw [e1, hR, List.append_assoc]; rfl
        · rcases List.mem_cons.1 hx with rfl | hx
          · exact h1
          · exact e2 x hx
        · rw [List.flatMap_cons, h2, e3]
          conv => rhs; rw [hs]
          simp
        · obtain ⟨c1, c2⟩ := cutG_lens s hn
          obtain ⟨f1, f2⟩ := e4 (by omega)
          have hLH := LH_small (s := (cutG s [10]).1) (by omega)
          refine ⟨fun x hx => ?_, ?_⟩
          · rcases List.mem_cons.1 hx with rfl | hx
            · exact shSe_ok hLH
            · exact f1 x hx
          · have hb := ptT_bulk (shB (cutG s [10]).1).2.1
            have htl := trimP_len 91 (cutG s [10]).1
            obtain ⟨a1, a2⟩ := cutG_len (trimP 91 (cutG s [10]).1) [93, 32]
            obtain ⟨b1, b2⟩ := cutG_len (shA (cutG s [10]).1).2.1 [32]
            have hq : (shB (cutG s [10]).1).2.1.length ≤ (cutG s [10]).1.length := by
              show (cutG (shA (cutG s [10]).1).2.1 [32]).2.1.length ≤ _
              unfold shA at *
              omega
            rw [List.map_cons, List.sum_cons]
            show (ptT (shB (cutG s [10]).1).2.1).bulk + _ ≤ _
            omega
      · simp at h
end Go.Proofs.YtafeikbbjhmlaaaGreatDoor.Sx.T
namespace Go.Proofs.YtafeikbbjhmlaaaGreatDoor.Sx.T
open Go Go.Proofs.YtafeikbbjhmlaaaGreatDoor.Sx
set_option maxRecDepth 100000
set_option maxHeartbeats 8000000
def ol4 : List (List AV) → AV
  | [] => .nilsl
  | e :: l => .lst .own 4 (e :: l)
theorem ol4_cons (l : List (List AV)) (e : List AV) : ol4 (l ++ [e]) = .lst .own 4 (l ++ [e]) := by
  cases l <;> rfl
theorem ol4_ls (l : List (List AV)) : Ls 4 (uf (ol4 l)) l := by
  cases l with
  | nil => exact .inl ⟨rfl, rfl⟩
  | cons e l => exact .inr ⟨.none, .inl rfl, rfl⟩
theorem ol4_drop (W : List (List AV)) (fr : List AV) (t z : Nat) (h : t ≠ z) : fget (drop1K (ol4 W) fr t) z = fget fr z := by
  cases W with
  | nil => rfl
  | cons e W =>
    show fget (drop1K (.lst .own 4 (e :: W)) fr t) z = _
    rw [drop1K_own, fget_fput, if_neg (fun e => h e.symm)]
theorem Se.flat {s : Se} (h : s.ok) : s.cells.length = 4 ∧ s.cells.all plain1 = true ∧ s.cells.map uf = s.cells ∧ refFreeL s.cells = true := by
  obtain ⟨p0, u0, _, _, f0⟩ := h.1.one
  obtain ⟨p, u, _, _, f⟩ := h.2.2.2.1.one
  obtain ⟨p2, u2, _, _, f2⟩ := h.2.2.2.2.1.one
  refine ⟨rfl, ?_, ?_, ?_⟩
  · simp only [Se.cells, List.all_cons, List.all_nil, p0, p, p2, Bool.and_true]
    rfl
  · simp only [Se.cells, List.map_cons, List.map_nil, u0, u, u2]; rfl
  · simp only [Se.cells, refFreeL, f0, f, f2, refFree, Bool.and_true]
theorem ol4_app (W : List (List AV)) (x : Se) (hx : x.ok) (h : W.length ≤ 1000000000) : appK false 4 80 (ol4 W) (some [x.cells]) = some (ol4 (W ++ [x.cells])) := by
  obtain ⟨f1, f2, f3, f4⟩ := Se.flat hx
  rw [ol4_cons]
  cases W with
  | nil =>
    show appK false 4 80 .nilsl _ = _
    rw [appK_nilsl, if_neg (by simp), if_pos (by simp [f2, f4]), if_pos (by simp [room])]
    rfl
  | cons e W =>
    show appK false 4 80 (.lst .own 4 (e :: W)) _ = _
    rw [appK_lst, if_neg (by simp), if_pos (by simp [f2, f4]), if_pos ⟨rfl, rfl, by simp only [List.length_cons, List.length_nil, room] at h ⊢; omega⟩]
    rfl
theorem se0_ok : (default : Se).ok := by
  have e : (default : Se) = ⟨[], .nilsl, 0, ⟨[], [], .nilsl, .nilsl⟩⟩ := rfl
  rw [e]
  exact ⟨.inl ⟨rfl, rfl⟩, by simp, by unfold I64; simp, .inl ⟨rfl, rfl⟩, .inl ⟨rfl, rfl⟩, by simp, by simp, by simp, by simp [Tb.bulk]⟩
theorem shR_ok {s : List UInt8} (h : LH s) : (shR s).ok := by
  unfold shR
  split
  · exact shSe_ok h
  · exact se0_ok
def OP (m : List Se × Int × Nat) (r : Option (XExit × St)) : Prop := ∃ fr' L, (r = some (.exit 0, ⟨fr', [L]⟩) ∧ m.2.1 = 0 ∧ m.2.2 = 0 ∧ fget fr' 5 = ol4 (ses m.1)) ∨ (r = some (.ret, ⟨fr', [L]⟩) ∧ m.1 = [] ∧ fget fr' 2 = .nilsl ∧ fget fr' 3 = .int .i64 m.2.1 ∧ fget fr' 4 = .int .i64 m.2.2)
theorem l_psh : ∀ (n : Nat) (s : List UInt8) (k : Nat) (out : List Se) (fr : List AV) (L : Level), s.length < n → s.length ≤ 1000000000 → TH s → out.length + s.length ≤ 1000000000 → k + s.length ≤ 2000000000 →
    fget fr 0 = .str s → fget fr 5 = ol4 (ses out) → fget fr 6 = .int .i64 (k : Nat) → OP (psR n s k out) (LC X GV (.loop x17_l0) ⟨fr, [L]⟩) := by
  intro n
  induction n with
  | zero => intro s k out fr L h; omega
  | succ n ih =>
    intro s k out fr L h hl hT hr hk g0 g5 g6
    rw [LC_loop, psR]
    by_cases hn : s = []
    · subst hn
      rw [if_pos rfl]
      simp +contextual -implicitDefEqProofs (maxSteps := 10000000) only [x17_l0_run, go_sem, ↓reduceIte, g0]
      exact ⟨_, _, .inl ⟨rfl, rfl, rfl, by simp only [go_sem, ↓reduceIte, Nat.reduceEqDiff, g5]⟩⟩
    rw [if_neg hn]
    have hn' : (s = []) = False := by simp [hn]
    obtain ⟨t1, t2⟩ := TH_step hT hl hn
    obtain ⟨c1, c2⟩ := cutG_lens s hn
    have hc := fun hp => p_cutG s [10] hl (by simp) hp
    have hs := p_sheet (cutG s [10]).1 t1
    have hx := shR_ok t1
    generalize cutG s [10] = C at *
    obtain ⟨ln, rs, en⟩ := C
    simp only at hc hs hx c1 c2 t1 t2 ⊢
    have ih := ih rs (k + 1) (out ++ [shR ln])
    generalize shR ln = x at *
    generalize shK ln = b at *
    obtain ⟨f1, f2, f3, f4⟩ := Se.flat hx
    have hap := ol4_app (ses out) x hx (by rw [ses_len]; omega)
    have hse : ses (out ++ [x]) = ses out ++ [x.cells] := by simp [ses]
    rw [← hse] at hap
    have hdr := ol4_drop (ses (out ++ [x]))
    have hod := ol4_drop (ses out)
    have hlen : (out ++ [x]).length = out.length + 1 := by simp
    generalize out ++ [x] = out2 at *
    have w1 : wr .i64 ((k : Int) + 1) = ((k + 1 : Nat) : Int) := by rw [wr_i64 _ (by omega)]; omega
    obtain ⟨kv, a, n0, ⟨vs, rs0, xv, xr⟩⟩ := x
    simp only [Se.cells] at *
    simp only [List.all_cons, List.all_nil, Bool.and_true, Bool.and_eq_true, List.map_cons, List.map_nil, List.cons.injEq, and_true, refFreeL] at f2 f3 f4
    obtain ⟨p1, p2, p3, p4⟩ := f2
    obtain ⟨u1, u2, u3, u4⟩ := f3
    obtain ⟨r1, r2, r3, r4⟩ := f4
    cases b with
    | false =>
      rw [if_neg (by simp)]
      simp +contextual -implicitDefEqProofs (maxSteps := 10000000) only [x17_l0_run, go_sem, ↓reduceIte, reduceCtorEq, Nat.reduceEqDiff, Nat.reduceAdd, g0, g6, hn', hc, hs, p1, p3, p4, u1, u3, u4, stAt_topc]
      exact ⟨_, _, .inr ⟨rfl, rfl, by simp only [go_sem, ↓reduceIte, Nat.reduceEqDiff], by simp only [go_sem, ↓reduceIte, Nat.reduceEqDiff], by simp only [go_sem, ↓reduceIte]⟩⟩
    | true =>
    cases en with
    | false =>
      rw [if_neg (by simp)]
      simp +contextual -implicitDefEqProofs (maxSteps := 10000000) only [x17_l0_run, go_sem, ↓reduceIte, reduceCtorEq, Nat.reduceEqDiff, Nat.reduceAdd, g0, g6, hn', hc, hs, p1, p3, p4, u1, u3, u4, stAt_topc]
      exact ⟨_, _, .inr ⟨rfl, rfl, by simp only [go_sem, ↓reduceIte, Nat.reduceEqDiff], by simp only [go_sem, ↓reduceIte, Nat.reduceEqDiff], by simp only [go_sem, ↓reduceIte]⟩⟩
    | true =>
      rw [if_pos ⟨rfl, rfl⟩]
      simp +contextual -implicitDefEqProofs (maxSteps := 10000000) only [x17_l0_run, go_sem, ↓reduceIte, reduceCtorEq, Nat.reduceEqDiff, Nat.reduceAdd, Nat.reduceLT, Nat.reduceDiv, g0, g5, g6, hn', hc, hs, p1, p3, p4, u1, u3, u4, r1, r3, r4, w1, hap, hdr, hod, stAt_topc, ldAt_topc]
      refine ih _ _ (by omega) (by omega) t2 (by omega) (by omega) ?_ ?_ ?_ <;> simp only [go_sem, ↓reduceIte, reduceCtorEq, Nat.reduceEqDiff]
theorem pCn (s : List UInt8) : primX 10 [.str s, .str [10]] = some (.int .i64 ((s.count 10 : Nat) : Int)) := rfl
theorem p_parseShs (s : List UInt8) (hl : s.length ≤ 1000000000) (hT : TH s) : CL X GV 17 [.str s] [] = some (.tup [uf (ol4 (ses (psM s).1)), .int .i64 (psM s).2.1, .int .i64 (psM s).2.2], []) := by
  have hc := pCn s
  rw [CL_eq (fn := x17) rfl, psM]
  by_cases h4 : 4096 < s.count 10
  · rw [if_pos h4]
    have e1 : ((4096 : Int) < (s.count 10 : Nat)) = True := by simp; omega
    simp +contextual -implicitDefEqProofs (maxSteps := 10000000) only [x17, go_sem, ↓reduceIte, reduceCtorEq, Nat.reduceEqDiff, Nat.reduceAdd, hc, e1]
    rfl
  rw [if_neg h4]
  have e1 : ((4096 : Int) < (s.count 10 : Nat)) = False := by simp; omega
  have hP := fun fr L => l_psh (s.length + 1) s 1 [] fr L (by omega) hl hT (by simp; omega) (by omega)
  generalize psR (s.length + 1) s 1 [] = m at *
  obtain ⟨out, e, at'⟩ := m
  simp +contextual -implicitDefEqProofs (maxSteps := 10000000) only [x17, go_sem, ↓reduceIte, reduceCtorEq, hc, e1]
  refine (fun key => key _ (hP _ _ ?_ ?_ ?_)) (?_ : ∀ z, OP (out, e, at') z → finK _ (seqK (blockK 0 z) _) = _)
  · intro z hz
    obtain ⟨fr', L, ⟨rfl, a1, a2, a3⟩ | ⟨rfl, a1, a2, a3, a4⟩⟩ := hz
    · simp only at a1 a2 a3
      subst a1 a2
      have hX := ol4_ls (ses out)
      obtain ⟨px, ux, nx, dx, fx⟩ := hX.one
      have sx := fun hp => ls_shut hX hp 0 5
      have i1 : isU (uf (ol4 (ses out))) = false := by cases out <;> rfl
      generalize ol4 (ses out) = R at *
      simp +contextual -implicitDefEqProofs (maxSteps := 10000000) only [go_sem, ↓reduceIte, Nat.reduceEqDiff, Nat.reduceAdd, a3, dx, sx, i1]
      rfl
    · simp only at a1 a2 a3 a4
      subst a1
      simp +contextual -implicitDefEqProofs (maxSteps := 10000000) only [go_sem, ↓reduceIte, Nat.reduceAdd, a2, a3, a4]
      rfl
  all_goals first | (simp only [go_sem, ↓reduceIte, reduceCtorEq, Nat.reduceEqDiff]; done) | (simp only [go_sem, ↓reduceIte, Nat.reduceEqDiff]; rfl) | rfl | skip
end Go.Proofs.YtafeikbbjhmlaaaGreatDoor.Sx.T
namespace Go.Proofs.YtafeikbbjhmlaaaGreatDoor.Sx.T
open Go Go.Proofs.YtafeikbbjhmlaaaGreatDoor.Sx
set_option maxRecDepth 100000
set_option maxHeartbeats 8000000
theorem l_pathSame (a b : Se) (hka : Ls 1 a.kv (nums a.ks)) (hkb : Ls 1 b.kv (nums b.ks)) (hks : a.ks = b.ks) (hl : a.ks.length ≤ 1000000000) (x y : AV) (i m : Nat) (hux : uf x = x) (hdx : ∀ fr t, drop1K x fr t = fr) (huy : uf y = y) (hdy : ∀ fr t, drop1K y fr t = fr)
    (ga : iaddrK 4 x (some i) = some (.elp a.cells)) (gb : iaddrK 4 y (some i) = some (.elp b.cells)) {fr : List AV} {L : Level} (K : Option (XExit × St) → Prop)
    (h0 : fget fr 0 = x) (h1 : fget fr 1 = y) (h5 : fget fr 5 = .int .i64 (i : Nat)) (h13 : fget fr 13 = .int .i64 (m : Nat)) (h14 : fget fr 14 = .int .i64 (i : Nat)) (h62 : fget fr 62 = .int .i64 a.ks.length) (h63 : fget fr 63 = .int .i64 0)
    (hk : ∀ fr', fget fr' 0 = x → fget fr' 1 = y → fget fr' 13 = .int .i64 (m : Nat) → fget fr' 14 = .int .i64 (i : Nat) → K (some (.exit 2, ⟨fr', [L]⟩))) :
    K (LC X GV (.loop x20_l0) ⟨fr, [L]⟩) := by
  obtain ⟨pa, ua, na, da, fa⟩ := hka.one
  obtain ⟨pb, ub, nb, db, fb⟩ := hkb.one
  obtain ⟨ka, va, aa, ta⟩ := a
  obtain ⟨kb, vb, ab, tb⟩ := b
  simp only [Se.cells] at *
  subst hks
  obtain ⟨I, hI⟩ : ∃ I : Nat → List AV → Heap → Prop, ∀ j fr hp', I j fr hp' ↔ (hp' = [L] ∧ fget fr 0 = x ∧ fget fr 1 = y ∧ fget fr 5 = .int .i64 (i : Nat) ∧ fget fr 13 = .int .i64 (m : Nat) ∧ fget fr 14 = .int .i64 (i : Nat) ∧ fget fr 62 = .int .i64 ka.length ∧ fget fr 63 = .int .i64 (j : Nat)) := ⟨_, fun _ _ _ => Iff.rfl⟩
  obtain ⟨Q, hQ⟩ : ∃ Q : XExit → List AV → Heap → Prop, ∀ e fr hp', Q e fr hp' ↔ (e = .exit 2 ∧ hp' = [L] ∧ fget fr 0 = x ∧ fget fr 1 = y ∧ fget fr 13 = .int .i64 (m : Nat) ∧ fget fr 14 = .int .i64 (i : Nat)) := ⟨_, fun _ _ _ => Iff.rfl⟩
  refine LC_upK ka.length I Q K ?_ ?_ ?_ ?_
  · rw [hI]
    exact ⟨rfl, h0, h1, h5, h13, h14, h62, h63⟩
  · intro j hj fr hp' hh
    obtain ⟨rfl, h0, h1, h5, h13, h14, h62, h63⟩ := (hI _ _ _).1 hh
    have k1 : ((j : Int) < (ka.length : Int)) = True := by simp; omega
    have w1 : wr .i64 ((j : Int) + 1) = ((j + 1 : Nat) : Int) := by rw [wr_i64 _ (by omega)]; omega
    have g1 := hka.at (k := j) (by rw [nums_len]; exact hj)
    have g2 := hkb.at (k := j) (by rw [nums_len]; exact hj)
    rw [nums_get ka j hj] at g1 g2
    generalize ka.getD j 0 = k at g1 g2
    simp +contextual -implicitDefEqProofs (maxSteps := 10000000) only [x20_l0_run, go_sem, ↓reduceIte, reduceCtorEq, Nat.reduceEqDiff, Nat.reduceAdd, Nat.reduceLeDiff, h0, h1, h5, h62, h63, k1, w1, ga, gb, g1, g2, hux, huy, ua, ub]
    rw [hI]
    refine ⟨rfl, ?_, ?_, ?_, ?_, ?_, ?_, ?_⟩ <;> simp only [go_sem, ↓reduceIte, reduceCtorEq, Nat.reduceEqDiff, h0, h1, h5, h13, h14, h62]
  · intro fr hp' hh
    obtain ⟨rfl, h0, h1, h5, h13, h14, h62, h63⟩ := (hI _ _ _).1 hh
    simp +contextual -implicitDefEqProofs (maxSteps := 10000000) only [x20_l0_run, go_sem, ↓reduceIte, h62, h63, Int.lt_irrefl]
    rw [hQ]
    refine ⟨rfl, rfl, ?_, ?_, ?_, ?_⟩ <;> simp only [go_sem, ↓reduceIte, reduceCtorEq, Nat.reduceEqDiff, h0, h1, h13, h14]
  · intro e fr hp' he hh
    obtain ⟨rfl, rfl, a0, a1, a2, a3⟩ := (hQ _ _ _).1 hh
    exact hk fr a0 a1 a2 a3
theorem p_sameShs (l m : List Se) (x y : AV) (hx : Ls 4 x (ses l)) (hy : Ls 4 y (ses m)) (ho : ∀ s ∈ l, s.ok) (ho2 : ∀ s ∈ m, s.ok) (hn : l.length = m.length) (hl : l.length ≤ 1000000000) (hs : ∀ i, i < l.length → (l.getD i default).same (m.getD i default)) :
    CL X GV 20 [x, y] [] = some (.bool true, []) := by
  obtain ⟨px, ux, nx, dx, fx⟩ := hx.one
  obtain ⟨py, uy, ny, dy, fy⟩ := hy.one
  rw [ses_len] at nx ny
  rw [CL_eq (fn := x20) rfl]
  have b1 : (((l.length : Nat) : Int) != ((m.length : Nat) : Int)) = false := by rw [hn]; simp
  simp +contextual -implicitDefEqProofs (maxSteps := 10000000) only [x20, go_sem, ↓reduceIte, reduceCtorEq, Nat.reduceEqDiff, ux, nx, uy, ny, b1]
  obtain ⟨I, hI⟩ : ∃ I : Nat → List AV → Heap → Prop, ∀ i fr hp', I i fr hp' ↔ ((∃ L, hp' = [L]) ∧ fget fr 0 = x ∧ fget fr 1 = y ∧ fget fr 13 = .int .i64 l.length ∧ fget fr 14 = .int .i64 (i : Nat)) := ⟨_, fun _ _ _ => Iff.rfl⟩
  obtain ⟨Q, hQ⟩ : ∃ Q : XExit → List AV → Heap → Prop, ∀ e fr hp', Q e fr hp' ↔ (e = .exit 0 ∧ ∃ L, hp' = [L]) := ⟨_, fun _ _ _ => Iff.rfl⟩
  refine LC_upK l.length I Q (fun r => finK _ (seqK (blockK 0 r) _) = _) ?_ ?_ ?_ ?_
  · rw [hI]
    refine ⟨⟨_, rfl⟩, ?_, ?_, ?_, ?_⟩ <;> simp only [go_sem, ↓reduceIte, reduceCtorEq, Nat.reduceEqDiff, Int.natCast_zero]
  · intro i hi fr hp' hh
    obtain ⟨⟨L, rfl⟩, h0, h1, h13, h14⟩ := (hI _ _ _).1 hh
    have k1 : ((i : Int) < (l.length : Int)) = True := by simp; omega
    have w1 : wr .i64 ((i : Int) + 1) = ((i + 1 : Nat) : Int) := by rw [wr_i64 _ (by omega)]; omega
    have ga := hx.at (k := i) (by rw [ses_len]; exact hi)
    have gb := hy.at (k := i) (by rw [ses_len]; omega)
    rw [ses_get l i hi] at ga
    rw [ses_get m i (by omega)] at gb
    have o1 := ho _ (mem_getD l i hi)
    have o2 := ho2 _ (mem_getD m i (by omega))
    obtain ⟨s1, s2, s3⟩ := hs i hi
    generalize l.getD i default = a at *
    generalize m.getD i default = b at *
    have hsm := p_rtsame a.t b.t o1.2.2.2.one o2.2.2.2.one
    rw [decide_eq_true s3] at hsm
    have hps := fun (fr : List AV) => @l_pathSame a b o1.1 o2.1 s1 (by have := o1.2.1; omega) x y i l.length ux dx uy dy ga gb fr L
    obtain ⟨pa, ua, na, da, fa⟩ := o1.1.one
    obtain ⟨pb, ub, nb, db, fb⟩ := o2.1.one
    obtain ⟨pv, uv, nv, dv, fv⟩ := o1.2.2.2.1.one
    obtain ⟨pr, ur, nr, dr, fr0⟩ := o1.2.2.2.2.1.one
    obtain ⟨pv2, uv2, nv2, dv2, fv2⟩ := o2.2.2.2.1.one
    obtain ⟨pr2, ur2, nr2, dr2, fr2⟩ := o2.2.2.2.2.1.one
    rw [nums_len] at na nb
    have b2 : (((a.ks.length : Nat) : Int) != ((b.ks.length : Nat) : Int)) = false := by rw [s1]; simp
    simp only [Se.cells, s2] at ga gb hps
    simp only [Tb.cells] at hsm
    simp +contextual -implicitDefEqProofs (maxSteps := 10000000) only [x20_l1_run, go_sem, ↓reduceIte, reduceCtorEq, Nat.reduceEqDiff, Nat.reduceAdd, Nat.reduceLeDiff, h0, h1, h13, h14, k1, ga, gb, ux, uy, ua, na, ub, nb, uv, fv, ur, fr0, uv2, fv2, ur2, fr2, b2, hsm, bne_self_eq_false]
    refine hps _ (fun r => StepOk (I (i + 1)) Q (seqK (blockK 1 (blockK 2 r)) _)) ?_ ?_ ?_ ?_ ?_ ?_ ?_ ?_
    all_goals first | (simp only [go_sem, ↓reduceIte, reduceCtorEq, Nat.reduceEqDiff, h0, h1, h13, h14]; done) | skip
    intro fr' q0 q1 q13 q14
    simp +contextual -implicitDefEqProofs (maxSteps := 10000000) only [go_sem, ↓reduceIte, q14, w1]
    rw [hI]
    refine ⟨⟨_, rfl⟩, ?_, ?_, ?_, ?_⟩ <;> simp only [go_sem, ↓reduceIte, reduceCtorEq, Nat.reduceEqDiff, q0, q1, q13]
  · intro fr hp' hh
    obtain ⟨⟨L, rfl⟩, h0, h1, h13, h14⟩ := (hI _ _ _).1 hh
    simp +contextual -implicitDefEqProofs (maxSteps := 10000000) only [x20_l1_run, go_sem, ↓reduceIte, h13, h14, Int.lt_irrefl]
    rw [hQ]
    exact ⟨rfl, _, rfl⟩
  · intro e fr hp' he hh
    obtain ⟨rfl, L, rfl⟩ := (hQ _ _ _).1 hh
    simp +contextual -implicitDefEqProofs (maxSteps := 10000000) only [go_sem, ↓reduceIte]
theorem line_le {z : Se} : ∀ {l : List Se}, z ∈ l → (oneT z).length ≤ (l.flatMap oneT).length
  | [], h => by cases h
  | x :: l, h => by
    rw [List.flatMap_cons, List.length_append]
    rcases List.mem_cons.1 h with rfl | h
    · omega
    · have := line_le h
      omega
theorem psR_err : ∀ (n : Nat) (s : List UInt8) (k : Nat) (out : List Se), (psR n s k out).2.1 = 0 ∨ ((psR n s k out).1 = [] ∧ (psR n s k out).2.1 = 70) := by
  intro n
  induction n with
  | zero => intro s k out; exact .inr ⟨rfl, rfl⟩
  | succ n ih =>
    intro s k out
    rw [psR]
    split
    · exact .inl rfl
    · split
      · exact ih _ _ _
      · exact .inr ⟨rfl, rfl⟩
theorem shT_lines {l : List Se} (h : ∀ x ∈ l, oneE x = 0) : shT l = l.flatMap oneT := by
  unfold shT
  induction l with
  | nil => rfl
  | cons x l ih =>
    rw [List.flatMap_cons, List.flatMap_cons, ih (fun y hy => h y (by simp [hy])), oneS, if_pos (h x (by simp))]
theorem firstE_zero (e : Nat → Int) : ∀ (m i : Nat), (∀ j, i ≤ j → j < i + m → e j = 0) → firstE e m i = 0
  | 0, i, _ => rfl
  | m + 1, i, h => by
    rw [firstE, if_neg (by simp [h i (by omega) (by omega)])]
    exact firstE_zero e m (i + 1) fun j h1 h2 => h j (by omega) (by omega)
theorem shE_zero {l : List Se} (h : ∀ x ∈ l, oneE x = 0) (hn : l.length ≤ 4096) : shE l = 0 := by
  rw [shE, if_neg (by omega)]
  exact firstE_zero _ _ _ fun j _ hj => h _ (mem_getD l j (by omega))
theorem shE_all {l : List Se} (h : shE l = 0) : l.length ≤ 4096 ∧ ∀ x ∈ l, oneE x = 0 := by
  rw [shE] at h
  split at h
  · simp at h
  · refine ⟨by omega, fun x hx => ?_⟩
    obtain ⟨j, hj, rfl⟩ := List.mem_iff_getElem.1 hx
    have := first0 _ _ h j (Nat.zero_le _) (by omega)
    simpa [List.getD, hj] using this
theorem psM_back (s : List UInt8) (hs : s.length ≤ 1048576) : SesV (uf (ol4 (ses (psM s).1))) (psM s).1 ∧ ((psM s).2.1 = 3 ∨ (psM s).2.1 = 70 ∨ ((psM s).2.1 = 0 ∧ shE (psM s).1 = 0 ∧ shS (psM s).1 = s)) := by
  have hnil : SesV (uf (ol4 (ses []))) [] := ⟨ol4_ls _, by simp, by simp, by simp⟩
  unfold psM
  by_cases h4 : 4096 < s.count 10
  · rw [if_pos h4]
    exact ⟨hnil, .inl rfl⟩
  rw [if_neg h4]
  rcases psR_err (s.length + 1) s 1 [] with h | ⟨h1, h2⟩
  · obtain ⟨m', e1, e2, e3, e4⟩ := psR_back (s.length + 1) s 1 [] (psR (s.length + 1) s 1 []).1 (psR (s.length + 1) s 1 []).2.2 (by rw [← h])
    rw [List.nil_append] at e1
    obtain ⟨f1, f2⟩ := e4 hs
    rw [e1, h]
    obtain ⟨c1, c2⟩ := lines_count m' (fun x hx => ⟨f1 x hx, e2 x hx⟩)
    rw [e3] at c1 c2
    have hE := shE_zero e2 (by omega)
    refine ⟨⟨ol4_ls _, f1, by omega, by omega⟩, .inr (.inr ⟨rfl, hE, ?_⟩)⟩
    rw [shS, if_pos hE, shT_lines e2, e3]
  · rw [h1]
    exact ⟨hnil, .inr (.inl h2)⟩
theorem v_SayBack (t : Tb) (sh : Sh) (s : List UInt8) (ht : t.ok) (hx : SesV sh.x sh.l) (hs : s.length ≤ 1048576) : CL X GV 6 [.agg t.cells, sh.x, .str s] [] = some (.bool true, []) := by
  have hl := liveTold
  obtain ⟨l, x⟩ := sh
  simp only at hx ⊢
  obtain ⟨hxl, hxo, hxn, hxb⟩ := id hx
  obtain ⟨px, ux, nx, dx, fx⟩ := hxl.one
  obtain ⟨pv, uv, nv, dv, fv⟩ := ht.1.one
  obtain ⟨pr, ur, nr, dr, fr0⟩ := ht.2.1.one
  -- the text that is handed, as a table
  obtain ⟨E, f, a, u, hPT, hTT, hF1, hu⟩ : ∃ (E f : Int) (a : List UInt8) (u : Tb), CL X GV 15 [.str s] [] = some (.tup [.agg [u.xv, u.xr], .int .i64 E], []) ∧ CL X GV 9 [.agg [u.xv, u.xr]] [] = some (.tup [.str a, .int .i64 f], []) ∧ (E = 70 ∨ (E = 0 ∧ f = 0 ∧ a = s)) ∧ u.ok := by
    refine ⟨_, _, _, ptT s, p_parseTab s (.inl hs), p_sayTab (ptT s) (ptT_ok (.inl hs)), ?_, ptT_ok (.inl hs)⟩
    unfold ptE
    by_cases hk : ptOk s
    · rw [if_pos hk]
      have e : ptT s = tbS s := by unfold ptT; rw [if_pos hk]
      rw [e, tabS, if_pos hk.2.1]
      exact .inr ⟨rfl, hk.2.1, hk.2.2⟩
    · rw [if_neg hk]
      exact .inl rfl
  obtain ⟨pv2, uv2, nv2, dv2, fv2⟩ := hu.1.one
  obtain ⟨pr2, ur2, nr2, dr2, fr2⟩ := hu.2.1.one
  -- and as sheets
  obtain ⟨e, k, h, b, M, hPS, hSS, hF2, pM, uM, dM, fM⟩ : ∃ (e : Int) (k : Nat) (h : Int) (b : List UInt8) (M : AV), CL X GV 17 [.str s] [] = some (.tup [M, .int .i64 e, .int .i64 k], []) ∧ CL X GV 13 [M] [] = some (.tup [.str b, .int .i64 h], []) ∧ (e = 3 ∨ e = 70 ∨ (e = 0 ∧ h = 0 ∧ b = s)) ∧ plain1 M = true ∧ uf M = M ∧ (∀ fr t, drop1K M fr t = fr) ∧ refFree M = true := by
    obtain ⟨q1, q2⟩ := psM_back s hs
    obtain ⟨o1, o2, _, o4, o5⟩ := q1.1.one
    exact ⟨_, _, _, _, _, p_parseShs s (by omega) (.inl hs), p_sayShs _ _ q1, q2, o1, o2, o4, o5⟩
  -- the table that is handed
  obtain ⟨S1, e1, hT1, hA⟩ : ∃ (S1 : List UInt8) (e1 : Int), CL X GV 9 [.agg [t.xv, t.xr]] [] = some (.tup [.str S1, .int .i64 e1], []) ∧ ((e1 = 0) = False ∨ (e1 = 0 ∧ ∃ v : Tb, v.ok ∧ CL X GV 15 [.str S1] [] = some (.tup [.agg [v.xv, v.xr], .int .i64 0], []) ∧ CL X GV 19 [.agg [t.xv, t.xr], .agg [v.xv, v.xr]] [] = some (.bool true, []))) := by
    refine ⟨_, _, p_sayTab t ht, ?_⟩
    by_cases h0 : tabE t = 0
    · right
      refine ⟨h0, ptT (tabT t), ptT_ok (.inr ⟨t, ht, h0, rfl⟩), ?_, ?_⟩
      · have := p_parseTab (tabT t) (.inr ⟨t, ht, h0, rfl⟩)
        rw [(ptT_tab ht h0).2] at this
        rw [tabS, if_pos h0]
        exact this
      · have := p_rtsame t (ptT (tabT t)) ht.one (ptT_ok (.inr ⟨t, ht, h0, rfl⟩)).one
        rw [decide_eq_true (by rw [(ptT_tab ht h0).1]; exact (tbS_tab ht h0).1)] at this
        exact this
    · left; simp [h0]
  -- the sheets that are handed
  obtain ⟨S2, e2, hS1, hB⟩ : ∃ (S2 : List UInt8) (e2 : Int), CL X GV 13 [x] [] = some (.tup [.str S2, .int .i64 e2], []) ∧ ((e2 = 0) = False ∨ (e2 = 0 ∧ ∃ N : AV, plain1 N = true ∧ uf N = N ∧ (∀ fr t, drop1K N fr t = fr) ∧ refFree N = true ∧ CL X GV 17 [.str S2] [] = some (.tup [N, .int .i64 0, .int .i64 ((0 : Nat) : Int)], []) ∧ CL X GV 20 [x, N] [] = some (.bool true, []))) := by
    refine ⟨_, _, p_sayShs l x hx, ?_⟩
    by_cases h0 : shE l = 0
    · right
      obtain ⟨g1, g2⟩ := shE_all h0
      have hlen := shT_len l
      have hlines := shT_lines g2
      have hok : ∀ y ∈ l, y.ok ∧ oneE y = 0 := fun y hy => ⟨hxo y hy, g2 y hy⟩
      have hM := psM_lines l hok g1
      have hTH : TH (shT l) := .inr ⟨l, hok, hlines⟩
      have hL : (shT l).length ≤ 1000000000 := by omega
      have hp := p_parseShs (shT l) hL hTH
      have hN := ol4_ls (ses (psM (shT l)).1)
      obtain ⟨o1, o2, _, o4, o5⟩ := hN.one
      rw [← hlines] at hM
      refine ⟨h0, uf (ol4 (ses (psM (shT l)).1)), o1, o2, o4, o5, ?_, ?_⟩
      · rw [shS, if_pos h0, hp, hM]
      · rw [hM] at hN ⊢
        refine p_sameShs l _ _ _ hxl hN hxo (fun y hy => ?_) (by simp) (by omega) (fun i hi => ?_)
        · obtain ⟨z, hz, rfl⟩ := List.mem_map.1 hy
          obtain ⟨z1, z2⟩ := hok z hz
          refine shSe_ok (LH_bdy z1 z2 ?_)
          have : (oneT z).length ≤ (shT l).length := by
            rw [hlines]
            exact line_le hz
          rw [oneT_bdy, List.length_append] at this
          omega
        · have e : (l.map fun x => shSe (bdy x)).getD i default = shSe (bdy (l.getD i default)) := by simp [List.getD, hi]
          simp only
          rw [e]
          have hm := mem_getD l i hi
          exact shSe_bdy (hok _ hm).1 (hok _ hm).2
    · left; simp [h0]
  rw [CL_eq (fn := x6) rfl]
  simp only [Tb.cells]
  rcases hA with c1 | ⟨rfl, v, hv, hA1, hA2⟩
  · rcases hB with c2 | ⟨rfl, N, pN, uN, dN, fN, hB1, hB2⟩
    · rcases hF1 with rfl | ⟨rfl, rfl, rfl⟩ <;> rcases hF2 with rfl | rfl | ⟨rfl, rfl, rfl⟩ <;>
        simp +contextual -implicitDefEqProofs (maxSteps := 10000000) only [x6, go_sem, ↓reduceIte, Nat.reduceEqDiff, Nat.reduceAdd, Int.reduceBNe, hl, ux, fx, pv, uv, fv, pr, ur, fr0, pv2, uv2, fv2, pr2, ur2, fr2, uM, dM, fM, hPT, hTT, hPS, hSS, hT1, hS1, c1, c2, stAt_topc, ldAt_topc]
    · rcases hF1 with rfl | ⟨rfl, rfl, rfl⟩ <;> rcases hF2 with rfl | rfl | ⟨rfl, rfl, rfl⟩ <;>
        simp +contextual -implicitDefEqProofs (maxSteps := 10000000) only [x6, go_sem, ↓reduceIte, Nat.reduceEqDiff, Nat.reduceAdd, Int.reduceBNe, hl, ux, fx, pv, uv, fv, pr, ur, fr0, pv2, uv2, fv2, pr2, ur2, fr2, uM, dM, fM, uN, dN, fN, hPT, hTT, hPS, hSS, hT1, hS1, hB1, hB2, c1, Int.natCast_zero, stAt_topc, ldAt_topc]
  · obtain ⟨pv3, uv3, nv3, dv3, fv3⟩ := hv.1.one
    obtain ⟨pr3, ur3, nr3, dr3, fr3⟩ := hv.2.1.one
    rcases hB with c2 | ⟨rfl, N, pN, uN, dN, fN, hB1, hB2⟩
    · rcases hF1 with rfl | ⟨rfl, rfl, rfl⟩ <;> rcases hF2 with rfl | rfl | ⟨rfl, rfl, rfl⟩ <;>
        simp +contextual -implicitDefEqProofs (maxSteps := 10000000) only [x6, go_sem, ↓reduceIte, Nat.reduceEqDiff, Nat.reduceAdd, Int.reduceBNe, hl, ux, fx, pv, uv, fv, pr, ur, fr0, pv2, uv2, fv2, pr2, ur2, fr2, pv3, uv3, fv3, pr3, ur3, fr3, uM, dM, fM, hPT, hTT, hPS, hSS, hT1, hS1, hA1, hA2, c2, stAt_topc, ldAt_topc]
    · rcases hF1 with rfl | ⟨rfl, rfl, rfl⟩ <;> rcases hF2 with rfl | rfl | ⟨rfl, rfl, rfl⟩ <;>
        simp +contextual -implicitDefEqProofs (maxSteps := 10000000) only [x6, go_sem, ↓reduceIte, Nat.reduceEqDiff, Nat.reduceAdd, Int.reduceBNe, hl, ux, fx, pv, uv, fv, pr, ur, fr0, pv2, uv2, fv2, pr2, ur2, fr2, pv3, uv3, fv3, pr3, ur3, fr3, uM, dM, fM, uN, dN, fN, hPT, hTT, hPS, hSS, hT1, hS1, hA1, hA2, hB1, hB2, Int.natCast_zero, stAt_topc, ldAt_topc]
end Go.Proofs.YtafeikbbjhmlaaaGreatDoor.Sx.T
