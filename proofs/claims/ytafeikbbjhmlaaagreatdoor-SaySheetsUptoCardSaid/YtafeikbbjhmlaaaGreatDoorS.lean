/- Layer 21, part 1: tables; what their checks and texts are. -/
import Derived.Test.YtafeikbbjhmlaaaGreatDoorA
import Derived.Test.YtafeikbbjhmlaaaGreatDoorV
import Derived.Test.YtafeikbbjhmlaaaGreatDoorTold
set_option linter.unusedVariables false
set_option linter.unusedSimpArgs false
namespace Go.Proofs.YtafeikbbjhmlaaaGreatDoor.Sx.T
open Go Go.Proofs.YtafeikbbjhmlaaaGreatDoor.Sx
set_option maxRecDepth 100000
set_option maxHeartbeats 8000000
def wds (l : List (List UInt8)) : List (List AV) := l.map fun w => [.str w]
theorem wds_len (l : List (List UInt8)) : (wds l).length = l.length := by simp [wds]
theorem wds_get (l : List (List UInt8)) (i : Nat) (h : i < l.length) : (wds l).getD i [] = [.str (l.getD i [])] := by simp [wds, List.getD, h]
structure Rw where
  vl : List Val
  av : AV
instance : Inhabited Rw := ⟨⟨[], .nilsl⟩⟩
def Rw.ok (r : Rw) : Prop := Ls 4 r.av (vals r.vl) ∧ r.vl.length ≤ 9223372036854775806 ∧ ∀ v ∈ r.vl, v.ok
def rws (l : List Rw) : List (List AV) := l.map fun r => [r.av]
theorem rws_len (l : List Rw) : (rws l).length = l.length := by simp [rws]
theorem rws_get (l : List Rw) (i : Nat) (h : i < l.length) : (rws l).getD i [] = [(l.getD i default).av] := by simp [rws, List.getD, h]
theorem Rw.row {r : Rw} (h : r.ok) : IsRow r.av r.vl := by
  rcases h.1 with ⟨h1, h2⟩ | ⟨o, h1, h2⟩
  · exact .inl ⟨h1, by simpa [vals] using h2⟩
  · exact .inr ⟨o, h1, h2⟩
structure Tb where
  vs : List (List UInt8)
  rs : List Rw
  xv : AV
  xr : AV
def Tb.cells (t : Tb) : List AV := [t.xv, t.xr]
def Tb.bulk (t : Tb) : Nat := (t.vs.map fun w => w.length + 1).sum + (t.rs.map fun r => 259 * r.vl.length + 4).sum
def Tb.ok (t : Tb) : Prop := Ls 1 t.xv (wds t.vs) ∧ Ls 1 t.xr (rws t.rs) ∧ (∀ r ∈ t.rs, r.ok) ∧ t.vs.length ≤ 1048576 ∧ t.rs.length ≤ 1048576 ∧ t.bulk ≤ 1000000000
theorem qt_len (s : List UInt8) : (qt s).length ≤ 4 * s.length + 2 := by
  have := flat_len s
  simp only [qt, List.length_cons, List.length_append, List.length_nil]
  omega
theorem prt_len (v : Val) : (prt v).length ≤ 258 := by
  unfold prt
  by_cases hc : chkV v = 0
  · rw [if_neg (by simp [hc])]
    by_cases k1 : v.k = 1
    · rw [if_pos k1]; have := decI_len v.n; omega
    · rw [if_neg k1]
      by_cases k2 : v.k = 2
      · rw [if_pos k2, List.length_append, List.length_cons]; have := decI_len v.n; have := decI_len v.d; omega
      · rw [if_neg k2]
        have h1 := qt_len v.s
        have h2 : v.s.length ≤ 64 := by
          unfold chkV chk at hc
          rw [if_neg k1, if_neg k2] at hc
          split at hc
          · split at hc
            · split at hc
              · assumption
              · cases hc
            · cases hc
          · cases hc
        omega
  · rw [if_pos hc]; simp
/-! ### what is answered -/
def upB : List (List UInt8) → Bool
  | a :: b :: l => bless a b && upB (b :: l)
  | _ => true
def rwE (n : Nat) (r : Rw) : Int := if r.vl.length ≠ n then 1 else vals8 r.vl
def rE (t : Tb) (i : Nat) : Int := if rwE t.vs.length (t.rs.getD i default) ≠ 0 then rwE t.vs.length (t.rs.getD i default) else if 0 < i ∧ 0 ≤ rowcmp (t.rs.getD (i - 1) default).vl (t.rs.getD i default).vl then 1 else 0
def tE (t : Tb) : Int := if 8 < t.vs.length ∨ upB t.vs = false then 30 else firstE (rE t) t.rs.length 0
open Classical in noncomputable def tabE (t : Tb) : Int := if tE t ≠ 0 then tE t else if ∀ i, i < t.vs.length → nameP (t.vs.getD i []) then 0 else 30
def jn (l : List (List UInt8)) : List UInt8 := [32].intercalate l
def rowT (r : Rw) : List UInt8 := 32 :: 40 :: (jn (r.vl.map prt) ++ [41])
def rowsT (l : List Rw) : List UInt8 := l.flatMap rowT
def tabT (t : Tb) : List UInt8 := 40 :: (jn t.vs ++ (41 :: rowsT t.rs))
noncomputable def tabS (t : Tb) : List UInt8 := if tabE t = 0 then tabT t else []
theorem jn_nil : jn [] = [] := rfl
theorem jn_one (w : List UInt8) : jn [w] = w := by simp [jn, List.intercalate, List.intersperse]
theorem jn_cons (a b : List UInt8) (l : List (List UInt8)) : jn (a :: b :: l) = a ++ (32 :: jn (b :: l)) := by simp [jn, List.intercalate, List.intersperse]
theorem jn_snoc : ∀ (l : List (List UInt8)) (w : List UInt8), l ≠ [] → jn (l ++ [w]) = jn l ++ (32 :: w)
  | [], _, h => absurd rfl h
  | [a], w, _ => by rw [List.cons_append, List.nil_append, jn_cons, jn_one, jn_one]
  | a :: b :: l, w, _ => by
    have ih := jn_snoc (b :: l) w (by simp)
    rw [List.cons_append, List.cons_append, jn_cons, ← List.cons_append, ih, jn_cons, List.append_assoc, List.cons_append]
theorem jn_take (l : List (List UInt8)) (i : Nat) (h : i < l.length) : jn (l.take (i + 1)) = if i = 0 then l.getD i [] else jn (l.take i) ++ (32 :: l.getD i []) := by
  rw [List.take_succ_eq_append_getElem h]
  have e : l.getD i [] = l[i] := by simp [List.getD, h]
  by_cases h0 : i = 0
  · subst h0
    rw [if_pos rfl, List.take_zero, List.nil_append, jn_one, e]
  · rw [if_neg h0, jn_snoc _ _ (by intro hh; have h2 := congrArg List.length hh; rw [List.length_take, List.length_nil] at h2; omega), e]
theorem jn_len : ∀ l : List (List UInt8), (jn l).length ≤ (l.map fun w => w.length + 1).sum
  | [] => by simp [jn_nil]
  | [a] => by simp [jn_one]
  | a :: b :: l => by
    have ih := jn_len (b :: l)
    rw [jn_cons, List.map_cons, List.sum_cons, List.length_append, List.length_cons]
    omega
theorem sum_prt : ∀ l : List Val, ((l.map prt).map fun w => w.length + 1).sum ≤ 259 * l.length
  | [] => by simp
  | v :: l => by
    have ih := sum_prt l
    have := prt_len v
    simp only [List.map_cons, List.sum_cons, List.length_cons] at ih ⊢
    omega
theorem rowT_len (r : Rw) : (rowT r).length ≤ 259 * r.vl.length + 3 := by
  have h1 := jn_len (r.vl.map prt)
  have h2 := sum_prt r.vl
  simp only [rowT, List.length_cons, List.length_append, List.length_nil]
  omega
theorem rowsT_take (l : List Rw) (i : Nat) (h : i < l.length) : rowsT (l.take (i + 1)) = rowsT (l.take i) ++ rowT (l.getD i default) := by
  rw [rowsT, List.take_succ_eq_append_getElem h, List.flatMap_append, List.flatMap_singleton]
  simp [rowsT, List.getD, h]
theorem rowsT_len : ∀ l : List Rw, (rowsT l).length ≤ (l.map fun r => 259 * r.vl.length + 4).sum
  | [] => by simp [rowsT]
  | r :: l => by
    have ih := rowsT_len l
    have := rowT_len r
    simp only [rowsT, List.flatMap_cons, List.length_append, List.map_cons, List.sum_cons] at ih ⊢
    omega
theorem sum_take (f : Rw → Nat) : ∀ (l : List Rw) (i : Nat), ((l.take i).map f).sum ≤ (l.map f).sum
  | [], i => by simp
  | r :: l, 0 => by simp
  | r :: l, i + 1 => by
    have := sum_take f l i
    simp only [List.take_succ_cons, List.map_cons, List.sum_cons]
    omega
theorem upB_false {l : List (List UInt8)} (i : Nat) (h0 : 0 < i) (h : i < l.length) (hb : bless (l.getD (i - 1) []) (l.getD i []) = false) : upB l = false := by
  induction l generalizing i with
  | nil => simp at h
  | cons a l ih =>
    cases l with
    | nil => simp at h; omega
    | cons b l =>
      rw [upB]
      match i, h0 with
      | 1, _ => simp at hb; rw [hb]; rfl
      | i + 2, _ =>
        rw [ih (i + 1) (by omega) (by simpa using h) (by simpa using hb), Bool.and_false]
theorem upB_true : ∀ {l : List (List UInt8)}, (∀ i, 0 < i → i < l.length → bless (l.getD (i - 1) []) (l.getD i []) = true) → upB l = true
  | [], _ => rfl
  | [a], _ => rfl
  | a :: b :: l, h => by
    rw [upB, show bless a b = true from h 1 (by omega) (by simp), Bool.true_and]
    exact upB_true fun i h0 hi => by
      obtain ⟨j, rfl⟩ : ∃ j, i = j + 1 := ⟨i - 1, by omega⟩
      have := h (j + 2) (by omega) (by simpa using hi)
      simpa using this
end Go.Proofs.YtafeikbbjhmlaaaGreatDoor.Sx.T
namespace Go.Proofs.YtafeikbbjhmlaaaGreatDoor.Sx.T
open Go Go.Proofs.YtafeikbbjhmlaaaGreatDoor.Sx
set_option maxRecDepth 100000
set_option maxHeartbeats 8000000
theorem strs_geq (x y : List UInt8) : strs .geq x y = some (.bool !(bless x y)) := rfl
theorem up_at {x : AV} {vs : List (List UInt8)} (h : Ls 1 x (wds vs)) (i : Nat) (hi : i < vs.length) : iaddrK 1 x (some i) = some (.elp [.str (vs.getD i [])]) := by
  rw [h.at (by rw [wds_len]; exact hi), wds_get vs i hi]
theorem p_rises (vs : List (List UInt8)) (x : AV) (hx : Ls 1 x (wds vs)) (hl : vs.length ≤ 1048576) (hp : Heap) : CL X GV 46 [x] hp = some (.bool (upB vs), hp) := by
  obtain ⟨p1, u1, n1, d1, f1⟩ := hx.one
  rw [wds_len] at n1
  rw [CL_eq (fn := x46) rfl]
  simp +contextual -implicitDefEqProofs (maxSteps := 10000000) only [x46, go_sem, ↓reduceIte]
  obtain ⟨I, hI⟩ : ∃ I : Nat → List AV → Heap → Prop, ∀ i fr hp', I i fr hp' ↔ (hp' = [] :: hp ∧ fget fr 0 = x ∧ fget fr 3 = .int .i64 ((i + 1 : Nat) : Int) ∧ ∀ j, 0 < j → j < i + 1 → j < vs.length → bless (vs.getD (j - 1) []) (vs.getD j []) = true) := ⟨_, fun _ _ _ => Iff.rfl⟩
  obtain ⟨Q, hQ⟩ : ∃ Q : XExit → List AV → Heap → Prop, ∀ e fr hp', Q e fr hp' ↔ (hp' = [] :: hp ∧ ((e = .exit 0 ∧ upB vs = true) ∨ (e = .ret ∧ upB vs = false ∧ fget fr 2 = .bool false))) := ⟨_, fun _ _ _ => Iff.rfl⟩
  refine LC_upK (vs.length - 1) I Q (fun r => finK _ (seqK (blockK 0 r) _) = _) ?_ ?_ ?_ ?_
  · rw [hI]
    refine ⟨rfl, ?_, ?_, fun j h1 h2 => by omega⟩ <;> simp only [go_sem, ↓reduceIte, reduceCtorEq] <;> rfl
  · intro i hi fr hp' hh
    obtain ⟨rfl, h0, h3, hd⟩ := (hI _ _ _).1 hh
    have k1 : (((i + 1 : Nat) : Int) < (vs.length : Int)) = True := by simp; omega
    have w0 : wr .i64 (((i + 1 : Nat) : Int) - 1) = ((i : Nat) : Int) := by rw [wr_i64 _ (by omega)]; omega
    have w1 : wr .i64 (((i + 1 : Nat) : Int) + 1) = ((i + 1 + 1 : Nat) : Int) := by rw [wr_i64 _ (by omega)]; omega
    have g0 := up_at hx i (by omega)
    have g1 := up_at hx (i + 1) (by omega)
    obtain ⟨q, hq⟩ : ∃ q : Nat, i + 1 = q := ⟨_, rfl⟩
    rw [hq] at k1 w0 w1 g1 h3
    cases hb : bless (vs.getD i []) (vs.getD q []) with
    | true =>
      simp +contextual -implicitDefEqProofs (maxSteps := 10000000) only [x46_l0_run, go_sem, ↓reduceIte, reduceCtorEq, Nat.reduceEqDiff, h0, h3, k1, w0, w1, u1, n1, g0, g1, strs_geq, hb]
      rw [hI]
      refine ⟨rfl, ?_, ?_, fun j h1 h2 h4 => ?_⟩
      · simp only [go_sem, ↓reduceIte, reduceCtorEq, h0]
      · simp only [go_sem, ↓reduceIte, hq]
      · by_cases hj : j = i + 1
        · subst hj
          rw [hq, show q - 1 = i by omega]
          exact hb
        · exact hd j h1 (by omega) h4
    | false =>
      have hup := upB_false (l := vs) q (by omega) (by omega) (by rw [show q - 1 = i by omega]; exact hb)
      simp +contextual -implicitDefEqProofs (maxSteps := 10000000) only [x46_l0_run, go_sem, ↓reduceIte, reduceCtorEq, Nat.reduceEqDiff, h0, h3, k1, w0, u1, n1, g0, g1, strs_geq, hb]
      rw [hQ]
      exact ⟨rfl, .inr ⟨rfl, hup, by simp only [go_sem, ↓reduceIte]⟩⟩
  · intro fr hp' hh
    obtain ⟨rfl, h0, h3, hd⟩ := (hI _ _ _).1 hh
    have hup := upB_true (l := vs) fun i h1 h2 => hd i h1 (by omega) h2
    have k1 : (((vs.length - 1 + 1 : Nat) : Int) < (vs.length : Int)) = False := by simp; omega
    simp +contextual -implicitDefEqProofs (maxSteps := 10000000) only [x46_l0_run, go_sem, ↓reduceIte, reduceCtorEq, Nat.reduceEqDiff, h0, h3, k1, u1, n1]
    rw [hQ]
    exact ⟨rfl, .inl ⟨rfl, hup⟩⟩
  · intro e fr hp' he hh
    rcases (hQ _ _ _).1 hh with ⟨rfl, ⟨rfl, h1⟩ | ⟨rfl, h1, h2⟩⟩
    · rw [h1]
      simp +contextual -implicitDefEqProofs (maxSteps := 10000000) only [go_sem, ↓reduceIte]
    · rw [h1]
      simp +contextual -implicitDefEqProofs (maxSteps := 10000000) only [go_sem, h2]
theorem le_sum_at (f : Rw → Nat) : ∀ (l : List Rw) (i : Nat), i < l.length → f (l.getD i default) ≤ (l.map f).sum
  | [], i, h => by simp at h
  | r :: l, 0, _ => by simp
  | r :: l, i + 1, h => by
    have := le_sum_at f l i (by simpa using h)
    simp only [List.getD_cons_succ, List.map_cons, List.sum_cons]
    omega
theorem row_len {t : Tb} (ht : t.ok) (i : Nat) (hi : i < t.rs.length) : (t.rs.getD i default).vl.length ≤ 1000000000 := by
  have h1 := le_sum_at (fun r => 259 * r.vl.length + 4) t.rs i hi
  have h2 := ht.2.2.2.2.2
  unfold Tb.bulk at h2
  omega
theorem p_checkRow (n : Nat) (r : Rw) (hr : r.ok) (hl : r.vl.length ≤ 1000000000) (hp : Heap) : CL X GV 47 [.int .i64 (n : Nat), r.av] hp = some (.int .i64 (rwE n r), hp) := by
  obtain ⟨hrl, hrn, hro⟩ := hr
  obtain ⟨p1, u1, n1, d1, f1⟩ := hrl.one
  rw [vals_len] at n1
  rw [CL_eq (fn := x47) rfl, rwE]
  by_cases hne : r.vl.length = n
  case neg =>
    have b1 : (((r.vl.length : Nat) : Int) != ((n : Nat) : Int)) = true := by simp; omega
    rw [if_pos hne]
    simp +contextual -implicitDefEqProofs (maxSteps := 10000000) only [x47, go_sem, ↓reduceIte, reduceCtorEq, Nat.reduceEqDiff, u1, n1, b1]
  have b1 : (((r.vl.length : Nat) : Int) != ((n : Nat) : Int)) = false := by simp; omega
  rw [if_neg (by simpa using hne)]
  simp +contextual -implicitDefEqProofs (maxSteps := 10000000) only [x47, go_sem, ↓reduceIte, reduceCtorEq, Nat.reduceEqDiff, u1, n1, b1]
  rw [vals8]
  generalize hE : (fun i => chkV (r.vl.getD i default)) = E
  generalize r.av = x at *
  obtain ⟨I, hI⟩ : ∃ I : Nat → List AV → Heap → Prop, ∀ i fr hp', I i fr hp' ↔ ((∃ L, hp' = L :: hp) ∧ fget fr 12 = x ∧ fget fr 13 = .int .i64 r.vl.length ∧ fget fr 14 = .int .i64 (i : Nat) ∧ firstE E r.vl.length 0 = firstE E (r.vl.length - i) i) := ⟨_, fun _ _ _ => Iff.rfl⟩
  obtain ⟨Q, hQ⟩ : ∃ Q : XExit → List AV → Heap → Prop, ∀ e fr hp', Q e fr hp' ↔ ((∃ L, hp' = L :: hp) ∧ ((e = .exit 0 ∧ firstE E r.vl.length 0 = 0) ∨ (e = .ret ∧ fget fr 4 = .int .i64 (firstE E r.vl.length 0)))) := ⟨_, fun _ _ _ => Iff.rfl⟩
  refine LC_upK r.vl.length I Q (fun r => finK _ (seqK (blockK 0 r) _) = _) ?_ ?_ ?_ ?_
  · rw [hI]
    refine ⟨⟨_, rfl⟩, ?_, ?_, ?_, by rw [Nat.sub_zero]⟩ <;> simp only [go_sem, ↓reduceIte, Nat.reduceEqDiff, Int.natCast_zero]
  · intro i hi fr hp' hh
    obtain ⟨⟨L, rfl⟩, h12, h13, h14, hd⟩ := (hI _ _ _).1 hh
    have k1 : ((i : Int) < (r.vl.length : Int)) = True := by simp; omega
    have g1 := hrl.at (k := i) (by rw [vals_len]; exact hi)
    rw [vals_get r.vl i hi] at g1
    have w1 : wr .i64 ((i : Int) + 1) = ((i + 1 : Nat) : Int) := by rw [wr_i64 _ (by omega)]; omega
    rw [firstE_step _ _ _ hi] at hd
    have vok := hro _ (mem_getD r.vl i hi)
    obtain ⟨e0, he0⟩ : ∃ e, E i = e := ⟨_, rfl⟩
    rw [he0] at hd
    have he1 : e0 = chkV (r.vl.getD i default) := by rw [← he0, ← hE]
    generalize r.vl.getD i default = y at g1 vok he1
    have hck := v_check y.k y.n y.d y.s vok.2.1 vok.2.2
    obtain ⟨k, n2, d, s⟩ := y
    simp only [Val.cells, chkV, vA] at g1 he1 hck
    rw [← he1] at hck
    clear he0 he1
    by_cases c : e0 = 0
    · subst c
      simp +contextual -implicitDefEqProofs (maxSteps := 10000000) only [x47_l0_run, go_sem, ↓reduceIte, Nat.reduceEqDiff, Nat.reduceAdd, Int.reduceBNe, h12, h13, h14, k1, g1, w1, hck, u1, stAt_topc, ldAt_topc]
      rw [hI]
      refine ⟨⟨_, rfl⟩, ?_, ?_, ?_, by rw [hd, if_neg (by simp)]⟩ <;> simp only [go_sem, ↓reduceIte, Nat.reduceEqDiff, h12, h13]
    · have c' : (e0 = 0) = False := by simp [c]
      simp +contextual -implicitDefEqProofs (maxSteps := 10000000) only [x47_l0_run, go_sem, ↓reduceIte, Nat.reduceEqDiff, Nat.reduceAdd, h12, h13, h14, k1, g1, hck, u1, stAt_topc, ldAt_topc, c']
      rw [hQ]
      exact ⟨⟨_, rfl⟩, .inr ⟨rfl, by simp only [go_sem, ↓reduceIte, hd, if_pos c]⟩⟩
  · intro fr hp' hh
    obtain ⟨⟨L, rfl⟩, h12, h13, h14, hd⟩ := (hI _ _ _).1 hh
    simp +contextual -implicitDefEqProofs (maxSteps := 10000000) only [x47_l0_run, go_sem, ↓reduceIte, h13, h14, Int.lt_irrefl]
    rw [hQ]
    exact ⟨⟨_, rfl⟩, .inl ⟨rfl, by rw [hd, Nat.sub_self]; rfl⟩⟩
  · intro e fr hp' he hh
    rcases (hQ _ _ _).1 hh with ⟨⟨L, rfl⟩, ⟨rfl, h1⟩ | ⟨rfl, h1⟩⟩
    · simp +contextual -implicitDefEqProofs (maxSteps := 10000000) only [go_sem, ↓reduceIte, h1]
    · simp +contextual -implicitDefEqProofs (maxSteps := 10000000) only [go_sem, h1]
theorem p_tcheck (t : Tb) (ht : t.ok) : CL X GV 21 [.agg t.cells] [] = some (.int .i64 (tE t), []) := by
  obtain ⟨hxv, hxr, hro, hvl, hrl, _⟩ := id ht
  obtain ⟨pv, uv, nv, dv, fv⟩ := hxv.one
  obtain ⟨pr, ur, nr, dr, fr0⟩ := hxr.one
  rw [wds_len] at nv
  rw [rws_len] at nr
  have hup := p_rises t.vs t.xv hxv hvl
  rw [CL_eq (fn := x21) rfl, tE]
  simp only [Tb.cells]
  by_cases h8 : 8 < t.vs.length
  · have k0 : ((8 : Int) < (t.vs.length : Int)) = True := by simp; omega
    rw [if_pos (.inl h8)]
    simp +contextual -implicitDefEqProofs (maxSteps := 10000000) only [x21, go_sem, ↓reduceIte, Nat.reduceEqDiff, Nat.reduceAdd, pv, uv, nv, pr, ur, k0, ldAt_topc]
  have k0 : ((8 : Int) < (t.vs.length : Int)) = False := by simp; omega
  by_cases hu : upB t.vs = false
  · rw [if_pos (.inr hu)]
    simp +contextual -implicitDefEqProofs (maxSteps := 10000000) only [x21, go_sem, ↓reduceIte, Nat.reduceEqDiff, Nat.reduceAdd, pv, uv, nv, fv, pr, ur, k0, hup, hu, ldAt_topc]
  have hu' : upB t.vs = true := by simpa using hu
  rw [if_neg (by simp [hu']; omega)]
  obtain ⟨C, hC⟩ : ∃ C, [t.xv, t.xr] = C := ⟨_, rfl⟩
  simp +contextual -implicitDefEqProofs (maxSteps := 10000000) only [x21, go_sem, ↓reduceIte, Nat.reduceEqDiff, Nat.reduceAdd, pv, uv, nv, fv, pr, ur, nr, k0, hup, hu', ldAt_topc]
  generalize hE : rE t = E
  obtain ⟨I, hI⟩ : ∃ I : Nat → List AV → Heap → Prop, ∀ i fr hp', I i fr hp' ↔ ((∃ L, hp' = [L] ∧ lcells L 1 0 = some C) ∧ fget fr 1 = .ptr ⟨0, 1, 0⟩ 0 ∧ fget fr 17 = t.xr ∧ fget fr 18 = .int .i64 t.rs.length ∧ fget fr 19 = .int .i64 (i : Nat) ∧ firstE E t.rs.length 0 = firstE E (t.rs.length - i) i) := ⟨_, fun _ _ _ => Iff.rfl⟩
  obtain ⟨Q, hQ⟩ : ∃ Q : XExit → List AV → Heap → Prop, ∀ e fr hp', Q e fr hp' ↔ ((∃ L, hp' = [L]) ∧ ((e = .exit 0 ∧ firstE E t.rs.length 0 = 0) ∨ (e = .ret ∧ fget fr 2 = .int .i64 (firstE E t.rs.length 0)))) := ⟨_, fun _ _ _ => Iff.rfl⟩
  refine LC_upK t.rs.length I Q (fun r => finK _ (seqK (blockK 0 r) _) = _) ?_ ?_ ?_ ?_
  · rw [hI]
    refine ⟨⟨_, rfl, ?_⟩, ?_, ?_, ?_, ?_, by rw [Nat.sub_zero]⟩
    · rw [lcells_put, ← hC]; simp
    all_goals simp only [go_sem, ↓reduceIte, Nat.reduceEqDiff, Int.natCast_zero]
  · intro i hi fr hp' hh
    obtain ⟨⟨L, rfl, hL⟩, h1, h17, h18, h19, hd⟩ := (hI _ _ _).1 hh
    have hL' : lcells L 1 0 = some [t.xv, t.xr] := by rw [hL, ← hC]
    have k1 : ((i : Int) < (t.rs.length : Int)) = True := by simp; omega
    have g1 := hxr.at (k := i) (by rw [rws_len]; exact hi)
    rw [rws_get t.rs i hi] at g1
    have w1 : wr .i64 ((i : Int) + 1) = ((i + 1 : Nat) : Int) := by rw [wr_i64 _ (by omega)]; omega
    rw [firstE_step _ _ _ hi] at hd
    have hrow := hro _ (mem_getD t.rs i hi)
    obtain ⟨e0, he0⟩ : ∃ e, E i = e := ⟨_, rfl⟩
    rw [he0] at hd
    have he1 : e0 = rE t i := by rw [← he0, ← hE]
    rw [rE] at he1
    have hbl : (t.rs.getD i default).vl.length ≤ 1000000000 := row_len ht i hi
    obtain ⟨pw, uw, nw, dw, fw⟩ := hrow.1.one
    have hcr := p_checkRow t.vs.length (t.rs.getD i default) hrow hbl
    obtain ⟨e1, he2⟩ : ∃ e, rwE t.vs.length (t.rs.getD i default) = e := ⟨_, rfl⟩
    rw [he2] at hcr he1
    by_cases c1 : e1 = 0
    case neg =>
      have c1' : (e1 = 0) = False := by simp [c1]
      rw [if_pos c1] at he1
      subst he1
      simp +contextual -implicitDefEqProofs (maxSteps := 10000000) only [x21_l0_run, go_sem, ↓reduceIte, Nat.reduceEqDiff, h1, h17, h18, h19, k1, ur, g1, uw, dw, fw, hL', uv, nv, hcr, c1', ldAt_topc]
      rw [hQ]
      exact ⟨⟨_, rfl⟩, .inr ⟨rfl, by simp only [go_sem, ↓reduceIte, hd, if_pos c1]⟩⟩
    rw [if_neg (by simp [c1])] at he1
    subst c1
    by_cases c0 : i = 0
    · have ci : ((0 : Int) < (i : Int)) = False := by simp; omega
      rw [if_neg (by omega)] at he1
      subst he1
      simp +contextual -implicitDefEqProofs (maxSteps := 10000000) only [x21_l0_run, go_sem, ↓reduceIte, Nat.reduceEqDiff, Int.reduceBNe, h1, h17, h18, h19, k1, w1, ur, g1, uw, dw, fw, hL', uv, nv, hcr, ci, ldAt_topc]
      rw [hI]
      refine ⟨⟨_, rfl, hL⟩, ?_, ?_, ?_, ?_, by rw [hd, if_neg (by simp)]⟩ <;> simp only [go_sem, ↓reduceIte, Nat.reduceEqDiff, h1, h17, h18]
    · have ci : ((0 : Int) < (i : Int)) = True := by simp; omega
      obtain ⟨j, rfl⟩ : ∃ j, i = j + 1 := ⟨i - 1, by omega⟩
      have w0 : wr .i64 (((j + 1 : Nat) : Int) - 1) = ((j : Nat) : Int) := by rw [wr_i64 _ (by omega)]; omega
      have g0 := hxr.at (k := j) (by rw [rws_len]; omega)
      rw [rws_get t.rs j (by omega)] at g0
      have hrow0 := hro _ (mem_getD t.rs j (by omega))
      have hbl0 : (t.rs.getD j default).vl.length ≤ 1000000000 := row_len ht j (by omega)
      obtain ⟨pw0, uw0, nw0, dw0, fw0⟩ := hrow0.1.one
      have hcmp := v_row (t.rs.getD j default).vl (t.rs.getD (j + 1) default).vl _ _ (Rw.row hrow0) (Rw.row hrow) hrow0.2.2 hrow.2.2 (by omega)
      simp only [Nat.add_sub_cancel, Nat.zero_lt_succ, true_and] at he1
      obtain ⟨R, hR⟩ : ∃ R, rowcmp (t.rs.getD j default).vl (t.rs.getD (j + 1) default).vl = R := ⟨_, rfl⟩
      rw [hR] at hcmp he1
      obtain ⟨q, hq⟩ : ∃ q : Nat, j + 1 = q := ⟨_, rfl⟩
      rw [hq] at k1 w0 w1 g1 h19 ci uw dw fw hcr hcmp
      by_cases c2 : 0 ≤ R
      · have c2' : (0 ≤ R) = True := by simp [c2]
        rw [if_pos c2] at he1
        subst he1
        simp +contextual -implicitDefEqProofs (maxSteps := 10000000) only [x21_l0_run, go_sem, ↓reduceIte, Nat.reduceEqDiff, Int.reduceBNe, h1, h17, h18, h19, k1, w0, ur, g1, g0, uw, dw, fw, uw0, fw0, hL', uv, nv, hcr, ci, hcmp, c2', ldAt_topc]
        rw [hQ]
        exact ⟨⟨_, rfl⟩, .inr ⟨rfl, by simp only [go_sem, ↓reduceIte, Int.reduceEq, hd]⟩⟩
      · have c2' : (0 ≤ R) = False := by simp [c2]
        rw [if_neg c2] at he1
        subst he1
        simp +contextual -implicitDefEqProofs (maxSteps := 10000000) only [x21_l0_run, go_sem, ↓reduceIte, Nat.reduceEqDiff, Int.reduceBNe, h1, h17, h18, h19, k1, w1, w0, ur, g1, g0, uw, dw, fw, uw0, fw0, hL', uv, nv, hcr, ci, hcmp, c2', ldAt_topc]
        rw [hI]
        refine ⟨⟨_, rfl, hL⟩, ?_, ?_, ?_, ?_, by rw [hd, if_neg (by simp)]⟩ <;> simp only [go_sem, ↓reduceIte, Nat.reduceEqDiff, h1, h17, h18, hq]
  · intro fr hp' hh
    obtain ⟨⟨L, rfl, hL⟩, h1, h17, h18, h19, hd⟩ := (hI _ _ _).1 hh
    simp +contextual -implicitDefEqProofs (maxSteps := 10000000) only [x21_l0_run, go_sem, ↓reduceIte, h18, h19, Int.lt_irrefl]
    rw [hQ]
    exact ⟨⟨_, rfl⟩, .inl ⟨rfl, by rw [hd, Nat.sub_self]; rfl⟩⟩
  · intro e fr hp' he hh
    rcases (hQ _ _ _).1 hh with ⟨⟨L, rfl⟩, ⟨rfl, h1⟩ | ⟨rfl, h1⟩⟩
    · simp +contextual -implicitDefEqProofs (maxSteps := 10000000) only [go_sem, ↓reduceIte, h1]
    · simp +contextual -implicitDefEqProofs (maxSteps := 10000000) only [go_sem, h1]
end Go.Proofs.YtafeikbbjhmlaaaGreatDoor.Sx.T
namespace Go.Proofs.YtafeikbbjhmlaaaGreatDoor.Sx.T
open Go Go.Proofs.YtafeikbbjhmlaaaGreatDoor.Sx
set_option maxRecDepth 100000
set_option maxHeartbeats 8000000
theorem p_rvalues (l : List Val) (x : AV) (hx : Ls 4 x (vals l)) (ho : ∀ v ∈ l, v.ok) (hl : l.length ≤ 1000000000) (hp : Heap) : CL X GV 54 [x] hp = some (.int .i64 (vals8 l), hp) := by
  obtain ⟨p1, u1, n1, d1, f1⟩ := hx.one
  rw [vals_len] at n1
  rw [CL_eq (fn := x54) rfl, vals8]
  simp +contextual -implicitDefEqProofs (maxSteps := 10000000) only [x54, go_sem, ↓reduceIte]
  generalize hE : (fun i => chkV (l.getD i default)) = E
  obtain ⟨I, hI⟩ : ∃ I : Nat → List AV → Heap → Prop, ∀ i fr hp', I i fr hp' ↔ ((∃ L, hp' = L :: hp) ∧ fget fr 0 = x ∧ fget fr 3 = .int .i64 (i : Nat) ∧ firstE E l.length 0 = firstE E (l.length - i) i) := ⟨_, fun _ _ _ => Iff.rfl⟩
  obtain ⟨Q, hQ⟩ : ∃ Q : XExit → List AV → Heap → Prop, ∀ e fr hp', Q e fr hp' ↔ ((∃ L, hp' = L :: hp) ∧ ((e = .exit 0 ∧ firstE E l.length 0 = 0) ∨ (e = .ret ∧ fget fr 2 = .int .i64 (firstE E l.length 0)))) := ⟨_, fun _ _ _ => Iff.rfl⟩
  refine LC_upK l.length I Q (fun r => finK _ (seqK (blockK 0 r) _) = _) ?_ ?_ ?_ ?_
  · rw [hI]
    refine ⟨⟨_, rfl⟩, ?_, ?_, by rw [Nat.sub_zero]⟩
    all_goals simp only [go_sem, ↓reduceIte, reduceCtorEq, Int.natCast_zero]
  · intro i hi fr hp' hh
    obtain ⟨⟨L, rfl⟩, h0, h3, hd⟩ := (hI _ _ _).1 hh
    have k1 : ((i : Int) < (l.length : Int)) = True := by simp; omega
    have g1 := hx.at (k := i) (by rw [vals_len]; exact hi)
    rw [vals_get l i hi] at g1
    have w1 : wr .i64 ((i : Int) + 1) = ((i + 1 : Nat) : Int) := by rw [wr_i64 _ (by omega)]; omega
    rw [firstE_step _ _ _ hi] at hd
    have vok := ho _ (mem_getD l i hi)
    obtain ⟨e0, he0⟩ : ∃ e, E i = e := ⟨_, rfl⟩
    rw [he0] at hd
    have he1 : e0 = chkV (l.getD i default) := by rw [← he0, ← hE]
    generalize l.getD i default = y at g1 vok he1
    have hck := v_rcheck y.k y.n y.d y.s vok.2.1 vok.2.2
    obtain ⟨k, n2, d, s⟩ := y
    simp only [Val.cells, chkV, vA] at g1 he1 hck
    rw [← he1] at hck
    clear he0 he1
    by_cases c : e0 = 0
    · subst c
      simp +contextual -implicitDefEqProofs (maxSteps := 10000000) only [x54_l0_run, go_sem, ↓reduceIte, reduceCtorEq, Nat.reduceEqDiff, Nat.reduceAdd, Int.reduceBNe, h0, h3, k1, g1, w1, hck, u1, n1]
      rw [hI]
      refine ⟨⟨_, rfl⟩, ?_, ?_, by rw [hd, if_neg (by simp)]⟩ <;> simp only [go_sem, ↓reduceIte, reduceCtorEq, h0]
    · have c' : (e0 = 0) = False := by simp [c]
      simp +contextual -implicitDefEqProofs (maxSteps := 10000000) only [x54_l0_run, go_sem, ↓reduceIte, reduceCtorEq, Nat.reduceEqDiff, Nat.reduceAdd, h0, h3, k1, g1, hck, u1, n1, c']
      rw [hQ]
      exact ⟨⟨_, rfl⟩, .inr ⟨rfl, by simp only [go_sem, ↓reduceIte, hd, if_pos c]⟩⟩
  · intro fr hp' hh
    obtain ⟨⟨L, rfl⟩, h0, h3, hd⟩ := (hI _ _ _).1 hh
    simp +contextual -implicitDefEqProofs (maxSteps := 10000000) only [x54_l0_run, go_sem, ↓reduceIte, reduceCtorEq, Nat.reduceEqDiff, h0, h3, u1, n1, Int.lt_irrefl]
    rw [hQ]
    exact ⟨⟨_, rfl⟩, .inl ⟨rfl, by rw [hd, Nat.sub_self]; rfl⟩⟩
  · intro e fr hp' he hh
    rcases (hQ _ _ _).1 hh with ⟨⟨L, rfl⟩, ⟨rfl, h1⟩ | ⟨rfl, h1⟩⟩
    · simp +contextual -implicitDefEqProofs (maxSteps := 10000000) only [go_sem, ↓reduceIte, h1]
    · simp +contextual -implicitDefEqProofs (maxSteps := 10000000) only [go_sem, h1]
theorem l_rrises (t : Tb) (ht : t.ok) {fr : List AV} {L : Level} (K : Option (XExit × St) → Prop)
    (h1 : fget fr 1 = .ptr ⟨0, 1, 0⟩ 0) (h3 : fget fr 3 = .int .i64 1) (hL : lcells L 1 0 = some [t.xv, t.xr])
    (hk0 : upB t.vs = true → ∀ fr', fget fr' 1 = .ptr ⟨0, 1, 0⟩ 0 → K (some (.exit 0, ⟨fr', [L]⟩)))
    (hk1 : upB t.vs = false → ∀ fr', fget fr' 2 = .int .i64 30 → K (some (.ret, ⟨fr', [L]⟩))) : K (LC X GV (.loop x28_l0) ⟨fr, [L]⟩) := by
  obtain ⟨hxv, hxr, hro, hvl, hrl, _⟩ := id ht
  obtain ⟨pv, uv, nv, dv, fv⟩ := hxv.one
  rw [wds_len] at nv
  obtain ⟨I, hI⟩ : ∃ I : Nat → List AV → Heap → Prop, ∀ i fr hp', I i fr hp' ↔ (hp' = [L] ∧ fget fr 1 = .ptr ⟨0, 1, 0⟩ 0 ∧ fget fr 3 = .int .i64 ((i + 1 : Nat) : Int) ∧ ∀ j, 0 < j → j < i + 1 → j < t.vs.length → bless (t.vs.getD (j - 1) []) (t.vs.getD j []) = true) := ⟨_, fun _ _ _ => Iff.rfl⟩
  obtain ⟨Q, hQ⟩ : ∃ Q : XExit → List AV → Heap → Prop, ∀ e fr hp', Q e fr hp' ↔ (hp' = [L] ∧ ((e = .exit 0 ∧ upB t.vs = true ∧ fget fr 1 = .ptr ⟨0, 1, 0⟩ 0) ∨ (e = .ret ∧ upB t.vs = false ∧ fget fr 2 = .int .i64 30))) := ⟨_, fun _ _ _ => Iff.rfl⟩
  refine LC_upK (t.vs.length - 1) I Q K ?_ ?_ ?_ ?_
  · rw [hI]
    exact ⟨rfl, h1, h3, fun j h1 h2 => by omega⟩
  · intro i hi fr hp' hh
    obtain ⟨rfl, h1, h3, hd⟩ := (hI _ _ _).1 hh
    have k1 : (((i + 1 : Nat) : Int) < (t.vs.length : Int)) = True := by simp; omega
    have w0 : wr .i64 (((i + 1 : Nat) : Int) - 1) = ((i : Nat) : Int) := by rw [wr_i64 _ (by omega)]; omega
    have w1 : wr .i64 (((i + 1 : Nat) : Int) + 1) = ((i + 1 + 1 : Nat) : Int) := by rw [wr_i64 _ (by omega)]; omega
    have g0 := up_at hxv i (by omega)
    have g1 := up_at hxv (i + 1) (by omega)
    obtain ⟨q, hq⟩ : ∃ q : Nat, i + 1 = q := ⟨_, rfl⟩
    rw [hq] at k1 w0 w1 g1 h3
    cases hb : bless (t.vs.getD i []) (t.vs.getD q []) with
    | true =>
      simp +contextual -implicitDefEqProofs (maxSteps := 10000000) only [x28_l0_run, go_sem, ↓reduceIte, Nat.reduceEqDiff, h1, h3, hL, k1, w0, w1, uv, nv, g0, g1, strs_geq, hb, ldAt_topc]
      rw [hI]
      refine ⟨rfl, ?_, ?_, fun j h1 h2 h4 => ?_⟩
      · simp only [go_sem, ↓reduceIte, Nat.reduceEqDiff, h1]
      · simp only [go_sem, ↓reduceIte, hq]
      · by_cases hj : j = i + 1
        · subst hj
          rw [hq, show q - 1 = i by omega]
          exact hb
        · exact hd j h1 (by omega) h4
    | false =>
      have hup := upB_false (l := t.vs) q (by omega) (by omega) (by rw [show q - 1 = i by omega]; exact hb)
      simp +contextual -implicitDefEqProofs (maxSteps := 10000000) only [x28_l0_run, go_sem, ↓reduceIte, Nat.reduceEqDiff, h1, h3, hL, k1, w0, uv, nv, g0, g1, strs_geq, hb, ldAt_topc]
      rw [hQ]
      exact ⟨rfl, .inr ⟨rfl, hup, by simp only [go_sem, ↓reduceIte]⟩⟩
  · intro fr hp' hh
    obtain ⟨rfl, h1, h3, hd⟩ := (hI _ _ _).1 hh
    have hup := upB_true (l := t.vs) fun i h1 h2 => hd i h1 (by omega) h2
    have k1 : (((t.vs.length - 1 + 1 : Nat) : Int) < (t.vs.length : Int)) = False := by simp; omega
    simp +contextual -implicitDefEqProofs (maxSteps := 10000000) only [x28_l0_run, go_sem, ↓reduceIte, Nat.reduceEqDiff, h1, h3, hL, k1, uv, nv, ldAt_topc]
    rw [hQ]
    exact ⟨rfl, .inl ⟨rfl, hup, by simp only [go_sem, ↓reduceIte, Nat.reduceEqDiff, h1]⟩⟩
  · intro e fr hp' he hh
    rcases (hQ _ _ _).1 hh with ⟨rfl, ⟨rfl, a1, a2⟩ | ⟨rfl, a1, a2⟩⟩
    · exact hk0 a1 fr a2
    · exact hk1 a1 fr a2
theorem p_rtcheck (t : Tb) (ht : t.ok) : CL X GV 28 [.agg t.cells] [] = some (.int .i64 (tE t), []) := by
  obtain ⟨hxv, hxr, hro, hvl, hrl, _⟩ := id ht
  obtain ⟨pv, uv, nv, dv, fv⟩ := hxv.one
  obtain ⟨pr, ur, nr, dr, fr0⟩ := hxr.one
  rw [wds_len] at nv
  rw [rws_len] at nr
  rw [CL_eq (fn := x28) rfl, tE]
  simp only [Tb.cells]
  by_cases h8 : 8 < t.vs.length
  · have k0 : ((8 : Int) < (t.vs.length : Int)) = True := by simp; omega
    rw [if_pos (.inl h8)]
    simp +contextual -implicitDefEqProofs (maxSteps := 10000000) only [x28, go_sem, ↓reduceIte, Nat.reduceEqDiff, Nat.reduceAdd, pv, uv, nv, pr, ur, k0, ldAt_topc]
  have k0 : ((8 : Int) < (t.vs.length : Int)) = False := by simp; omega
  simp +contextual -implicitDefEqProofs (maxSteps := 10000000) only [x28, go_sem, ↓reduceIte, Nat.reduceEqDiff, Nat.reduceAdd, pv, uv, nv, pr, ur, k0, ldAt_topc]
  refine l_rrises t ht (fun r => finK _ (seqK (blockK 0 r) _) = _) ?_ ?_ ?_ ?_ ?_
  · simp only [go_sem, ↓reduceIte, Nat.reduceEqDiff]
  · simp only [go_sem, ↓reduceIte]
  · rw [lcells_put]; simp
  · intro hu fr g1
    rw [if_neg (by simp [hu]; omega)]
    obtain ⟨C, hC⟩ : ∃ C, [t.xv, t.xr] = C := ⟨_, rfl⟩
    simp +contextual -implicitDefEqProofs (maxSteps := 10000000) only [go_sem, ↓reduceIte]
    generalize hE : rE t = E
    obtain ⟨I, hI⟩ : ∃ I : Nat → List AV → Heap → Prop, ∀ i fr hp', I i fr hp' ↔ ((∃ L, hp' = [L] ∧ lcells L 1 0 = some C) ∧ fget fr 1 = .ptr ⟨0, 1, 0⟩ 0 ∧ fget fr 4 = .int .i64 (i : Nat) ∧ firstE E t.rs.length 0 = firstE E (t.rs.length - i) i) := ⟨_, fun _ _ _ => Iff.rfl⟩
    obtain ⟨Q, hQ⟩ : ∃ Q : XExit → List AV → Heap → Prop, ∀ e fr hp', Q e fr hp' ↔ ((∃ L, hp' = [L]) ∧ ((e = .exit 2 ∧ firstE E t.rs.length 0 = 0) ∨ (e = .ret ∧ fget fr 2 = .int .i64 (firstE E t.rs.length 0)))) := ⟨_, fun _ _ _ => Iff.rfl⟩
    refine LC_upK t.rs.length I Q (fun r => finK _ (seqK (blockK 2 r) _) = _) ?_ ?_ ?_ ?_
    · rw [hI]
      refine ⟨⟨_, rfl, ?_⟩, ?_, ?_, by rw [Nat.sub_zero]⟩
      · rw [lcells_put, ← hC]; simp
      all_goals simp only [go_sem, ↓reduceIte, Nat.reduceEqDiff, g1, Int.natCast_zero]
    · intro i hi fr hp' hh
      obtain ⟨⟨L, rfl, hL⟩, h1, h4, hd⟩ := (hI _ _ _).1 hh
      have hL' : lcells L 1 0 = some [t.xv, t.xr] := by rw [hL, ← hC]
      have k1 : ((i : Int) < (t.rs.length : Int)) = True := by simp; omega
      have g1 := hxr.at (k := i) (by rw [rws_len]; exact hi)
      rw [rws_get t.rs i hi] at g1
      have w1 : wr .i64 ((i : Int) + 1) = ((i + 1 : Nat) : Int) := by rw [wr_i64 _ (by omega)]; omega
      rw [firstE_step _ _ _ hi] at hd
      have hrow := hro _ (mem_getD t.rs i hi)
      obtain ⟨e0, he0⟩ : ∃ e, E i = e := ⟨_, rfl⟩
      rw [he0] at hd
      have he1 : e0 = rE t i := by rw [← he0, ← hE]
      rw [rE] at he1
      have hbl : (t.rs.getD i default).vl.length ≤ 1000000000 := row_len ht i hi
      obtain ⟨pw, uw, nw, dw, fw⟩ := hrow.1.one
      rw [vals_len] at nw
      have hcr := p_rvalues (t.rs.getD i default).vl (t.rs.getD i default).av hrow.1 hrow.2.2 hbl
      by_cases hn : (t.rs.getD i default).vl.length = t.vs.length
      case neg =>
        have b1 : (((t.rs.getD i default).vl.length : Nat) : Int) ≠ ((t.vs.length : Nat) : Int) := by omega
        have b2 : ((((t.rs.getD i default).vl.length : Nat) : Int) != ((t.vs.length : Nat) : Int)) = true := by rw [bne_iff_ne]; omega
        have hre : rwE t.vs.length (t.rs.getD i default) = 1 := by rw [rwE, if_pos hn]
        rw [hre, if_pos (by decide)] at he1
        subst he1
        simp +contextual -implicitDefEqProofs (maxSteps := 10000000) only [x28_l1_run, go_sem, ↓reduceIte, Nat.reduceEqDiff, h1, h4, k1, ur, nr, g1, uw, nw, hL', uv, nv, b2, ldAt_topc]
        rw [hQ]
        exact ⟨⟨_, rfl⟩, .inr ⟨rfl, by simp only [go_sem, ↓reduceIte, Int.reduceEq, hd]⟩⟩
      have b2 : ((((t.rs.getD i default).vl.length : Nat) : Int) != ((t.vs.length : Nat) : Int)) = false := by rw [hn]; simp
      have hre : rwE t.vs.length (t.rs.getD i default) = vals8 (t.rs.getD i default).vl := by rw [rwE, if_neg (by rw [hn]; simp)]
      rw [hre] at he1
      obtain ⟨e1, he2⟩ : ∃ e, vals8 (t.rs.getD i default).vl = e := ⟨_, rfl⟩
      rw [he2] at hcr he1
      by_cases c1 : e1 = 0
      case neg =>
        have c1' : (e1 = 0) = False := by simp [c1]
        rw [if_pos c1] at he1
        subst he1
        simp +contextual -implicitDefEqProofs (maxSteps := 10000000) only [x28_l1_run, go_sem, ↓reduceIte, Nat.reduceEqDiff, h1, h4, k1, ur, nr, g1, uw, nw, fw, hL', uv, nv, b2, hcr, c1', ldAt_topc]
        rw [hQ]
        exact ⟨⟨_, rfl⟩, .inr ⟨rfl, by simp only [go_sem, ↓reduceIte, hd, if_pos c1]⟩⟩
      rw [if_neg (by simp [c1])] at he1
      subst c1
      by_cases c0 : i = 0
      · have ci : ((0 : Int) < (i : Int)) = False := by simp; omega
        rw [if_neg (by omega)] at he1
        subst he1
        simp +contextual -implicitDefEqProofs (maxSteps := 10000000) only [x28_l1_run, go_sem, ↓reduceIte, Nat.reduceEqDiff, Int.reduceBNe, h1, h4, k1, w1, ur, nr, g1, uw, nw, fw, hL', uv, nv, b2, hcr, ci, ldAt_topc]
        rw [hI]
        refine ⟨⟨_, rfl, hL⟩, ?_, ?_, by rw [hd, if_neg (by simp)]⟩ <;> simp only [go_sem, ↓reduceIte, Nat.reduceEqDiff, h1]
      · have ci : ((0 : Int) < (i : Int)) = True := by simp; omega
        obtain ⟨j, rfl⟩ : ∃ j, i = j + 1 := ⟨i - 1, by omega⟩
        have w0 : wr .i64 (((j + 1 : Nat) : Int) - 1) = ((j : Nat) : Int) := by rw [wr_i64 _ (by omega)]; omega
        have g0 := hxr.at (k := j) (by rw [rws_len]; omega)
        rw [rws_get t.rs j (by omega)] at g0
        have hrow0 := hro _ (mem_getD t.rs j (by omega))
        have hbl0 : (t.rs.getD j default).vl.length ≤ 1000000000 := row_len ht j (by omega)
        obtain ⟨pw0, uw0, nw0, dw0, fw0⟩ := hrow0.1.one
        have hcmp := v_rrow (t.rs.getD j default).vl (t.rs.getD (j + 1) default).vl _ _ (Rw.row hrow0) (Rw.row hrow) hrow0.2.2 hrow.2.2 (by omega)
        simp only [Nat.add_sub_cancel, Nat.zero_lt_succ, true_and] at he1
        obtain ⟨R, hR⟩ : ∃ R, rowcmp (t.rs.getD j default).vl (t.rs.getD (j + 1) default).vl = R := ⟨_, rfl⟩
        rw [hR] at hcmp he1
        obtain ⟨q, hq⟩ : ∃ q : Nat, j + 1 = q := ⟨_, rfl⟩
        rw [hq] at k1 w0 w1 g1 h4 ci uw nw dw fw hcr hcmp b2
        by_cases c2 : 0 ≤ R
        · have c2' : (0 ≤ R) = True := by simp [c2]
          rw [if_pos c2] at he1
          subst he1
          simp +contextual -implicitDefEqProofs (maxSteps := 10000000) only [x28_l1_run, go_sem, ↓reduceIte, Nat.reduceEqDiff, Int.reduceBNe, h1, h4, k1, w0, ur, nr, g1, g0, uw, nw, fw, uw0, fw0, hL', uv, nv, b2, hcr, ci, hcmp, c2', ldAt_topc]
          rw [hQ]
          exact ⟨⟨_, rfl⟩, .inr ⟨rfl, by simp only [go_sem, ↓reduceIte, Int.reduceEq, hd]⟩⟩
        · have c2' : (0 ≤ R) = False := by simp [c2]
          rw [if_neg c2] at he1
          subst he1
          simp +contextual -implicitDefEqProofs (maxSteps := 10000000) only [x28_l1_run, go_sem, ↓reduceIte, Nat.reduceEqDiff, Int.reduceBNe, h1, h4, k1, w1, w0, ur, nr, g1, g0, uw, nw, fw, uw0, fw0, hL', uv, nv, b2, hcr, ci, hcmp, c2', ldAt_topc]
          rw [hI]
          refine ⟨⟨_, rfl, hL⟩, ?_, ?_, by rw [hd, if_neg (by simp)]⟩ <;> simp only [go_sem, ↓reduceIte, Nat.reduceEqDiff, h1, hq]
    · intro fr hp' hh
      obtain ⟨⟨L, rfl, hL⟩, h1, h4, hd⟩ := (hI _ _ _).1 hh
      have hL' : lcells L 1 0 = some [t.xv, t.xr] := by rw [hL, ← hC]
      simp +contextual -implicitDefEqProofs (maxSteps := 10000000) only [x28_l1_run, go_sem, ↓reduceIte, Nat.reduceEqDiff, h1, h4, hL', ur, nr, Int.lt_irrefl, ldAt_topc]
      rw [hQ]
      exact ⟨⟨_, rfl⟩, .inl ⟨rfl, by rw [hd, Nat.sub_self]; rfl⟩⟩
    · intro e fr hp' he hh
      rcases (hQ _ _ _).1 hh with ⟨⟨L, rfl⟩, ⟨rfl, h1⟩ | ⟨rfl, h1⟩⟩
      · simp +contextual -implicitDefEqProofs (maxSteps := 10000000) only [go_sem, ↓reduceIte, h1]
      · simp +contextual -implicitDefEqProofs (maxSteps := 10000000) only [go_sem, h1]
  · intro hu fr g2
    rw [if_pos (.inr (by simp [hu]))]
    simp +contextual -implicitDefEqProofs (maxSteps := 10000000) only [go_sem, g2]
end Go.Proofs.YtafeikbbjhmlaaaGreatDoor.Sx.T
namespace Go.Proofs.YtafeikbbjhmlaaaGreatDoor.Sx.T
open Go Go.Proofs.YtafeikbbjhmlaaaGreatDoor.Sx
set_option maxRecDepth 100000
set_option maxHeartbeats 8000000
theorem strsOf_wds : ∀ l : List (List UInt8), strsOf (wds l) = some l
  | [] => rfl
  | w :: l => by
    have ih := strsOf_wds l
    simp only [wds, List.map_cons] at ih ⊢
    simp only [strsOf, ih]
theorem lstR_ls {x : AV} {es : List (List AV)} (h : Ls 1 x es) : lstR x = some es := by
  rcases h with ⟨rfl, rfl⟩ | ⟨o, ho, rfl⟩
  · rfl
  · rcases ho with rfl | rfl <;> rfl
theorem pJ (x : AV) (ws : List (List UInt8)) (h : Ls 1 x (wds ws)) (h1 : ws.length ≤ 140737488355328) (h2 : (jn ws).length ≤ 140737488355328) : primX 8 [x, .str [32]] = some (.str (jn ws)) := by
  simp only [primX, lstR_ls h, strsOf_wds]
  exact if_pos ⟨h1, h2⟩
theorem p_bw2 (L : Level) (s v : Nat) (str : List UInt8) : CL X GV 35 [.ptr ⟨0, s, v⟩ 0, .str str] [[], L] = match bwK 56005 s v str L [] (lbld L s v) with | some (a, h) => some (a, [] :: h) | none => none := by
  have h1 := hp_writeK (l := L) (h := []) (n := 0) (s := s) (v := v) (id := 56005) (str := str) rfl (by decide)
  rw [CL_spec (1000000 + 56005) (fn := x35) rfl rfl, ← h1]
  have h2 : hget [[], L] ⟨0, s, v⟩ = hget [L] ⟨0, s, v⟩ := rfl
  unfold hprimX
  simp only [h2]
  split
  · split
    · split
      · rfl
      · rfl
    · rfl
  · rfl
theorem p_bs (L : Level) (s v : Nat) : CL X GV 27 [.ptr ⟨0, s, v⟩ 0] [L] = bsK 56005 s v L [] (lbld L s v) := by
  rw [CL_spec (2000000 + 56005) (fn := x27) rfl rfl]
  exact hp_stringK rfl (by decide)
theorem p_put (L : Level) (s v : Nat) (a b P : List UInt8) (x : AV) (ws : List (List UInt8)) (hx : Ls 1 x (wds ws)) (hL : lbld L s v = some (56, 5, P)) (h1 : ws.length ≤ 1000000000) (h2 : (jn ws).length ≤ 2000000000) (h3 : P.length ≤ 4000000000) (h4 : a.length ≤ 2) (h5 : b.length ≤ 2) :
    CL X GV 25 [.ptr ⟨0, s, v⟩ 0, .str a, .str b, x] [L] = some (.tup [], [lputb L s v 56 5 (P ++ (a ++ jn ws ++ b))]) := by
  obtain ⟨p1, u1, n1, d1, f1⟩ := hx.one
  have hj := pJ x ws hx (by omega) (by omega)
  have hbw := p_bw2 L s v
  have b1 : (a.length + (jn ws).length ≤ 140737488355328) = True := by simp; omega
  have b2 : ((a ++ jn ws).length + b.length ≤ 140737488355328) = True := by simp only [List.length_append, eq_iff_iff, iff_true]; omega
  have b3 : (P.length + (a ++ jn ws ++ b).length ≤ 140737488355328) = True := by simp only [List.length_append, eq_iff_iff, iff_true]; omega
  rw [CL_eq (fn := x25) rfl]
  simp +contextual -implicitDefEqProofs (maxSteps := 10000000) only [x25, go_sem, ↓reduceIte, Nat.reduceEqDiff, Nat.reduceAdd, Nat.reduceMul, u1, hj, hbw, hL, bwK_some, b1, b2, b3, o_callw, cwK_top]
end Go.Proofs.YtafeikbbjhmlaaaGreatDoor.Sx.T
namespace Go.Proofs.YtafeikbbjhmlaaaGreatDoor.Sx.T
open Go Go.Proofs.YtafeikbbjhmlaaaGreatDoor.Sx
set_option maxRecDepth 100000
set_option maxHeartbeats 8000000
def ol : List (List AV) → AV
  | [] => .nilsl
  | e :: l => .lst .own 1 (e :: l)
theorem ol_cons (l : List (List AV)) (e : List AV) : ol (l ++ [e]) = .lst .own 1 (l ++ [e]) := by
  cases l <;> rfl
theorem ol_ls (l : List (List AV)) : Ls 1 (uf (ol l)) l := by
  cases l with
  | nil => exact .inl ⟨rfl, rfl⟩
  | cons e l => exact .inr ⟨.none, .inl rfl, rfl⟩
theorem take_snoc {α : Type} (l : List α) (i : Nat) (d : α) (h : i < l.length) : l.take (i + 1) = l.take i ++ [l.getD i d] := by
  rw [List.take_succ_eq_append_getElem h]
  simp [List.getD, h]
theorem wds_snoc (l : List (List UInt8)) (w : List UInt8) : wds (l ++ [w]) = wds l ++ [[.str w]] := by simp [wds]
theorem p_idxS (vs : List (List UInt8)) (p : List UInt8 → Bool) (f : Nat) (ds cs : List AV) (v : AV) (hl : Ls 1 v (wds vs)) (hm : vs.length ≤ 9223372036854775806) (hp : Heap)
    (hf : ∀ k ∈ vs, CL X GV f ((ds ++ [AV.str k] ++ cs).map uf) ([] :: hp) = some (.bool (p k), [] :: hp)) :
    CL X GV 49 [v, .fn f ds cs] hp = some (.int .i64 (idxG p vs 0), hp) := by
  obtain ⟨p1, u1, n1, d1, f1⟩ := hl.one
  rw [wds_len] at n1
  rw [CL_eq (fn := x49) rfl]
  simp +contextual -implicitDefEqProofs (maxSteps := 10000000) only [x49, go_sem, ↓reduceIte, reduceCtorEq, Int.reduceNeg, u1, n1]
  obtain ⟨I, hI⟩ : ∃ I : Nat → List AV → Heap → Prop, ∀ i fr hp', I i fr hp' ↔ (hp' = [] :: hp ∧ fget fr 0 = v ∧ fget fr 1 = .fn f ds cs ∧ fget fr 7 = .int .i64 vs.length ∧ fget fr 8 = .int .i64 (i : Nat) ∧ idxG p vs 0 = idxG p (vs.drop i) i) := ⟨_, fun _ _ _ => Iff.rfl⟩
  obtain ⟨Q, hQ⟩ : ∃ Q : XExit → List AV → Heap → Prop, ∀ e fr hp', Q e fr hp' ↔ (hp' = [] :: hp ∧ ((e = .exit 0 ∧ idxG p vs 0 = -1) ∨ (e = .ret ∧ fget fr 4 = .int .i64 (idxG p vs 0)))) := ⟨_, fun _ _ _ => Iff.rfl⟩
  refine LC_upK vs.length I Q (fun r => finK _ (seqK (blockK 0 r) _) = _) ?_ ?_ ?_ ?_
  · rw [hI]
    refine ⟨rfl, ?_, ?_, ?_, ?_, by rw [List.drop_zero]⟩ <;> simp only [go_sem, ↓reduceIte, reduceCtorEq, Nat.reduceEqDiff, Int.natCast_zero]
  · intro i hi fr hp' h
    obtain ⟨rfl, h0, h1, h7, h8, hd⟩ := (hI _ _ _).1 h
    have k1 : ((i : Int) < (vs.length : Int)) = True := by simp; omega
    have g1 := up_at hl i hi
    have hmem : vs.getD i [] ∈ vs := by simp [List.getD, hi]
    have w1 : wr .i64 ((i : Int) + 1) = ((i + 1 : Nat) : Int) := by rw [wr_i64 _ (by omega)]; omega
    have hw := hf _ hmem
    have hd0 : idxG p (vs.drop i) i = if p (vs.getD i []) then (i : Int) else idxG p (vs.drop (i + 1)) (i + 1) := idxG_drop p vs i hi
    rw [hd0] at hd
    by_cases c : p (vs.getD i []) = true
    · rw [c] at hw
      simp +contextual -implicitDefEqProofs (maxSteps := 10000000) only [x49_l0_run, go_sem, ↓reduceIte, reduceCtorEq, Nat.reduceEqDiff, h0, h1, h7, h8, k1, g1, hw, o_calld, cwK_same, u1]
      rw [hQ]
      refine ⟨rfl, .inr ⟨rfl, ?_⟩⟩
      simp only [go_sem, ↓reduceIte, hd, c]
    · have c2 : p (vs.getD i []) = false := by simpa using c
      rw [c2] at hw
      simp +contextual -implicitDefEqProofs (maxSteps := 10000000) only [x49_l0_run, go_sem, ↓reduceIte, reduceCtorEq, Nat.reduceEqDiff, h0, h1, h7, h8, k1, g1, w1, hw, o_calld, cwK_same, u1]
      rw [hI]
      refine ⟨rfl, ?_, ?_, ?_, ?_, by rw [hd, if_neg c]⟩ <;> simp only [go_sem, ↓reduceIte, reduceCtorEq, Nat.reduceEqDiff, h0, h1, h7]
  · intro fr hp' h
    obtain ⟨rfl, h0, h1, h7, h8, hd⟩ := (hI _ _ _).1 h
    simp +contextual -implicitDefEqProofs (maxSteps := 10000000) only [x49_l0_run, go_sem, ↓reduceIte, h7, h8, Int.lt_irrefl]
    rw [hQ]
    exact ⟨rfl, .inl ⟨rfl, by rw [hd, List.drop_length]; rfl⟩⟩
  · intro e fr hp' he h
    rcases (hQ _ _ _).1 h with ⟨rfl, ⟨rfl, h1⟩ | ⟨rfl, h1⟩⟩
    · simp +contextual -implicitDefEqProofs (maxSteps := 10000000) only [go_sem, ↓reduceIte, Int.reduceNeg, h1]
    · simp +contextual -implicitDefEqProofs (maxSteps := 10000000) only [go_sem, Int.reduceNeg, h1]
theorem p_hasS (vs : List (List UInt8)) (p : List UInt8 → Bool) (f : Nat) (ds cs : List AV) (v : AV) (hl : Ls 1 v (wds vs)) (hm : vs.length ≤ 9223372036854775806) (hp : Heap)
    (hf : ∀ k ∈ vs, CL X GV f ((ds ++ [AV.str k] ++ cs).map uf) ([] :: [] :: hp) = some (.bool (p k), [] :: [] :: hp)) :
    CL X GV 22 [v, .fn f ds cs] hp = some (.bool (vs.any p), hp) := by
  have h1 := p_idxS vs p f ds cs v hl hm ([] :: hp) hf
  obtain ⟨p1, u1, n1, d1, f1⟩ := hl.one
  have hb := idxG_any p vs 0
  rw [CL_eq (fn := x22) rfl]
  simp +contextual -implicitDefEqProofs (maxSteps := 10000000) only [x22, go_sem, ↓reduceIte, reduceCtorEq, Nat.reduceEqDiff, u1, h1, hb, o_callw, cwK_same]
open Classical in
theorem p_tnot (w : List UInt8) (hp : Heap) : CL X GV 23 [.str w] hp = some (.bool (!decide (nameP w)), hp) := by
  rw [CL_eq (fn := x23) rfl]
  simp +contextual -implicitDefEqProofs (maxSteps := 10000000) only [x23, go_sem, ↓reduceIte, reduceCtorEq, v_name]
theorem l_sayVals (r : Rw) (hr : r.ok) (hl : r.vl.length ≤ 1000000000) (P : List UInt8) (xr : AV) (n i : Int) {fr : List AV} {L : Level} (K : Option (XExit × St) → Prop)
    (h5 : fget fr 5 = .ptr ⟨0, 5, 0⟩ 0) (h8 : fget fr 8 = .nilsl) (h25 : fget fr 25 = xr) (h26 : fget fr 26 = .int .i64 n) (h27 : fget fr 27 = .int .i64 i) (h31 : fget fr 31 = r.av) (h32 : fget fr 32 = .int .i64 r.vl.length) (h33 : fget fr 33 = .int .i64 0) (hL : lbld L 5 0 = some (56, 5, P))
    (hk : ∀ fr' L', fget fr' 5 = .ptr ⟨0, 5, 0⟩ 0 → fget fr' 8 = ol (wds (r.vl.map prt)) → fget fr' 25 = xr → fget fr' 26 = .int .i64 n → fget fr' 27 = .int .i64 i → lbld L' 5 0 = some (56, 5, P) → K (some (.exit 2, ⟨fr', [L']⟩))) :
    K (LC X GV (.loop x9_l0) ⟨fr, [L]⟩) := by
  obtain ⟨hx, hn, hro⟩ := hr
  obtain ⟨p1, u1, n1, d1, f1⟩ := hx.one
  rw [vals_len] at n1
  obtain ⟨I, hI⟩ : ∃ I : Nat → List AV → Heap → Prop, ∀ j fr hp', I j fr hp' ↔ ((∃ L, hp' = [L] ∧ lbld L 5 0 = some (56, 5, P)) ∧ fget fr 5 = .ptr ⟨0, 5, 0⟩ 0 ∧ fget fr 8 = ol (wds ((r.vl.map prt).take j)) ∧ fget fr 25 = xr ∧ fget fr 26 = .int .i64 n ∧ fget fr 27 = .int .i64 i ∧ fget fr 31 = r.av ∧ fget fr 32 = .int .i64 r.vl.length ∧ fget fr 33 = .int .i64 (j : Nat)) := ⟨_, fun _ _ _ => Iff.rfl⟩
  obtain ⟨Q, hQ⟩ : ∃ Q : XExit → List AV → Heap → Prop, ∀ e fr hp', Q e fr hp' ↔ (e = .exit 2 ∧ (∃ L, hp' = [L] ∧ lbld L 5 0 = some (56, 5, P)) ∧ fget fr 5 = .ptr ⟨0, 5, 0⟩ 0 ∧ fget fr 8 = ol (wds (r.vl.map prt)) ∧ fget fr 25 = xr ∧ fget fr 26 = .int .i64 n ∧ fget fr 27 = .int .i64 i) := ⟨_, fun _ _ _ => Iff.rfl⟩
  refine LC_upK r.vl.length I Q K ?_ ?_ ?_ ?_
  · rw [hI]
    exact ⟨⟨L, rfl, hL⟩, h5, by rw [h8]; rfl, h25, h26, h27, h31, h32, h33⟩
  · intro j hj fr hp' hh
    obtain ⟨⟨L, rfl, hL⟩, h5, h8, h25, h26, h27, h31, h32, h33⟩ := (hI _ _ _).1 hh
    have k1 : ((j : Int) < (r.vl.length : Int)) = True := by simp; omega
    have g1 := hx.at (k := j) (by rw [vals_len]; exact hj)
    rw [vals_get r.vl j hj] at g1
    have w1 : wr .i64 ((j : Int) + 1) = ((j + 1 : Nat) : Int) := by rw [wr_i64 _ (by omega)]; omega
    have vok := hro _ (mem_getD r.vl j hj)
    have hpr := v_print (r.vl.getD j default) vok []
    have htk : (r.vl.map prt).take (j + 1) = (r.vl.map prt).take j ++ [prt (r.vl.getD j default)] := by
      rw [take_snoc _ j [] (by simpa using hj)]
      simp [List.getD, hj]
    obtain ⟨q, hq⟩ : ∃ q, prt (r.vl.getD j default) = q := ⟨_, rfl⟩
    obtain ⟨e0, he⟩ : ∃ q, chkV (r.vl.getD j default) = q := ⟨_, rfl⟩
    rw [hq, he] at hpr
    rw [hq] at htk
    clear hq he
    generalize r.vl.getD j default = y at g1 hpr
    obtain ⟨k, n2, d, s⟩ := y
    simp only [Val.cells, Val.av, vA] at g1 hpr
    have hlen : ((r.vl.map prt).take j).length = j := by rw [List.length_take, List.length_map]; omega
    have hnew : ol (wds ((r.vl.map prt).take (j + 1))) = .lst .own 1 (wds ((r.vl.map prt).take j) ++ [[.str q]]) := by rw [htk, wds_snoc, ol_cons]
    have rf : (refFreeL [[AV.str q]].flatten = true ∧ [[AV.str q]].flatten.all plain1 = true) = True := by simp [refFreeL, refFree, plain1]
    cases hw : (r.vl.map prt).take j with
    | nil =>
      rw [hw] at h8 hnew
      have h8' : fget fr 8 = .nilsl := h8
      have hnew' : ol (wds ((r.vl.map prt).take (j + 1))) = .lst .own 1 [[.str q]] := hnew
      simp +contextual -implicitDefEqProofs (maxSteps := 10000000) only [x9_l0_run, go_sem, ↓reduceIte, reduceCtorEq, Nat.reduceEqDiff, Nat.reduceAdd, Nat.reduceLeDiff, Nat.reduceMul, Nat.reduceLT, Nat.reduceDiv, h8', h31, h32, h33, k1, g1, w1, u1, hpr, stAt_topc, ldAt_topc, room, rf]
      rw [hI]
      refine ⟨⟨_, rfl, ?_⟩, ?_, ?_, ?_, ?_, ?_, ?_, ?_, ?_⟩
      · simp [lbld_put, hL]
      all_goals simp only [go_sem, ↓reduceIte, Nat.reduceEqDiff, h5, h25, h26, h27, h31, h32, hnew']
    | cons w0 ws0 =>
      rw [hw] at h8 hnew hlen
      obtain ⟨W, hW⟩ : ∃ W, wds (w0 :: ws0) = W := ⟨_, rfl⟩
      have hWl : W.length = j := by rw [← hW, wds_len, hlen]
      have h8' : fget fr 8 = .lst .own 1 W := by rw [← hW]; exact h8
      rw [hW] at hnew
      have b1 : ((W.length + 1) * 16 ≤ 140737488355328) = True := by simp; omega
      simp +contextual -implicitDefEqProofs (maxSteps := 10000000) only [x9_l0_run, go_sem, ↓reduceIte, reduceCtorEq, Nat.reduceEqDiff, Nat.reduceAdd, Nat.reduceLT, Nat.reduceDiv, h8', h31, h32, h33, k1, g1, w1, u1, hpr, stAt_topc, ldAt_topc, room, rf, b1]
      rw [hI]
      refine ⟨⟨_, rfl, ?_⟩, ?_, ?_, ?_, ?_, ?_, ?_, ?_, ?_⟩
      · simp [lbld_put, hL]
      all_goals simp only [go_sem, ↓reduceIte, Nat.reduceEqDiff, h5, h25, h26, h27, h31, h32, hnew]
  · intro fr hp' hh
    obtain ⟨⟨L, rfl, hL⟩, h5, h8, h25, h26, h27, h31, h32, h33⟩ := (hI _ _ _).1 hh
    simp +contextual -implicitDefEqProofs (maxSteps := 10000000) only [x9_l0_run, go_sem, ↓reduceIte, h32, h33, Int.lt_irrefl]
    rw [hQ]
    rw [List.take_of_length_le (by simp)] at h8
    refine ⟨rfl, ⟨L, rfl, hL⟩, ?_, ?_, ?_, ?_, ?_⟩ <;> simp only [go_sem, ↓reduceIte, Nat.reduceEqDiff, h5, h8, h25, h26, h27]
  · intro e fr hp' he hh
    obtain ⟨rfl, ⟨L, rfl, hL⟩, h5, h8, h25, h26, h27⟩ := (hQ _ _ _).1 hh
    exact hk fr L h5 h8 h25 h26 h27 hL
theorem rws_bulk (l : List Rw) (i : Nat) : (rowsT (l.take i)).length ≤ (l.map fun r => 259 * r.vl.length + 4).sum :=
  Nat.le_trans (rowsT_len _) (sum_take _ l i)
open Classical in
theorem tabE_ok {t : Tb} (h : tE t = 0) : tabE t = if ∀ i, i < t.vs.length → nameP (t.vs.getD i []) then 0 else 30 := by
  rw [tabE, if_neg (by simp [h])]
open Classical in
theorem any_not {vs : List (List UInt8)} : (vs.any fun w => !decide (nameP w)) = !decide (∀ i, i < vs.length → nameP (vs.getD i [])) := by
  cases h : vs.any fun w => !decide (nameP w) with
  | true =>
    obtain ⟨w, hw, hn⟩ := List.any_eq_true.1 h
    obtain ⟨i, hi, rfl⟩ := List.mem_iff_getElem.1 hw
    have : ¬ ∀ i, i < vs.length → nameP (vs.getD i []) := fun hh => by
      have := hh i hi
      simp only [List.getD, List.getElem?_eq_getElem hi, Option.getD_some] at this
      simp [this] at hn
    rw [decide_eq_false this]; rfl
  | false =>
    have h2 := List.any_eq_false.1 h
    have : ∀ i, i < vs.length → nameP (vs.getD i []) := fun i hi => by
      have := h2 (vs.getD i []) (by simp [List.getD, hi])
      simpa using this
    rw [decide_eq_true this]; rfl
open Classical in
theorem p_sayTab (t : Tb) (ht : t.ok) : CL X GV 9 [.agg t.cells] [] = some (.tup [.str (tabS t), .int .i64 (tabE t)], []) := by
  obtain ⟨hxv, hxr, hro, hvl, hrl, hbk⟩ := id ht
  obtain ⟨pv, uv, nv, dv, fv⟩ := hxv.one
  obtain ⟨pr, ur, nr, dr, fr0⟩ := hxr.one
  rw [wds_len] at nv
  rw [rws_len] at nr
  have hck := p_tcheck t ht
  have hhas := fun hp => p_hasS t.vs (fun w => !@decide (nameP w) (Classical.propDecidable _)) 23 [] [] t.xv hxv (by omega) hp (fun k _ => p_tnot k _)
  rw [CL_eq (fn := x9) rfl]
  simp only [Tb.cells] at hck ⊢
  by_cases hE : tE t = 0
  case neg =>
    have e1 : tabE t = tE t := by rw [tabE, if_pos hE]
    have e2 : tabS t = [] := by rw [tabS, if_neg (by rw [e1]; exact hE)]
    rw [e1, e2]
    have c1 : (tE t = 0) = False := by simp [hE]
    simp +contextual -implicitDefEqProofs (maxSteps := 10000000) only [x9, go_sem, ↓reduceIte, Nat.reduceEqDiff, Nat.reduceAdd, pv, uv, fv, pr, ur, fr0, hck, c1, ldAt_topc]
  have hT := tabE_ok hE
  rw [hE] at hck
  by_cases hN : ∀ i, i < t.vs.length → nameP (t.vs.getD i [])
  case neg =>
    rw [if_neg hN] at hT
    have e2 : tabS t = [] := by rw [tabS, if_neg (by rw [hT]; simp)]
    rw [hT, e2]
    rw [any_not, decide_eq_false hN] at hhas
    simp +contextual -implicitDefEqProofs (maxSteps := 10000000) only [x9, go_sem, ↓reduceIte, Nat.reduceEqDiff, Nat.reduceAdd, Int.reduceBNe, pv, uv, fv, pr, ur, fr0, hck, hhas, o_callw, cwK_same, ldAt_topc]
  rw [if_pos hN] at hT
  have e2 : tabS t = tabT t := by rw [tabS, if_pos hT]
  rw [hT, e2]
  rw [any_not, decide_eq_true hN] at hhas
  have hb2 : (jn t.vs).length ≤ 1000000000 := by
    have := jn_len t.vs
    unfold Tb.bulk at hbk
    omega
  have hput := fun L hL => p_put L 5 0 [40] [41] [] t.xv t.vs hxv hL (by omega) (by omega) (by simp) (by simp) (by simp)
  have nv5 : nextVer (lputc [] 1 0 [t.xv, t.xr]) 5 = 0 := rfl
  have hL0 : lbld (lputb (lputc [] 1 0 [t.xv, t.xr]) 5 0 56 5 []) 5 0 = some (56, 5, []) := rfl
  have hput0 := hput _ hL0
  have hb0 : ((lbld (lputb (lputc [] 1 0 [t.xv, t.xr]) 5 0 56 5 []) 5 0)).isSome = true := rfl
  simp +contextual -implicitDefEqProofs (maxSteps := 10000000) only [x9, go_sem, ↓reduceIte, Nat.reduceEqDiff, Nat.reduceAdd, Int.reduceBNe, pv, uv, fv, pr, ur, nr, fr0, hck, hhas, o_callw, cwK_same, ldAt_topc, o_allocb, nv5, hput0, cwK_putb, lcells_putb, lbld_putb, Option.isSome_some]
  obtain ⟨A, hA⟩ : ∃ A, 40 :: (jn t.vs ++ [41]) = A := ⟨_, rfl⟩
  have hAl : A.length ≤ 1000000002 := by rw [← hA]; simp only [List.length_cons, List.length_append, List.length_nil]; omega
  have hbk2 : (t.rs.map fun r => 259 * r.vl.length + 4).sum ≤ 1000000000 := by unfold Tb.bulk at hbk; omega
  rw [hA]
  obtain ⟨I, hI⟩ : ∃ I : Nat → List AV → Heap → Prop, ∀ i fr hp', I i fr hp' ↔ ((∃ L, hp' = [L] ∧ lbld L 5 0 = some (56, 5, A ++ rowsT (t.rs.take i))) ∧ fget fr 5 = .ptr ⟨0, 5, 0⟩ 0 ∧ fget fr 25 = t.xr ∧ fget fr 26 = .int .i64 t.rs.length ∧ fget fr 27 = .int .i64 (i : Nat)) := ⟨_, fun _ _ _ => Iff.rfl⟩
  obtain ⟨Q, hQ⟩ : ∃ Q : XExit → List AV → Heap → Prop, ∀ e fr hp', Q e fr hp' ↔ (e = .exit 0 ∧ (∃ L, hp' = [L] ∧ lbld L 5 0 = some (56, 5, A ++ rowsT t.rs)) ∧ fget fr 5 = .ptr ⟨0, 5, 0⟩ 0) := ⟨_, fun _ _ _ => Iff.rfl⟩
  refine LC_upK t.rs.length I Q (fun r => finK _ (seqK (blockK 0 r) _) = _) ?_ ?_ ?_ ?_
  · rw [hI]
    refine ⟨⟨_, rfl, ?_⟩, ?_, ?_, ?_, ?_⟩
    · rw [lbld_putb, if_pos rfl, if_pos rfl]; simp [rowsT]
    all_goals simp only [go_sem, ↓reduceIte, Nat.reduceEqDiff, Int.natCast_zero]
  · intro i hi fr hp' hh
    obtain ⟨⟨L, rfl, hL⟩, h5, h25, h26, h27⟩ := (hI _ _ _).1 hh
    have k1 : ((i : Int) < (t.rs.length : Int)) = True := by simp; omega
    have g1 := hxr.at (k := i) (by rw [rws_len]; exact hi)
    rw [rws_get t.rs i hi] at g1
    have w1 : wr .i64 ((i : Int) + 1) = ((i + 1 : Nat) : Int) := by rw [wr_i64 _ (by omega)]; omega
    have hrow := hro _ (mem_getD t.rs i hi)
    have hbl : (t.rs.getD i default).vl.length ≤ 1000000000 := row_len ht i hi
    have htk := rowsT_take t.rs i hi
    have hTl := rws_bulk t.rs i
    have hbl3 : 259 * (t.rs.getD i default).vl.length + 4 ≤ 1000000000 := Nat.le_trans (le_sum_at (fun r => 259 * r.vl.length + 4) t.rs i hi) hbk2
    generalize t.rs.getD i default = r at g1 hrow hbl htk hbl3
    obtain ⟨pw, uw, nw, dw, fw⟩ := hrow.1.one
    rw [vals_len] at nw
    obtain ⟨T, hT⟩ : ∃ T, A ++ rowsT (t.rs.take i) = T := ⟨_, rfl⟩
    have hTl' : T.length ≤ 3000000000 := by rw [← hT, List.length_append]; omega
    rw [hT] at hL
    simp +contextual -implicitDefEqProofs (maxSteps := 10000000) only [x9_l1_run, go_sem, ↓reduceIte, Nat.reduceEqDiff, h25, h26, h27, k1, g1, ur, uw, dw, nw]
    refine l_sayVals r hrow hbl T t.xr t.rs.length i (fun r => StepOk (I (i + 1)) Q (seqK (blockK 1 (seqK (blockK 2 r) _)) _)) ?_ ?_ ?_ ?_ ?_ ?_ ?_ ?_ ?_ ?_
    all_goals first | (simp only [go_sem, ↓reduceIte, Nat.reduceEqDiff, h5, h25, h26, h27]; done) | skip
    · exact hL
    · intro fr' L' g5 g8 g25 g26 g27 gL
      have hX := ol_ls (wds (r.vl.map prt))
      generalize ol (wds (r.vl.map prt)) = Y at g8 hX
      obtain ⟨px, ux, nx, dx, fx⟩ := hX.one
      have h1 := jn_len (r.vl.map prt)
      have h2 := sum_prt r.vl
      have hput2 := fun L hL => p_put L 5 0 [32, 40] [41] T (uf Y) (r.vl.map prt) hX hL (by rw [List.length_map]; omega) (by omega) (by omega) (by simp) (by simp)
      have hput3 := hput2 _ gL
      have hbb : (lbld L' 5 0).isSome = true := by rw [gL]; rfl
      simp +contextual -implicitDefEqProofs (maxSteps := 10000000) only [go_sem, ↓reduceIte, Nat.reduceEqDiff, g5, g8, g27, w1, ux, hput3, gL, o_callw, cwK_putb, Option.isSome_some]
      rw [hI]
      refine ⟨⟨_, rfl, ?_⟩, ?_, ?_, ?_, ?_⟩
      · rw [lbld_putb, if_pos rfl, if_pos rfl, htk, ← List.append_assoc, hT]; simp [rowT]
      all_goals simp only [go_sem, ↓reduceIte, Nat.reduceEqDiff, g5, g25, g26]
  · intro fr hp' hh
    obtain ⟨⟨L, rfl, hL⟩, h5, h25, h26, h27⟩ := (hI _ _ _).1 hh
    simp +contextual -implicitDefEqProofs (maxSteps := 10000000) only [x9_l1_run, go_sem, ↓reduceIte, h26, h27, Int.lt_irrefl]
    rw [hQ]
    rw [List.take_length] at hL
    exact ⟨rfl, ⟨L, rfl, hL⟩, by simp only [go_sem, ↓reduceIte, Nat.reduceEqDiff, h5]⟩
  · intro e fr hp' he hh
    obtain ⟨rfl, ⟨L, rfl, hL⟩, h5⟩ := (hQ _ _ _).1 hh
    have hbs := p_bs
    have hbb : (lbld L 5 0).isSome = true := by rw [hL]; rfl
    have htt : tabT t = A ++ rowsT t.rs := by rw [tabT, ← hA]; simp
    simp +contextual -implicitDefEqProofs (maxSteps := 10000000) only [go_sem, ↓reduceIte, Nat.reduceEqDiff, Nat.reduceAdd, Nat.reduceMul, h5, hbs, hL, bsK_some, o_callw, cwK_putbc, Option.isSome_some, htt]
end Go.Proofs.YtafeikbbjhmlaaaGreatDoor.Sx.T
namespace Go.Proofs.YtafeikbbjhmlaaaGreatDoor.Sx.T
open Go Go.Proofs.YtafeikbbjhmlaaaGreatDoor.Sx
set_option maxRecDepth 100000
set_option maxHeartbeats 8000000
def bl (B : List UInt8) : AV := .lst .own 1 (listOfBytes B)
theorem bl_app (B : List UInt8) (c : UInt8) (h : B.length ≤ 100000000000) : appK false 1 1 (bl B) (some [[.int .u8 (c.toNat : Int)]]) = some (bl (B ++ [c])) := by
  rw [bl, appK_lst, if_neg (by simp), if_pos (by simp [refFreeL, refFree, plain1]), if_pos ⟨rfl, rfl, by rw [bytes_len]; simp [room]; omega⟩]
  simp [bl, listOfBytes]
theorem bl_apps (B b : List UInt8) (h0 : b ≠ []) (h : B.length + b.length ≤ 100000000000) : appsK false (bl B) (.str b) = some (bl (B ++ b)) := by
  rw [bl, appsK_own _ _ h0 (by rw [bytes_len]; simp [room]; omega)]
  simp [bl, listOfBytes]
theorem bl_drop (B : List UInt8) (fr : List AV) (t : Nat) : drop1K (bl B) fr t = fput fr t (.lst .none 1 (listOfBytes B)) := rfl
theorem bl_uf (B : List UInt8) : uf (bl B) = .lst .none 1 (listOfBytes B) := rfl
theorem jn_take_len (l : List (List UInt8)) (i : Nat) : (jn (l.take i)).length ≤ (l.map fun w => w.length + 1).sum := by
  refine Nat.le_trans (jn_len _) ?_
  induction l generalizing i with
  | nil => simp
  | cons a l ih =>
    cases i with
    | zero => simp
    | succ i =>
      have := ih i
      simp only [List.take_succ_cons, List.map_cons, List.sum_cons]
      omega
open Classical in
theorem l_rVars (t : Tb) (ht : t.ok) {fr : List AV} {L : Level} (K : Option (XExit × St) → Prop)
    (h1 : fget fr 1 = .ptr ⟨0, 1, 0⟩ 0) (h5 : fget fr 5 = bl [40]) (h22 : fget fr 22 = t.xv) (h23 : fget fr 23 = .int .i64 t.vs.length) (h24 : fget fr 24 = .int .i64 0)
    (hk0 : (∀ i, i < t.vs.length → nameP (t.vs.getD i [])) → ∀ fr', fget fr' 1 = .ptr ⟨0, 1, 0⟩ 0 → fget fr' 5 = bl (40 :: jn t.vs) → K (some (.exit 0, ⟨fr', [L]⟩)))
    (hk1 : (¬ ∀ i, i < t.vs.length → nameP (t.vs.getD i [])) → ∀ fr', fget fr' 2 = .str [] → fget fr' 3 = .int .i64 30 → K (some (.ret, ⟨fr', [L]⟩))) : K (LC X GV (.loop x10_l0) ⟨fr, [L]⟩) := by
  obtain ⟨hxv, hxr, hro, hvl, hrl, hbk⟩ := id ht
  obtain ⟨pv, uv, nv, dv, fv⟩ := hxv.one
  rw [wds_len] at nv
  obtain ⟨I, hI⟩ : ∃ I : Nat → List AV → Heap → Prop, ∀ i fr hp', I i fr hp' ↔ (hp' = [L] ∧ fget fr 1 = .ptr ⟨0, 1, 0⟩ 0 ∧ fget fr 5 = bl (40 :: jn (t.vs.take i)) ∧ fget fr 22 = t.xv ∧ fget fr 23 = .int .i64 t.vs.length ∧ fget fr 24 = .int .i64 (i : Nat) ∧ ∀ j, j < i → nameP (t.vs.getD j [])) := ⟨_, fun _ _ _ => Iff.rfl⟩
  obtain ⟨Q, hQ⟩ : ∃ Q : XExit → List AV → Heap → Prop, ∀ e fr hp', Q e fr hp' ↔ (hp' = [L] ∧ ((e = .exit 0 ∧ (∀ i, i < t.vs.length → nameP (t.vs.getD i [])) ∧ fget fr 1 = .ptr ⟨0, 1, 0⟩ 0 ∧ fget fr 5 = bl (40 :: jn t.vs)) ∨ (e = .ret ∧ (¬ ∀ i, i < t.vs.length → nameP (t.vs.getD i [])) ∧ fget fr 2 = .str [] ∧ fget fr 3 = .int .i64 30))) := ⟨_, fun _ _ _ => Iff.rfl⟩
  refine LC_upK t.vs.length I Q K ?_ ?_ ?_ ?_
  · rw [hI]
    exact ⟨rfl, h1, h5, h22, h23, h24, fun j h => by omega⟩
  · intro i hi fr hp' hh
    obtain ⟨rfl, h1, h5, h22, h23, h24, hd⟩ := (hI _ _ _).1 hh
    have k1 : ((i : Int) < (t.vs.length : Int)) = True := by simp; omega
    have g1 := up_at hxv i hi
    have w1 : wr .i64 ((i : Int) + 1) = ((i + 1 : Nat) : Int) := by rw [wr_i64 _ (by omega)]; omega
    have hnm := v_rname (t.vs.getD i [])
    have htk := jn_take t.vs i hi
    have hTl := jn_take_len t.vs i
    have hTb : (t.vs.map fun w => w.length + 1).sum ≤ 1000000000 := by unfold Tb.bulk at hbk; omega
    have hdd : nameP (t.vs.getD i []) → ∀ j, j < i + 1 → nameP (t.vs.getD j []) := fun h j hj => by
      by_cases e : j = i
      · subst e; exact h
      · exact hd j (by omega)
    have hdn : ¬ nameP (t.vs.getD i []) → ¬ ∀ i, i < t.vs.length → nameP (t.vs.getD i []) := fun h hh => h (hh i hi)
    obtain ⟨w, hw⟩ : ∃ w, t.vs.getD i [] = w := ⟨_, rfl⟩
    rw [hw] at g1 hnm htk hdd hdn
    by_cases hn : nameP w
    · have hn0 := hn.1
      have hn16 := hn.2.1
      rw [decide_eq_true hn] at hnm
      obtain ⟨T, hT⟩ : ∃ T, 40 :: jn (t.vs.take i) = T := ⟨_, rfl⟩
      have hTl' : T.length ≤ 1000000001 := by rw [← hT, List.length_cons]; omega
      rw [hT] at h5
      by_cases c0 : i = 0
      · have ci : ((0 : Int) < (i : Int)) = False := by simp; omega
        have hap := bl_apps T w hn0 (by omega)
        rw [if_pos c0] at htk
        have hT2 : 40 :: jn (t.vs.take (i + 1)) = T ++ w := by rw [htk, ← hT, c0]; rfl
        simp +contextual -implicitDefEqProofs (maxSteps := 10000000) only [x10_l0_run, go_sem, ↓reduceIte, Nat.reduceEqDiff, Nat.reduceLT, Nat.reduceDiv, h5, h22, h23, h24, k1, g1, w1, uv, hnm, ci, o_appstr, hap, bl_drop]
        rw [hI]
        refine ⟨rfl, ?_, ?_, ?_, ?_, ?_, hdd hn⟩ <;> simp only [go_sem, ↓reduceIte, Nat.reduceEqDiff, h1, h22, h23, hT2]
      · have ci : ((0 : Int) < (i : Int)) = True := by simp; omega
        have hap0 : appK false 1 1 (bl T) (some [[.int .u8 32]]) = some (bl (T ++ [32])) := bl_app T 32 (by omega)
        have hap := bl_apps (T ++ [32]) w hn0 (by simp only [List.length_append, List.length_cons, List.length_nil]; omega)
        rw [if_neg c0] at htk
        have hT2 : 40 :: jn (t.vs.take (i + 1)) = T ++ [32] ++ w := by rw [htk, ← hT]; simp
        simp +contextual -implicitDefEqProofs (maxSteps := 10000000) only [x10_l0_run, go_sem, ↓reduceIte, Nat.reduceEqDiff, Nat.reduceLT, Nat.reduceDiv, h5, h22, h23, h24, k1, g1, w1, uv, hnm, ci, o_appstr, hap, hap0, bl_drop]
        rw [hI]
        refine ⟨rfl, ?_, ?_, ?_, ?_, ?_, hdd hn⟩ <;> simp only [go_sem, ↓reduceIte, Nat.reduceEqDiff, h1, h22, h23, hT2]
    · rw [decide_eq_false hn] at hnm
      simp +contextual -implicitDefEqProofs (maxSteps := 10000000) only [x10_l0_run, go_sem, ↓reduceIte, Nat.reduceEqDiff, h22, h23, h24, k1, g1, uv, hnm]
      rw [hQ]
      exact ⟨rfl, .inr ⟨rfl, hdn hn, by simp only [go_sem, ↓reduceIte, Nat.reduceEqDiff], by simp only [go_sem, ↓reduceIte]⟩⟩
  · intro fr hp' hh
    obtain ⟨rfl, h1, h5, h22, h23, h24, hd⟩ := (hI _ _ _).1 hh
    simp +contextual -implicitDefEqProofs (maxSteps := 10000000) only [x10_l0_run, go_sem, ↓reduceIte, h23, h24, Int.lt_irrefl]
    rw [hQ]
    rw [List.take_length] at h5
    exact ⟨rfl, .inl ⟨rfl, hd, by simp only [go_sem, ↓reduceIte, Nat.reduceEqDiff, h1], by simp only [go_sem, ↓reduceIte, Nat.reduceEqDiff, h5]⟩⟩
  · intro e fr hp' he hh
    rcases (hQ _ _ _).1 hh with ⟨rfl, ⟨rfl, a1, a2, a3⟩ | ⟨rfl, a1, a2, a3⟩⟩
    · exact hk0 a1 fr a2 a3
    · exact hk1 a1 fr a2 a3
theorem l_rVals (r : Rw) (hr : r.ok) (hl : 259 * r.vl.length ≤ 1000000000) (P : List UInt8) (hP : P.length ≤ 3000000000) (xr : AV) (n i : Int) {fr : List AV} {L : Level} (K : Option (XExit × St) → Prop)
    (h5 : fget fr 5 = bl P) (h45 : fget fr 45 = xr) (h46 : fget fr 46 = .int .i64 n) (h47 : fget fr 47 = .int .i64 i) (h53 : fget fr 53 = r.av) (h54 : fget fr 54 = .int .i64 r.vl.length) (h55 : fget fr 55 = .int .i64 0)
    (hk : ∀ fr' L', fget fr' 5 = bl (P ++ jn (r.vl.map prt)) → fget fr' 45 = xr → fget fr' 46 = .int .i64 n → fget fr' 47 = .int .i64 i → K (some (.exit 4, ⟨fr', [L']⟩))) :
    K (LC X GV (.loop x10_l1) ⟨fr, [L]⟩) := by
  obtain ⟨hx, hn, hro⟩ := hr
  obtain ⟨p1, u1, n1, d1, f1⟩ := hx.one
  rw [vals_len] at n1
  obtain ⟨I, hI⟩ : ∃ I : Nat → List AV → Heap → Prop, ∀ j fr hp', I j fr hp' ↔ ((∃ L, hp' = [L]) ∧ fget fr 5 = bl (P ++ jn ((r.vl.map prt).take j)) ∧ fget fr 45 = xr ∧ fget fr 46 = .int .i64 n ∧ fget fr 47 = .int .i64 i ∧ fget fr 53 = r.av ∧ fget fr 54 = .int .i64 r.vl.length ∧ fget fr 55 = .int .i64 (j : Nat)) := ⟨_, fun _ _ _ => Iff.rfl⟩
  obtain ⟨Q, hQ⟩ : ∃ Q : XExit → List AV → Heap → Prop, ∀ e fr hp', Q e fr hp' ↔ (e = .exit 4 ∧ (∃ L, hp' = [L]) ∧ fget fr 5 = bl (P ++ jn (r.vl.map prt)) ∧ fget fr 45 = xr ∧ fget fr 46 = .int .i64 n ∧ fget fr 47 = .int .i64 i) := ⟨_, fun _ _ _ => Iff.rfl⟩
  refine LC_upK r.vl.length I Q K ?_ ?_ ?_ ?_
  · rw [hI]
    exact ⟨⟨L, rfl⟩, by rw [h5, List.take_zero, jn_nil, List.append_nil], h45, h46, h47, h53, h54, h55⟩
  · intro j hj fr hp' hh
    obtain ⟨⟨L, rfl⟩, h5, h45, h46, h47, h53, h54, h55⟩ := (hI _ _ _).1 hh
    have k1 : ((j : Int) < (r.vl.length : Int)) = True := by simp; omega
    have g1 := hx.at (k := j) (by rw [vals_len]; exact hj)
    rw [vals_get r.vl j hj] at g1
    have w1 : wr .i64 ((j : Int) + 1) = ((j + 1 : Nat) : Int) := by rw [wr_i64 _ (by omega)]; omega
    have vok := hro _ (mem_getD r.vl j hj)
    have hpr := v_rprint (r.vl.getD j default) vok []
    have hpl := prt_len (r.vl.getD j default)
    have hjl : j < (r.vl.map prt).length := by simpa using hj
    have htk := jn_take (r.vl.map prt) j hjl
    have hgd : (r.vl.map prt).getD j [] = prt (r.vl.getD j default) := by simp [List.getD, hj]
    rw [hgd] at htk
    have hTl := jn_take_len (r.vl.map prt) j
    have hs := sum_prt r.vl
    obtain ⟨q, hq⟩ : ∃ q, prt (r.vl.getD j default) = q := ⟨_, rfl⟩
    obtain ⟨e0, he⟩ : ∃ q, chkV (r.vl.getD j default) = q := ⟨_, rfl⟩
    rw [hq, he] at hpr
    rw [hq] at htk hpl
    clear hq he hgd
    generalize r.vl.getD j default = y at g1 hpr
    obtain ⟨k, n2, d, s⟩ := y
    simp only [Val.cells, Val.av, vA] at g1 hpr
    obtain ⟨T, hT⟩ : ∃ T, P ++ jn ((r.vl.map prt).take j) = T := ⟨_, rfl⟩
    have hTl' : T.length ≤ 5000000001 := by rw [← hT, List.length_append]; omega
    rw [hT] at h5
    have hapq : ∀ B : List UInt8, B.length ≤ 6000000000 → appsK false (bl B) (.str q) = some (bl (B ++ q)) := fun B hB => by
      by_cases hq0 : q = []
      · subst hq0
        rw [List.append_nil]
        rfl
      · exact bl_apps B q hq0 (by omega)
    by_cases c0 : j = 0
    · have ci : ((0 : Int) < (j : Int)) = False := by simp; omega
      have hap := hapq T (by omega)
      rw [if_pos c0] at htk
      have hT2 : P ++ jn ((r.vl.map prt).take (j + 1)) = T ++ q := by rw [htk, ← hT, c0, List.take_zero, jn_nil, List.append_nil]
      simp +contextual -implicitDefEqProofs (maxSteps := 10000000) only [x10_l1_run, go_sem, ↓reduceIte, Nat.reduceEqDiff, Nat.reduceAdd, Nat.reduceLT, Nat.reduceDiv, h5, h53, h54, h55, k1, g1, w1, u1, hpr, ci, o_appstr, hap, bl_drop, stAt_topc, ldAt_topc]
      rw [hI]
      refine ⟨⟨_, rfl⟩, ?_, ?_, ?_, ?_, ?_, ?_, ?_⟩ <;> simp only [go_sem, ↓reduceIte, Nat.reduceEqDiff, h45, h46, h47, h53, h54, hT2]
    · have ci : ((0 : Int) < (j : Int)) = True := by simp; omega
      have hap0 : appK false 1 1 (bl T) (some [[.int .u8 32]]) = some (bl (T ++ [32])) := bl_app T 32 (by omega)
      have hap := hapq (T ++ [32]) (by simp only [List.length_append, List.length_cons, List.length_nil]; omega)
      rw [if_neg c0] at htk
      have hT2 : P ++ jn ((r.vl.map prt).take (j + 1)) = T ++ [32] ++ q := by rw [htk, ← hT]; simp
      simp +contextual -implicitDefEqProofs (maxSteps := 10000000) only [x10_l1_run, go_sem, ↓reduceIte, Nat.reduceEqDiff, Nat.reduceAdd, Nat.reduceLT, Nat.reduceDiv, h5, h53, h54, h55, k1, g1, w1, u1, hpr, ci, o_appstr, hap, hap0, bl_drop, stAt_topc, ldAt_topc]
      rw [hI]
      refine ⟨⟨_, rfl⟩, ?_, ?_, ?_, ?_, ?_, ?_, ?_⟩ <;> simp only [go_sem, ↓reduceIte, Nat.reduceEqDiff, h45, h46, h47, h53, h54, hT2]
  · intro fr hp' hh
    obtain ⟨⟨L, rfl⟩, h5, h45, h46, h47, h53, h54, h55⟩ := (hI _ _ _).1 hh
    simp +contextual -implicitDefEqProofs (maxSteps := 10000000) only [x10_l1_run, go_sem, ↓reduceIte, h54, h55, Int.lt_irrefl]
    rw [hQ]
    rw [List.take_of_length_le (by simp)] at h5
    refine ⟨rfl, ⟨L, rfl⟩, ?_, ?_, ?_, ?_⟩ <;> simp only [go_sem, ↓reduceIte, Nat.reduceEqDiff, h5, h45, h46, h47]
  · intro e fr hp' he hh
    obtain ⟨rfl, ⟨L, rfl⟩, h5, h45, h46, h47⟩ := (hQ _ _ _).1 hh
    exact hk fr L h5 h45 h46 h47
open Classical in
theorem p_rTab (t : Tb) (ht : t.ok) : CL X GV 10 [.agg t.cells] [] = some (.tup [.str (tabS t), .int .i64 (tabE t)], []) := by
  obtain ⟨hxv, hxr, hro, hvl, hrl, hbk⟩ := id ht
  obtain ⟨pv, uv, nv, dv, fv⟩ := hxv.one
  obtain ⟨pr, ur, nr, dr, fr0⟩ := hxr.one
  rw [wds_len] at nv
  rw [rws_len] at nr
  have hck := p_rtcheck t ht
  rw [CL_eq (fn := x10) rfl]
  simp only [Tb.cells] at hck ⊢
  by_cases hE : tE t = 0
  case neg =>
    have e1 : tabE t = tE t := by rw [tabE, if_pos hE]
    have e2 : tabS t = [] := by rw [tabS, if_neg (by rw [e1]; exact hE)]
    rw [e1, e2]
    have c1 : (tE t = 0) = False := by simp [hE]
    simp +contextual -implicitDefEqProofs (maxSteps := 10000000) only [x10, go_sem, ↓reduceIte, Nat.reduceEqDiff, Nat.reduceAdd, pv, uv, fv, pr, ur, fr0, hck, c1, ldAt_topc]
  have hT := tabE_ok hE
  rw [hE] at hck
  have hrf : refFreeL [.int .u8 40] = true := rfl
  simp +contextual -implicitDefEqProofs (maxSteps := 10000000) only [x10, go_sem, ↓reduceIte, Nat.reduceEqDiff, Nat.reduceAdd, Int.reduceBNe, Nat.reduceLT, Nat.reduceDiv, pv, uv, nv, fv, pr, ur, fr0, hck, ldAt_topc, o_bslu, bsluK_some, o_cnvb, cnvbK_uniq, hrf]
  refine l_rVars t ht (fun r => finK _ (seqK (blockK 0 r) _) = _) ?_ ?_ ?_ ?_ ?_ ?_ ?_
  all_goals first | (simp only [go_sem, ↓reduceIte, Nat.reduceEqDiff, Nat.reduceAdd, Nat.reduceLT, Nat.reduceDiv]; done) | skip
  · simp only [go_sem, ↓reduceIte, Nat.reduceEqDiff]; rfl
  · intro hN fr g1 g5
    have hcc : lcells (lputc [] 1 0 [t.xv, t.xr]) 1 0 = some [t.xv, t.xr] := by rw [lcells_put]; simp
    rw [if_pos hN] at hT
    have e2 : tabS t = tabT t := by rw [tabS, if_pos hT]
    rw [hT, e2]
    obtain ⟨A, hA⟩ : ∃ A, 40 :: (jn t.vs ++ [41]) = A := ⟨_, rfl⟩
    have hb2 : (jn t.vs).length ≤ 1000000000 := by
      have := jn_len t.vs
      unfold Tb.bulk at hbk
      omega
    have hAl : A.length ≤ 1000000002 := by rw [← hA]; simp only [List.length_cons, List.length_append, List.length_nil]; omega
    have hbk2 : (t.rs.map fun r => 259 * r.vl.length + 4).sum ≤ 1000000000 := by unfold Tb.bulk at hbk; omega
    have hap0 : appK false 1 1 (bl (40 :: jn t.vs)) (some [[.int .u8 41]]) = some (bl A) := by rw [← hA]; exact bl_app (40 :: jn t.vs) 41 (by rw [List.length_cons]; omega)
    simp +contextual -implicitDefEqProofs (maxSteps := 10000000) only [go_sem, ↓reduceIte, Nat.reduceEqDiff, Nat.reduceLT, Nat.reduceDiv, g1, g5, hap0, bl_drop, ldAt_topc, hcc, ur, nr]
    obtain ⟨I, hI⟩ : ∃ I : Nat → List AV → Heap → Prop, ∀ i fr hp', I i fr hp' ↔ ((∃ L, hp' = [L]) ∧ fget fr 5 = bl (A ++ rowsT (t.rs.take i)) ∧ fget fr 45 = t.xr ∧ fget fr 46 = .int .i64 t.rs.length ∧ fget fr 47 = .int .i64 (i : Nat)) := ⟨_, fun _ _ _ => Iff.rfl⟩
    obtain ⟨Q, hQ⟩ : ∃ Q : XExit → List AV → Heap → Prop, ∀ e fr hp', Q e fr hp' ↔ (e = .exit 2 ∧ (∃ L, hp' = [L]) ∧ fget fr 5 = bl (A ++ rowsT t.rs)) := ⟨_, fun _ _ _ => Iff.rfl⟩
    refine LC_upK t.rs.length I Q (fun r => finK _ (seqK (blockK 2 r) _) = _) ?_ ?_ ?_ ?_
    · rw [hI]
      refine ⟨⟨_, rfl⟩, ?_, ?_, ?_, ?_⟩
      · simp only [go_sem, ↓reduceIte, Nat.reduceEqDiff, List.take_zero, rowsT, List.flatMap_nil, List.append_nil]
      all_goals simp only [go_sem, ↓reduceIte, Nat.reduceEqDiff, Int.natCast_zero]
    · intro i hi fr hp' hh
      obtain ⟨⟨L, rfl⟩, h5, h45, h46, h47⟩ := (hI _ _ _).1 hh
      have k1 : ((i : Int) < (t.rs.length : Int)) = True := by simp; omega
      have g1 := hxr.at (k := i) (by rw [rws_len]; exact hi)
      rw [rws_get t.rs i hi] at g1
      have w1 : wr .i64 ((i : Int) + 1) = ((i + 1 : Nat) : Int) := by rw [wr_i64 _ (by omega)]; omega
      have hrow := hro _ (mem_getD t.rs i hi)
      have htk := rowsT_take t.rs i hi
      have hTl := rws_bulk t.rs i
      have hbl3 : 259 * (t.rs.getD i default).vl.length + 4 ≤ 1000000000 := Nat.le_trans (le_sum_at (fun r => 259 * r.vl.length + 4) t.rs i hi) hbk2
      generalize t.rs.getD i default = r at g1 hrow htk hbl3
      obtain ⟨pw, uw, nw, dw, fw⟩ := hrow.1.one
      rw [vals_len] at nw
      obtain ⟨T, hT⟩ : ∃ T, A ++ rowsT (t.rs.take i) = T := ⟨_, rfl⟩
      have hTl' : T.length ≤ 2500000000 := by rw [← hT, List.length_append]; omega
      rw [hT] at h5
      have hap := bl_apps T [32, 40] (by simp) (by simp only [List.length_cons, List.length_nil]; omega)
      simp +contextual -implicitDefEqProofs (maxSteps := 10000000) only [x10_l2_run, go_sem, ↓reduceIte, Nat.reduceEqDiff, h5, h45, h46, h47, k1, g1, ur, uw, dw, nw, o_appstr, hap, bl_drop]
      refine l_rVals r hrow (by omega) (T ++ [32, 40]) (by simp only [List.length_append, List.length_cons, List.length_nil]; omega) t.xr t.rs.length i (fun r => StepOk (I (i + 1)) Q (seqK (blockK 3 (seqK (blockK 4 r) _)) _)) ?_ ?_ ?_ ?_ ?_ ?_ ?_ ?_
      all_goals first | (simp only [go_sem, ↓reduceIte, Nat.reduceEqDiff, Nat.reduceLT, Nat.reduceDiv, h45, h46, h47]; done) | skip
      intro fr' L' g5 g45 g46 g47
      have h1 := jn_len (r.vl.map prt)
      have h2 := sum_prt r.vl
      have hap1 : appK false 1 1 (bl (T ++ [32, 40] ++ jn (r.vl.map prt))) (some [[.int .u8 41]]) = some (bl (T ++ [32, 40] ++ jn (r.vl.map prt) ++ [41])) := bl_app _ 41 (by simp only [List.length_append, List.length_cons, List.length_nil]; omega)
      have hnew : A ++ rowsT (t.rs.take (i + 1)) = T ++ [32, 40] ++ jn (r.vl.map prt) ++ [41] := by rw [htk, ← List.append_assoc, hT]; simp [rowT]
      simp +contextual -implicitDefEqProofs (maxSteps := 10000000) only [go_sem, ↓reduceIte, Nat.reduceEqDiff, Nat.reduceLT, Nat.reduceDiv, g5, g47, w1, hap1, bl_drop]
      rw [hI]
      refine ⟨⟨_, rfl⟩, ?_, ?_, ?_, ?_⟩ <;> simp only [go_sem, ↓reduceIte, Nat.reduceEqDiff, g45, g46, hnew]
    · intro fr hp' hh
      obtain ⟨⟨L, rfl⟩, h5, h45, h46, h47⟩ := (hI _ _ _).1 hh
      simp +contextual -implicitDefEqProofs (maxSteps := 10000000) only [x10_l2_run, go_sem, ↓reduceIte, h46, h47, Int.lt_irrefl]
      rw [hQ]
      rw [List.take_length] at h5
      exact ⟨rfl, ⟨L, rfl⟩, by simp only [go_sem, ↓reduceIte, Nat.reduceEqDiff, h5]⟩
    · intro e fr hp' he hh
      obtain ⟨rfl, ⟨L, rfl⟩, h5⟩ := (hQ _ _ _).1 hh
      have htt : tabT t = A ++ rowsT t.rs := by rw [tabT, ← hA]; simp
      simp +contextual -implicitDefEqProofs (maxSteps := 10000000) only [go_sem, ↓reduceIte, Nat.reduceEqDiff, Nat.reduceAdd, h5, bl_uf, htt]
  · intro hN fr g2 g3
    rw [if_neg hN] at hT
    have e2 : tabS t = [] := by rw [tabS, if_neg (by rw [hT]; simp)]
    rw [hT, e2]
    simp +contextual -implicitDefEqProofs (maxSteps := 10000000) only [go_sem, ↓reduceIte, Nat.reduceAdd, g2, g3]
end Go.Proofs.YtafeikbbjhmlaaaGreatDoor.Sx.T
namespace Go.Proofs.YtafeikbbjhmlaaaGreatDoor.Sx.T
open Go Go.Proofs.YtafeikbbjhmlaaaGreatDoor.Sx
set_option maxRecDepth 100000
set_option maxHeartbeats 8000000
theorem dig_bstr (hp : Heap) (d : Nat) (h : d < 10) : bstrK hp (.lst .tight 1 [[.int .u8 (wr .u8 (wr .i64 (48 + (d : Int))))]]) = some (.str [UInt8.ofNat (48 + d)]) := by
  obtain rfl | rfl | rfl | rfl | rfl | rfl | rfl | rfl | rfl | rfl : d = 0 ∨ d = 1 ∨ d = 2 ∨ d = 3 ∨ d = 4 ∨ d = 5 ∨ d = 6 ∨ d = 7 ∨ d = 8 ∨ d = 9 := by omega
  all_goals rfl
theorem p_digF : ∀ (k u : Nat), u < 10 ^ (k + 1) → u ≤ 9223372036854775807 → k ≤ 100 → CL X GV 33 [.int .i64 (u : Nat)] [] = some (.str (decF (k + 1) u), []) := by
  intro k
  induction k with
  | zero =>
    intro u h h2 _
    have k1 : ((u : Int) < 10) = True := by simp; omega
    have hb := fun hp => dig_bstr hp u (by omega)
    rw [CL_eq (fn := x33) rfl, decF_lo _ _ (by omega), Nat.mod_eq_of_lt (by omega)]
    simp +contextual -implicitDefEqProofs (maxSteps := 10000000) only [x33, go_sem, ↓reduceIte, reduceCtorEq, Nat.reduceLT, Nat.reduceDiv, k1, hb]
  | succ k ih =>
    intro u h h2 h3
    have ih' := ih (u / 10) (by omega) (by omega) (by omega)
    rw [CL_eq (fn := x33) rfl]
    by_cases c : u < 10
    · have k1 : ((u : Int) < 10) = True := by simp; omega
      have hb := fun hp => dig_bstr hp u (by omega)
      rw [decF_lo _ _ (by omega), Nat.mod_eq_of_lt (by omega)]
      simp +contextual -implicitDefEqProofs (maxSteps := 10000000) only [x33, go_sem, ↓reduceIte, reduceCtorEq, Nat.reduceLT, Nat.reduceDiv, k1, hb]
    · have k1 : ((u : Int) < 10) = False := by simp; omega
      have td : wr .i64 ((u : Int).tdiv 10) = ((u / 10 : Nat) : Int) := by rw [wr_i64 _ (by rw [t_div]; split <;> omega)]; exact (Int.ofNat_tdiv u 10).symm
      have td2 : wr .i64 ((u / 10 : Nat) : Int) = ((u / 10 : Nat) : Int) := wr_i64 _ (by omega)
      have tm : (u : Int).tmod 10 = ((u % 10 : Nat) : Int) := (Int.ofNat_tmod u 10).symm
      have hb := fun hp => dig_bstr hp (u % 10) (by omega)
      have hlen := decF_len (k + 1) (u / 10)
      have b1 : ((decF (k + 1) (u / 10)).length + 1 ≤ 140737488355328) = True := by simp; omega
      rw [decF_hi _ _ c]
      simp +contextual -implicitDefEqProofs (maxSteps := 10000000) only [x33, go_sem, ↓reduceIte, reduceCtorEq, Nat.reduceEqDiff, Int.reduceEq, Nat.reduceLT, Nat.reduceDiv, k1, ih', td2, tm, hb, b1]
theorem p_dig (n : Int) (h0 : 0 ≤ n) (h1 : n ≤ 9223372036854775807) : CL X GV 33 [.int .i64 n] [] = some (.str (decI n), []) := by
  obtain ⟨u, rfl⟩ : ∃ u : Nat, n = u := ⟨n.toNat, by omega⟩
  have h := p_digF 19 u (by omega) (by omega) (by omega)
  rw [h, decI, if_neg (by omega), Int.toNat_natCast]
structure Vd where
  at_ : Int
  tm : Int
  t : Tb
def Vd.cells (v : Vd) : List AV := [.int .i64 v.at_, .int .i64 v.tm, v.t.xv, v.t.xr]
def Vd.ok (v : Vd) : Prop := I64 v.at_ ∧ I64 v.tm ∧ v.t.ok
def Vd.bad (v : Vd) : Prop := v.at_ < 0 ∨ 4096 ≤ v.at_ ∨ v.tm < 0 ∨ 1099511627776 < v.tm
theorem tabT_len {t : Tb} (ht : t.ok) : (tabT t).length ≤ 2000000010 := by
  have h1 := jn_len t.vs
  have h2 := rowsT_len t.rs
  have h3 := ht.2.2.2.2.2
  unfold Tb.bulk at h3
  simp only [tabT, List.length_cons, List.length_append]
  omega
end Go.Proofs.YtafeikbbjhmlaaaGreatDoor.Sx.T
namespace Go.Proofs.YtafeikbbjhmlaaaGreatDoor.Sx.T
open Go Go.Proofs.YtafeikbbjhmlaaaGreatDoor.Sx
set_option maxRecDepth 100000
set_option maxHeartbeats 8000000
theorem o_boxe {C : CallT} {gl : Nat → List AV} (d : Nat) (a : XArg) (n : Nat) (fr : List AV) (hp : Heap) : evO1 C gl (some d) (.boxe a n) fr hp =
    if (cellsOf (earg fr a)).length = n ∧ (cellsOf (earg fr a)).all plain1 = true ∧ refFreeL (cellsOf (earg fr a)) = true then some (fput fr d (.elp (cellsOf (earg fr a))), hp) else none := by
  simp only [evO1, evOp]
  by_cases h : (cellsOf (earg fr a)).length = n ∧ (cellsOf (earg fr a)).all plain1 = true ∧ refFreeL (cellsOf (earg fr a)) = true
  · rw [if_pos h, if_pos h]; rfl
  · rw [if_neg h, if_neg h]
def loadeK (v : AV) (n : Nat) (agg : Bool) : Option AV := match v with | .elp cs => ldCells cs n agg | _ => none
theorem loadeK_elp (cs : List AV) (n : Nat) (agg : Bool) : loadeK (.elp cs) n agg = ldCells cs n agg := rfl
theorem o_loade {C : CallT} {gl : Nat → List AV} (d : Nat) (a : XArg) (n : Nat) (agg : Bool) (fr : List AV) (hp : Heap) : evO1 C gl (some d) (.loade a n agg) fr hp = vK (loadeK (earg fr a) n agg) (fun v => some (fput fr d v, hp)) := by
  simp only [evO1, evOp, loadeK]
  cases earg fr a <;> simp only [vK] <;> try rfl
  rename_i cs
  cases ldCells cs n agg <;> rfl
structure Se where
  ks : List Int
  kv : AV
  at_ : Int
  t : Tb
instance : Inhabited Se := ⟨⟨[], .nilsl, 0, ⟨[], [], .nilsl, .nilsl⟩⟩⟩
def Se.cells (s : Se) : List AV := [s.kv, .int .i64 s.at_, s.t.xv, s.t.xr]
def Se.ok (s : Se) : Prop := Ls 1 s.kv (nums s.ks) ∧ s.ks.length ≤ 1048576 ∧ I64 s.at_ ∧ s.t.ok
def offK (k : Int) : Bool := decide (k < 0) || decide (256 ≤ k)
noncomputable def oneE (s : Se) : Int := if 24 < s.ks.length ∨ s.at_ < 0 ∨ 4096 ≤ s.at_ then 1 else if s.ks.any offK then 1 else tabE s.t
def oneT (s : Se) : List UInt8 := 91 :: (jn (s.ks.map decI) ++ ([93, 32] ++ (decI s.at_ ++ ([32] ++ (tabT s.t ++ [10])))))
noncomputable def oneS (s : Se) : List UInt8 := if oneE s = 0 then oneT s else []
theorem jn_decs : ∀ l : List Int, ((l.map decI).map fun w => w.length + 1).sum ≤ 22 * l.length
  | [] => by simp
  | k :: l => by
    have ih := jn_decs l
    have := decI_len k
    simp only [List.map_cons, List.sum_cons, List.length_cons] at ih ⊢
    omega
theorem tabT_bulk (t : Tb) : (tabT t).length ≤ t.bulk + 2 := by
  have h1 := jn_len t.vs
  have h2 := rowsT_len t.rs
  unfold Tb.bulk
  simp only [tabT, List.length_cons, List.length_append]
  omega
theorem oneS_len (s : Se) : (oneS s).length ≤ s.t.bulk + 700 := by
  unfold oneS
  by_cases h : oneE s = 0
  · rw [if_pos h]
    have h24 : s.ks.length ≤ 24 := by
      unfold oneE at h
      split at h
      · simp at h
      · omega
    have h1 := jn_len (s.ks.map decI)
    have h2 := jn_decs s.ks
    have h3 := decI_len s.at_
    have h4 := tabT_bulk s.t
    simp only [oneT, List.length_cons, List.length_append, List.length_nil]
    omega
  · rw [if_neg h]; simp
theorem any_step {l : List Int} {i : Nat} (h : i < l.length) (p : Int → Bool) (hb : p (l.getD i 0) = true) : l.any p = true :=
  List.any_eq_true.2 ⟨l.getD i 0, by simp [List.getD, h], hb⟩
theorem any_none {l : List Int} (p : Int → Bool) (h : ∀ i, i < l.length → p (l.getD i 0) = false) : l.any p = false := by
  rw [List.any_eq_false]
  intro x hx
  obtain ⟨i, hi, rfl⟩ := List.mem_iff_getElem.1 hx
  have := h i hi
  simp only [List.getD, List.getElem?_eq_getElem hi, Option.getD_some] at this
  simp [this]
theorem l_onePath (ks : List Int) (kv : AV) (hk : Ls 1 kv (nums ks)) (hl : ks.length ≤ 24) (B : AV) {fr : List AV} {L : Level} (K : Option (XExit × St) → Prop)
    (h1 : fget fr 1 = B) (h4 : fget fr 4 = .nilsl) (h25 : fget fr 25 = kv) (h26 : fget fr 26 = .int .i64 ks.length) (h27 : fget fr 27 = .int .i64 0)
    (hk0 : ks.any offK = false → ∀ fr', fget fr' 1 = B → fget fr' 4 = ol (wds (ks.map decI)) → K (some (.exit 0, ⟨fr', [L]⟩)))
    (hk1 : ks.any offK = true → ∀ fr', fget fr' 2 = .str [] → fget fr' 3 = .int .i64 1 → K (some (.ret, ⟨fr', [L]⟩))) : K (LC X GV (.loop x34_l0) ⟨fr, [L]⟩) := by
  obtain ⟨p1, u1, n1, d1, f1⟩ := hk.one
  obtain ⟨I, hI⟩ : ∃ I : Nat → List AV → Heap → Prop, ∀ i fr hp', I i fr hp' ↔ (hp' = [L] ∧ fget fr 1 = B ∧ fget fr 4 = ol (wds ((ks.map decI).take i)) ∧ fget fr 25 = kv ∧ fget fr 26 = .int .i64 ks.length ∧ fget fr 27 = .int .i64 (i : Nat) ∧ ∀ j, j < i → offK (ks.getD j 0) = false) := ⟨_, fun _ _ _ => Iff.rfl⟩
  obtain ⟨Q, hQ⟩ : ∃ Q : XExit → List AV → Heap → Prop, ∀ e fr hp', Q e fr hp' ↔ (hp' = [L] ∧ ((e = .exit 0 ∧ ks.any offK = false ∧ fget fr 1 = B ∧ fget fr 4 = ol (wds (ks.map decI))) ∨ (e = .ret ∧ ks.any offK = true ∧ fget fr 2 = .str [] ∧ fget fr 3 = .int .i64 1))) := ⟨_, fun _ _ _ => Iff.rfl⟩
  refine LC_upK ks.length I Q K ?_ ?_ ?_ ?_
  · rw [hI]
    exact ⟨rfl, h1, by rw [h4]; rfl, h25, h26, h27, fun j h => by omega⟩
  · intro i hi fr hp' hh
    obtain ⟨rfl, h1, h4, h25, h26, h27, hd⟩ := (hI _ _ _).1 hh
    have k1 : ((i : Int) < (ks.length : Int)) = True := by simp; omega
    have g1 := hk.at (k := i) (by rw [nums_len]; exact hi)
    rw [nums_get ks i hi] at g1
    have w1 : wr .i64 ((i : Int) + 1) = ((i + 1 : Nat) : Int) := by rw [wr_i64 _ (by omega)]; omega
    have hany := any_step hi offK
    have hnext : offK (ks.getD i 0) = false → ∀ j, j < i + 1 → offK (ks.getD j 0) = false := fun h j hj => by
      by_cases e : j = i
      · subst e; exact h
      · exact hd j (by omega)
    have htk : (ks.map decI).take (i + 1) = (ks.map decI).take i ++ [decI (ks.getD i 0)] := by
      rw [take_snoc _ i [] (by simpa using hi)]
      simp [List.getD, hi]
    generalize ks.getD i 0 = k at g1 hany hnext htk
    by_cases c1 : k < 0
    · have ho : ks.any offK = true := hany (by simp [offK, c1])
      simp +contextual -implicitDefEqProofs (maxSteps := 10000000) only [x34_l0_run, go_sem, ↓reduceIte, Nat.reduceEqDiff, h25, h26, h27, k1, g1, u1, c1]
      rw [hQ]
      exact ⟨rfl, .inr ⟨rfl, ho, by simp only [go_sem, ↓reduceIte, Nat.reduceEqDiff], by simp only [go_sem, ↓reduceIte]⟩⟩
    by_cases c2 : 256 ≤ k
    · have ho : ks.any offK = true := hany (by simp [offK, c2])
      simp +contextual -implicitDefEqProofs (maxSteps := 10000000) only [x34_l0_run, go_sem, ↓reduceIte, Nat.reduceEqDiff, h25, h26, h27, k1, g1, u1, c1, c2]
      rw [hQ]
      exact ⟨rfl, .inr ⟨rfl, ho, by simp only [go_sem, ↓reduceIte, Nat.reduceEqDiff], by simp only [go_sem, ↓reduceIte]⟩⟩
    have hoff : offK k = false := by simp [offK]; omega
    have hi9 : primX 9 [.int .i64 k] = some (.str (decI k)) := if_pos ⟨by omega, by omega⟩
    generalize decI k = q at hi9 htk
    have rf : (refFreeL [[AV.str q]].flatten = true ∧ [[AV.str q]].flatten.all plain1 = true) = True := by simp [refFreeL, refFree, plain1]
    have hlen : ((ks.map decI).take i).length = i := by rw [List.length_take, List.length_map]; omega
    have hnew : ol (wds ((ks.map decI).take (i + 1))) = .lst .own 1 (wds ((ks.map decI).take i) ++ [[.str q]]) := by rw [htk, wds_snoc, ol_cons]
    cases hw : (ks.map decI).take i with
    | nil =>
      rw [hw] at h4 hnew
      have h4' : fget fr 4 = .nilsl := h4
      have hnew' : ol (wds ((ks.map decI).take (i + 1))) = .lst .own 1 [[.str q]] := hnew
      simp +contextual -implicitDefEqProofs (maxSteps := 10000000) only [x34_l0_run, go_sem, ↓reduceIte, reduceCtorEq, Nat.reduceEqDiff, Nat.reduceLeDiff, Nat.reduceMul, Nat.reduceLT, Nat.reduceDiv, h4', h25, h26, h27, k1, g1, w1, u1, c1, c2, hi9, room, rf]
      rw [hI]
      refine ⟨rfl, ?_, ?_, ?_, ?_, ?_, hnext hoff⟩ <;> simp only [go_sem, ↓reduceIte, Nat.reduceEqDiff, h1, h25, h26, hnew']
    | cons w0 ws0 =>
      rw [hw] at h4 hnew hlen
      obtain ⟨W, hW⟩ : ∃ W, wds (w0 :: ws0) = W := ⟨_, rfl⟩
      have hWl : W.length = i := by rw [← hW, wds_len, hlen]
      have h4' : fget fr 4 = .lst .own 1 W := by rw [← hW]; exact h4
      rw [hW] at hnew
      have b1 : ((W.length + 1) * 16 ≤ 140737488355328) = True := by simp; omega
      simp +contextual -implicitDefEqProofs (maxSteps := 10000000) only [x34_l0_run, go_sem, ↓reduceIte, reduceCtorEq, Nat.reduceEqDiff, Nat.reduceLT, Nat.reduceDiv, h4', h25, h26, h27, k1, g1, w1, u1, c1, c2, hi9, room, rf, b1]
      rw [hI]
      refine ⟨rfl, ?_, ?_, ?_, ?_, ?_, hnext hoff⟩ <;> simp only [go_sem, ↓reduceIte, Nat.reduceEqDiff, h1, h25, h26, hnew]
  · intro fr hp' hh
    obtain ⟨rfl, h1, h4, h25, h26, h27, hd⟩ := (hI _ _ _).1 hh
    simp +contextual -implicitDefEqProofs (maxSteps := 10000000) only [x34_l0_run, go_sem, ↓reduceIte, h26, h27, Int.lt_irrefl]
    rw [hQ]
    rw [List.take_of_length_le (by simp)] at h4
    exact ⟨rfl, .inl ⟨rfl, any_none offK hd, by simp only [go_sem, ↓reduceIte, Nat.reduceEqDiff, h1], by simp only [go_sem, ↓reduceIte, Nat.reduceEqDiff, h4]⟩⟩
  · intro e fr hp' he hh
    rcases (hQ _ _ _).1 hh with ⟨rfl, ⟨rfl, a1, a2, a3⟩ | ⟨rfl, a1, a2, a3⟩⟩
    · exact hk0 a1 fr a2 a3
    · exact hk1 a1 fr a2 a3
theorem p_sayOne (s : Se) (hs : s.ok) : CL X GV 34 [.agg s.cells] [] = some (.tup [.str (oneS s), .int .i64 (oneE s)], []) := by
  obtain ⟨hk, hkl, ha, ht⟩ := hs
  obtain ⟨pk, uk, nk, dk, fk⟩ := hk.one
  rw [nums_len] at nk
  obtain ⟨pv, uv, nv, dv, fv⟩ := ht.1.one
  obtain ⟨pr, ur, nr, dr, fr0⟩ := ht.2.1.one
  have htab := p_sayTab s.t ht
  have hlen := tabT_len ht
  rw [CL_eq (fn := x34) rfl]
  obtain ⟨ks, kv, a, t⟩ := s
  simp only [Se.cells, Tb.cells] at *
  have hE : oneE ⟨ks, kv, a, t⟩ = if 24 < ks.length ∨ a < 0 ∨ 4096 ≤ a then 1 else if ks.any offK then 1 else tabE t := rfl
  by_cases c0 : 24 < ks.length
  · have c0' : ((24 : Int) < (ks.length : Int)) = True := by simp; omega
    rw [if_pos (.inl c0)] at hE
    rw [oneS, hE, if_neg (by simp)]
    simp +contextual -implicitDefEqProofs (maxSteps := 10000000) only [x34, go_sem, ↓reduceIte, Nat.reduceEqDiff, Nat.reduceAdd, Nat.reduceLeDiff, pk, uk, nk, fk, pv, uv, fv, pr, ur, fr0, c0', o_boxe]
  have c0' : ((24 : Int) < (ks.length : Int)) = False := by simp; omega
  by_cases c1 : a < 0
  · rw [if_pos (.inr (.inl c1))] at hE
    rw [oneS, hE, if_neg (by simp)]
    simp +contextual -implicitDefEqProofs (maxSteps := 10000000) only [x34, go_sem, ↓reduceIte, Nat.reduceEqDiff, Nat.reduceAdd, Nat.reduceLeDiff, pk, uk, nk, fk, pv, uv, fv, pr, ur, fr0, c0', c1, o_boxe]
  by_cases c2 : 4096 ≤ a
  · rw [if_pos (.inr (.inr c2))] at hE
    rw [oneS, hE, if_neg (by simp)]
    simp +contextual -implicitDefEqProofs (maxSteps := 10000000) only [x34, go_sem, ↓reduceIte, Nat.reduceEqDiff, Nat.reduceAdd, Nat.reduceLeDiff, pk, uk, nk, fk, pv, uv, fv, pr, ur, fr0, c0', c1, c2, o_boxe]
  rw [if_neg (by omega)] at hE
  simp +contextual -implicitDefEqProofs (maxSteps := 10000000) only [x34, go_sem, ↓reduceIte, Nat.reduceEqDiff, Nat.reduceAdd, Nat.reduceLeDiff, pk, uk, nk, fk, pv, uv, fv, pr, ur, fr0, c0', c1, c2, o_boxe]
  refine l_onePath ks kv hk (by omega) (.elp [kv, .int .i64 a, t.xv, t.xr]) (fun r => finK _ (seqK (blockK 0 r) _) = _) ?_ ?_ ?_ ?_ ?_ ?_ ?_
  all_goals first | (simp only [go_sem, ↓reduceIte, Nat.reduceEqDiff, Nat.reduceAdd]; done) | skip
  · intro hN fr g1 g4
    rw [hN, if_neg (by simp)] at hE
    by_cases hT : tabE t = 0
    case neg =>
      have e2 : tabS t = [] := by rw [tabS, if_neg hT]
      rw [e2] at htab
      rw [oneS, hE, if_neg hT]
      generalize tabE t = e at *
      have c5 : (e = 0) = False := by simp [hT]
      simp +contextual -implicitDefEqProofs (maxSteps := 10000000) only [go_sem, ↓reduceIte, Nat.reduceEqDiff, Nat.reduceAdd, Nat.reduceLeDiff, g1, uv, fv, ur, fr0, c5, htab]
    rw [tabS, if_pos hT, hT] at htab
    rw [oneS, hE, if_pos hT, hT]
    have hone : oneT ⟨ks, kv, a, t⟩ = 91 :: (jn (ks.map decI) ++ ([93, 32] ++ (decI a ++ ([32] ++ (tabT t ++ [10]))))) := rfl
    rw [hone]
    generalize tabT t = T at *
    have hi : primX 9 [.int .i64 a] = some (.str (decI a)) := if_pos ⟨by omega, by omega⟩
    have l1 := decI_len a
    have l2 := jn_len (ks.map decI)
    have l3 := jn_decs ks
    have hX := ol_ls (wds (ks.map decI))
    generalize ol (wds (ks.map decI)) = Y at g4 hX
    obtain ⟨px, ux, nx, dx, fx⟩ := hX.one
    have hput := fun L hL => p_put L 9 0 [91] [93, 32] [] (uf Y) (ks.map decI) hX hL (by rw [List.length_map]; omega) (by omega) (by simp) (by simp) (by simp)
    have nv9 : nextVer [] 9 = 0 := rfl
    have hL0 : lbld (lputb [] 9 0 56 5 []) 9 0 = some (56, 5, []) := rfl
    have hput0 := hput _ hL0
    have hb0 : (lbld (lputb [] 9 0 56 5 []) 9 0).isSome = true := rfl
    have hbs := p_bs
    generalize jn (ks.map decI) = N at *
    generalize decI a = A at *
    simp +contextual -implicitDefEqProofs (maxSteps := 10000000) only [go_sem, ↓reduceIte, Nat.reduceEqDiff, Nat.reduceAdd, Nat.reduceLeDiff, Nat.reduceMul, Int.reduceBNe, g1, g4, uv, fv, ur, fr0, ux, htab, hi, o_loade, loadeK_elp, o_allocb, nv9, hput0, o_callw, cwK_putb, cwK_putbc, hbs, bsK_some, lbld_putb, Option.isSome_some]
    rw [if_pos (by simp only [List.length_append, List.length_cons, List.length_nil]; omega), if_pos (by simp only [List.length_append, List.length_cons, List.length_nil]; omega), if_pos (by simp only [List.length_append, List.length_cons, List.length_nil]; omega), if_pos (by simp only [List.length_append, List.length_cons, List.length_nil]; omega)]
    simp only [List.append_assoc, List.cons_append, List.nil_append]
  · intro hN fr g2 g3
    rw [hN, if_pos rfl] at hE
    rw [oneS, hE, if_neg (by simp)]
    simp +contextual -implicitDefEqProofs (maxSteps := 10000000) only [go_sem, ↓reduceIte, Nat.reduceAdd, g2, g3]
end Go.Proofs.YtafeikbbjhmlaaaGreatDoor.Sx.T
namespace Go.Proofs.YtafeikbbjhmlaaaGreatDoor.Sx.T
open Go Go.Proofs.YtafeikbbjhmlaaaGreatDoor.Sx
set_option maxRecDepth 100000
set_option maxHeartbeats 8000000
theorem decs_take_len (ks : List Int) (i : Nat) : (jn ((ks.map decI).take i)).length ≤ 22 * ks.length :=
  Nat.le_trans (jn_take_len _ i) (jn_decs ks)
theorem l_rOnePath (ks : List Int) (kv : AV) (hk : Ls 1 kv (nums ks)) (hl : ks.length ≤ 24) {fr : List AV} {L : Level} (K : Option (XExit × St) → Prop)
    (h1 : fget fr 1 = .ptr ⟨0, 1, 0⟩ 0) (h4 : fget fr 4 = .str [91]) (h24 : fget fr 24 = kv) (h25 : fget fr 25 = .int .i64 ks.length) (h26 : fget fr 26 = .int .i64 0)
    (hk0 : ks.any offK = false → ∀ fr', fget fr' 1 = .ptr ⟨0, 1, 0⟩ 0 → fget fr' 4 = .str (91 :: jn (ks.map decI)) → K (some (.exit 0, ⟨fr', [L]⟩)))
    (hk1 : ks.any offK = true → ∀ fr', fget fr' 2 = .str [] → fget fr' 3 = .int .i64 1 → K (some (.ret, ⟨fr', [L]⟩))) : K (LC X GV (.loop x36_l0) ⟨fr, [L]⟩) := by
  obtain ⟨p1, u1, n1, d1, f1⟩ := hk.one
  obtain ⟨I, hI⟩ : ∃ I : Nat → List AV → Heap → Prop, ∀ i fr hp', I i fr hp' ↔ (hp' = [L] ∧ fget fr 1 = .ptr ⟨0, 1, 0⟩ 0 ∧ fget fr 4 = .str (91 :: jn ((ks.map decI).take i)) ∧ fget fr 24 = kv ∧ fget fr 25 = .int .i64 ks.length ∧ fget fr 26 = .int .i64 (i : Nat) ∧ ∀ j, j < i → offK (ks.getD j 0) = false) := ⟨_, fun _ _ _ => Iff.rfl⟩
  obtain ⟨Q, hQ⟩ : ∃ Q : XExit → List AV → Heap → Prop, ∀ e fr hp', Q e fr hp' ↔ (hp' = [L] ∧ ((e = .exit 0 ∧ ks.any offK = false ∧ fget fr 1 = .ptr ⟨0, 1, 0⟩ 0 ∧ fget fr 4 = .str (91 :: jn (ks.map decI))) ∨ (e = .ret ∧ ks.any offK = true ∧ fget fr 2 = .str [] ∧ fget fr 3 = .int .i64 1))) := ⟨_, fun _ _ _ => Iff.rfl⟩
  refine LC_upK ks.length I Q K ?_ ?_ ?_ ?_
  · rw [hI]
    exact ⟨rfl, h1, by rw [h4]; rfl, h24, h25, h26, fun j h => by omega⟩
  · intro i hi fr hp' hh
    obtain ⟨rfl, h1, h4, h24, h25, h26, hd⟩ := (hI _ _ _).1 hh
    have k1 : ((i : Int) < (ks.length : Int)) = True := by simp; omega
    have g1 := hk.at (k := i) (by rw [nums_len]; exact hi)
    rw [nums_get ks i hi] at g1
    have w1 : wr .i64 ((i : Int) + 1) = ((i + 1 : Nat) : Int) := by rw [wr_i64 _ (by omega)]; omega
    have hany := any_step hi offK
    have hnext : offK (ks.getD i 0) = false → ∀ j, j < i + 1 → offK (ks.getD j 0) = false := fun h j hj => by
      by_cases e : j = i
      · subst e; exact h
      · exact hd j (by omega)
    have htk := jn_take (ks.map decI) i (by simpa using hi)
    have hgd : (ks.map decI).getD i [] = decI (ks.getD i 0) := by simp [List.getD, hi]
    rw [hgd] at htk
    clear hgd
    have hTl := decs_take_len ks i
    generalize ks.getD i 0 = k at g1 hany hnext htk
    by_cases c1 : k < 0
    · have ho : ks.any offK = true := hany (by simp [offK, c1])
      simp +contextual -implicitDefEqProofs (maxSteps := 10000000) only [x36_l0_run, go_sem, ↓reduceIte, Nat.reduceEqDiff, h24, h25, h26, k1, g1, u1, c1]
      rw [hQ]
      exact ⟨rfl, .inr ⟨rfl, ho, by simp only [go_sem, ↓reduceIte, Nat.reduceEqDiff], by simp only [go_sem, ↓reduceIte]⟩⟩
    by_cases c2 : 256 ≤ k
    · have ho : ks.any offK = true := hany (by simp [offK, c2])
      simp +contextual -implicitDefEqProofs (maxSteps := 10000000) only [x36_l0_run, go_sem, ↓reduceIte, Nat.reduceEqDiff, h24, h25, h26, k1, g1, u1, c1, c2]
      rw [hQ]
      exact ⟨rfl, .inr ⟨rfl, ho, by simp only [go_sem, ↓reduceIte, Nat.reduceEqDiff], by simp only [go_sem, ↓reduceIte]⟩⟩
    have hoff : offK k = false := by simp [offK]; omega
    have hi9 := p_dig k (by omega) (by omega)
    have hql := decI_len k
    generalize decI k = q at hi9 htk hql
    obtain ⟨T, hT⟩ : ∃ T, 91 :: jn ((ks.map decI).take i) = T := ⟨_, rfl⟩
    have hTl' : T.length ≤ 1000 := by rw [← hT, List.length_cons]; omega
    rw [hT] at h4
    by_cases c0 : i = 0
    · have ci : ((0 : Int) < (i : Int)) = False := by simp; omega
      rw [if_pos c0] at htk
      have b1 : (T.length + q.length ≤ 140737488355328) = True := by simp; omega
      have hT2 : 91 :: jn ((ks.map decI).take (i + 1)) = T ++ q := by rw [htk, ← hT, c0]; rfl
      simp +contextual -implicitDefEqProofs (maxSteps := 10000000) only [x36_l0_run, go_sem, ↓reduceIte, Nat.reduceEqDiff, Nat.reduceLeDiff, h4, h24, h25, h26, k1, g1, w1, u1, c1, c2, ci, hi9, b1]
      rw [hI]
      refine ⟨rfl, ?_, ?_, ?_, ?_, ?_, hnext hoff⟩ <;> simp only [go_sem, ↓reduceIte, Nat.reduceEqDiff, h1, h24, h25, hT2]
    · have ci : ((0 : Int) < (i : Int)) = True := by simp; omega
      rw [if_neg c0] at htk
      have b1 : (T.length + 1 ≤ 140737488355328) = True := by simp; omega
      have b2 : ((T ++ [32]).length + q.length ≤ 140737488355328) = True := by simp only [List.length_append, List.length_cons, List.length_nil, eq_iff_iff, iff_true]; omega
      have hT2 : 91 :: jn ((ks.map decI).take (i + 1)) = T ++ [32] ++ q := by rw [htk, ← hT]; simp
      simp +contextual -implicitDefEqProofs (maxSteps := 10000000) only [x36_l0_run, go_sem, ↓reduceIte, Nat.reduceEqDiff, h4, h24, h25, h26, k1, g1, w1, u1, c1, c2, ci, hi9, b1, b2]
      rw [hI]
      refine ⟨rfl, ?_, ?_, ?_, ?_, ?_, hnext hoff⟩ <;> simp only [go_sem, ↓reduceIte, Nat.reduceEqDiff, h1, h24, h25, hT2]
  · intro fr hp' hh
    obtain ⟨rfl, h1, h4, h24, h25, h26, hd⟩ := (hI _ _ _).1 hh
    simp +contextual -implicitDefEqProofs (maxSteps := 10000000) only [x36_l0_run, go_sem, ↓reduceIte, h25, h26, Int.lt_irrefl]
    rw [hQ]
    rw [List.take_of_length_le (by simp)] at h4
    exact ⟨rfl, .inl ⟨rfl, any_none offK hd, by simp only [go_sem, ↓reduceIte, Nat.reduceEqDiff, h1], by simp only [go_sem, ↓reduceIte, Nat.reduceEqDiff, h4]⟩⟩
  · intro e fr hp' he hh
    rcases (hQ _ _ _).1 hh with ⟨rfl, ⟨rfl, a1, a2, a3⟩ | ⟨rfl, a1, a2, a3⟩⟩
    · exact hk0 a1 fr a2 a3
    · exact hk1 a1 fr a2 a3
theorem p_rOne (s : Se) (hs : s.ok) : CL X GV 36 [.agg s.cells] [] = some (.tup [.str (oneS s), .int .i64 (oneE s)], []) := by
  obtain ⟨hk, hkl, ha, ht⟩ := hs
  obtain ⟨pk, uk, nk, dk, fk⟩ := hk.one
  rw [nums_len] at nk
  obtain ⟨pv, uv, nv, dv, fv⟩ := ht.1.one
  obtain ⟨pr, ur, nr, dr, fr0⟩ := ht.2.1.one
  have htab := p_rTab s.t ht
  have hlen := tabT_len ht
  rw [CL_eq (fn := x36) rfl]
  obtain ⟨ks, kv, a, t⟩ := s
  simp only [Se.cells, Tb.cells] at *
  have hE : oneE ⟨ks, kv, a, t⟩ = if 24 < ks.length ∨ a < 0 ∨ 4096 ≤ a then 1 else if ks.any offK then 1 else tabE t := rfl
  by_cases c0 : 24 < ks.length
  · have c0' : ((24 : Int) < (ks.length : Int)) = True := by simp; omega
    rw [if_pos (.inl c0)] at hE
    rw [oneS, hE, if_neg (by simp)]
    simp +contextual -implicitDefEqProofs (maxSteps := 10000000) only [x36, go_sem, ↓reduceIte, Nat.reduceEqDiff, Nat.reduceAdd, pk, uk, nk, pv, uv, pr, ur, c0', ldAt_topc]
  have c0' : ((24 : Int) < (ks.length : Int)) = False := by simp; omega
  by_cases c1 : a < 0
  · rw [if_pos (.inr (.inl c1))] at hE
    rw [oneS, hE, if_neg (by simp)]
    simp +contextual -implicitDefEqProofs (maxSteps := 10000000) only [x36, go_sem, ↓reduceIte, Nat.reduceEqDiff, Nat.reduceAdd, pk, uk, nk, pv, uv, pr, ur, c0', c1, ldAt_topc]
  by_cases c2 : 4096 ≤ a
  · rw [if_pos (.inr (.inr c2))] at hE
    rw [oneS, hE, if_neg (by simp)]
    simp +contextual -implicitDefEqProofs (maxSteps := 10000000) only [x36, go_sem, ↓reduceIte, Nat.reduceEqDiff, Nat.reduceAdd, pk, uk, nk, pv, uv, pr, ur, c0', c1, c2, ldAt_topc]
  rw [if_neg (by omega)] at hE
  simp +contextual -implicitDefEqProofs (maxSteps := 10000000) only [x36, go_sem, ↓reduceIte, Nat.reduceEqDiff, Nat.reduceAdd, pk, uk, nk, pv, uv, pr, ur, c0', c1, c2, ldAt_topc]
  refine l_rOnePath ks kv hk (by omega) (fun r => finK _ (seqK (blockK 0 r) _) = _) ?_ ?_ ?_ ?_ ?_ ?_ ?_
  all_goals first | (simp only [go_sem, ↓reduceIte, Nat.reduceEqDiff, Nat.reduceAdd]; done) | skip
  · intro hN fr g1 g4
    have hcc : lcells (lputc [] 1 0 [kv, .int .i64 a, t.xv, t.xr]) 1 0 = some [kv, .int .i64 a, t.xv, t.xr] := by rw [lcells_put]; simp
    rw [hN, if_neg (by simp)] at hE
    by_cases hT : tabE t = 0
    case neg =>
      have e2 : tabS t = [] := by rw [tabS, if_neg hT]
      rw [e2] at htab
      rw [oneS, hE, if_neg hT]
      generalize tabE t = e at *
      have c5 : (e = 0) = False := by simp [hT]
      simp +contextual -implicitDefEqProofs (maxSteps := 10000000) only [go_sem, ↓reduceIte, Nat.reduceEqDiff, Nat.reduceAdd, g1, uv, fv, ur, fr0, c5, htab, ldAt_topc, hcc]
    rw [tabS, if_pos hT, hT] at htab
    rw [oneS, hE, if_pos hT, hT]
    have hone : oneT ⟨ks, kv, a, t⟩ = 91 :: (jn (ks.map decI) ++ ([93, 32] ++ (decI a ++ ([32] ++ (tabT t ++ [10]))))) := rfl
    rw [hone]
    generalize tabT t = T at *
    have hi := p_dig a (by omega) (by omega)
    have l1 := decI_len a
    have l2 := jn_len (ks.map decI)
    have l3 := jn_decs ks
    generalize jn (ks.map decI) = N at *
    generalize decI a = A at *
    have hNl : N.length ≤ 1000 := by omega
    obtain ⟨M, hM⟩ : ∃ M, 91 :: N = M := ⟨_, rfl⟩
    have hMl : M.length ≤ 1001 := by rw [← hM, List.length_cons]; omega
    rw [hM] at g4
    have b0 : (M.length + 2 ≤ 140737488355328) = True := by simp; omega
    have b1 : ((M ++ [93, 32]).length + A.length ≤ 140737488355328) = True := by simp only [List.length_append, List.length_cons, List.length_nil, eq_iff_iff, iff_true]; omega
    have b3 : ((M ++ [93, 32] ++ A).length + 1 ≤ 140737488355328) = True := by simp only [List.length_append, List.length_cons, List.length_nil, eq_iff_iff, iff_true]; omega
    have b4 : ((M ++ [93, 32] ++ A ++ [32]).length + T.length ≤ 140737488355328) = True := by simp only [List.length_append, List.length_cons, List.length_nil, eq_iff_iff, iff_true]; omega
    have b5 : ((M ++ [93, 32] ++ A ++ [32] ++ T).length + 1 ≤ 140737488355328) = True := by simp only [List.length_append, List.length_cons, List.length_nil, eq_iff_iff, iff_true]; omega
    simp +contextual -implicitDefEqProofs (maxSteps := 10000000) only [go_sem, ↓reduceIte, Nat.reduceEqDiff, Nat.reduceAdd, Int.reduceBNe, g1, g4, uv, fv, ur, fr0, htab, hi, ldAt_topc, hcc, b0, b1, b3, b4, b5]
    rw [← hM]
    simp only [List.append_assoc, List.cons_append, List.nil_append]
  · intro hN fr g2 g3
    rw [hN, if_pos rfl] at hE
    rw [oneS, hE, if_neg (by simp)]
    simp +contextual -implicitDefEqProofs (maxSteps := 10000000) only [go_sem, ↓reduceIte, Nat.reduceAdd, g2, g3]
end Go.Proofs.YtafeikbbjhmlaaaGreatDoor.Sx.T
namespace Go.Proofs.YtafeikbbjhmlaaaGreatDoor.Sx.T
open Go Go.Proofs.YtafeikbbjhmlaaaGreatDoor.Sx
set_option maxRecDepth 100000
set_option maxHeartbeats 8000000
theorem p_bw (L : Level) (s v : Nat) (str : List UInt8) : CL X GV 35 [.ptr ⟨0, s, v⟩ 0, .str str] [L] = bwK 56005 s v str L [] (lbld L s v) := by
  rw [CL_spec (1000000 + 56005) (fn := x35) rfl rfl]
  exact hp_writeK rfl (by decide)
def ses (l : List Se) : List (List AV) := l.map Se.cells
theorem ses_len (l : List Se) : (ses l).length = l.length := by simp [ses]
theorem ses_get (l : List Se) (i : Nat) (h : i < l.length) : (ses l).getD i [] = (l.getD i default).cells := by simp [ses, List.getD, h]
def SesV (x : AV) (l : List Se) : Prop := Ls 4 x (ses l) ∧ (∀ s ∈ l, s.ok) ∧ l.length ≤ 1048576 ∧ (l.map fun s => s.t.bulk).sum ≤ 1000000000
noncomputable def shE (l : List Se) : Int := if 4096 < l.length then 3 else firstE (fun i => oneE (l.getD i default)) l.length 0
noncomputable def shT (l : List Se) : List UInt8 := l.flatMap oneS
noncomputable def shS (l : List Se) : List UInt8 := if shE l = 0 then shT l else []
theorem shT_take (l : List Se) (i : Nat) (h : i < l.length) : shT (l.take (i + 1)) = shT (l.take i) ++ oneS (l.getD i default) := by
  rw [shT, List.take_succ_eq_append_getElem h, List.flatMap_append, List.flatMap_singleton]
  simp [shT, List.getD, h]
theorem shT_len : ∀ l : List Se, (shT l).length ≤ (l.map fun s => s.t.bulk).sum + 700 * l.length
  | [] => by simp [shT]
  | s :: l => by
    have ih := shT_len l
    have := oneS_len s
    simp only [shT, List.flatMap_cons, List.length_append, List.map_cons, List.sum_cons, List.length_cons] at ih ⊢
    omega
theorem sumS_take (f : Se → Nat) : ∀ (l : List Se) (i : Nat), ((l.take i).map f).sum ≤ (l.map f).sum
  | [], i => by simp
  | r :: l, 0 => by simp
  | r :: l, i + 1 => by
    have := sumS_take f l i
    simp only [List.take_succ_cons, List.map_cons, List.sum_cons]
    omega
theorem shT_bound {x : AV} {l : List Se} (h : SesV x l) (i : Nat) : (shT (l.take i)).length ≤ 2000000000 := by
  have h1 := shT_len (l.take i)
  have h2 := sumS_take (fun s => s.t.bulk) l i
  have h3 := h.2.2.1
  have h4 := h.2.2.2
  rw [List.length_take] at h1
  omega
theorem p_sayShs (l : List Se) (x : AV) (hx : SesV x l) : CL X GV 13 [x] [] = some (.tup [.str (shS l), .int .i64 (shE l)], []) := by
  obtain ⟨hl, hok, hn, hb⟩ := id hx
  obtain ⟨p1, u1, n1, d1, f1⟩ := hl.one
  rw [ses_len] at n1
  have hTb := shT_bound hx
  rw [CL_eq (fn := x13) rfl]
  by_cases h4 : 4096 < l.length
  · have k0 : ((4096 : Int) < (l.length : Int)) = True := by simp; omega
    have e1 : shE l = 3 := by rw [shE, if_pos h4]
    have e2 : shS l = [] := by rw [shS, e1, if_neg (by simp)]
    rw [e1, e2]
    simp +contextual -implicitDefEqProofs (maxSteps := 10000000) only [x13, go_sem, ↓reduceIte, reduceCtorEq, Nat.reduceEqDiff, Nat.reduceAdd, u1, n1, k0]
  have k0 : ((4096 : Int) < (l.length : Int)) = False := by simp; omega
  have hE : shE l = firstE (fun i => oneE (l.getD i default)) l.length 0 := by rw [shE, if_neg h4]
  rw [shS, hE]
  generalize hF : (fun i => oneE (l.getD i default)) = E
  have nv4 : nextVer [] 4 = 0 := rfl
  simp +contextual -implicitDefEqProofs (maxSteps := 10000000) only [x13, go_sem, ↓reduceIte, reduceCtorEq, u1, n1, k0, o_allocb, nv4]
  obtain ⟨I, hI⟩ : ∃ I : Nat → List AV → Heap → Prop, ∀ i fr hp', I i fr hp' ↔ ((∃ L, hp' = [L] ∧ lbld L 4 0 = some (56, 5, shT (l.take i))) ∧ fget fr 4 = .ptr ⟨0, 4, 0⟩ 0 ∧ fget fr 12 = x ∧ fget fr 13 = .int .i64 l.length ∧ fget fr 14 = .int .i64 (i : Nat) ∧ firstE E l.length 0 = firstE E (l.length - i) i) := ⟨_, fun _ _ _ => Iff.rfl⟩
  obtain ⟨Q, hQ⟩ : ∃ Q : XExit → List AV → Heap → Prop, ∀ e fr hp', Q e fr hp' ↔ ((e = .exit 0 ∧ firstE E l.length 0 = 0 ∧ (∃ L, hp' = [L] ∧ lbld L 4 0 = some (56, 5, shT l)) ∧ fget fr 4 = .ptr ⟨0, 4, 0⟩ 0) ∨ (e = .ret ∧ firstE E l.length 0 ≠ 0 ∧ (∃ L, hp' = [L]) ∧ fget fr 2 = .str [] ∧ fget fr 3 = .int .i64 (firstE E l.length 0))) := ⟨_, fun _ _ _ => Iff.rfl⟩
  refine LC_upK l.length I Q (fun r => finK _ (seqK (blockK 0 r) _) = _) ?_ ?_ ?_ ?_
  · rw [hI]
    refine ⟨⟨_, rfl, ?_⟩, ?_, ?_, ?_, ?_, by rw [Nat.sub_zero]⟩
    · rw [lbld_putb, if_pos rfl, if_pos rfl]; rfl
    all_goals simp only [go_sem, ↓reduceIte, Nat.reduceEqDiff, Int.natCast_zero]
  · intro i hi fr hp' hh
    obtain ⟨⟨L, rfl, hL⟩, h4, h12, h13, h14, hd⟩ := (hI _ _ _).1 hh
    have k1 : ((i : Int) < (l.length : Int)) = True := by simp; omega
    have g1 := hl.at (k := i) (by rw [ses_len]; exact hi)
    rw [ses_get l i hi] at g1
    have w1 : wr .i64 ((i : Int) + 1) = ((i + 1 : Nat) : Int) := by rw [wr_i64 _ (by omega)]; omega
    rw [firstE_step _ _ _ hi] at hd
    have sok := hok _ (mem_getD l i hi)
    have hone := p_sayOne (l.getD i default) sok
    have htk := shT_take l i hi
    have hTl := hTb i
    have hTl1 := hTb (i + 1)
    obtain ⟨e0, he0⟩ : ∃ e, E i = e := ⟨_, rfl⟩
    rw [he0] at hd
    have he1 : oneE (l.getD i default) = e0 := by rw [← he0, ← hF]
    rw [he1] at hone
    have hq0 : e0 ≠ 0 → oneS (l.getD i default) = [] := fun h => by rw [oneS, he1, if_neg h]
    obtain ⟨q, hq⟩ : ∃ q, oneS (l.getD i default) = q := ⟨_, rfl⟩
    rw [hq] at hone htk hq0
    clear he1 he0 hq
    generalize l.getD i default = s at g1 sok hone
    obtain ⟨pk, uk, nk, dk, fk⟩ := sok.1.one
    obtain ⟨pv, uv, nv, dv, fv⟩ := sok.2.2.2.1.one
    obtain ⟨pr, ur, nr, dr, fr0⟩ := sok.2.2.2.2.1.one
    obtain ⟨ks, kv, a, t⟩ := s
    simp only [Se.cells] at *
    obtain ⟨T, hT⟩ : ∃ T, shT (l.take i) = T := ⟨_, rfl⟩
    rw [hT] at hL htk hTl
    by_cases c : e0 = 0
    · subst c
      have b1 : (T.length + q.length ≤ 140737488355328) = True := by
        rw [htk, List.length_append] at hTl1
        simp; omega
      have hbw := p_bw
      simp +contextual -implicitDefEqProofs (maxSteps := 10000000) only [x13_l0_run, go_sem, ↓reduceIte, Nat.reduceEqDiff, Nat.reduceAdd, Nat.reduceMul, Int.reduceBNe, h4, h12, h13, h14, k1, g1, w1, u1, pk, uk, fk, pv, uv, fv, pr, ur, fr0, hone, hbw, lbld_put, hL, bwK_some, b1, o_callw, cwK_putb, Option.isSome_some, stAt_topc, ldAt_topc]
      rw [hI]
      refine ⟨⟨_, rfl, ?_⟩, ?_, ?_, ?_, ?_, by rw [hd, if_neg (by simp)]⟩
      · rw [lbld_putb, if_pos rfl, if_pos rfl, htk]
      all_goals simp only [go_sem, ↓reduceIte, Nat.reduceEqDiff, h4, h12, h13]
    · have c' : (e0 = 0) = False := by simp [c]
      have hq1 := hq0 c
      subst hq1
      simp +contextual -implicitDefEqProofs (maxSteps := 10000000) only [x13_l0_run, go_sem, ↓reduceIte, Nat.reduceEqDiff, Nat.reduceAdd, h12, h13, h14, k1, g1, u1, pk, uk, fk, pv, uv, fv, pr, ur, fr0, hone, c', stAt_topc, ldAt_topc]
      rw [hQ]
      have hd' : firstE E l.length 0 = e0 := by rw [hd, if_pos c]
      exact .inr ⟨rfl, by rw [hd']; exact c, ⟨_, rfl⟩, by simp only [go_sem, ↓reduceIte, Nat.reduceEqDiff], by simp only [go_sem, ↓reduceIte, hd']⟩
  · intro fr hp' hh
    obtain ⟨⟨L, rfl, hL⟩, h4, h12, h13, h14, hd⟩ := (hI _ _ _).1 hh
    simp +contextual -implicitDefEqProofs (maxSteps := 10000000) only [x13_l0_run, go_sem, ↓reduceIte, h13, h14, Int.lt_irrefl]
    rw [hQ]
    rw [List.take_length] at hL
    exact .inl ⟨rfl, by rw [hd, Nat.sub_self]; rfl, ⟨L, rfl, hL⟩, by simp only [go_sem, ↓reduceIte, Nat.reduceEqDiff, h4]⟩
  · intro e fr hp' he hh
    rcases (hQ _ _ _).1 hh with ⟨rfl, h0, ⟨L, rfl, hL⟩, h4⟩ | ⟨rfl, h0, ⟨L, rfl⟩, h2, h3⟩
    · have hbs := p_bs
      have hbb : (lbld L 4 0).isSome = true := by rw [hL]; rfl
      rw [h0, if_pos rfl]
      simp +contextual -implicitDefEqProofs (maxSteps := 10000000) only [go_sem, ↓reduceIte, Nat.reduceEqDiff, Nat.reduceAdd, Nat.reduceMul, h4, hbs, hL, bsK_some, o_callw, cwK_putbc, Option.isSome_some]
    · rw [if_neg h0]
      simp +contextual -implicitDefEqProofs (maxSteps := 10000000) only [go_sem, ↓reduceIte, Nat.reduceAdd, h2, h3]
def blo (B : List UInt8) : AV := if B = [] then .nilsl else bl B
theorem blo_apps (B b : List UInt8) (h : B.length + b.length ≤ 100000000000) : appsK false (blo B) (.str b) = some (blo (B ++ b)) := by
  by_cases hB : B = []
  · subst hB
    by_cases hb : b = []
    · subst hb; rfl
    · rw [blo, if_pos rfl, appsK_nil _ _ hb (by simp [room]; omega), List.nil_append, blo, if_neg hb]
      rfl
  · by_cases hb : b = []
    · subst hb
      rw [List.append_nil, blo, if_neg hB]
      rfl
    · rw [blo, if_neg hB, bl_apps B b hb h, blo, if_neg (by simp [hB])]
theorem blo_drop (B : List UInt8) (fr : List AV) (t z : Nat) (h : t ≠ z) : fget (drop1K (blo B) fr t) z = fget fr z := by
  unfold blo
  by_cases hT0 : B = []
  · rw [if_pos hT0]; rfl
  · rw [if_neg hT0, bl_drop, fget_fput, if_neg (fun e => h e.symm)]
theorem blo_ufuf (B : List UInt8) : uf (uf (blo B)) = uf (blo B) := by
  unfold blo
  by_cases hT0 : B = []
  · rw [if_pos hT0]; rfl
  · rw [if_neg hT0]; rfl
theorem blo_bstr (hp : Heap) (B : List UInt8) : bstrK hp (uf (blo B)) = some (.str B) := by
  unfold blo
  by_cases hB : B = []
  · subst hB; rfl
  · rw [if_neg hB]; exact bstrK_bytes hp .none B
theorem p_rShs (l : List Se) (x : AV) (hx : SesV x l) : CL X GV 14 [x] [] = some (.tup [.str (shS l), .int .i64 (shE l)], []) := by
  obtain ⟨hl, hok, hn, hb⟩ := id hx
  obtain ⟨p1, u1, n1, d1, f1⟩ := hl.one
  rw [ses_len] at n1
  have hTb := shT_bound hx
  rw [CL_eq (fn := x14) rfl]
  by_cases h4 : 4096 < l.length
  · have k0 : ((4096 : Int) < (l.length : Int)) = True := by simp; omega
    have e1 : shE l = 3 := by rw [shE, if_pos h4]
    have e2 : shS l = [] := by rw [shS, e1, if_neg (by simp)]
    rw [e1, e2]
    simp +contextual -implicitDefEqProofs (maxSteps := 10000000) only [x14, go_sem, ↓reduceIte, reduceCtorEq, Nat.reduceEqDiff, Nat.reduceAdd, u1, n1, k0]
  have k0 : ((4096 : Int) < (l.length : Int)) = False := by simp; omega
  have hE : shE l = firstE (fun i => oneE (l.getD i default)) l.length 0 := by rw [shE, if_neg h4]
  rw [shS, hE]
  generalize hF : (fun i => oneE (l.getD i default)) = E
  simp +contextual -implicitDefEqProofs (maxSteps := 10000000) only [x14, go_sem, ↓reduceIte, reduceCtorEq, u1, n1, k0]
  obtain ⟨I, hI⟩ : ∃ I : Nat → List AV → Heap → Prop, ∀ i fr hp', I i fr hp' ↔ ((∃ L, hp' = [L]) ∧ fget fr 4 = blo (shT (l.take i)) ∧ fget fr 12 = x ∧ fget fr 13 = .int .i64 l.length ∧ fget fr 14 = .int .i64 (i : Nat) ∧ firstE E l.length 0 = firstE E (l.length - i) i) := ⟨_, fun _ _ _ => Iff.rfl⟩
  obtain ⟨Q, hQ⟩ : ∃ Q : XExit → List AV → Heap → Prop, ∀ e fr hp', Q e fr hp' ↔ ((∃ L, hp' = [L]) ∧ ((e = .exit 0 ∧ firstE E l.length 0 = 0 ∧ fget fr 4 = blo (shT l)) ∨ (e = .ret ∧ firstE E l.length 0 ≠ 0 ∧ fget fr 2 = .str [] ∧ fget fr 3 = .int .i64 (firstE E l.length 0)))) := ⟨_, fun _ _ _ => Iff.rfl⟩
  refine LC_upK l.length I Q (fun r => finK _ (seqK (blockK 0 r) _) = _) ?_ ?_ ?_ ?_
  · rw [hI]
    refine ⟨⟨_, rfl⟩, ?_, ?_, ?_, ?_, by rw [Nat.sub_zero]⟩
    all_goals simp only [go_sem, ↓reduceIte, Nat.reduceEqDiff, Int.natCast_zero]
    rfl
  · intro i hi fr hp' hh
    obtain ⟨⟨L, rfl⟩, h4, h12, h13, h14, hd⟩ := (hI _ _ _).1 hh
    have k1 : ((i : Int) < (l.length : Int)) = True := by simp; omega
    have g1 := hl.at (k := i) (by rw [ses_len]; exact hi)
    rw [ses_get l i hi] at g1
    have w1 : wr .i64 ((i : Int) + 1) = ((i + 1 : Nat) : Int) := by rw [wr_i64 _ (by omega)]; omega
    rw [firstE_step _ _ _ hi] at hd
    have sok := hok _ (mem_getD l i hi)
    have hone := p_rOne (l.getD i default) sok
    have htk := shT_take l i hi
    have hTl := hTb i
    have hTl1 := hTb (i + 1)
    obtain ⟨e0, he0⟩ : ∃ e, E i = e := ⟨_, rfl⟩
    rw [he0] at hd
    have he1 : oneE (l.getD i default) = e0 := by rw [← he0, ← hF]
    rw [he1] at hone
    have hq0 : e0 ≠ 0 → oneS (l.getD i default) = [] := fun h => by rw [oneS, he1, if_neg h]
    obtain ⟨q, hq⟩ : ∃ q, oneS (l.getD i default) = q := ⟨_, rfl⟩
    rw [hq] at hone htk hq0
    clear he1 he0 hq
    generalize l.getD i default = s at g1 sok hone
    obtain ⟨pk, uk, nk, dk, fk⟩ := sok.1.one
    obtain ⟨pv, uv, nv, dv, fv⟩ := sok.2.2.2.1.one
    obtain ⟨pr, ur, nr, dr, fr0⟩ := sok.2.2.2.2.1.one
    obtain ⟨ks, kv, a, t⟩ := s
    simp only [Se.cells] at *
    obtain ⟨T, hT⟩ : ∃ T, shT (l.take i) = T := ⟨_, rfl⟩
    rw [hT] at h4 htk hTl
    by_cases c : e0 = 0
    · subst c
      have hap := blo_apps T q (by rw [htk, List.length_append] at hTl1; omega)
      simp +contextual -implicitDefEqProofs (maxSteps := 10000000) only [x14_l0_run, go_sem, ↓reduceIte, Nat.reduceEqDiff, Nat.reduceAdd, Int.reduceBNe, h4, h12, h13, h14, k1, g1, w1, u1, pk, uk, fk, pv, uv, fv, pr, ur, fr0, hone, stAt_topc, ldAt_topc, o_appstr, hap, blo_drop]
      rw [hI]
      refine ⟨⟨_, rfl⟩, ?_, ?_, ?_, ?_, by rw [hd, if_neg (by simp)]⟩ <;> simp only [go_sem, ↓reduceIte, Nat.reduceEqDiff, h12, h13, blo_drop, htk]
    · have c' : (e0 = 0) = False := by simp [c]
      have hq1 := hq0 c
      subst hq1
      simp +contextual -implicitDefEqProofs (maxSteps := 10000000) only [x14_l0_run, go_sem, ↓reduceIte, Nat.reduceEqDiff, Nat.reduceAdd, h12, h13, h14, k1, g1, u1, pk, uk, fk, pv, uv, fv, pr, ur, fr0, hone, c', stAt_topc, ldAt_topc]
      rw [hQ]
      have hd' : firstE E l.length 0 = e0 := by rw [hd, if_pos c]
      exact ⟨⟨_, rfl⟩, .inr ⟨rfl, by rw [hd']; exact c, by simp only [go_sem, ↓reduceIte, Nat.reduceEqDiff], by simp only [go_sem, ↓reduceIte, hd']⟩⟩
  · intro fr hp' hh
    obtain ⟨⟨L, rfl⟩, h4, h12, h13, h14, hd⟩ := (hI _ _ _).1 hh
    simp +contextual -implicitDefEqProofs (maxSteps := 10000000) only [x14_l0_run, go_sem, ↓reduceIte, h13, h14, Int.lt_irrefl]
    rw [hQ]
    rw [List.take_length] at h4
    exact ⟨⟨L, rfl⟩, .inl ⟨rfl, by rw [hd, Nat.sub_self]; rfl, by simp only [go_sem, ↓reduceIte, Nat.reduceEqDiff, h4]⟩⟩
  · intro e fr hp' he hh
    rcases (hQ _ _ _).1 hh with ⟨⟨L, rfl⟩, ⟨rfl, h0, h4⟩ | ⟨rfl, h0, h2, h3⟩⟩
    · rw [h0, if_pos rfl]
      have hbs := fun hp => blo_bstr hp (shT l)
      have huu := blo_ufuf (shT l)
      generalize blo (shT l) = Y at h4 hbs huu
      simp +contextual -implicitDefEqProofs (maxSteps := 10000000) only [go_sem, ↓reduceIte, Nat.reduceEqDiff, Nat.reduceAdd, h4, hbs, huu]
    · rw [if_neg h0]
      simp +contextual -implicitDefEqProofs (maxSteps := 10000000) only [go_sem, ↓reduceIte, Nat.reduceAdd, h2, h3]
structure Sh where
  l : List Se
  x : AV
theorem v_SaySheets (s : Sh) (hx : SesV s.x s.l) : CL X GV 4 [s.x] [] = some (.bool true, []) := by
  obtain ⟨l, x⟩ := s
  simp only at hx ⊢
  obtain ⟨p1, u1, n1, d1, f1⟩ := hx.1.one
  have h1 := p_sayShs l x hx
  have h2 := p_rShs l x hx
  have hl := liveTold
  generalize shS l = S at h1 h2
  generalize shE l = e at h1 h2
  rw [CL_eq (fn := x4) rfl]
  simp +contextual -implicitDefEqProofs (maxSteps := 10000000) only [x4, go_sem, ↓reduceIte, reduceCtorEq, Nat.reduceEqDiff, u1, f1, h1, h2, hl]
end Go.Proofs.YtafeikbbjhmlaaaGreatDoor.Sx.T
