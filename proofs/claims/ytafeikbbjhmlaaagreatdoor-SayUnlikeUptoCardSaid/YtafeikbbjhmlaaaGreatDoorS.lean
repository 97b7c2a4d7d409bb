/- Layer 21, part 1: tables; what their checks and texts are. -/
import Derived.Test.YtafeikbbjhmlaaaGreatDoorA
import Derived.Test.YtafeikbbjhmlaaaGreatDoorV
import Derived.Test.YtafeikbbjhmlaaaGreatDoorTold
set_option linter.unusedVariables false
set_option linter.unusedSimpArgs false
namespace Go.Proofs.YtafeikbbjhmlaaaGreatDoor.Sx.T
open Go Go.Proofs.YtafeikbbjhmlaaaGreatDoor.Sx
set_option maxRecDepth 100000
set_option maxHeartbeats 8000000
def wds (l : List (List UInt8)) : List (List AV) := l.map fun w => [.str w]
theorem wds_len (l : List (List UInt8)) : (wds l).length = l.length := by simp [wds]
theorem wds_get (l : List (List UInt8)) (i : Nat) (h : i < l.length) : (wds l).getD i [] = [.str (l.getD i [])] := by simp [wds, List.getD, h]
structure Rw where
  vl : List Val
  av : AV
instance : Inhabited Rw := ⟨⟨[], .nilsl⟩⟩
def Rw.ok (r : Rw) : Prop := Ls 4 r.av (vals r.vl) ∧ r.vl.length ≤ 9223372036854775806 ∧ ∀ v ∈ r.vl, v.ok
def rws (l : List Rw) : List (List AV) := l.map fun r => [r.av]
theorem rws_len (l : List Rw) : (rws l).length = l.length := by simp [rws]
theorem rws_get (l : List Rw) (i : Nat) (h : i < l.length) : (rws l).getD i [] = [(l.getD i default).av] := by simp [rws, List.getD, h]
theorem Rw.row {r : Rw} (h : r.ok) : IsRow r.av r.vl := by
  rcases h.1 with ⟨h1, h2⟩ | ⟨o, h1, h2⟩
  · exact .inl ⟨h1, by simpa [vals] using h2⟩
  · exact .inr ⟨o, h1, h2⟩
structure Tb where
  vs : List (List UInt8)
  rs : List Rw
  xv : AV
  xr : AV
def Tb.cells (t : Tb) : List AV := [t.xv, t.xr]
def Tb.bulk (t : Tb) : Nat := (t.vs.map fun w => w.length + 1).sum + (t.rs.map fun r => 259 * r.vl.length + 4).sum
def Tb.ok (t : Tb) : Prop := Ls 1 t.xv (wds t.vs) ∧ Ls 1 t.xr (rws t.rs) ∧ (∀ r ∈ t.rs, r.ok) ∧ t.vs.length ≤ 1048576 ∧ t.rs.length ≤ 1048576 ∧ t.bulk ≤ 1000000000
theorem qt_lenS (s : List UInt8) : (qt s).length ≤ 4 * s.length + 2 := by
  have := flat_len s
  simp only [qt, List.length_cons, List.length_append, List.length_nil]
  omega
theorem prt_lenS (v : Val) : (prt v).length ≤ 258 := by
  unfold prt
  by_cases hc : chkV v = 0
  · rw [if_neg (by simp [hc])]
    by_cases k1 : v.k = 1
    · rw [if_pos k1]; have := decI_len v.n; omega
    · rw [if_neg k1]
      by_cases k2 : v.k = 2
      · rw [if_pos k2, List.length_append, List.length_cons]; have := decI_len v.n; have := decI_len v.d; omega
      · rw [if_neg k2]
        have h1 := qt_lenS v.s
        have h2 : v.s.length ≤ 64 := by
          unfold chkV chk at hc
          rw [if_neg k1, if_neg k2] at hc
          split at hc
          · split at hc
            · split at hc
              · assumption
              · cases hc
            · cases hc
          · cases hc
        omega
  · rw [if_pos hc]; simp
/-! ### what is answered -/
def upB : List (List UInt8) → Bool
  | a :: b :: l => bless a b && upB (b :: l)
  | _ => true
def rwE (n : Nat) (r : Rw) : Int := if r.vl.length ≠ n then 1 else vals8 r.vl
def rE (t : Tb) (i : Nat) : Int := if rwE t.vs.length (t.rs.getD i default) ≠ 0 then rwE t.vs.length (t.rs.getD i default) else if 0 < i ∧ 0 ≤ rowcmp (t.rs.getD (i - 1) default).vl (t.rs.getD i default).vl then 1 else 0
def tE (t : Tb) : Int := if 8 < t.vs.length ∨ upB t.vs = false then 30 else firstE (rE t) t.rs.length 0
open Classical in noncomputable def tabE (t : Tb) : Int := if tE t ≠ 0 then tE t else if ∀ i, i < t.vs.length → nameP (t.vs.getD i []) then 0 else 30
def jn (l : List (List UInt8)) : List UInt8 := [32].intercalate l
def rowT (r : Rw) : List UInt8 := 32 :: 40 :: (jn (r.vl.map prt) ++ [41])
def rowsT (l : List Rw) : List UInt8 := l.flatMap rowT
def tabT (t : Tb) : List UInt8 := 40 :: (jn t.vs ++ (41 :: rowsT t.rs))
noncomputable def tabS (t : Tb) : List UInt8 := if tabE t = 0 then tabT t else []
theorem jn_nil : jn [] = [] := rfl
theorem jn_one (w : List UInt8) : jn [w] = w := by simp [jn, List.intercalate, List.intersperse]
theorem jn_cons (a b : List UInt8) (l : List (List UInt8)) : jn (a :: b :: l) = a ++ (32 :: jn (b :: l)) := by simp [jn, List.intercalate, List.intersperse]
theorem jn_len : ∀ l : List (List UInt8), (jn l).length ≤ (l.map fun w => w.length + 1).sum
  | [] => by simp [jn_nil]
  | [a] => by simp [jn_one]
  | a :: b :: l => by
    have ih := jn_len (b :: l)
    rw [jn_cons, List.map_cons, List.sum_cons, List.length_append, List.length_cons]
    omega
theorem sum_prt : ∀ l : List Val, ((l.map prt).map fun w => w.length + 1).sum ≤ 259 * l.length
  | [] => by simp
  | v :: l => by
    have ih := sum_prt l
    have := prt_lenS v
    simp only [List.map_cons, List.sum_cons, List.length_cons] at ih ⊢
    omega
theorem rowT_len (r : Rw) : (rowT r).length ≤ 259 * r.vl.length + 3 := by
  have h1 := jn_len (r.vl.map prt)
  have h2 := sum_prt r.vl
  simp only [rowT, List.length_cons, List.length_append, List.length_nil]
  omega
theorem rowsT_take (l : List Rw) (i : Nat) (h : i < l.length) : rowsT (l.take (i + 1)) = rowsT (l.take i) ++ rowT (l.getD i default) := by
  rw [rowsT, List.take_succ_eq_append_getElem h, List.flatMap_append, List.flatMap_singleton]
  simp [rowsT, List.getD, h]
theorem rowsT_len : ∀ l : List Rw, (rowsT l).length ≤ (l.map fun r => 259 * r.vl.length + 4).sum
  | [] => by simp [rowsT]
  | r :: l => by
    have ih := rowsT_len l
    have := rowT_len r
    simp only [rowsT, List.flatMap_cons, List.length_append, List.map_cons, List.sum_cons] at ih ⊢
    omega
theorem sum_take (f : Rw → Nat) : ∀ (l : List Rw) (i : Nat), ((l.take i).map f).sum ≤ (l.map f).sum
  | [], i => by simp
  | r :: l, 0 => by simp
  | r :: l, i + 1 => by
    have := sum_take f l i
    simp only [List.take_succ_cons, List.map_cons, List.sum_cons]
    omega
theorem upB_false {l : List (List UInt8)} (i : Nat) (h0 : 0 < i) (h : i < l.length) (hb : bless (l.getD (i - 1) []) (l.getD i []) = false) : upB l = false := by
  induction l generalizing i with
  | nil => simp at h
  | cons a l ih =>
    cases l with
    | nil => simp at h; omega
    | cons b l =>
      rw [upB]
      match i, h0 with
      | 1, _ => simp at hb; rw [hb]; rfl
      | i + 2, _ =>
        rw [ih (i + 1) (by omega) (by simpa using h) (by simpa using hb), Bool.and_false]
theorem upB_true : ∀ {l : List (List UInt8)}, (∀ i, 0 < i → i < l.length → bless (l.getD (i - 1) []) (l.getD i []) = true) → upB l = true
  | [], _ => rfl
  | [a], _ => rfl
  | a :: b :: l, h => by
    rw [upB, show bless a b = true from h 1 (by omega) (by simp), Bool.true_and]
    exact upB_true fun i h0 hi => by
      obtain ⟨j, rfl⟩ : ∃ j, i = j + 1 := ⟨i - 1, by omega⟩
      have := h (j + 2) (by omega) (by simpa using hi)
      simpa using this
end Go.Proofs.YtafeikbbjhmlaaaGreatDoor.Sx.T
namespace Go.Proofs.YtafeikbbjhmlaaaGreatDoor.Sx.T
open Go Go.Proofs.YtafeikbbjhmlaaaGreatDoor.Sx
set_option maxRecDepth 100000
set_option maxHeartbeats 8000000
theorem strs_geq (x y : List UInt8) : strs .geq x y = some (.bool !(bless x y)) := rfl
theorem up_at {x : AV} {vs : List (List UInt8)} (h : Ls 1 x (wds vs)) (i : Nat) (hi : i < vs.length) : iaddrK 1 x (some i) = some (.elp [.str (vs.getD i [])]) := by
  rw [h.at (by rw [wds_len]; exact hi), wds_get vs i hi]
theorem p_rises (vs : List (List UInt8)) (x : AV) (hx : Ls 1 x (wds vs)) (hl : vs.length ≤ 1048576) (hp : Heap) : CL X GV 46 [x] hp = some (.bool (upB vs), hp) := by
  obtain ⟨p1, u1, n1, d1, f1⟩ := hx.one
  rw [wds_len] at n1
  rw [CL_eq (fn := x46) rfl]
  simp +contextual -implicitDefEqProofs (maxSteps := 10000000) only [x46, go_sem, ↓reduceIte]
  obtain ⟨I, hI⟩ : ∃ I : Nat → List AV → Heap → Prop, ∀ i fr hp', I i fr hp' ↔ (hp' = [] :: hp ∧ fget fr 0 = x ∧ fget fr 3 = .int .i64 ((i + 1 : Nat) : Int) ∧ ∀ j, 0 < j → j < i + 1 → j < vs.length → bless (vs.getD (j - 1) []) (vs.getD j []) = true) := ⟨_, fun _ _ _ => Iff.rfl⟩
  obtain ⟨Q, hQ⟩ : ∃ Q : XExit → List AV → Heap → Prop, ∀ e fr hp', Q e fr hp' ↔ (hp' = [] :: hp ∧ ((e = .exit 0 ∧ upB vs = true) ∨ (e = .ret ∧ upB vs = false ∧ fget fr 2 = .bool false))) := ⟨_, fun _ _ _ => Iff.rfl⟩
  refine LC_upK (vs.length - 1) I Q (fun r => finK _ (seqK (blockK 0 r) _) = _) ?_ ?_ ?_ ?_
  · rw [hI]
    refine ⟨rfl, ?_, ?_, fun j h1 h2 => by omega⟩ <;> simp only [go_sem, ↓reduceIte, reduceCtorEq] <;> rfl
  · intro i hi fr hp' hh
    obtain ⟨rfl, h0, h3, hd⟩ := (hI _ _ _).1 hh
    have k1 : (((i + 1 : Nat) : Int) < (vs.length : Int)) = True := by simp; omega
    have w0 : wr .i64 (((i + 1 : Nat) : Int) - 1) = ((i : Nat) : Int) := by rw [wr_i64 _ (by omega)]; omega
    have w1 : wr .i64 (((i + 1 : Nat) : Int) + 1) = ((i + 1 + 1 : Nat) : Int) := by rw [wr_i64 _ (by omega)]; omega
    have g0 := up_at hx i (by omega)
    have g1 := up_at hx (i + 1) (by omega)
    obtain ⟨q, hq⟩ : ∃ q : Nat, i + 1 = q := ⟨_, rfl⟩
    rw [hq] at k1 w0 w1 g1 h3
    cases hb : bless (vs.getD i []) (vs.getD q []) with
    | true =>
      simp +contextual -implicitDefEqProofs (maxSteps := 10000000) only [x46_l0_run, go_sem, ↓reduceIte, reduceCtorEq, Nat.reduceEqDiff, h0, h3, k1, w0, w1, u1, n1, g0, g1, strs_geq, hb]
      rw [hI]
      refine ⟨rfl, ?_, ?_, fun j h1 h2 h4 => ?_⟩
      · simp only [go_sem, ↓reduceIte, reduceCtorEq, h0]
      · simp only [go_sem, ↓reduceIte, hq]
      · by_cases hj : j = i + 1
        · subst hj
          rw [hq, show q - 1 = i by omega]
          exact hb
        · exact hd j h1 (by omega) h4
    | false =>
      have hup := upB_false (l := vs) q (by omega) (by omega) (by rw [show q - 1 = i by omega]; exact hb)
      simp +contextual -implicitDefEqProofs (maxSteps := 10000000) only [x46_l0_run, go_sem, ↓reduceIte, reduceCtorEq, Nat.reduceEqDiff, h0, h3, k1, w0, u1, n1, g0, g1, strs_geq, hb]
      rw [hQ]
      exact ⟨rfl, .inr ⟨rfl, hup, by simp only [go_sem, ↓reduceIte]⟩⟩
  · intro fr hp' hh
    obtain ⟨rfl, h0, h3, hd⟩ := (hI _ _ _).1 hh
    have hup := upB_true (l := vs) fun i h1 h2 => hd i h1 (by omega) h2
    have k1 : (((vs.length - 1 + 1 : Nat) : Int) < (vs.length : Int)) = False := by simp; omega
    simp +contextual -implicitDefEqProofs (maxSteps := 10000000) only [x46_l0_run, go_sem, ↓reduceIte, reduceCtorEq, Nat.reduceEqDiff, h0, h3, k1, u1, n1]
    rw [hQ]
    exact ⟨rfl, .inl ⟨rfl, hup⟩⟩
  · intro e fr hp' he hh
    rcases (hQ _ _ _).1 hh with ⟨rfl, ⟨rfl, h1⟩ | ⟨rfl, h1, h2⟩⟩
    · rw [h1]
      simp +contextual -implicitDefEqProofs (maxSteps := 10000000) only [go_sem, ↓reduceIte]
    · rw [h1]
      simp +contextual -implicitDefEqProofs (maxSteps := 10000000) only [go_sem, h2]
theorem le_sum_at (f : Rw → Nat) : ∀ (l : List Rw) (i : Nat), i < l.length → f (l.getD i default) ≤ (l.map f).sum
  | [], i, h => by simp at h
  | r :: l, 0, _ => by simp
  | r :: l, i + 1, h => by
    have := le_sum_at f l i (by simpa using h)
    simp only [List.getD_cons_succ, List.map_cons, List.sum_cons]
    omega
theorem row_len {t : Tb} (ht : t.ok) (i : Nat) (hi : i < t.rs.length) : (t.rs.getD i default).vl.length ≤ 1000000000 := by
  have h1 := le_sum_at (fun r => 259 * r.vl.length + 4) t.rs i hi
  have h2 := ht.2.2.2.2.2
  unfold Tb.bulk at h2
  omega
theorem p_checkRow (n : Nat) (r : Rw) (hr : r.ok) (hl : r.vl.length ≤ 1000000000) (hp : Heap) : CL X GV 47 [.int .i64 (n : Nat), r.av] hp = some (.int .i64 (rwE n r), hp) := by
  obtain ⟨hrl, hrn, hro⟩ := hr
  obtain ⟨p1, u1, n1, d1, f1⟩ := hrl.one
  rw [vals_len] at n1
  rw [CL_eq (fn := x47) rfl, rwE]
  by_cases hne : r.vl.length = n
  case neg =>
    have b1 : (((r.vl.length : Nat) : Int) != ((n : Nat) : Int)) = true := by simp; omega
    rw [if_pos hne]
    simp +contextual -implicitDefEqProofs (maxSteps := 10000000) only [x47, go_sem, ↓reduceIte, reduceCtorEq, Nat.reduceEqDiff, u1, n1, b1]
  have b1 : (((r.vl.length : Nat) : Int) != ((n : Nat) : Int)) = false := by simp; omega
  rw [if_neg (by simpa using hne)]
  simp +contextual -implicitDefEqProofs (maxSteps := 10000000) only [x47, go_sem, ↓reduceIte, reduceCtorEq, Nat.reduceEqDiff, u1, n1, b1]
  rw [vals8]
  generalize hE : (fun i => chkV (r.vl.getD i default)) = E
  generalize r.av = x at *
  obtain ⟨I, hI⟩ : ∃ I : Nat → List AV → Heap → Prop, ∀ i fr hp', I i fr hp' ↔ ((∃ L, hp' = L :: hp) ∧ fget fr 12 = x ∧ fget fr 13 = .int .i64 r.vl.length ∧ fget fr 14 = .int .i64 (i : Nat) ∧ firstE E r.vl.length 0 = firstE E (r.vl.length - i) i) := ⟨_, fun _ _ _ => Iff.rfl⟩
  obtain ⟨Q, hQ⟩ : ∃ Q : XExit → List AV → Heap → Prop, ∀ e fr hp', Q e fr hp' ↔ ((∃ L, hp' = L :: hp) ∧ ((e = .exit 0 ∧ firstE E r.vl.length 0 = 0) ∨ (e = .ret ∧ fget fr 4 = .int .i64 (firstE E r.vl.length 0)))) := ⟨_, fun _ _ _ => Iff.rfl⟩
  refine LC_upK r.vl.length I Q (fun r => finK _ (seqK (blockK 0 r) _) = _) ?_ ?_ ?_ ?_
  · rw [hI]
    refine ⟨⟨_, rfl⟩, ?_, ?_, ?_, by rw [Nat.sub_zero]⟩ <;> simp only [go_sem, ↓reduceIte, Nat.reduceEqDiff, Int.natCast_zero]
  · intro i hi fr hp' hh
    obtain ⟨⟨L, rfl⟩, h12, h13, h14, hd⟩ := (hI _ _ _).1 hh
    have k1 : ((i : Int) < (r.vl.length : Int)) = True := by simp; omega
    have g1 := hrl.at (k := i) (by rw [vals_len]; exact hi)
    rw [vals_get r.vl i hi] at g1
    have w1 : wr .i64 ((i : Int) + 1) = ((i + 1 : Nat) : Int) := by rw [wr_i64 _ (by omega)]; omega
    rw [firstE_step _ _ _ hi] at hd
    have vok := hro _ (mem_getD r.vl i hi)
    obtain ⟨e0, he0⟩ : ∃ e, E i = e := ⟨_, rfl⟩
    rw [he0] at hd
    have he1 : e0 = chkV (r.vl.getD i default) := by rw [← he0, ← hE]
    generalize r.vl.getD i default = y at g1 vok he1
    have hck := v_check y.k y.n y.d y.s vok.2.1 vok.2.2
    obtain ⟨k, n2, d, s⟩ := y
    simp only [Val.cells, chkV, vA] at g1 he1 hck
    rw [← he1] at hck
    clear he0 he1
    by_cases c : e0 = 0
    · subst c
      simp +contextual -implicitDefEqProofs (maxSteps := 10000000) only [x47_l0_run, go_sem, ↓reduceIte, Nat.reduceEqDiff, Nat.reduceAdd, Int.reduceBNe, h12, h13, h14, k1, g1, w1, hck, u1, stAt_topc, ldAt_topc]
      rw [hI]
      refine ⟨⟨_, rfl⟩, ?_, ?_, ?_, by rw [hd, if_neg (by simp)]⟩ <;> simp only [go_sem, ↓reduceIte, Nat.reduceEqDiff, h12, h13]
    · have c' : (e0 = 0) = False := by simp [c]
      simp +contextual -implicitDefEqProofs (maxSteps := 10000000) only [x47_l0_run, go_sem, ↓reduceIte, Nat.reduceEqDiff, Nat.reduceAdd, h12, h13, h14, k1, g1, hck, u1, stAt_topc, ldAt_topc, c']
      rw [hQ]
      exact ⟨⟨_, rfl⟩, .inr ⟨rfl, by simp only [go_sem, ↓reduceIte, hd, if_pos c]⟩⟩
  · intro fr hp' hh
    obtain ⟨⟨L, rfl⟩, h12, h13, h14, hd⟩ := (hI _ _ _).1 hh
    simp +contextual -implicitDefEqProofs (maxSteps := 10000000) only [x47_l0_run, go_sem, ↓reduceIte, h13, h14, Int.lt_irrefl]
    rw [hQ]
    exact ⟨⟨_, rfl⟩, .inl ⟨rfl, by rw [hd, Nat.sub_self]; rfl⟩⟩
  · intro e fr hp' he hh
    rcases (hQ _ _ _).1 hh with ⟨⟨L, rfl⟩, ⟨rfl, h1⟩ | ⟨rfl, h1⟩⟩
    · simp +contextual -implicitDefEqProofs (maxSteps := 10000000) only [go_sem, ↓reduceIte, h1]
    · simp +contextual -implicitDefEqProofs (maxSteps := 10000000) only [go_sem, h1]
theorem p_tcheck (t : Tb) (ht : t.ok) : CL X GV 21 [.agg t.cells] [] = some (.int .i64 (tE t), []) := by
  obtain ⟨hxv, hxr, hro, hvl, hrl, _⟩ := id ht
  obtain ⟨pv, uv, nv, dv, fv⟩ := hxv.one
  obtain ⟨pr, ur, nr, dr, fr0⟩ := hxr.one
  rw [wds_len] at nv
  rw [rws_len] at nr
  have hup := p_rises t.vs t.xv hxv hvl
  rw [CL_eq (fn := x21) rfl, tE]
  simp only [Tb.cells]
  by_cases h8 : 8 < t.vs.length
  · have k0 : ((8 : Int) < (t.vs.length : Int)) = True := by simp; omega
    rw [if_pos (.inl h8)]
    simp +contextual -implicitDefEqProofs (maxSteps := 10000000) only [x21, go_sem, ↓reduceIte, Nat.reduceEqDiff, Nat.reduceAdd, pv, uv, nv, pr, ur, k0, ldAt_topc]
  have k0 : ((8 : Int) < (t.vs.length : Int)) = False := by simp; omega
  by_cases hu : upB t.vs = false
  · rw [if_pos (.inr hu)]
    simp +contextual -implicitDefEqProofs (maxSteps := 10000000) only [x21, go_sem, ↓reduceIte, Nat.reduceEqDiff, Nat.reduceAdd, pv, uv, nv, fv, pr, ur, k0, hup, hu, ldAt_topc]
  have hu' : upB t.vs = true := by simpa using hu
  rw [if_neg (by simp [hu']; omega)]
  obtain ⟨C, hC⟩ : ∃ C, [t.xv, t.xr] = C := ⟨_, rfl⟩
  simp +contextual -implicitDefEqProofs (maxSteps := 10000000) only [x21, go_sem, ↓reduceIte, Nat.reduceEqDiff, Nat.reduceAdd, pv, uv, nv, fv, pr, ur, nr, k0, hup, hu', ldAt_topc]
  generalize hE : rE t = E
  obtain ⟨I, hI⟩ : ∃ I : Nat → List AV → Heap → Prop, ∀ i fr hp', I i fr hp' ↔ ((∃ L, hp' = [L] ∧ lcells L 1 0 = some C) ∧ fget fr 1 = .ptr ⟨0, 1, 0⟩ 0 ∧ fget fr 17 = t.xr ∧ fget fr 18 = .int .i64 t.rs.length ∧ fget fr 19 = .int .i64 (i : Nat) ∧ firstE E t.rs.length 0 = firstE E (t.rs.length - i) i) := ⟨_, fun _ _ _ => Iff.rfl⟩
  obtain ⟨Q, hQ⟩ : ∃ Q : XExit → List AV → Heap → Prop, ∀ e fr hp', Q e fr hp' ↔ ((∃ L, hp' = [L]) ∧ ((e = .exit 0 ∧ firstE E t.rs.length 0 = 0) ∨ (e = .ret ∧ fget fr 2 = .int .i64 (firstE E t.rs.length 0)))) := ⟨_, fun _ _ _ => Iff.rfl⟩
  refine LC_upK t.rs.length I Q (fun r => finK _ (seqK (blockK 0 r) _) = _) ?_ ?_ ?_ ?_
  · rw [hI]
    refine ⟨⟨_, rfl, ?_⟩, ?_, ?_, ?_, ?_, by rw [Nat.sub_zero]⟩
    · rw [lcells_put, ← hC]; simp
    all_goals simp only [go_sem, ↓reduceIte, Nat.reduceEqDiff, Int.natCast_zero]
  · intro i hi fr hp' hh
    obtain ⟨⟨L, rfl, hL⟩, h1, h17, h18, h19, hd⟩ := (hI _ _ _).1 hh
    have hL' : lcells L 1 0 = some [t.xv, t.xr] := by rw [hL, ← hC]
    have k1 : ((i : Int) < (t.rs.length : Int)) = True := by simp; omega
    have g1 := hxr.at (k := i) (by rw [rws_len]; exact hi)
    rw [rws_get t.rs i hi] at g1
    have w1 : wr .i64 ((i : Int) + 1) = ((i + 1 : Nat) : Int) := by rw [wr_i64 _ (by omega)]; omega
    rw [firstE_step _ _ _ hi] at hd
    have hrow := hro _ (mem_getD t.rs i hi)
    obtain ⟨e0, he0⟩ : ∃ e, E i = e := ⟨_, rfl⟩
    rw [he0] at hd
    have he1 : e0 = rE t i := by rw [← he0, ← hE]
    rw [rE] at he1
    have hbl : (t.rs.getD i default).vl.length ≤ 1000000000 := row_len ht i hi
    obtain ⟨pw, uw, nw, dw, fw⟩ := hrow.1.one
    have hcr := p_checkRow t.vs.length (t.rs.getD i default) hrow hbl
    obtain ⟨e1, he2⟩ : ∃ e, rwE t.vs.length (t.rs.getD i default) = e := ⟨_, rfl⟩
    rw [he2] at hcr he1
    by_cases c1 : e1 = 0
    case neg =>
      have c1' : (e1 = 0) = False := by simp [c1]
      rw [if_pos c1] at he1
      subst he1
      simp +contextual -implicitDefEqProofs (maxSteps := 10000000) only [x21_l0_run, go_sem, ↓reduceIte, Nat.reduceEqDiff, h1, h17, h18, h19, k1, ur, g1, uw, dw, fw, hL', uv, nv, hcr, c1', ldAt_topc]
      rw [hQ]
      exact ⟨⟨_, rfl⟩, .inr ⟨rfl, by simp only [go_sem, ↓reduceIte, hd, if_pos c1]⟩⟩
    rw [if_neg (by simp [c1])] at he1
    subst c1
    by_cases c0 : i = 0
    · have ci : ((0 : Int) < (i : Int)) = False := by simp; omega
      rw [if_neg (by omega)] at he1
      subst he1
      simp +contextual -implicitDefEqProofs (maxSteps := 10000000) only [x21_l0_run, go_sem, ↓reduceIte, Nat.reduceEqDiff, Int.reduceBNe, h1, h17, h18, h19, k1, w1, ur, g1, uw, dw, fw, hL', uv, nv, hcr, ci, ldAt_topc]
      rw [hI]
      refine ⟨⟨_, rfl, hL⟩, ?_, ?_, ?_, ?_, by rw [hd, if_neg (by simp)]⟩ <;> simp only [go_sem, ↓reduceIte, Nat.reduceEqDiff, h1, h17, h18]
    · have ci : ((0 : Int) < (i : Int)) = True := by simp; omega
      obtain ⟨j, rfl⟩ : ∃ j, i = j + 1 := ⟨i - 1, by omega⟩
      have w0 : wr .i64 (((j + 1 : Nat) : Int) - 1) = ((j : Nat) : Int) := by rw [wr_i64 _ (by omega)]; omega
      have g0 := hxr.at (k := j) (by rw [rws_len]; omega)
      rw [rws_get t.rs j (by omega)] at g0
      have hrow0 := hro _ (mem_getD t.rs j (by omega))
      have hbl0 : (t.rs.getD j default).vl.length ≤ 1000000000 := row_len ht j (by omega)
      obtain ⟨pw0, uw0, nw0, dw0, fw0⟩ := hrow0.1.one
      have hcmp := v_row (t.rs.getD j default).vl (t.rs.getD (j + 1) default).vl _ _ (Rw.row hrow0) (Rw.row hrow) hrow0.2.2 hrow.2.2 (by omega)
      simp only [Nat.add_sub_cancel, Nat.zero_lt_succ, true_and] at he1
      obtain ⟨R, hR⟩ : ∃ R, rowcmp (t.rs.getD j default).vl (t.rs.getD (j + 1) default).vl = R := ⟨_, rfl⟩
      rw [hR] at hcmp he1
      obtain ⟨q, hq⟩ : ∃ q : Nat, j + 1 = q := ⟨_, rfl⟩
      rw [hq] at k1 w0 w1 g1 h19 ci uw dw fw hcr hcmp
      by_cases c2 : 0 ≤ R
      · have c2' : (0 ≤ R) = True := by simp [c2]
        rw [if_pos c2] at he1
        subst he1
        simp +contextual -implicitDefEqProofs (maxSteps := 10000000) only [x21_l0_run, go_sem, ↓reduceIte, Nat.reduceEqDiff, Int.reduceBNe, h1, h17, h18, h19, k1, w0, ur, g1, g0, uw, dw, fw, uw0, fw0, hL', uv, nv, hcr, ci, hcmp, c2', ldAt_topc]
        rw [hQ]
        exact ⟨⟨_, rfl⟩, .inr ⟨rfl, by simp only [go_sem, ↓reduceIte, Int.reduceEq, hd]⟩⟩
      · have c2' : (0 ≤ R) = False := by simp [c2]
        rw [if_neg c2] at he1
        subst he1
        simp +contextual -implicitDefEqProofs (maxSteps := 10000000) only [x21_l0_run, go_sem, ↓reduceIte, Nat.reduceEqDiff, Int.reduceBNe, h1, h17, h18, h19, k1, w1, w0, ur, g1, g0, uw, dw, fw, uw0, fw0, hL', uv, nv, hcr, ci, hcmp, c2', ldAt_topc]
        rw [hI]
        refine ⟨⟨_, rfl, hL⟩, ?_, ?_, ?_, ?_, by rw [hd, if_neg (by simp)]⟩ <;> simp only [go_sem, ↓reduceIte, Nat.reduceEqDiff, h1, h17, h18, hq]
  · intro fr hp' hh
    obtain ⟨⟨L, rfl, hL⟩, h1, h17, h18, h19, hd⟩ := (hI _ _ _).1 hh
    simp +contextual -implicitDefEqProofs (maxSteps := 10000000) only [x21_l0_run, go_sem, ↓reduceIte, h18, h19, Int.lt_irrefl]
    rw [hQ]
    exact ⟨⟨_, rfl⟩, .inl ⟨rfl, by rw [hd, Nat.sub_self]; rfl⟩⟩
  · intro e fr hp' he hh
    rcases (hQ _ _ _).1 hh with ⟨⟨L, rfl⟩, ⟨rfl, h1⟩ | ⟨rfl, h1⟩⟩
    · simp +contextual -implicitDefEqProofs (maxSteps := 10000000) only [go_sem, ↓reduceIte, h1]
    · simp +contextual -implicitDefEqProofs (maxSteps := 10000000) only [go_sem, h1]
end Go.Proofs.YtafeikbbjhmlaaaGreatDoor.Sx.T
namespace Go.Proofs.YtafeikbbjhmlaaaGreatDoor.Sx.T
open Go Go.Proofs.YtafeikbbjhmlaaaGreatDoor.Sx
set_option maxRecDepth 100000
set_option maxHeartbeats 8000000
end Go.Proofs.YtafeikbbjhmlaaaGreatDoor.Sx.T
namespace Go.Proofs.YtafeikbbjhmlaaaGreatDoor.Sx.T
open Go Go.Proofs.YtafeikbbjhmlaaaGreatDoor.Sx
set_option maxRecDepth 100000
set_option maxHeartbeats 8000000
theorem strsOf_wds : ∀ l : List (List UInt8), strsOf (wds l) = some l
  | [] => rfl
  | w :: l => by
    have ih := strsOf_wds l
    simp only [wds, List.map_cons] at ih ⊢
    simp only [strsOf, ih]
theorem lstR_ls {x : AV} {es : List (List AV)} (h : Ls 1 x es) : lstR x = some es := by
  rcases h with ⟨rfl, rfl⟩ | ⟨o, ho, rfl⟩
  · rfl
  · rcases ho with rfl | rfl <;> rfl
theorem pJ (x : AV) (ws : List (List UInt8)) (h : Ls 1 x (wds ws)) (h1 : ws.length ≤ 140737488355328) (h2 : (jn ws).length ≤ 140737488355328) : primX 8 [x, .str [32]] = some (.str (jn ws)) := by
  simp only [primX, lstR_ls h, strsOf_wds]
  exact if_pos ⟨h1, h2⟩
theorem p_bw2 (L : Level) (s v : Nat) (str : List UInt8) : CL X GV 35 [.ptr ⟨0, s, v⟩ 0, .str str] [[], L] = match bwK 56005 s v str L [] (lbld L s v) with | some (a, h) => some (a, [] :: h) | none => none := by
  have h1 := hp_writeK (l := L) (h := []) (n := 0) (s := s) (v := v) (id := 56005) (str := str) rfl (by decide)
  rw [CL_spec (1000000 + 56005) (fn := x35) rfl rfl, ← h1]
  have h2 : hget [[], L] ⟨0, s, v⟩ = hget [L] ⟨0, s, v⟩ := rfl
  unfold hprimX
  simp only [h2]
  split
  · split
    · split
      · rfl
      · rfl
    · rfl
  · rfl
theorem p_bs (L : Level) (s v : Nat) : CL X GV 27 [.ptr ⟨0, s, v⟩ 0] [L] = bsK 56005 s v L [] (lbld L s v) := by
  rw [CL_spec (2000000 + 56005) (fn := x27) rfl rfl]
  exact hp_stringK rfl (by decide)
theorem p_put (L : Level) (s v : Nat) (a b P : List UInt8) (x : AV) (ws : List (List UInt8)) (hx : Ls 1 x (wds ws)) (hL : lbld L s v = some (56, 5, P)) (h1 : ws.length ≤ 1000000000) (h2 : (jn ws).length ≤ 2000000000) (h3 : P.length ≤ 4000000000) (h4 : a.length ≤ 2) (h5 : b.length ≤ 2) :
    CL X GV 25 [.ptr ⟨0, s, v⟩ 0, .str a, .str b, x] [L] = some (.tup [], [lputb L s v 56 5 (P ++ (a ++ jn ws ++ b))]) := by
  obtain ⟨p1, u1, n1, d1, f1⟩ := hx.one
  have hj := pJ x ws hx (by omega) (by omega)
  have hbw := p_bw2 L s v
  have b1 : (a.length + (jn ws).length ≤ 140737488355328) = True := by simp; omega
  have b2 : ((a ++ jn ws).length + b.length ≤ 140737488355328) = True := by simp only [List.length_append, eq_iff_iff, iff_true]; omega
  have b3 : (P.length + (a ++ jn ws ++ b).length ≤ 140737488355328) = True := by simp only [List.length_append, eq_iff_iff, iff_true]; omega
  rw [CL_eq (fn := x25) rfl]
  simp +contextual -implicitDefEqProofs (maxSteps := 10000000) only [x25, go_sem, ↓reduceIte, Nat.reduceEqDiff, Nat.reduceAdd, Nat.reduceMul, u1, hj, hbw, hL, bwK_some, b1, b2, b3, o_callw, cwK_top]
end Go.Proofs.YtafeikbbjhmlaaaGreatDoor.Sx.T
namespace Go.Proofs.YtafeikbbjhmlaaaGreatDoor.Sx.T
open Go Go.Proofs.YtafeikbbjhmlaaaGreatDoor.Sx
set_option maxRecDepth 100000
set_option maxHeartbeats 8000000
def ol : List (List AV) → AV
  | [] => .nilsl
  | e :: l => .lst .own 1 (e :: l)
theorem ol_cons (l : List (List AV)) (e : List AV) : ol (l ++ [e]) = .lst .own 1 (l ++ [e]) := by
  cases l <;> rfl
theorem ol_ls (l : List (List AV)) : Ls 1 (uf (ol l)) l := by
  cases l with
  | nil => exact .inl ⟨rfl, rfl⟩
  | cons e l => exact .inr ⟨.none, .inl rfl, rfl⟩
theorem take_snoc {α : Type} (l : List α) (i : Nat) (d : α) (h : i < l.length) : l.take (i + 1) = l.take i ++ [l.getD i d] := by
  rw [List.take_succ_eq_append_getElem h]
  simp [List.getD, h]
theorem wds_snoc (l : List (List UInt8)) (w : List UInt8) : wds (l ++ [w]) = wds l ++ [[.str w]] := by simp [wds]
theorem p_idxS (vs : List (List UInt8)) (p : List UInt8 → Bool) (f : Nat) (ds cs : List AV) (v : AV) (hl : Ls 1 v (wds vs)) (hm : vs.length ≤ 9223372036854775806) (hp : Heap)
    (hf : ∀ k ∈ vs, CL X GV f ((ds ++ [AV.str k] ++ cs).map uf) ([] :: hp) = some (.bool (p k), [] :: hp)) :
    CL X GV 49 [v, .fn f ds cs] hp = some (.int .i64 (idxG p vs 0), hp) := by
  obtain ⟨p1, u1, n1, d1, f1⟩ := hl.one
  rw [wds_len] at n1
  rw [CL_eq (fn := x49) rfl]
  simp +contextual -implicitDefEqProofs (maxSteps := 10000000) only [x49, go_sem, ↓reduceIte, reduceCtorEq, Int.reduceNeg, u1, n1]
  obtain ⟨I, hI⟩ : ∃ I : Nat → List AV → Heap → Prop, ∀ i fr hp', I i fr hp' ↔ (hp' = [] :: hp ∧ fget fr 0 = v ∧ fget fr 1 = .fn f ds cs ∧ fget fr 7 = .int .i64 vs.length ∧ fget fr 8 = .int .i64 (i : Nat) ∧ idxG p vs 0 = idxG p (vs.drop i) i) := ⟨_, fun _ _ _ => Iff.rfl⟩
  obtain ⟨Q, hQ⟩ : ∃ Q : XExit → List AV → Heap → Prop, ∀ e fr hp', Q e fr hp' ↔ (hp' = [] :: hp ∧ ((e = .exit 0 ∧ idxG p vs 0 = -1) ∨ (e = .ret ∧ fget fr 4 = .int .i64 (idxG p vs 0)))) := ⟨_, fun _ _ _ => Iff.rfl⟩
  refine LC_upK vs.length I Q (fun r => finK _ (seqK (blockK 0 r) _) = _) ?_ ?_ ?_ ?_
  · rw [hI]
    refine ⟨rfl, ?_, ?_, ?_, ?_, by rw [List.drop_zero]⟩ <;> simp only [go_sem, ↓reduceIte, reduceCtorEq, Nat.reduceEqDiff, Int.natCast_zero]
  · intro i hi fr hp' h
    obtain ⟨rfl, h0, h1, h7, h8, hd⟩ := (hI _ _ _).1 h
    have k1 : ((i : Int) < (vs.length : Int)) = True := by simp; omega
    have g1 := up_at hl i hi
    have hmem : vs.getD i [] ∈ vs := by simp [List.getD, hi]
    have w1 : wr .i64 ((i : Int) + 1) = ((i + 1 : Nat) : Int) := by rw [wr_i64 _ (by omega)]; omega
    have hw := hf _ hmem
    have hd0 : idxG p (vs.drop i) i = if p (vs.getD i []) then (i : Int) else idxG p (vs.drop (i + 1)) (i + 1) := idxG_drop p vs i hi
    rw [hd0] at hd
    by_cases c : p (vs.getD i []) = true
    · rw [c] at hw
      simp +contextual -implicitDefEqProofs (maxSteps := 10000000) only [x49_l0_run, go_sem, ↓reduceIte, reduceCtorEq, Nat.reduceEqDiff, h0, h1, h7, h8, k1, g1, hw, o_calld, cwK_same, u1]
      rw [hQ]
      refine ⟨rfl, .inr ⟨rfl, ?_⟩⟩
      simp only [go_sem, ↓reduceIte, hd, c]
    · have c2 : p (vs.getD i []) = false := by simpa using c
      rw [c2] at hw
      simp +contextual -implicitDefEqProofs (maxSteps := 10000000) only [x49_l0_run, go_sem, ↓reduceIte, reduceCtorEq, Nat.reduceEqDiff, h0, h1, h7, h8, k1, g1, w1, hw, o_calld, cwK_same, u1]
      rw [hI]
      refine ⟨rfl, ?_, ?_, ?_, ?_, by rw [hd, if_neg c]⟩ <;> simp only [go_sem, ↓reduceIte, reduceCtorEq, Nat.reduceEqDiff, h0, h1, h7]
  · intro fr hp' h
    obtain ⟨rfl, h0, h1, h7, h8, hd⟩ := (hI _ _ _).1 h
    simp +contextual -implicitDefEqProofs (maxSteps := 10000000) only [x49_l0_run, go_sem, ↓reduceIte, h7, h8, Int.lt_irrefl]
    rw [hQ]
    exact ⟨rfl, .inl ⟨rfl, by rw [hd, List.drop_length]; rfl⟩⟩
  · intro e fr hp' he h
    rcases (hQ _ _ _).1 h with ⟨rfl, ⟨rfl, h1⟩ | ⟨rfl, h1⟩⟩
    · simp +contextual -implicitDefEqProofs (maxSteps := 10000000) only [go_sem, ↓reduceIte, Int.reduceNeg, h1]
    · simp +contextual -implicitDefEqProofs (maxSteps := 10000000) only [go_sem, Int.reduceNeg, h1]
theorem p_hasS (vs : List (List UInt8)) (p : List UInt8 → Bool) (f : Nat) (ds cs : List AV) (v : AV) (hl : Ls 1 v (wds vs)) (hm : vs.length ≤ 9223372036854775806) (hp : Heap)
    (hf : ∀ k ∈ vs, CL X GV f ((ds ++ [AV.str k] ++ cs).map uf) ([] :: [] :: hp) = some (.bool (p k), [] :: [] :: hp)) :
    CL X GV 22 [v, .fn f ds cs] hp = some (.bool (vs.any p), hp) := by
  have h1 := p_idxS vs p f ds cs v hl hm ([] :: hp) hf
  obtain ⟨p1, u1, n1, d1, f1⟩ := hl.one
  have hb := idxG_any p vs 0
  rw [CL_eq (fn := x22) rfl]
  simp +contextual -implicitDefEqProofs (maxSteps := 10000000) only [x22, go_sem, ↓reduceIte, reduceCtorEq, Nat.reduceEqDiff, u1, h1, hb, o_callw, cwK_same]
open Classical in
theorem p_tnot (w : List UInt8) (hp : Heap) : CL X GV 23 [.str w] hp = some (.bool (!decide (nameP w)), hp) := by
  rw [CL_eq (fn := x23) rfl]
  simp +contextual -implicitDefEqProofs (maxSteps := 10000000) only [x23, go_sem, ↓reduceIte, reduceCtorEq, v_name]
theorem l_sayVals (r : Rw) (hr : r.ok) (hl : r.vl.length ≤ 1000000000) (P : List UInt8) (xr : AV) (n i : Int) {fr : List AV} {L : Level} (K : Option (XExit × St) → Prop)
    (h5 : fget fr 5 = .ptr ⟨0, 5, 0⟩ 0) (h8 : fget fr 8 = .nilsl) (h25 : fget fr 25 = xr) (h26 : fget fr 26 = .int .i64 n) (h27 : fget fr 27 = .int .i64 i) (h31 : fget fr 31 = r.av) (h32 : fget fr 32 = .int .i64 r.vl.length) (h33 : fget fr 33 = .int .i64 0) (hL : lbld L 5 0 = some (56, 5, P))
    (hk : ∀ fr' L', fget fr' 5 = .ptr ⟨0, 5, 0⟩ 0 → fget fr' 8 = ol (wds (r.vl.map prt)) → fget fr' 25 = xr → fget fr' 26 = .int .i64 n → fget fr' 27 = .int .i64 i → lbld L' 5 0 = some (56, 5, P) → K (some (.exit 2, ⟨fr', [L']⟩))) :
    K (LC X GV (.loop x9_l0) ⟨fr, [L]⟩) := by
  obtain ⟨hx, hn, hro⟩ := hr
  obtain ⟨p1, u1, n1, d1, f1⟩ := hx.one
  rw [vals_len] at n1
  obtain ⟨I, hI⟩ : ∃ I : Nat → List AV → Heap → Prop, ∀ j fr hp', I j fr hp' ↔ ((∃ L, hp' = [L] ∧ lbld L 5 0 = some (56, 5, P)) ∧ fget fr 5 = .ptr ⟨0, 5, 0⟩ 0 ∧ fget fr 8 = ol (wds ((r.vl.map prt).take j)) ∧ fget fr 25 = xr ∧ fget fr 26 = .int .i64 n ∧ fget fr 27 = .int .i64 i ∧ fget fr 31 = r.av ∧ fget fr 32 = .int .i64 r.vl.length ∧ fget fr 33 = .int .i64 (j : Nat)) := ⟨_, fun _ _ _ => Iff.rfl⟩
  obtain ⟨Q, hQ⟩ : ∃ Q : XExit → List AV → Heap → Prop, ∀ e fr hp', Q e fr hp' ↔ (e = .exit 2 ∧ (∃ L, hp' = [L] ∧ lbld L 5 0 = some (56, 5, P)) ∧ fget fr 5 = .ptr ⟨0, 5, 0⟩ 0 ∧ fget fr 8 = ol (wds (r.vl.map prt)) ∧ fget fr 25 = xr ∧ fget fr 26 = .int .i64 n ∧ fget fr 27 = .int .i64 i) := ⟨_, fun _ _ _ => Iff.rfl⟩
  refine LC_upK r.vl.length I Q K ?_ ?_ ?_ ?_
  · rw [hI]
    exact ⟨⟨L, rfl, hL⟩, h5, by rw [h8]; rfl, h25, h26, h27, h31, h32, h33⟩
  · intro j hj fr hp' hh
    obtain ⟨⟨L, rfl, hL⟩, h5, h8, h25, h26, h27, h31, h32, h33⟩ := (hI _ _ _).1 hh
    have k1 : ((j : Int) < (r.vl.length : Int)) = True := by simp; omega
    have g1 := hx.at (k := j) (by rw [vals_len]; exact hj)
    rw [vals_get r.vl j hj] at g1
    have w1 : wr .i64 ((j : Int) + 1) = ((j + 1 : Nat) : Int) := by rw [wr_i64 _ (by omega)]; omega
    have vok := hro _ (mem_getD r.vl j hj)
    have hpr := v_print (r.vl.getD j default) vok []
    have htk : (r.vl.map prt).take (j + 1) = (r.vl.map prt).take j ++ [prt (r.vl.getD j default)] := by
      rw [take_snoc _ j [] (by simpa using hj)]
      simp [List.getD, hj]
    obtain ⟨q, hq⟩ : ∃ q, prt (r.vl.getD j default) = q := ⟨_, rfl⟩
    obtain ⟨e0, he⟩ : ∃ q, chkV (r.vl.getD j default) = q := ⟨_, rfl⟩
    rw [hq, he] at hpr
    rw [hq] at htk
    clear hq he
    generalize r.vl.getD j default = y at g1 hpr
    obtain ⟨k, n2, d, s⟩ := y
    simp only [Val.cells, Val.av, vA] at g1 hpr
    have hlen : ((r.vl.map prt).take j).length = j := by rw [List.length_take, List.length_map]; omega
    have hnew : ol (wds ((r.vl.map prt).take (j + 1))) = .lst .own 1 (wds ((r.vl.map prt).take j) ++ [[.str q]]) := by rw [htk, wds_snoc, ol_cons]
    have rf : (refFreeL [[AV.str q]].flatten = true ∧ [[AV.str q]].flatten.all plain1 = true) = True := by simp [refFreeL, refFree, plain1]
    cases hw : (r.vl.map prt).take j with
    | nil =>
      rw [hw] at h8 hnew
      have h8' : fget fr 8 = .nilsl := h8
      have hnew' : ol (wds ((r.vl.map prt).take (j + 1))) = .lst .own 1 [[.str q]] := hnew
      simp +contextual -implicitDefEqProofs (maxSteps := 10000000) only [x9_l0_run, go_sem, ↓reduceIte, reduceCtorEq, Nat.reduceEqDiff, Nat.reduceAdd, Nat.reduceLeDiff, Nat.reduceMul, Nat.reduceLT, Nat.reduceDiv, h8', h31, h32, h33, k1, g1, w1, u1, hpr, stAt_topc, ldAt_topc, room, rf]
      rw [hI]
      refine ⟨⟨_, rfl, ?_⟩, ?_, ?_, ?_, ?_, ?_, ?_, ?_, ?_⟩
      · simp [lbld_put, hL]
      all_goals simp only [go_sem, ↓reduceIte, Nat.reduceEqDiff, h5, h25, h26, h27, h31, h32, hnew']
    | cons w0 ws0 =>
      rw [hw] at h8 hnew hlen
      obtain ⟨W, hW⟩ : ∃ W, wds (w0 :: ws0) = W := ⟨_, rfl⟩
      have hWl : W.length = j := by rw [← hW, wds_len, hlen]
      have h8' : fget fr 8 = .lst .own 1 W := by rw [← hW]; exact h8
      rw [hW] at hnew
      have b1 : ((W.length + 1) * 16 ≤ 140737488355328) = True := by simp; omega
      simp +contextual -implicitDefEqProofs (maxSteps := 10000000) only [x9_l0_run, go_sem, ↓reduceIte, reduceCtorEq, Nat.reduceEqDiff, Nat.reduceAdd, Nat.reduceLT, Nat.reduceDiv, h8', h31, h32, h33, k1, g1, w1, u1, hpr, stAt_topc, ldAt_topc, room, rf, b1]
      rw [hI]
      refine ⟨⟨_, rfl, ?_⟩, ?_, ?_, ?_, ?_, ?_, ?_, ?_, ?_⟩
      · simp [lbld_put, hL]
      all_goals simp only [go_sem, ↓reduceIte, Nat.reduceEqDiff, h5, h25, h26, h27, h31, h32, hnew]
  · intro fr hp' hh
    obtain ⟨⟨L, rfl, hL⟩, h5, h8, h25, h26, h27, h31, h32, h33⟩ := (hI _ _ _).1 hh
    simp +contextual -implicitDefEqProofs (maxSteps := 10000000) only [x9_l0_run, go_sem, ↓reduceIte, h32, h33, Int.lt_irrefl]
    rw [hQ]
    rw [List.take_of_length_le (by simp)] at h8
    refine ⟨rfl, ⟨L, rfl, hL⟩, ?_, ?_, ?_, ?_, ?_⟩ <;> simp only [go_sem, ↓reduceIte, Nat.reduceEqDiff, h5, h8, h25, h26, h27]
  · intro e fr hp' he hh
    obtain ⟨rfl, ⟨L, rfl, hL⟩, h5, h8, h25, h26, h27⟩ := (hQ _ _ _).1 hh
    exact hk fr L h5 h8 h25 h26 h27 hL
theorem rws_bulk (l : List Rw) (i : Nat) : (rowsT (l.take i)).length ≤ (l.map fun r => 259 * r.vl.length + 4).sum :=
  Nat.le_trans (rowsT_len _) (sum_take _ l i)
open Classical in
theorem tabE_ok {t : Tb} (h : tE t = 0) : tabE t = if ∀ i, i < t.vs.length → nameP (t.vs.getD i []) then 0 else 30 := by
  rw [tabE, if_neg (by simp [h])]
open Classical in
theorem any_not {vs : List (List UInt8)} : (vs.any fun w => !decide (nameP w)) = !decide (∀ i, i < vs.length → nameP (vs.getD i [])) := by
  cases h : vs.any fun w => !decide (nameP w) with
  | true =>
    obtain ⟨w, hw, hn⟩ := List.any_eq_true.1 h
    obtain ⟨i, hi, rfl⟩ := List.mem_iff_getElem.1 hw
    have : ¬ ∀ i, i < vs.length → nameP (vs.getD i []) := fun hh => by
      have := hh i hi
      simp only [List.getD, List.getElem?_eq_getElem hi, Option.getD_some] at this
      simp [this] at hn
    rw [decide_eq_false this]; rfl
  | false =>
    have h2 := List.any_eq_false.1 h
    have : ∀ i, i < vs.length → nameP (vs.getD i []) := fun i hi => by
      have := h2 (vs.getD i []) (by simp [List.getD, hi])
      simpa using this
    rw [decide_eq_true this]; rfl
open Classical in
theorem p_sayTab (t : Tb) (ht : t.ok) : CL X GV 9 [.agg t.cells] [] = some (.tup [.str (tabS t), .int .i64 (tabE t)], []) := by
  obtain ⟨hxv, hxr, hro, hvl, hrl, hbk⟩ := id ht
  obtain ⟨pv, uv, nv, dv, fv⟩ := hxv.one
  obtain ⟨pr, ur, nr, dr, fr0⟩ := hxr.one
  rw [wds_len] at nv
  rw [rws_len] at nr
  have hck := p_tcheck t ht
  have hhas := fun hp => p_hasS t.vs (fun w => !@decide (nameP w) (Classical.propDecidable _)) 23 [] [] t.xv hxv (by omega) hp (fun k _ => p_tnot k _)
  rw [CL_eq (fn := x9) rfl]
  simp only [Tb.cells] at hck ⊢
  by_cases hE : tE t = 0
  case neg =>
    have e1 : tabE t = tE t := by rw [tabE, if_pos hE]
    have e2 : tabS t = [] := by rw [tabS, if_neg (by rw [e1]; exact hE)]
    rw [e1, e2]
    have c1 : (tE t = 0) = False := by simp [hE]
    simp +contextual -implicitDefEqProofs (maxSteps := 10000000) only [x9, go_sem, ↓reduceIte, Nat.reduceEqDiff, Nat.reduceAdd, pv, uv, fv, pr, ur, fr0, hck, c1, ldAt_topc]
  have hT := tabE_ok hE
  rw [hE] at hck
  by_cases hN : ∀ i, i < t.vs.length → nameP (t.vs.getD i [])
  case neg =>
    rw [if_neg hN] at hT
    have e2 : tabS t = [] := by rw [tabS, if_neg (by rw [hT]; simp)]
    rw [hT, e2]
    rw [any_not, decide_eq_false hN] at hhas
    simp +contextual -implicitDefEqProofs (maxSteps := 10000000) only [x9, go_sem, ↓reduceIte, Nat.reduceEqDiff, Nat.reduceAdd, Int.reduceBNe, pv, uv, fv, pr, ur, fr0, hck, hhas, o_callw, cwK_same, ldAt_topc]
  rw [if_pos hN] at hT
  have e2 : tabS t = tabT t := by rw [tabS, if_pos hT]
  rw [hT, e2]
  rw [any_not, decide_eq_true hN] at hhas
  have hb2 : (jn t.vs).length ≤ 1000000000 := by
    have := jn_len t.vs
    unfold Tb.bulk at hbk
    omega
  have hput := fun L hL => p_put L 5 0 [40] [41] [] t.xv t.vs hxv hL (by omega) (by omega) (by simp) (by simp) (by simp)
  have nv5 : nextVer (lputc [] 1 0 [t.xv, t.xr]) 5 = 0 := rfl
  have hL0 : lbld (lputb (lputc [] 1 0 [t.xv, t.xr]) 5 0 56 5 []) 5 0 = some (56, 5, []) := rfl
  have hput0 := hput _ hL0
  have hb0 : ((lbld (lputb (lputc [] 1 0 [t.xv, t.xr]) 5 0 56 5 []) 5 0)).isSome = true := rfl
  simp +contextual -implicitDefEqProofs (maxSteps := 10000000) only [x9, go_sem, ↓reduceIte, Nat.reduceEqDiff, Nat.reduceAdd, Int.reduceBNe, pv, uv, fv, pr, ur, nr, fr0, hck, hhas, o_callw, cwK_same, ldAt_topc, o_allocb, nv5, hput0, cwK_putb, lcells_putb, lbld_putb, Option.isSome_some]
  obtain ⟨A, hA⟩ : ∃ A, 40 :: (jn t.vs ++ [41]) = A := ⟨_, rfl⟩
  have hAl : A.length ≤ 1000000002 := by rw [← hA]; simp only [List.length_cons, List.length_append, List.length_nil]; omega
  have hbk2 : (t.rs.map fun r => 259 * r.vl.length + 4).sum ≤ 1000000000 := by unfold Tb.bulk at hbk; omega
  rw [hA]
  obtain ⟨I, hI⟩ : ∃ I : Nat → List AV → Heap → Prop, ∀ i fr hp', I i fr hp' ↔ ((∃ L, hp' = [L] ∧ lbld L 5 0 = some (56, 5, A ++ rowsT (t.rs.take i))) ∧ fget fr 5 = .ptr ⟨0, 5, 0⟩ 0 ∧ fget fr 25 = t.xr ∧ fget fr 26 = .int .i64 t.rs.length ∧ fget fr 27 = .int .i64 (i : Nat)) := ⟨_, fun _ _ _ => Iff.rfl⟩
  obtain ⟨Q, hQ⟩ : ∃ Q : XExit → List AV → Heap → Prop, ∀ e fr hp', Q e fr hp' ↔ (e = .exit 0 ∧ (∃ L, hp' = [L] ∧ lbld L 5 0 = some (56, 5, A ++ rowsT t.rs)) ∧ fget fr 5 = .ptr ⟨0, 5, 0⟩ 0) := ⟨_, fun _ _ _ => Iff.rfl⟩
  refine LC_upK t.rs.length I Q (fun r => finK _ (seqK (blockK 0 r) _) = _) ?_ ?_ ?_ ?_
  · rw [hI]
    refine ⟨⟨_, rfl, ?_⟩, ?_, ?_, ?_, ?_⟩
    · rw [lbld_putb, if_pos rfl, if_pos rfl]; simp [rowsT]
    all_goals simp only [go_sem, ↓reduceIte, Nat.reduceEqDiff, Int.natCast_zero]
  · intro i hi fr hp' hh
    obtain ⟨⟨L, rfl, hL⟩, h5, h25, h26, h27⟩ := (hI _ _ _).1 hh
    have k1 : ((i : Int) < (t.rs.length : Int)) = True := by simp; omega
    have g1 := hxr.at (k := i) (by rw [rws_len]; exact hi)
    rw [rws_get t.rs i hi] at g1
    have w1 : wr .i64 ((i : Int) + 1) = ((i + 1 : Nat) : Int) := by rw [wr_i64 _ (by omega)]; omega
    have hrow := hro _ (mem_getD t.rs i hi)
    have hbl : (t.rs.getD i default).vl.length ≤ 1000000000 := row_len ht i hi
    have htk := rowsT_take t.rs i hi
    have hTl := rws_bulk t.rs i
    have hbl3 : 259 * (t.rs.getD i default).vl.length + 4 ≤ 1000000000 := Nat.le_trans (le_sum_at (fun r => 259 * r.vl.length + 4) t.rs i hi) hbk2
    generalize t.rs.getD i default = r at g1 hrow hbl htk hbl3
    obtain ⟨pw, uw, nw, dw, fw⟩ := hrow.1.one
    rw [vals_len] at nw
    obtain ⟨T, hT⟩ : ∃ T, A ++ rowsT (t.rs.take i) = T := ⟨_, rfl⟩
    have hTl' : T.length ≤ 3000000000 := by rw [← hT, List.length_append]; omega
    rw [hT] at hL
    simp +contextual -implicitDefEqProofs (maxSteps := 10000000) only [x9_l1_run, go_sem, ↓reduceIte, Nat.reduceEqDiff, h25, h26, h27, k1, g1, ur, uw, dw, nw]
    refine l_sayVals r hrow hbl T t.xr t.rs.length i (fun r => StepOk (I (i + 1)) Q (seqK (blockK 1 (seqK (blockK 2 r) _)) _)) ?_ ?_ ?_ ?_ ?_ ?_ ?_ ?_ ?_ ?_
    all_goals first | (simp only [go_sem, ↓reduceIte, Nat.reduceEqDiff, h5, h25, h26, h27]; done) | skip
    · exact hL
    · intro fr' L' g5 g8 g25 g26 g27 gL
      have hX := ol_ls (wds (r.vl.map prt))
      generalize ol (wds (r.vl.map prt)) = Y at g8 hX
      obtain ⟨px, ux, nx, dx, fx⟩ := hX.one
      have h1 := jn_len (r.vl.map prt)
      have h2 := sum_prt r.vl
      have hput2 := fun L hL => p_put L 5 0 [32, 40] [41] T (uf Y) (r.vl.map prt) hX hL (by rw [List.length_map]; omega) (by omega) (by omega) (by simp) (by simp)
      have hput3 := hput2 _ gL
      have hbb : (lbld L' 5 0).isSome = true := by rw [gL]; rfl
      simp +contextual -implicitDefEqProofs (maxSteps := 10000000) only [go_sem, ↓reduceIte, Nat.reduceEqDiff, g5, g8, g27, w1, ux, hput3, gL, o_callw, cwK_putb, Option.isSome_some]
      rw [hI]
      refine ⟨⟨_, rfl, ?_⟩, ?_, ?_, ?_, ?_⟩
      · rw [lbld_putb, if_pos rfl, if_pos rfl, htk, ← List.append_assoc, hT]; simp [rowT]
      all_goals simp only [go_sem, ↓reduceIte, Nat.reduceEqDiff, g5, g25, g26]
  · intro fr hp' hh
    obtain ⟨⟨L, rfl, hL⟩, h5, h25, h26, h27⟩ := (hI _ _ _).1 hh
    simp +contextual -implicitDefEqProofs (maxSteps := 10000000) only [x9_l1_run, go_sem, ↓reduceIte, h26, h27, Int.lt_irrefl]
    rw [hQ]
    rw [List.take_length] at hL
    exact ⟨rfl, ⟨L, rfl, hL⟩, by simp only [go_sem, ↓reduceIte, Nat.reduceEqDiff, h5]⟩
  · intro e fr hp' he hh
    obtain ⟨rfl, ⟨L, rfl, hL⟩, h5⟩ := (hQ _ _ _).1 hh
    have hbs := p_bs
    have hbb : (lbld L 5 0).isSome = true := by rw [hL]; rfl
    have htt : tabT t = A ++ rowsT t.rs := by rw [tabT, ← hA]; simp
    simp +contextual -implicitDefEqProofs (maxSteps := 10000000) only [go_sem, ↓reduceIte, Nat.reduceEqDiff, Nat.reduceAdd, Nat.reduceMul, h5, hbs, hL, bsK_some, o_callw, cwK_putbc, Option.isSome_some, htt]
end Go.Proofs.YtafeikbbjhmlaaaGreatDoor.Sx.T
namespace Go.Proofs.YtafeikbbjhmlaaaGreatDoor.Sx.T
open Go Go.Proofs.YtafeikbbjhmlaaaGreatDoor.Sx
set_option maxRecDepth 100000
set_option maxHeartbeats 8000000
def bl (B : List UInt8) : AV := .lst .own 1 (listOfBytes B)
end Go.Proofs.YtafeikbbjhmlaaaGreatDoor.Sx.T
namespace Go.Proofs.YtafeikbbjhmlaaaGreatDoor.Sx.T
open Go Go.Proofs.YtafeikbbjhmlaaaGreatDoor.Sx
set_option maxRecDepth 100000
set_option maxHeartbeats 8000000
structure Vd where
  at_ : Int
  tm : Int
  t : Tb
def Vd.cells (v : Vd) : List AV := [.int .i64 v.at_, .int .i64 v.tm, v.t.xv, v.t.xr]
def Vd.ok (v : Vd) : Prop := I64 v.at_ ∧ I64 v.tm ∧ v.t.ok
def Vd.bad (v : Vd) : Prop := v.at_ < 0 ∨ 4096 ≤ v.at_ ∨ v.tm < 0 ∨ 1099511627776 < v.tm
end Go.Proofs.YtafeikbbjhmlaaaGreatDoor.Sx.T
namespace Go.Proofs.YtafeikbbjhmlaaaGreatDoor.Sx.T
open Go Go.Proofs.YtafeikbbjhmlaaaGreatDoor.Sx
set_option maxRecDepth 100000
set_option maxHeartbeats 8000000
structure Se where
  ks : List Int
  kv : AV
  at_ : Int
  t : Tb
instance : Inhabited Se := ⟨⟨[], .nilsl, 0, ⟨[], [], .nilsl, .nilsl⟩⟩⟩
def Se.cells (s : Se) : List AV := [s.kv, .int .i64 s.at_, s.t.xv, s.t.xr]
def Se.ok (s : Se) : Prop := Ls 1 s.kv (nums s.ks) ∧ s.ks.length ≤ 1048576 ∧ I64 s.at_ ∧ s.t.ok
end Go.Proofs.YtafeikbbjhmlaaaGreatDoor.Sx.T
namespace Go.Proofs.YtafeikbbjhmlaaaGreatDoor.Sx.T
open Go Go.Proofs.YtafeikbbjhmlaaaGreatDoor.Sx
set_option maxRecDepth 100000
set_option maxHeartbeats 8000000
end Go.Proofs.YtafeikbbjhmlaaaGreatDoor.Sx.T
namespace Go.Proofs.YtafeikbbjhmlaaaGreatDoor.Sx.T
open Go Go.Proofs.YtafeikbbjhmlaaaGreatDoor.Sx
set_option maxRecDepth 100000
set_option maxHeartbeats 8000000
end Go.Proofs.YtafeikbbjhmlaaaGreatDoor.Sx.T
namespace Go.Proofs.YtafeikbbjhmlaaaGreatDoor.Sx.T
open Go Go.Proofs.YtafeikbbjhmlaaaGreatDoor.Sx
set_option maxRecDepth 100000
set_option maxHeartbeats 8000000
theorem list_eq_at {α : Type} (d : α) : ∀ {a b : List α}, a.length = b.length → (∀ i, i < a.length → a.getD i d = b.getD i d) → a = b
  | [], [], _, _ => rfl
  | [], b :: l, h, _ => by simp at h
  | a :: l, [], h, _ => by simp at h
  | a :: l, b :: m, h, hh => by
    have h0 := hh 0 (by simp)
    have ih := list_eq_at d (a := l) (b := m) (by simpa using h) (fun i hi => by simpa using hh (i + 1) (by simpa using hi))
    simp at h0
    rw [h0, ih]
theorem list_ne_at {α : Type} (d : α) {a b : List α} (i : Nat) (h : a.getD i d ≠ b.getD i d) : a ≠ b := fun e => h (by rw [e])
theorem p_sameVars (a b : List (List UInt8)) (x y : AV) (hx : Ls 1 x (wds a)) (hy : Ls 1 y (wds b)) (hl : a.length ≤ 9223372036854775806) (hp : Heap) :
    CL X GV 44 [x, y] hp = some (.bool (decide (a = b)), hp) := by
  obtain ⟨p1, u1, n1, d1, f1⟩ := hx.one
  obtain ⟨p2, u2, n2, d2, f2⟩ := hy.one
  rw [wds_len] at n1 n2
  rw [CL_eq (fn := x44) rfl]
  by_cases hne : a.length = b.length
  case neg =>
    have b1 : (((a.length : Nat) : Int) != ((b.length : Nat) : Int)) = true := by rw [bne_iff_ne]; omega
    have e : a ≠ b := fun e => hne (by rw [e])
    rw [decide_eq_false e]
    simp +contextual -implicitDefEqProofs (maxSteps := 10000000) only [x44, go_sem, ↓reduceIte, reduceCtorEq, Nat.reduceEqDiff, u1, u2, n1, n2, b1]
  have b1 : (((a.length : Nat) : Int) != ((b.length : Nat) : Int)) = false := by rw [hne]; simp
  simp +contextual -implicitDefEqProofs (maxSteps := 10000000) only [x44, go_sem, ↓reduceIte, reduceCtorEq, Nat.reduceEqDiff, u1, u2, n1, n2, b1]
  obtain ⟨I, hI⟩ : ∃ I : Nat → List AV → Heap → Prop, ∀ i fr hp', I i fr hp' ↔ (hp' = [] :: hp ∧ fget fr 0 = x ∧ fget fr 1 = y ∧ fget fr 5 = .int .i64 (i : Nat) ∧ ∀ j, j < i → a.getD j [] = b.getD j []) := ⟨_, fun _ _ _ => Iff.rfl⟩
  obtain ⟨Q, hQ⟩ : ∃ Q : XExit → List AV → Heap → Prop, ∀ e fr hp', Q e fr hp' ↔ (hp' = [] :: hp ∧ ((e = .exit 0 ∧ a = b) ∨ (e = .ret ∧ a ≠ b ∧ fget fr 4 = .bool false))) := ⟨_, fun _ _ _ => Iff.rfl⟩
  refine LC_upK a.length I Q (fun r => finK _ (seqK (blockK 0 r) _) = _) ?_ ?_ ?_ ?_
  · rw [hI]
    refine ⟨rfl, ?_, ?_, ?_, fun j h => by omega⟩
    all_goals simp only [go_sem, ↓reduceIte, reduceCtorEq, Nat.reduceEqDiff, Int.natCast_zero]
  · intro i hi fr hp' hh
    obtain ⟨rfl, h0, h1, h5, hd⟩ := (hI _ _ _).1 hh
    have k1 : ((i : Int) < (a.length : Int)) = True := by simp; omega
    have k2 : ((i : Int) < (b.length : Int)) = True := by simp; omega
    have w1 : wr .i64 ((i : Int) + 1) = ((i + 1 : Nat) : Int) := by rw [wr_i64 _ (by omega)]; omega
    have g1 := up_at hx i hi
    have g2 := up_at hy i (by omega)
    have hne2 := list_ne_at (a := a) (b := b) ([] : List UInt8) i
    have hnext : a.getD i [] = b.getD i [] → ∀ j, j < i + 1 → a.getD j [] = b.getD j [] := fun h j hj => by
      by_cases e : j = i
      · subst e; exact h
      · exact hd j (by omega)
    generalize a.getD i [] = v at g1 hne2 hnext
    generalize b.getD i [] = w at g2 hne2 hnext
    by_cases c : v = w
    · have c' : (v = w) = True := by simp [c]
      simp +contextual -implicitDefEqProofs (maxSteps := 10000000) only [x44_l0_run, go_sem, ↓reduceIte, reduceCtorEq, Nat.reduceEqDiff, h0, h1, h5, k1, g1, g2, w1, u1, u2, n1, c']
      rw [hI]
      refine ⟨rfl, ?_, ?_, ?_, hnext c⟩ <;> simp only [go_sem, ↓reduceIte, reduceCtorEq, Nat.reduceEqDiff, h0, h1]
    · have c' : (v = w) = False := by simp [c]
      simp +contextual -implicitDefEqProofs (maxSteps := 10000000) only [x44_l0_run, go_sem, ↓reduceIte, reduceCtorEq, Nat.reduceEqDiff, h0, h1, h5, k1, g1, g2, u1, u2, n1, c']
      rw [hQ]
      exact ⟨rfl, .inr ⟨rfl, hne2 c, by simp only [go_sem, ↓reduceIte]⟩⟩
  · intro fr hp' hh
    obtain ⟨rfl, h0, h1, h5, hd⟩ := (hI _ _ _).1 hh
    simp +contextual -implicitDefEqProofs (maxSteps := 10000000) only [x44_l0_run, go_sem, ↓reduceIte, reduceCtorEq, Nat.reduceEqDiff, h0, h5, u1, n1, Int.lt_irrefl]
    rw [hQ]
    exact ⟨rfl, .inl ⟨rfl, list_eq_at [] hne hd⟩⟩
  · intro e fr hp' he hh
    rcases (hQ _ _ _).1 hh with ⟨rfl, ⟨rfl, h1⟩ | ⟨rfl, h1, h2⟩⟩
    · rw [decide_eq_true h1]
      simp +contextual -implicitDefEqProofs (maxSteps := 10000000) only [go_sem, ↓reduceIte]
    · rw [decide_eq_false h1]
      simp +contextual -implicitDefEqProofs (maxSteps := 10000000) only [go_sem, h2]
theorem p_sameRow (a b : List Val) (x y : AV) (hx : Ls 4 x (vals a)) (hy : Ls 4 y (vals b)) (hl : a.length ≤ 9223372036854775806) (hp : Heap) :
    CL X GV 45 [x, y] hp = some (.bool (decide (a = b)), hp) := by
  obtain ⟨p1, u1, n1, d1, f1⟩ := hx.one
  obtain ⟨p2, u2, n2, d2, f2⟩ := hy.one
  rw [vals_len] at n1 n2
  rw [CL_eq (fn := x45) rfl]
  by_cases hne : a.length = b.length
  case neg =>
    have b1 : (((a.length : Nat) : Int) != ((b.length : Nat) : Int)) = true := by rw [bne_iff_ne]; omega
    have e : a ≠ b := fun e => hne (by rw [e])
    rw [decide_eq_false e]
    simp +contextual -implicitDefEqProofs (maxSteps := 10000000) only [x45, go_sem, ↓reduceIte, reduceCtorEq, Nat.reduceEqDiff, u1, u2, n1, n2, b1]
  have b1 : (((a.length : Nat) : Int) != ((b.length : Nat) : Int)) = false := by rw [hne]; simp
  simp +contextual -implicitDefEqProofs (maxSteps := 10000000) only [x45, go_sem, ↓reduceIte, reduceCtorEq, Nat.reduceEqDiff, u1, u2, n1, n2, b1]
  obtain ⟨I, hI⟩ : ∃ I : Nat → List AV → Heap → Prop, ∀ i fr hp', I i fr hp' ↔ (hp' = [] :: hp ∧ fget fr 0 = x ∧ fget fr 1 = y ∧ fget fr 5 = .int .i64 (i : Nat) ∧ ∀ j, j < i → a.getD j default = b.getD j default) := ⟨_, fun _ _ _ => Iff.rfl⟩
  obtain ⟨Q, hQ⟩ : ∃ Q : XExit → List AV → Heap → Prop, ∀ e fr hp', Q e fr hp' ↔ (hp' = [] :: hp ∧ ((e = .exit 0 ∧ a = b) ∨ (e = .ret ∧ a ≠ b ∧ fget fr 4 = .bool false))) := ⟨_, fun _ _ _ => Iff.rfl⟩
  refine LC_upK a.length I Q (fun r => finK _ (seqK (blockK 0 r) _) = _) ?_ ?_ ?_ ?_
  · rw [hI]
    refine ⟨rfl, ?_, ?_, ?_, fun j h => by omega⟩
    all_goals simp only [go_sem, ↓reduceIte, reduceCtorEq, Nat.reduceEqDiff, Int.natCast_zero]
  · intro i hi fr hp' hh
    obtain ⟨rfl, h0, h1, h5, hd⟩ := (hI _ _ _).1 hh
    have k1 : ((i : Int) < (a.length : Int)) = True := by simp; omega
    have w1 : wr .i64 ((i : Int) + 1) = ((i + 1 : Nat) : Int) := by rw [wr_i64 _ (by omega)]; omega
    have g1 := hx.at (k := i) (by rw [vals_len]; exact hi)
    have g2 := hy.at (k := i) (by rw [vals_len]; omega)
    rw [vals_get a i hi] at g1
    rw [vals_get b i (by omega)] at g2
    have hsm := v_rsame (a.getD i default) (b.getD i default)
    have hne2 := list_ne_at (a := a) (b := b) (default : Val) i
    have hnext : a.getD i default = b.getD i default → ∀ j, j < i + 1 → a.getD j default = b.getD j default := fun h j hj => by
      by_cases e : j = i
      · subst e; exact h
      · exact hd j (by omega)
    generalize a.getD i default = v at g1 hne2 hnext hsm
    generalize b.getD i default = w at g2 hne2 hnext hsm
    by_cases c : v = w
    · rw [decide_eq_true c] at hsm
      have hnx := hnext c
      obtain ⟨k, n, d, s⟩ := v
      obtain ⟨k', n', d', s'⟩ := w
      simp only [Val.cells, Val.av, vA] at g1 g2 hsm
      simp +contextual -implicitDefEqProofs (maxSteps := 10000000) only [x45_l0_run, go_sem, ↓reduceIte, reduceCtorEq, Nat.reduceEqDiff, Nat.reduceAdd, h0, h1, h5, k1, g1, g2, w1, u1, u2, n1, hsm]
      rw [hI]
      refine ⟨rfl, ?_, ?_, ?_, hnx⟩ <;> simp only [go_sem, ↓reduceIte, reduceCtorEq, Nat.reduceEqDiff, h0, h1]
    · rw [decide_eq_false c] at hsm
      have hnx := hne2 c
      clear hne2 hnext c
      obtain ⟨k, n, d, s⟩ := v
      obtain ⟨k', n', d', s'⟩ := w
      simp only [Val.cells, Val.av, vA] at g1 g2 hsm
      simp +contextual -implicitDefEqProofs (maxSteps := 10000000) only [x45_l0_run, go_sem, ↓reduceIte, reduceCtorEq, Nat.reduceEqDiff, Nat.reduceAdd, h0, h1, h5, k1, g1, g2, u1, u2, n1, hsm]
      rw [hQ]
      exact ⟨rfl, .inr ⟨rfl, hnx, by simp only [go_sem, ↓reduceIte]⟩⟩
  · intro fr hp' hh
    obtain ⟨rfl, h0, h1, h5, hd⟩ := (hI _ _ _).1 hh
    simp +contextual -implicitDefEqProofs (maxSteps := 10000000) only [x45_l0_run, go_sem, ↓reduceIte, reduceCtorEq, Nat.reduceEqDiff, h0, h5, u1, n1, Int.lt_irrefl]
    rw [hQ]
    exact ⟨rfl, .inl ⟨rfl, list_eq_at default hne hd⟩⟩
  · intro e fr hp' he hh
    rcases (hQ _ _ _).1 hh with ⟨rfl, ⟨rfl, h1⟩ | ⟨rfl, h1, h2⟩⟩
    · rw [decide_eq_true h1]
      simp +contextual -implicitDefEqProofs (maxSteps := 10000000) only [go_sem, ↓reduceIte]
    · rw [decide_eq_false h1]
      simp +contextual -implicitDefEqProofs (maxSteps := 10000000) only [go_sem, h2]
def Tb.rows (t : Tb) : List (List Val) := t.rs.map fun r => r.vl
def Tb.same (t u : Tb) : Prop := t.vs = u.vs ∧ t.rows = u.rows
instance (t u : Tb) : Decidable (t.same u) := inferInstanceAs (Decidable (_ ∧ _))
theorem rows_get (t : Tb) (i : Nat) (h : i < t.rs.length) : t.rows.getD i [] = (t.rs.getD i default).vl := by simp [Tb.rows, List.getD, h]
def Tb.ok1 (t : Tb) : Prop := Ls 1 t.xv (wds t.vs) ∧ Ls 1 t.xr (rws t.rs) ∧ (∀ r ∈ t.rs, r.ok) ∧ t.vs.length ≤ 1000000000 ∧ t.rs.length ≤ 1000000000
theorem Tb.ok.one {t : Tb} (h : t.ok) : t.ok1 := ⟨h.1, h.2.1, h.2.2.1, by have := h.2.2.2.1; omega, by have := h.2.2.2.2.1; omega⟩
theorem p_rtsame (t u : Tb) (ht : t.ok1) (hu : u.ok1) : CL X GV 19 [.agg t.cells, .agg u.cells] [] = some (.bool (decide (t.same u)), []) := by
  obtain ⟨hxv, hxr, hro, hvl, hrl⟩ := ht
  obtain ⟨hyv, hyr, hso, hwl, hsl⟩ := hu
  obtain ⟨pv, uv, nv, dv, fv⟩ := hxv.one
  obtain ⟨pr, ur, nr, dr, fr0⟩ := hxr.one
  obtain ⟨pv2, uv2, nv2, dv2, fv2⟩ := hyv.one
  obtain ⟨pr2, ur2, nr2, dr2, fr2⟩ := hyr.one
  rw [wds_len] at nv nv2
  rw [rws_len] at nr nr2
  have hsv := p_sameVars t.vs u.vs t.xv u.xv hxv hyv (by omega)
  rw [CL_eq (fn := x19) rfl]
  simp only [Tb.cells]
  by_cases hv : t.vs = u.vs
  case neg =>
    have e : ¬ t.same u := fun h => hv h.1
    rw [decide_eq_false e]
    rw [decide_eq_false hv] at hsv
    simp +contextual -implicitDefEqProofs (maxSteps := 10000000) only [x19, go_sem, ↓reduceIte, Nat.reduceEqDiff, Nat.reduceAdd, pv, uv, fv, pr, ur, pv2, uv2, fv2, pr2, ur2, hsv, ldAt_topc]
  rw [decide_eq_true hv] at hsv
  by_cases hn : t.rs.length = u.rs.length
  case neg =>
    have b1 : (((t.rs.length : Nat) : Int) != ((u.rs.length : Nat) : Int)) = true := by rw [bne_iff_ne]; omega
    have e : ¬ t.same u := fun h => hn (by have := congrArg List.length h.2; simpa [Tb.rows] using this)
    rw [decide_eq_false e]
    simp +contextual -implicitDefEqProofs (maxSteps := 10000000) only [x19, go_sem, ↓reduceIte, Nat.reduceEqDiff, Nat.reduceAdd, pv, uv, fv, pr, ur, nr, pv2, uv2, fv2, pr2, ur2, nr2, hsv, b1, ldAt_topc]
  have b1 : (((t.rs.length : Nat) : Int) != ((u.rs.length : Nat) : Int)) = false := by rw [hn]; simp
  obtain ⟨C, hC⟩ : ∃ C, [t.xv, t.xr] = C := ⟨_, rfl⟩
  obtain ⟨D, hD⟩ : ∃ D, [u.xv, u.xr] = D := ⟨_, rfl⟩
  simp +contextual -implicitDefEqProofs (maxSteps := 10000000) only [x19, go_sem, ↓reduceIte, Nat.reduceEqDiff, Nat.reduceAdd, pv, uv, fv, pr, ur, nr, pv2, uv2, fv2, pr2, ur2, nr2, hsv, b1, ldAt_topc]
  obtain ⟨I, hI⟩ : ∃ I : Nat → List AV → Heap → Prop, ∀ i fr hp', I i fr hp' ↔ ((∃ L, hp' = [L] ∧ lcells L 2 0 = some C ∧ lcells L 3 0 = some D) ∧ fget fr 2 = .ptr ⟨0, 2, 0⟩ 0 ∧ fget fr 3 = .ptr ⟨0, 3, 0⟩ 0 ∧ fget fr 6 = .int .i64 (i : Nat) ∧ ∀ j, j < i → t.rows.getD j [] = u.rows.getD j []) := ⟨_, fun _ _ _ => Iff.rfl⟩
  obtain ⟨Q, hQ⟩ : ∃ Q : XExit → List AV → Heap → Prop, ∀ e fr hp', Q e fr hp' ↔ ((∃ L, hp' = [L]) ∧ ((e = .exit 0 ∧ t.rows = u.rows) ∨ (e = .ret ∧ t.rows ≠ u.rows ∧ fget fr 4 = .bool false))) := ⟨_, fun _ _ _ => Iff.rfl⟩
  have hrl1 : t.rows.length = t.rs.length := by simp [Tb.rows]
  have hrl2 : u.rows.length = u.rs.length := by simp [Tb.rows]
  refine LC_upK t.rs.length I Q (fun r => finK _ (seqK (blockK 0 r) _) = _) ?_ ?_ ?_ ?_
  · rw [hI]
    refine ⟨⟨_, rfl, ?_, ?_⟩, ?_, ?_, ?_, fun j h => by omega⟩
    · simp [lcells_put, ← hC]
    · simp [lcells_put, ← hD]
    all_goals simp only [go_sem, ↓reduceIte, Nat.reduceEqDiff, Int.natCast_zero]
  · intro i hi fr hp' hh
    obtain ⟨⟨L, rfl, hL, hM⟩, h2, h3, h6, hd⟩ := (hI _ _ _).1 hh
    rw [← hC] at hL
    rw [← hD] at hM
    have k1 : ((i : Int) < (t.rs.length : Int)) = True := by simp; omega
    have w1 : wr .i64 ((i : Int) + 1) = ((i + 1 : Nat) : Int) := by rw [wr_i64 _ (by omega)]; omega
    have g1 := hxr.at (k := i) (by rw [rws_len]; exact hi)
    have g2 := hyr.at (k := i) (by rw [rws_len]; omega)
    rw [rws_get t.rs i hi] at g1
    rw [rws_get u.rs i (by omega)] at g2
    have r1 := hro _ (mem_getD t.rs i hi)
    have r2 := hso _ (mem_getD u.rs i (by omega))
    obtain ⟨q1, q2, q3, q4, q5⟩ := r1.1.one
    obtain ⟨q6, q7, q8, q9, q10⟩ := r2.1.one
    have hsm := p_sameRow _ _ _ _ r1.1 r2.1 r1.2.1
    have hne2 := list_ne_at (a := t.rows) (b := u.rows) ([] : List Val) i
    have hnext : t.rows.getD i [] = u.rows.getD i [] → ∀ j, j < i + 1 → t.rows.getD j [] = u.rows.getD j [] := fun h j hj => by
      by_cases e : j = i
      · subst e; exact h
      · exact hd j (by omega)
    rw [rows_get t i hi, rows_get u i (by omega)] at hne2 hnext
    generalize t.rs.getD i default = v at g1 hne2 hnext hsm q1 q2 q3 q4 q5
    generalize u.rs.getD i default = w at g2 hne2 hnext hsm q6 q7 q8 q9 q10
    by_cases c : v.vl = w.vl
    · rw [decide_eq_true c] at hsm
      simp +contextual -implicitDefEqProofs (maxSteps := 10000000) only [x19_l0_run, go_sem, ↓reduceIte, Nat.reduceEqDiff, h2, h3, h6, hL, hM, k1, g1, g2, w1, ur, nr, ur2, q2, q5, q7, q10, hsm, ldAt_topc]
      rw [hI]
      refine ⟨⟨_, rfl, by rw [hL, hC], by rw [hM, hD]⟩, ?_, ?_, ?_, hnext c⟩ <;> simp only [go_sem, ↓reduceIte, Nat.reduceEqDiff, h2, h3]
    · rw [decide_eq_false c] at hsm
      simp +contextual -implicitDefEqProofs (maxSteps := 10000000) only [x19_l0_run, go_sem, ↓reduceIte, Nat.reduceEqDiff, h2, h3, h6, hL, hM, k1, g1, g2, ur, nr, ur2, q2, q5, q7, q10, hsm, ldAt_topc]
      rw [hQ]
      exact ⟨⟨_, rfl⟩, .inr ⟨rfl, hne2 c, by simp only [go_sem, ↓reduceIte]⟩⟩
  · intro fr hp' hh
    obtain ⟨⟨L, rfl, hL, hM⟩, h2, h3, h6, hd⟩ := (hI _ _ _).1 hh
    rw [← hC] at hL
    simp +contextual -implicitDefEqProofs (maxSteps := 10000000) only [x19_l0_run, go_sem, ↓reduceIte, Nat.reduceEqDiff, h2, h6, hL, ur, nr, Int.lt_irrefl, ldAt_topc]
    rw [hQ]
    exact ⟨⟨_, rfl⟩, .inl ⟨rfl, list_eq_at [] (by omega) (fun i hi => hd i (by omega))⟩⟩
  · intro e fr hp' he hh
    rcases (hQ _ _ _).1 hh with ⟨⟨L, rfl⟩, ⟨rfl, h1⟩ | ⟨rfl, h1, h2⟩⟩
    · rw [decide_eq_true (show t.same u from ⟨hv, h1⟩)]
      simp +contextual -implicitDefEqProofs (maxSteps := 10000000) only [go_sem, ↓reduceIte]
    · rw [decide_eq_false (show ¬ t.same u from fun h => h1 h.2)]
      simp +contextual -implicitDefEqProofs (maxSteps := 10000000) only [go_sem, h2]
end Go.Proofs.YtafeikbbjhmlaaaGreatDoor.Sx.T
namespace Go.Proofs.YtafeikbbjhmlaaaGreatDoor.Sx.T
open Go Go.Proofs.YtafeikbbjhmlaaaGreatDoor.Sx
set_option maxRecDepth 100000
set_option maxHeartbeats 8000000
def cl (c : UInt8) : Prop := c ≠ 32 ∧ c ≠ 41 ∧ c ≠ 34
def dl (c : UInt8) : Prop := c = 32 ∨ c = 41
theorem cl_app : ∀ (a b r r' : List UInt8) (d d' : UInt8), (∀ c ∈ a, cl c) → (∀ c ∈ b, cl c) → dl d → dl d' → a ++ d :: r = b ++ d' :: r' → a = b ∧ d = d' ∧ r = r'
  | [], [], r, r', d, d', _, _, _, _, h => by
    simp only [List.nil_append, List.cons.injEq] at h
    exact ⟨rfl, h.1, h.2⟩
  | [], y :: b, r, r', d, d', _, hb, hd, _, h => by
    simp only [List.nil_append, List.cons_append, List.cons.injEq] at h
    obtain ⟨h1, h2, h3⟩ := hb y (by simp)
    rcases hd with e | e
    · exact absurd (h.1.symm.trans e) h1
    · exact absurd (h.1.symm.trans e) h2
  | x :: a, [], r, r', d, d', ha, _, _, hd, h => by
    simp only [List.nil_append, List.cons_append, List.cons.injEq] at h
    obtain ⟨h1, h2, h3⟩ := ha x (by simp)
    rcases hd with e | e
    · exact absurd (h.1.trans e) h1
    · exact absurd (h.1.trans e) h2
  | x :: a, y :: b, r, r', d, d', ha, hb, hd, hd', h => by
    simp only [List.cons_append, List.cons.injEq] at h
    obtain ⟨e1, e2⟩ := h
    obtain ⟨i1, i2, i3⟩ := cl_app a b r r' d d' (fun c hc => ha c (by simp [hc])) (fun c hc => hb c (by simp [hc])) hd hd' e2
    exact ⟨by rw [e1, i1], i2, i3⟩
theorem hx_inj : ∀ a b : Fin 16, hx a.val = hx b.val → a = b := by decide
theorem qc_pre (c c' : UInt8) (x x' : List UInt8) (h : qc c ++ x = qc c' ++ x') : c = c' ∧ x = x' := by
  have q34 : ∀ u : UInt8, u.toNat = 92 → u = 92 := fun u h => UInt8.toNat_inj.1 (by rw [h]; rfl)
  unfold qc at h
  by_cases p : c.toNat = 34 ∨ c.toNat = 92
  · rw [if_pos p] at h
    by_cases p' : c'.toNat = 34 ∨ c'.toNat = 92
    · rw [if_pos p'] at h
      simpa using h
    · rw [if_neg p'] at h
      by_cases g' : 32 ≤ c'.toNat ∧ c'.toNat ≤ 126
      · rw [if_pos g'] at h
        simp only [List.cons_append, List.nil_append, List.cons.injEq] at h
        exact absurd (.inr (by rw [← h.1]; rfl)) p'
      · rw [if_neg g'] at h
        simp only [List.cons_append, List.nil_append, List.cons.injEq] at h
        have := h.2.1
        subst this
        simp at p
  · rw [if_neg p] at h
    by_cases g : 32 ≤ c.toNat ∧ c.toNat ≤ 126
    · rw [if_pos g] at h
      by_cases p' : c'.toNat = 34 ∨ c'.toNat = 92
      · rw [if_pos p'] at h
        simp only [List.cons_append, List.nil_append, List.cons.injEq] at h
        exact absurd (.inr (by rw [h.1]; rfl)) p
      · rw [if_neg p'] at h
        by_cases g' : 32 ≤ c'.toNat ∧ c'.toNat ≤ 126
        · rw [if_pos g'] at h
          simpa using h
        · rw [if_neg g'] at h
          simp only [List.cons_append, List.nil_append, List.cons.injEq] at h
          exact absurd (.inr (by rw [h.1]; rfl)) p
    · rw [if_neg g] at h
      by_cases p' : c'.toNat = 34 ∨ c'.toNat = 92
      · rw [if_pos p'] at h
        simp only [List.cons_append, List.nil_append, List.cons.injEq] at h
        have := h.2.1
        subst this
        simp at p'
      · rw [if_neg p'] at h
        by_cases g' : 32 ≤ c'.toNat ∧ c'.toNat ≤ 126
        · rw [if_pos g'] at h
          simp only [List.cons_append, List.nil_append, List.cons.injEq] at h
          exact absurd (.inr (by rw [← h.1]; rfl)) p'
        · rw [if_neg g'] at h
          simp only [List.cons_append, List.nil_append, List.cons.injEq, true_and] at h
          obtain ⟨h1, h2, h3⟩ := h
          have b1 := c.toNat_lt
          have b2 := c'.toNat_lt
          have e1 := hx_inj ⟨c.toNat / 16, by omega⟩ ⟨c'.toNat / 16, by omega⟩ h1
          have e2 := hx_inj ⟨c.toNat % 16, by omega⟩ ⟨c'.toNat % 16, by omega⟩ h2
          simp only [Fin.mk.injEq] at e1 e2
          exact ⟨UInt8.toNat_inj.1 (by omega), h3⟩
theorem qc_head (c : UInt8) (x y : List UInt8) : qc c ++ x ≠ 34 :: y := by
  intro h
  unfold qc at h
  by_cases p : c.toNat = 34 ∨ c.toNat = 92
  · rw [if_pos p] at h
    simp at h
  · rw [if_neg p] at h
    by_cases g : 32 ≤ c.toNat ∧ c.toNat ≤ 126
    · rw [if_pos g] at h
      simp only [List.cons_append, List.nil_append, List.cons.injEq] at h
      exact absurd (.inl (by rw [h.1]; rfl)) p
    · rw [if_neg g] at h
      simp at h
theorem flat_pre : ∀ (s s' r r' : List UInt8), s.flatMap qc ++ 34 :: r = s'.flatMap qc ++ 34 :: r' → s = s' ∧ r = r'
  | [], [], r, r', h => by simpa using h
  | [], c :: s', r, r', h => by
    rw [List.flatMap_nil, List.flatMap_cons, List.nil_append, List.append_assoc] at h
    exact absurd h.symm (qc_head c _ _)
  | c :: s, [], r, r', h => by
    rw [List.flatMap_nil, List.flatMap_cons, List.nil_append, List.append_assoc] at h
    exact absurd h (qc_head c _ _)
  | c :: s, c' :: s', r, r', h => by
    rw [List.flatMap_cons, List.flatMap_cons, List.append_assoc, List.append_assoc] at h
    obtain ⟨e1, e2⟩ := qc_pre _ _ _ _ h
    obtain ⟨i1, i2⟩ := flat_pre s s' r r' e2
    exact ⟨by rw [e1, i1], i2⟩
theorem dig_cl {c : UInt8} (h : isDig c) : cl c := by
  unfold isDig at h
  refine ⟨?_, ?_, ?_⟩ <;> (rintro rfl; simp at h)
theorem decI_cl (n : Int) : ∀ c ∈ decI n, cl c := by
  intro c hc
  unfold decI at hc
  split at hc
  · rcases List.mem_cons.1 hc with h | h
    · subst h; exact ⟨by decide, by decide, by decide⟩
    · exact dig_cl (decF_dig 20 _ c h)
  · exact dig_cl (decF_dig 20 _ c hc)
theorem prt_form (v : Val) (h : chkV v = 0) : ((∀ c ∈ prt v, cl c) ∧ prt v ≠ []) ∨ prt v = qt v.s := by
  have hp : prt v = if v.k = 1 then decI v.n else if v.k = 2 then decI v.n ++ 47 :: decI v.d else qt v.s := by
    unfold prt
    rw [if_neg (by simp [h])]
  by_cases k1 : v.k = 1
  · rw [if_pos k1] at hp
    rw [hp]
    exact .inl ⟨decI_cl _, decI_ne _⟩
  · rw [if_neg k1] at hp
    by_cases k2 : v.k = 2
    · rw [if_pos k2] at hp
      rw [hp]
      refine .inl ⟨fun c hc => ?_, by simp⟩
      rcases List.mem_append.1 hc with h | h
      · exact decI_cl _ c h
      · rcases List.mem_cons.1 h with h | h
        · subst h; exact ⟨by decide, by decide, by decide⟩
        · exact decI_cl _ c h
    · rw [if_neg k2] at hp
      exact .inr hp
theorem prt_pre (v w : Val) (d d' : UInt8) (r r' : List UInt8) (hv : v.ok ∧ chkV v = 0) (hw : w.ok ∧ chkV w = 0) (hd : dl d) (hd' : dl d') (h : prt v ++ d :: r = prt w ++ d' :: r') : v = w ∧ d = d' ∧ r = r' := by
  rcases prt_form v hv.2 with ⟨a1, a2⟩ | a
  · rcases prt_form w hw.2 with ⟨b1, b2⟩ | b
    · obtain ⟨e1, e2, e3⟩ := cl_app _ _ _ _ _ _ a1 b1 hd hd' h
      exact ⟨(prt_inj v w hv.1 hw.1 hv.2 hw.2).1 e1, e2, e3⟩
    · rw [b] at h
      cases hp : prt v with
      | nil => exact absurd hp a2
      | cons x l =>
        rw [hp] at h
        simp only [qt, List.cons_append, List.cons.injEq] at h
        exact absurd h.1 (a1 x (by simp [hp])).2.2
  · rcases prt_form w hw.2 with ⟨b1, b2⟩ | b
    · rw [a] at h
      cases hp : prt w with
      | nil => exact absurd hp b2
      | cons x l =>
        rw [hp] at h
        simp only [qt, List.cons_append, List.cons.injEq] at h
        exact absurd h.1.symm (b1 x (by simp [hp])).2.2
    · have h2 := h
      rw [a, b] at h2
      simp only [qt, List.cons_append, List.append_assoc, List.cons.injEq, true_and, List.nil_append] at h2
      obtain ⟨e1, e2⟩ := flat_pre _ _ _ _ h2
      simp only [List.cons.injEq] at e2
      exact ⟨(prt_inj v w hv.1 hw.1 hv.2 hw.2).1 (by rw [a, b, e1]), e2.1, e2.2⟩
theorem jn_head (x : List UInt8) (l : List (List UInt8)) (r : List UInt8) : ∃ d q, dl d ∧ jn (x :: l) ++ 41 :: r = x ++ d :: q ∧ ((l = [] ∧ d = 41 ∧ q = r) ∨ (l ≠ [] ∧ d = 32 ∧ q = jn l ++ 41 :: r)) := by
  cases l with
  | nil => exact ⟨41, r, .inr rfl, by rw [jn_one], .inl ⟨rfl, rfl, rfl⟩⟩
  | cons y l => exact ⟨32, jn (y :: l) ++ 41 :: r, .inl rfl, by rw [jn_cons, List.append_assoc, List.cons_append], .inr ⟨by simp, rfl, rfl⟩⟩
theorem jn_inj {α : Type} (f : α → List UInt8) (P : α → Prop) (H : ∀ (a b : α) (d d' : UInt8) (r r' : List UInt8), P a → P b → dl d → dl d' → f a ++ d :: r = f b ++ d' :: r' → a = b ∧ d = d' ∧ r = r')
    (N : ∀ a, P a → ∀ d q r, f a ++ d :: q ≠ 41 :: r) : ∀ (l l' : List α) (r r' : List UInt8), (∀ a ∈ l, P a) → (∀ a ∈ l', P a) → jn (l.map f) ++ 41 :: r = jn (l'.map f) ++ 41 :: r' → l = l' ∧ r = r'
  | [], [], r, r', _, _, h => by simpa [jn_nil] using h
  | [], b :: m, r, r', _, hb, h => by
    obtain ⟨d, q, _, e, _⟩ := jn_head (f b) (m.map f) r'
    rw [List.map_cons, e] at h
    exact absurd h.symm (N b (hb b (by simp)) _ _ _)
  | a :: l, [], r, r', ha, _, h => by
    obtain ⟨d, q, _, e, _⟩ := jn_head (f a) (l.map f) r
    rw [List.map_cons, e] at h
    exact absurd h (N a (ha a (by simp)) _ _ _)
  | a :: l, b :: m, r, r', ha, hb, h => by
    obtain ⟨d, q, hd, e, c⟩ := jn_head (f a) (l.map f) r
    obtain ⟨d', q', hd', e', c'⟩ := jn_head (f b) (m.map f) r'
    rw [List.map_cons, List.map_cons, e, e'] at h
    obtain ⟨h1, h2, h3⟩ := H _ _ _ _ _ _ (ha a (by simp)) (hb b (by simp)) hd hd' h
    rcases c with ⟨c1, c2, c3⟩ | ⟨c1, c2, c3⟩
    · rcases c' with ⟨f1, f2, f3⟩ | ⟨f1, f2, f3⟩
      · have l0 : l = [] := by simpa using c1
        have m0 : m = [] := by simpa using f1
        subst l0 m0
        exact ⟨by rw [h1], by rw [← c3, ← f3, h3]⟩
      · rw [c2, f2] at h2; exact absurd h2 (by decide)
    · rcases c' with ⟨f1, f2, f3⟩ | ⟨f1, f2, f3⟩
      · rw [c2, f2] at h2; exact absurd h2 (by decide)
      · rw [c3, f3] at h3
        obtain ⟨i1, i2⟩ := jn_inj f P H N l m r r' (fun x hx => ha x (by simp [hx])) (fun x hx => hb x (by simp [hx])) h3
        exact ⟨by rw [h1, i1], i2⟩
theorem name_cl {w : List UInt8} (h : nameP w) : ∀ c ∈ w, cl c := by
  intro c hc
  obtain ⟨i, hi, rfl⟩ := List.mem_iff_getElem.1 hc
  have hr := h.2.2.2 i (Nat.zero_le _) hi
  have e : w.getD i 0 = w[i] := by simp [List.getD, hi]
  rw [e] at hr
  generalize w[i] = c at hr
  unfold chA chB at hr
  refine ⟨?_, ?_, ?_⟩ <;> (rintro rfl; simp at hr)
theorem prt_N (v : Val) (hv : v.ok ∧ chkV v = 0) (d : UInt8) (q r : List UInt8) : prt v ++ d :: q ≠ 41 :: r := by
  intro h
  rcases prt_form v hv.2 with ⟨a1, a2⟩ | a
  · cases hp : prt v with
    | nil => exact absurd hp a2
    | cons x l =>
      rw [hp] at h
      simp only [List.cons_append, List.cons.injEq] at h
      exact absurd h.1 (a1 x (by simp [hp])).2.1
  · rw [a] at h
    simp [qt] at h
def goodV (v : Val) : Prop := v.ok ∧ chkV v = 0
theorem rowsT_inj : ∀ (l l' : List Rw), (∀ r ∈ l, ∀ v ∈ r.vl, goodV v) → (∀ r ∈ l', ∀ v ∈ r.vl, goodV v) → rowsT l = rowsT l' → l.map (fun r => r.vl) = l'.map (fun r => r.vl)
  | [], [], _, _, _ => rfl
  | [], r :: l', _, _, h => by simp [rowsT, rowT] at h
  | r :: l, [], _, _, h => by simp [rowsT, rowT] at h
  | a :: l, b :: m, ha, hb, h => by
    have e : ∀ (x : Rw) (y : List Rw), rowsT (x :: y) = 32 :: 40 :: (jn (x.vl.map prt) ++ 41 :: rowsT y) := fun x y => by simp [rowsT, rowT]
    rw [e, e] at h
    simp only [List.cons.injEq, true_and] at h
    obtain ⟨h1, h2⟩ := jn_inj prt goodV (fun a b d d' r r' p q s t => prt_pre a b d d' r r' p q s t) (fun a p d q r => prt_N a p d q r) a.vl b.vl _ _ (ha a (by simp)) (hb b (by simp)) h
    have ih := rowsT_inj l m (fun x hx => ha x (by simp [hx])) (fun x hx => hb x (by simp [hx])) h2
    rw [List.map_cons, List.map_cons, h1, ih]
theorem first0 {e : Nat → Int} : ∀ (m i : Nat), firstE e m i = 0 → ∀ j, i ≤ j → j < i + m → e j = 0
  | 0, i, _, j, h1, h2 => by omega
  | m + 1, i, h, j, h1, h2 => by
    rw [firstE] at h
    split at h
    · rename_i hn; exact absurd h hn
    · rename_i hn
      by_cases hj : j = i
      · subst hj; simpa using hn
      · exact first0 m (i + 1) h j (by omega) (by omega)
theorem tab_good {t : Tb} (ht : t.ok) (h : tabE t = 0) : (∀ w ∈ t.vs, nameP w) ∧ ∀ r ∈ t.rs, ∀ v ∈ r.vl, goodV v := by
  have hE : tE t = 0 := by
    unfold tabE at h
    split at h
    · rename_i hn; exact absurd h hn
    · rename_i hn; simpa using hn
  have hN : ∀ i, i < t.vs.length → nameP (t.vs.getD i []) := by
    rw [tabE_ok hE] at h
    split at h
    · rename_i hn; exact hn
    · simp at h
  refine ⟨fun w hw => ?_, fun r hr v hv => ?_⟩
  · obtain ⟨i, hi, rfl⟩ := List.mem_iff_getElem.1 hw
    have := hN i hi
    simpa [List.getD, hi] using this
  · have hr0 : firstE (rE t) t.rs.length 0 = 0 := by
      unfold tE at hE
      split at hE
      · simp at hE
      · exact hE
    obtain ⟨i, hi, rfl⟩ := List.mem_iff_getElem.1 hr
    have h1 := first0 _ _ hr0 i (Nat.zero_le _) (by omega)
    have e : t.rs.getD i default = t.rs[i] := by simp [List.getD, hi]
    unfold rE at h1
    rw [e] at h1
    have h2 : rwE t.vs.length t.rs[i] = 0 := by
      split at h1
      · rename_i hn; exact absurd h1 hn
      · rename_i hn; simpa using hn
    unfold rwE at h2
    split at h2
    · simp at h2
    · unfold vals8 at h2
      obtain ⟨j, hj, rfl⟩ := List.mem_iff_getElem.1 hv
      have h3 := first0 _ _ h2 j (Nat.zero_le _) (by omega)
      have e2 : t.rs[i].vl.getD j default = t.rs[i].vl[j] := by simp [List.getD, hj]
      rw [e2] at h3
      exact ⟨(ht.2.2.1 _ hr).2.2 _ hv, h3⟩
theorem tabT_inj {t u : Tb} (ht : t.ok) (hu : u.ok) (h1 : tabE t = 0) (h2 : tabE u = 0) : tabT t = tabT u ↔ t.same u := by
  obtain ⟨n1, v1⟩ := tab_good ht h1
  obtain ⟨n2, v2⟩ := tab_good hu h2
  constructor
  · intro h
    have h3 : jn (t.vs.map id) ++ 41 :: rowsT t.rs = jn (u.vs.map id) ++ 41 :: rowsT u.rs := by
      simp only [List.map_id]
      simpa [tabT] using h
    obtain ⟨e1, e2⟩ := jn_inj id nameP (fun a b d d' r r' p q s t e => cl_app a b r r' d d' (name_cl p) (name_cl q) s t e) (fun a p d q r e => by
      cases ha : a with
      | nil => exact p.1 ha
      | cons x l =>
        rw [ha] at e
        simp only [id, List.cons_append, List.cons.injEq] at e
        exact (name_cl p x (by simp [ha])).2.1 e.1) t.vs u.vs _ _ n1 n2 h3
    exact ⟨e1, rowsT_inj _ _ v1 v2 e2⟩
  · rintro ⟨e1, e2⟩
    have e3 : ∀ l : List Rw, rowsT l = (l.map fun r => r.vl).flatMap fun vl => 32 :: 40 :: (jn (vl.map prt) ++ [41]) := fun l => by
      rw [rowsT, List.flatMap_map]
      rfl
    unfold tabT
    rw [e1, e3, e3, show (t.rs.map fun r => r.vl) = u.rs.map fun r => r.vl from e2]
theorem v_SayUnlike (t u : Tb) (ht : t.ok) (hu : u.ok) : CL X GV 7 [.agg t.cells, .agg u.cells] [] = some (.bool true, []) := by
  have h1 := p_sayTab t ht
  have h2 := p_sayTab u hu
  have hs := p_rtsame t u ht.one hu.one
  have hl := liveTold
  obtain ⟨pv, uv, nv, dv, fv⟩ := ht.1.one
  obtain ⟨pr, ur, nr, dr, fr0⟩ := ht.2.1.one
  obtain ⟨pv2, uv2, nv2, dv2, fv2⟩ := hu.1.one
  obtain ⟨pr2, ur2, nr2, dr2, fr2⟩ := hu.2.1.one
  have hi := fun h1 h2 => tabT_inj ht hu h1 h2
  rw [tabS] at h1 h2
  rw [CL_eq (fn := x7) rfl]
  simp only [Tb.cells] at *
  by_cases e1 : tabE t = 0
  case neg =>
    rw [if_neg e1] at h1
    generalize (if tabE u = 0 then tabT u else []) = S at *
    generalize tabE t = e at *
    generalize tabE u = e' at *
    have c1 : (e = 0) = False := by simp [e1]
    simp +contextual -implicitDefEqProofs (maxSteps := 10000000) only [x7, go_sem, ↓reduceIte, Nat.reduceEqDiff, Nat.reduceAdd, pv, uv, fv, pr, ur, fr0, pv2, uv2, fv2, pr2, ur2, fr2, h1, h2, hl, c1, ldAt_topc]
  by_cases e2 : tabE u = 0
  case neg =>
    rw [if_pos e1, e1] at h1
    rw [if_neg e2] at h2
    generalize tabT t = S at *
    generalize tabE u = e' at *
    have c2 : (e' = 0) = False := by simp [e2]
    simp +contextual -implicitDefEqProofs (maxSteps := 10000000) only [x7, go_sem, ↓reduceIte, Nat.reduceEqDiff, Nat.reduceAdd, Int.reduceBNe, pv, uv, fv, pr, ur, fr0, pv2, uv2, fv2, pr2, ur2, fr2, h1, h2, hl, c2, ldAt_topc]
  rw [if_pos e1, e1] at h1
  rw [if_pos e2, e2] at h2
  have hj := hi e1 e2
  have hd : decide (tabT t = tabT u) = decide (t.same u) := by
    rw [Bool.eq_iff_iff, decide_eq_true_iff, decide_eq_true_iff]
    exact hj
  generalize decide (t.same u) = b at *
  generalize tabT t = S at *
  generalize tabT u = T at *
  simp +contextual -implicitDefEqProofs (maxSteps := 10000000) only [x7, go_sem, ↓reduceIte, Nat.reduceEqDiff, Nat.reduceAdd, Int.reduceBNe, pv, uv, fv, pr, ur, fr0, pv2, uv2, fv2, pr2, ur2, fr2, h1, h2, hl, hs, ldAt_topc]
  rw [hd]
  simp
end Go.Proofs.YtafeikbbjhmlaaaGreatDoor.Sx.T
