/- SX, part I: cells put over others; literals of structs. -/
import Derived.Test.YtpfollpbkpgglaaSxH
set_option linter.unusedVariables false
set_option linter.unusedSimpArgs false
namespace Go.Proofs.Ytpfollpbkpgglaa.Sx
open Go

theorem splice_length : ∀ (l : List AV) (off : Nat) (vs : List AV), (splice l off vs).length = l.length
  | l, off, [] => by cases l <;> simp [splice]
  | [], off, _ :: _ => by simp [splice]
  | x :: l, n + 1, v :: vs => by simp [splice, splice_length l n (v :: vs)]
  | _ :: l, 0, v :: vs => by simp [splice, splice_length l 0 vs]
theorem splice_get : ∀ (l : List AV) (off : Nat) (vs : List AV) (j : Nat), off + vs.length ≤ l.length →
    (splice l off vs)[j]? = if off ≤ j ∧ j < off + vs.length then vs[j - off]? else l[j]?
  | l, off, [], j, _ => by
    have : ¬ (off ≤ j ∧ j < off + 0) := by omega
    simp only [List.length_nil, if_neg this]
    cases l <;> simp [splice]
  | [], off, v :: vs, j, h => by simp at h
  | x :: l, n + 1, v :: vs, j, h => by
    cases j with
    | zero => simp [splice]
    | succ j =>
      simp only [splice, List.getElem?_cons_succ]
      rw [splice_get l n (v :: vs) j (by simp at h ⊢; omega)]
      by_cases hc : n ≤ j ∧ j < n + (v :: vs).length
      · rw [if_pos hc, if_pos (by omega)]; congr 1; omega
      · rw [if_neg hc, if_neg (by omega)]
  | x :: l, 0, v :: vs, j, h => by
    cases j with
    | zero => simp [splice]
    | succ j =>
      simp only [splice, List.getElem?_cons_succ]
      rw [splice_get l 0 vs j (by simp at h ⊢; omega)]
      by_cases hc : 0 ≤ j ∧ j < 0 + vs.length
      · rw [if_pos hc, if_pos (by simp; omega)]; simp
      · rw [if_neg hc, if_neg (by simp at hc ⊢; omega)]
def putCells (off : Nat) (zs cells : Array Value) : Array Value := zs.zipIdx.foldl (fun cs (c, j) => cs.setIfInBounds (off + j) c) cells
theorem putList : ∀ (l : List Value) (k off : Nat) (cells : Array Value) (j : Nat), off + k + l.length ≤ cells.size →
    ((l.zipIdx k).foldl (fun cs (p : Value × Nat) => cs.setIfInBounds (off + p.2) p.1) cells).size = cells.size ∧
    ((l.zipIdx k).foldl (fun cs (p : Value × Nat) => cs.setIfInBounds (off + p.2) p.1) cells)[j]? = if off + k ≤ j ∧ j < off + k + l.length then l[j - (off + k)]? else cells[j]?
  | [], k, off, cells, j, _ => by
    have : ¬ (off + k ≤ j ∧ j < off + k + 0) := by omega
    simp only [List.length_nil, if_neg this]
    simp
  | v :: l, k, off, cells, j, h => by
    simp only [List.zipIdx_cons, List.foldl_cons, List.length_cons] at h ⊢
    obtain ⟨h1, h2⟩ := putList l (k + 1) off (cells.setIfInBounds (off + k) v) j (by simp; omega)
    refine ⟨by rw [h1]; simp, ?_⟩
    rw [h2]
    by_cases hc : off + (k + 1) ≤ j ∧ j < off + (k + 1) + l.length
    · rw [if_pos hc, if_pos (by omega)]
      rw [show j - (off + k) = (j - (off + (k + 1))) + 1 by omega]
      simp
    · rw [if_neg hc]
      by_cases he : j = off + k
      · subst he
        rw [if_pos (by omega)]
        simp [Array.getElem?_setIfInBounds]
        omega
      · rw [if_neg (by omega)]
        simp [Array.getElem?_setIfInBounds, Ne.symm he]
theorem putCells_get (off : Nat) (zs cells : Array Value) (j : Nat) (h : off + zs.size ≤ cells.size) :
    (putCells off zs cells).size = cells.size ∧ (putCells off zs cells)[j]? = if off ≤ j ∧ j < off + zs.size then zs[j - off]? else cells[j]? := by
  have := putList zs.toList 0 off cells j (by simpa using h)
  unfold putCells
  rw [← Array.foldl_toList, Array.toList_zipIdx]
  simpa using this

section
variable {P : Program} {G : Gh} {w : World} {fr : List AV} {act : Act} {o : Oper}
def RelCs (G : Gh) (w : World) (cs : List AV) (xs : Array Value) : Prop :=
  cs.length = xs.size ∧ ∀ (j : Nat) (v : AV) (x : Value), cs[j]? = some v → xs[j]? = some x → RelV G w v x
theorem RelCs.put {cs vs : List AV} {xs zs : Array Value} {off : Nat} (h : RelCs G w cs xs) (hv : RelCs G w vs zs) (hl : off + vs.length ≤ cs.length) :
    RelCs G w (splice cs off vs) (putCells off zs xs) := by
  have h1 := h.1
  have h2 := hv.1
  refine ⟨by rw [splice_length, (putCells_get off zs xs 0 (by omega)).1, h1], fun j v x hj hx => ?_⟩
  rw [splice_get _ _ _ _ hl] at hj
  rw [(putCells_get off zs xs j (by omega)).2] at hx
  by_cases hc : off ≤ j ∧ j < off + vs.length
  · rw [if_pos hc] at hj
    rw [if_pos (by omega)] at hx
    exact hv.2 _ v x hj hx
  · rw [if_neg hc] at hj
    rw [if_neg (by omega)] at hx
    exact h.2 _ v x hj hx
theorem plain1_one {v : AV} {x : Value} (h : plain1 v = true) (hr : RelV G w v x) : x.oneCell' = true ∧ x.cells = #[x] := by
  cases hr <;> simp [plain1] at h <;> first
    | exact ⟨rfl, rfl⟩
    | (rename_i h1; cases x <;> simp [Value.oneCell'] at h1 <;> exact ⟨rfl, rfl⟩)
theorem cellsOf_rel {v : AV} {x : Value} (h : solid v = true) (hr : RelV G w v x) : RelCs G w (cellsOf v) x.cells := by
  by_cases ha : ∃ cs, v = .agg cs
  · obtain ⟨cs, rfl⟩ := ha
    cases hr with
    | agg _ xs hl hr =>
    refine ⟨by simpa [cellsOf, Value.cells] using hl, fun j v x hv hx => ?_⟩
    simp only [cellsOf, List.getElem?_map] at hv
    obtain ⟨u, hu, rfl⟩ := Option.map_eq_some_iff.1 hv
    exact (hr j u x hu hx).uf
  · have hp : plain1 v = true := by cases v <;> simp [solid] at h <;> first | exact h | exact absurd ⟨_, rfl⟩ ha
    have hc : cellsOf v = [v] := by cases v <;> first | rfl | exact absurd ⟨_, rfl⟩ ha
    rw [hc, (plain1_one hp hr).2]
    refine ⟨rfl, fun j u y hu hy => ?_⟩
    cases j with
    | zero => simp at hu hy; subst hu hy; exact hr
    | succ j => simp at hu
theorem cellsOf_noFlag {v : AV} (h : noFlag v) : ∀ u ∈ cellsOf v, noFlag u := by
  intro u hu
  by_cases ha : ∃ cs, v = .agg cs
  · obtain ⟨cs, rfl⟩ := ha
    simp only [cellsOf, List.mem_map] at hu
    obtain ⟨c, _, rfl⟩ := hu
    exact noFlag_uf _
  · have hc : cellsOf v = [v] := by cases v <;> first | rfl | exact absurd ⟨_, rfl⟩ ha
    rw [hc] at hu
    simp at hu
    subst hu
    exact h
/-- the parts of a literal: offset, size, operand -/
def partsOk (place : Nat → Option (Nat × Nat)) : List (Nat × Nat × XArg) → List (Nat × Operand) → Bool
  | [], [] => true
  | (off, n, a) :: l, (i, b) :: m => (match place i with | some (p, q) => p == off && q == n | none => false) && argOk a b && partsOk place l m
  | _, _ => false
theorem fill_rel {place : Nat → Option (Nat × Nat)} : ∀ {ps : List (Nat × Nat × XArg)} {qs : List (Nat × Operand)} {cs cs' : List AV} {xs : Array Value}, partsOk place ps qs = true → (∀ p ∈ ps, ∀ t ∈ argTmp p.2.2, RelS G w fr act t) →
    RelCs G w cs xs → fillX fr ps cs = some cs' → ∃ xs', Instr.fill place xs (qs.map fun p => (p.1, act.eval p.2)) = some xs' ∧ RelCs G w cs' xs'
  | [], [], cs, cs', xs, _, _, hr, he => by
    simp [fillX] at he
    subst he
    exact ⟨xs, rfl, hr⟩
  | [], _ :: _, _, _, _, h, _, _, _ => by simp [partsOk] at h
  | (_, _, _) :: _, [], _, _, _, h, _, _, _ => by simp [partsOk] at h
  | (off, n, a) :: l, (i, b) :: m, cs, cs', xs, h, hs, hr, he => by
    simp only [partsOk, Bool.and_eq_true] at h
    obtain ⟨⟨h1, h2⟩, h3⟩ := h
    have ha := arg_rel (w := w) (G := G) (fr := fr) (act := act) h2 (fun t ht => hs (off, n, a) (by simp) t ht)
    simp only [fillX] at he
    split at he
    · rename_i hc
      obtain ⟨hc1, hc2, hc3⟩ := hc
      have hcr := cellsOf_rel hc3 ha
      cases hp : place i with
      | none => rw [hp] at h1; simp at h1
      | some pq =>
        obtain ⟨p, q⟩ := pq
        rw [hp] at h1
        simp at h1
        obtain ⟨rfl, rfl⟩ := h1
        have hsz := hcr.1
        have hlen := hr.1
        obtain ⟨xs', h4, h5⟩ := fill_rel (place := place) h3 (fun p hp => hs p (by simp [hp])) (hr.put hcr (by omega)) he
        refine ⟨xs', ?_, h5⟩
        simp only [List.map_cons, Instr.fill, hp]
        rw [if_neg (by simp; omega)]
        exact h4
    · cases he
def constCells : List AV → List Value → Bool
  | [], [] => true
  | a :: l, b :: m => constOk a b && plain1 a && constCells l m
  | _, _ => false
theorem constCells_rel : ∀ {cs : List AV} {xs : List Value}, constCells cs xs = true → RelCs G w cs xs.toArray ∧ (∀ v ∈ cs, plain1 v = true ∧ noFlag v)
  | [], [], _ => ⟨⟨rfl, by simp⟩, by simp⟩
  | [], _ :: _, h => by simp [constCells] at h
  | _ :: _, [], h => by simp [constCells] at h
  | a :: l, b :: m, h => by
    simp only [constCells, Bool.and_eq_true] at h
    obtain ⟨⟨h1, h2⟩, h3⟩ := h
    obtain ⟨⟨h4, h5⟩, h6⟩ := constCells_rel h3
    refine ⟨⟨by simpa using h4, fun j v x hv hx => ?_⟩, ?_⟩
    · cases j with
      | zero => simp at hv hx; subst hv hx; exact constOk_rel h1
      | succ j => exact h5 j v x (by simpa using hv) (by simpa using hx)
    · intro v hv
      rcases List.mem_cons.1 hv with rfl | hv
      · exact ⟨h2, constOk_noFlag h1⟩
      · exact h6 v hv
def zeroOk (P : Program) (t : TypeId) (zs : List AV) : Bool :=
  match P.info? t with
  | some i => match i.zero with | some v => constCells zs v.cells.toList | none => false
  | none => false
theorem zeroOk_run {t : TypeId} {zs : List AV} (h : zeroOk P t zs = true) : ∃ z, (zeroValue t).run P w = .ok z w ∧ RelCs G w zs z.cells ∧ ∀ v ∈ zs, plain1 v = true ∧ noFlag v := by
  unfold zeroOk at h
  split at h
  · rename_i i hi
    split at h
    · rename_i v hv
      obtain ⟨h1, h2⟩ := constCells_rel (G := G) (w := w) h
      exact ⟨v, by simp [zeroValue, typeInfo, hi, hv], by simpa using h1, h2⟩
    · cases h
  · cases h
def structPlaces (P : Program) (fs : Array Field) (i : Nat) : Option (Nat × Nat) :=
  match fs[i]? with
  | some f => match P.info? f.type with | some j => some (f.offset, j.size) | none => none
  | none => none
theorem run_places (fs : Array Field) (h : ∀ f ∈ fs.toList, (P.info? f.type).isSome = true) :
    ∃ ps : Array (Nat × Nat), (fs.mapM fun f => (do pure (f.offset, ← sizeOf f.type) : Sem (Nat × Nat))).run P w = .ok ps w ∧ ∀ i, ps[i]? = structPlaces P fs i := by
  have key : ∀ l : List Field, (∀ f ∈ l, (P.info? f.type).isSome = true) → ∃ ps : List (Nat × Nat), (l.mapM fun f => (do pure (f.offset, ← sizeOf f.type) : Sem (Nat × Nat))).run P w = .ok ps w ∧
      ∀ i : Nat, ps[i]? = (match l[i]? with | some f => (match P.info? f.type with | some j => some (f.offset, j.size) | none => none) | none => none) := by
    intro l
    induction l with
    | nil => intro _; exact ⟨[], by simp, by simp⟩
    | cons f l ih =>
      intro h
      obtain ⟨ps, h1, h2⟩ := ih (fun f hf => h f (by simp [hf]))
      obtain ⟨j, hj⟩ := Option.isSome_iff_exists.1 (h f (by simp))
      refine ⟨(f.offset, j.size) :: ps, ?_, fun i => ?_⟩
      · rw [List.mapM_cons]
        simp only [Sem.run_bind, run_sizeOf' hj, Result.andThen_ok, Sem.run_pure, h1]
      · cases i with
        | zero => simp [hj]
        | succ i => simpa using h2 i
  obtain ⟨ps, h1, h2⟩ := key fs.toList h
  refine ⟨ps.toArray, ?_, fun i => ?_⟩
  · rw [Array.mapM_eq_mapM_toList]
    simp only [Sem.run_map, h1, Result.andThen_ok]
  · simp only [List.getElem?_toArray, h2, structPlaces, Array.getElem?_toList]
theorem gives_build {zs cs : List AV} {ps : List (Nat × Nat × XArg)} {T : TypeId} {qs : Array (Nat × Operand)} {d : TypeDesc} (ho : o.op = .build T qs) (hz : zeroOk P T zs = true) (hd : P.underlying T = some d)
    (hk : (∃ fs, d = .struct fs ∧ (∀ f ∈ fs.toList, (P.info? f.type).isSome = true) ∧ partsOk (structPlaces P fs) ps qs.toList = true) ∨
      (∃ n e i, d = .array n e ∧ P.info? e = some i ∧ partsOk (fun k => some (k * i.size, i.size)) ps qs.toList = true))
    (hs : ∀ p ∈ ps, ∀ t ∈ argTmp p.2.2, RelS G w fr act t) (he : fillX fr ps zs = some cs) : Gives P G w act o (.agg cs) := by
  obtain ⟨z, h1, h2, _⟩ := zeroOk_run (G := G) (w := w) hz
  have hmap : (qs.map fun (p : Nat × Operand) => (p.1, act.eval p.2)).toList = qs.toList.map fun p => (p.1, act.eval p.2) := by simp
  rcases hk with ⟨fs, rfl, hf, hp⟩ | ⟨n, e, i, rfl, hi, hp⟩
  · obtain ⟨pl, h3, h4⟩ := run_places (P := P) (w := w) fs hf
    obtain ⟨xs, h5, h6⟩ := fill_rel hp hs h2 he
    refine ⟨.agg xs, ?_, .agg _ _ h6.1 h6.2⟩
    have h7 : Instr.fill (fun k => pl[k]?) z.cells (qs.map fun (p : Nat × Operand) => (p.1, act.eval p.2)).toList = some xs := by
      rw [hmap, show (fun k => pl[k]?) = structPlaces P fs from funext h4]; exact h5
    simp only [execOp, ho, Instr.build, Sem.run_bind, h1, Result.andThen_ok, run_underlying' hd, h3]
    rw [h7]
    rfl
  · obtain ⟨xs, h5, h6⟩ := fill_rel hp hs h2 he
    refine ⟨.agg xs, ?_, .agg _ _ h6.1 h6.2⟩
    have h7 : Instr.fill (fun k => some (k * i.size, i.size)) z.cells (qs.map fun (p : Nat × Operand) => (p.1, act.eval p.2)).toList = some xs := by
      rw [hmap]; exact h5
    simp only [execOp, ho, Instr.build, Sem.run_bind, h1, Result.andThen_ok, run_underlying' hd, run_sizeOf' hi]
    rw [h7]
    rfl
end
end Go.Proofs.Ytpfollpbkpgglaa.Sx
