/- SX, part K: loads, stores, bytes. -/
import Derived.Test.YtpfollpbkpgglaaSxJ
set_option linter.unusedVariables false
set_option linter.unusedSimpArgs false
namespace Go.Proofs.Ytpfollpbkpgglaa.Sx
open Go
section
variable {P : Program} {G : Gh} {w : World} {fr : List AV} {act : Act} {o : Oper}

/-- Values that lie in memory one behind the other. -/
def MemAt (G : Gh) (w : World) (cs : List AV) (b q : Nat) : Prop :=
  ∀ (j : Nat) (v : AV), cs[j]? = some v → ∃ x, w.cell? ⟨b, q + j, none⟩ = some x ∧ RelV G w v x
theorem MemAt.drop {cs : List AV} {b q k : Nat} (h : MemAt G w cs b q) : MemAt G w (cs.drop k) b (q + k) := by
  intro j v hj
  rw [List.getElem?_drop] at hj
  obtain ⟨x, h1, h2⟩ := h _ v hj
  exact ⟨x, by rw [Nat.add_assoc]; exact h1, h2⟩
theorem run_load1 {a : Addr} {x : Value} (h : w.cell? a = some x) : (load a).run P w = .ok x w := by simp [h]
theorem run_loadCellsFrom {b q : Nat} : ∀ (n i : Nat) (acc : Array Value) (X : Nat → Value), (∀ j, j < n → w.cell? ⟨b, q + (i + j), none⟩ = some (X (i + j))) →
    (loadCellsFrom ⟨b, q, none⟩ i n acc).run P w = .ok (acc ++ ((List.range n).map fun j => X (i + j)).toArray) w
  | 0, i, acc, X, _ => by simp [loadCellsFrom]
  | n + 1, i, acc, X, h => by
    have h0 := h 0 (by omega)
    simp only [Nat.add_zero] at h0
    simp only [loadCellsFrom, Sem.run_bind, add_eq, run_load1 h0, Result.andThen_ok]
    rw [run_loadCellsFrom n (i + 1) (acc.push (X i)) X (fun j hj => by
      have := h (j + 1) (by omega)
      rw [show i + 1 + j = i + (j + 1) by omega]; exact this)]
    congr 1
    rw [List.range_succ_eq_map]
    simp [Function.comp_def, Nat.add_comm, Nat.add_left_comm]
theorem run_loadCells {b q n : Nat} {X : Nat → Value} (h : ∀ j, j < n → w.cell? ⟨b, q + j, none⟩ = some (X j)) :
    (loadCells ⟨b, q, none⟩ n).run P w = .ok ((List.range n).map X).toArray w := by
  unfold loadCells
  rw [run_loadCellsFrom n 0 #[] X (by simpa using h)]
  simp
theorem MemAt.choose {cs : List AV} {b q : Nat} (h : MemAt G w cs b q) : ∃ X : Nat → Value, ∀ (j : Nat) (v : AV), cs[j]? = some v → w.cell? ⟨b, q + j, none⟩ = some (X j) ∧ RelV G w v (X j) := by
  refine ⟨fun j => (w.cell? ⟨b, q + j, none⟩).getD undef, fun j v hj => ?_⟩
  obtain ⟨x, h1, h2⟩ := h j v hj
  simp only [h1, Option.getD_some]
  exact ⟨trivial, h2⟩
theorem loadVar_rel {cs : List AV} {b q n : Nat} {agg : Bool} {v : AV} {T : TypeId} {i : TypeInfo} {d : TypeDesc} (h : MemAt G w cs b q) (hi : P.info? T = some i) (hd : P.underlying T = some d) (hn : i.size = n)
    (ha : aggOf d = agg) (he : ldCells cs n agg = some v) : ∃ y, (loadVar T ⟨b, q, none⟩).run P w = .ok y w ∧ RelV G w v y := by
  obtain ⟨X, hX⟩ := h.choose
  unfold ldCells at he
  split at he
  · rename_i hlen
    cases agg with
    | true =>
      simp only [if_true] at he
      injection he with he
      subst he hn
      refine ⟨.agg ((List.range i.size).map X).toArray, ?_, .agg _ _ (by simp; omega) ?_⟩
      · simp only [loadVar, Sem.run_bind, run_isAgg2 hd, ha, Result.andThen_ok, if_true, run_sizeOf' hi]
        rw [run_loadCells (X := X) (fun j hj => (hX j _ (List.getElem?_eq_getElem (by omega))).1)]
        simp
      · intro j v x hv hx
        simp only [List.getElem?_map, List.getElem?_take] at hv
        split at hv
        · rename_i hj
          obtain ⟨u, hu, rfl⟩ := Option.map_eq_some_iff.1 hv
          simp [hj] at hx
          subst hx
          exact (hX j u hu).2.uf
        · simp at hv
    | false =>
      simp only [Bool.false_eq_true, if_false] at he
      cases cs with
      | nil => cases he
      | cons u l =>
        simp only [Option.some.injEq] at he
        subst he
        obtain ⟨h1, h2⟩ := hX 0 u rfl
        refine ⟨X 0, ?_, h2.uf⟩
        simp only [loadVar, Sem.run_bind, run_isAgg2 hd, ha, Result.andThen_ok, Bool.false_eq_true, if_false]
        exact run_load1 h1
  · cases he
theorem RelBlk.mem {r : Ref} {b base : Nat} {vs : List AV} (h : RelBlk G w r b base (.cells vs)) : MemAt G w vs b base := by
  obtain ⟨cs, T, h1, h2, h3⟩ := h
  intro j v hj
  have hlt := (List.getElem?_eq_some_iff.1 hj).1
  have hx : cs[base + j]? = some (cs[base + j]'(by omega)) := Array.getElem?_eq_getElem (by omega)
  exact ⟨_, by simp [World.cell?, h1, hx], (h3 j v _ hj hx).1.of_below⟩
/-- what the variables of the program's packages hold -/
def GlOk (G : Gh) (w : World) (gl : Nat → List AV) : Prop := ∀ g, gl g = [] ∨ (g < w.heap.size ∧ G.k g = .st ∧ refFreeL (gl g) = true ∧ MemAt G w (gl g) g 0)
theorem GlOk.mem {gl : Nat → List AV} (h : GlOk G w gl) (g : Nat) : MemAt G w (gl g) g 0 := by
  rcases h g with h | h
  · rw [h]; intro j v hj; simp at hj
  · exact h.2.2.2
theorem GlOk.ext {A : Nat → Prop} {gl : Nat → List AV} {G' : Gh} {w' : World} {n : Nat} (hv : Valid G w n) (hE : Ext A G w G' w') (h : GlOk G w gl) : GlOk G' w' gl := by
  intro g
  rcases h g with h | ⟨h1, h2, h3, h4⟩
  · exact .inl h
  · obtain ⟨h5, h6⟩ := hE.st g h1 h2
    refine .inr ⟨Nat.lt_of_lt_of_le h1 hE.size, h5, h3, fun j v hj => ?_⟩
    obtain ⟨x, h7, h8⟩ := h4 j v hj
    exact ⟨x, by rw [cell_of_heap h6]; exact h7, h8.ext hv hE⟩
theorem gives_load {gl : Nat → List AV} {hp : Heap} {x : XArg} {x' : Operand} {T : TypeId} {i : TypeInfo} {d : TypeDesc} {n : Nat} {agg : Bool} {v : AV} (hx : argOk x x' = true) (ho : o.op = .load T x')
    (hi : P.info? T = some i) (hd : P.underlying T = some d) (hn : i.size = n) (ha : aggOf d = agg) (hs : ∀ t ∈ argTmp x, RelS G w fr act t)
    (hh : ∀ r off, earg fr x = .ptr r off → ∀ b base blk, G.m r = some (b, base) → hget hp r = some blk → RelBlk G w r b base blk) (hg : GlOk G w gl)
    (he : ldAt gl hp (earg fr x) n agg = some v) : Gives P G w act o v ∧ noFlag v := by
  have h1 := arg_rel (w := w) (G := G) hx hs
  have key : ∀ (b q : Nat) (cs : List AV), act.eval x' = .pointer (some ⟨b, q, none⟩) → MemAt G w cs b q → ldCells cs n agg = some v → Gives P G w act o v ∧ noFlag v := by
    intro b q cs h2 h3 h4
    obtain ⟨y, h5, h6⟩ := loadVar_rel h3 hi hd hn ha h4
    refine ⟨⟨y, ?_, h6⟩, ldCells_noFlag h4⟩
    simp only [execOp, ho, h2, Instr.loadAt, Instr.sureAddr, Sem.run_bind, Sem.run_pure, Result.andThen_ok, h5]
  unfold ldAt at he
  split at he
  · rename_i r off hv
    rw [hv] at h1
    obtain ⟨b, base, h2, h3⟩ := ptr_form h1
    split at he
    · rename_i vs hc
      unfold cellsAt at hc
      split at hc
      · rename_i vs' hb
        injection hc with hc
        subst hc
        exact key b (base + off) _ h2 ((hh r off hv b base _ h3 hb).mem.drop) he
      · cases hc
    · cases he
  · rename_i cs hv
    rw [hv] at h1
    cases h2 : act.eval x' <;> rw [h2] at h1 <;> (try (cases h1; done))
    cases h1 with
    | elp _ b q X hc hf hx hr => exact key b q cs h2 (fun j u hj => ⟨_, hx j u hj, hr j u hj⟩) he
  · rename_i g hv
    rw [hv] at h1
    cases h2 : act.eval x' <;> rw [h2] at h1 <;> (try (cases h1; done))
    cases h1
    exact key g 0 _ h2 (hg.mem g) he
  · cases he

/-! ### stores -/
/-- One block is another; all else stands. -/
structure SetB (w w' : World) (b : Nat) (ob : Obj) : Prop where
  os : w'.os = w.os
  tape : w'.tape = w.tape
  output : w'.output = w.output
  size : w'.heap.size = w.heap.size
  new : w'.heap[b]? = some ob
  old : ∀ c, c ≠ b → w'.heap[c]? = w.heap[c]?
theorem setCell_setB {b q : Nat} {v : Value} {cs : Array Value} {T : TypeId} {fz : Nat × Nat} (h : w.heap[b]? = some (.cells cs T fz)) :
    SetB w (w.setCell ⟨b, q, none⟩ v) b (.cells (cs.setIfInBounds q v) T fz) where
  os := rfl
  tape := rfl
  output := rfl
  size := by simp
  new := by
    simp only [World.setCell, Array.getElem?_modify, if_true, h, Option.map_some]
    obtain ⟨lo, hi⟩ := fz
    simp
  old := fun c hc => by
    simp only [World.setCell, Array.getElem?_modify]
    rw [if_neg (Ne.symm hc)]
theorem run_storeCells {b q : Nat} {T : TypeId} {fz : Nat × Nat} : ∀ (l : List Value) (i : Nat) (w : World) (cs : Array Value), w.heap[b]? = some (.cells cs T fz) → q + i + l.length ≤ cs.size →
    (∀ v ∈ l, v.oneCell' = true) → (∀ j, q + i ≤ j → j < q + i + l.length → ¬ (fz.1 ≤ j ∧ j < fz.2)) →
    ∃ w' cs', (storeCells ⟨b, q, none⟩ l i).run P w = .ok () w' ∧ SetB w w' b (.cells cs' T fz) ∧ cs'.size = cs.size ∧ ∀ j : Nat, cs'[j]? = if q + i ≤ j ∧ j < q + i + l.length then l[j - (q + i)]? else cs[j]?
  | [], i, w, cs, h, _, _, _ => ⟨w, cs, by simp [storeCells], ⟨rfl, rfl, rfl, rfl, h, fun _ _ => rfl⟩, rfl, fun j => by rw [if_neg (by simp only [List.length_nil]; omega)]⟩
  | v :: l, i, w, cs, h, hsz, h1, hfz => by
    have hlen : (v :: l).length = l.length + 1 := rfl
    rw [hlen] at hsz
    have hc : w.cell? ⟨b, q + i, none⟩ = some (cs[q + i]'(by omega)) := by
      simp [World.cell?, h, Array.getElem?_eq_getElem (show q + i < cs.size by omega)]
    have hnf : w.frozen? ⟨b, q + i, none⟩ = false := by
      have := hfz (q + i) (by omega) (by rw [hlen]; omega)
      obtain ⟨lo, hi⟩ := fz
      simp only [World.frozen?, h]
      simp at this ⊢
      exact this
    have hst : (store ⟨b, q + i, none⟩ v).run P w = .ok () (w.setCell ⟨b, q + i, none⟩ v) := by
      rw [run_store P w _ v _ (h1 v (by simp)), hc]
      simp [hnf]
    have hB := setCell_setB (q := q + i) (v := v) h
    obtain ⟨w', cs', h2, h3, h4, h5⟩ := run_storeCells (q := q) l (i + 1) _ _ hB.new (by rw [Array.size_setIfInBounds]; omega) (fun u hu => h1 u (by simp [hu])) (fun j hj hj' => hfz j (by omega) (by rw [hlen]; omega))
    refine ⟨w', cs', ?_, ⟨h3.os.trans hB.os, h3.tape.trans hB.tape, h3.output.trans hB.output, h3.size.trans hB.size, h3.new, fun c hc => (h3.old c hc).trans (hB.old c hc)⟩, by rw [h4]; simp, fun j => ?_⟩
    · simp only [storeCells, Sem.run_bind, add_eq, hst, Result.andThen_ok, h2]
    · rw [h5 j]
      by_cases hc : q + (i + 1) ≤ j ∧ j < q + (i + 1) + l.length
      · rw [if_pos hc, if_pos (by rw [hlen]; omega)]
        rw [show j - (q + i) = (j - (q + (i + 1))) + 1 by omega]
        simp
      · rw [if_neg hc]
        by_cases he : j = q + i
        · subst he
          rw [if_pos (by rw [hlen]; omega)]
          simp [Array.getElem?_setIfInBounds]
          omega
        · rw [if_neg (by rw [hlen]; omega)]
          simp [Array.getElem?_setIfInBounds, Ne.symm he]
end
end Go.Proofs.Ytpfollpbkpgglaa.Sx
