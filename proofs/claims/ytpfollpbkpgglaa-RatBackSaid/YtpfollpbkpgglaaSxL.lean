/- SX, part L: lists made of cells; literals of slices; bytes and strings. -/
import Derived.Test.YtpfollpbkpgglaaSxK
set_option linter.unusedVariables false
set_option linter.unusedSimpArgs false
namespace Go.Proofs.Ytpfollpbkpgglaa.Sx
open Go

theorem refFreeL_mem : ∀ {cs : List AV}, refFreeL cs = true → ∀ v ∈ cs, refFree v = true
  | [], _, _, h => by simp at h
  | c :: cs, h, v, hv => by
    simp only [refFreeL, Bool.and_eq_true] at h
    rcases List.mem_cons.1 hv with rfl | hv
    · exact h.1
    · exact refFreeL_mem h.2 v hv
theorem chunks_length (z n : Nat) (l : List AV) : (chunks z n l).length = n := by
  induction n generalizing l with
  | zero => rfl
  | succ n ih => simp [chunks, ih]
theorem chunks_get : ∀ (z n : Nat) (l : List AV) (i : Nat) (e : List AV), (chunks z n l)[i]? = some e → i < n ∧ e = (l.drop (i * z)).take z
  | z, 0, l, i, e, h => by simp [chunks] at h
  | z, n + 1, l, i, e, h => by
    cases i with
    | zero => simp [chunks] at h; exact ⟨by omega, by simp [h]⟩
    | succ i =>
      simp only [chunks, List.getElem?_cons_succ] at h
      obtain ⟨h1, h2⟩ := chunks_get z n _ i e h
      exact ⟨by omega, by rw [h2, List.drop_drop]; congr 2; rw [Nat.succ_mul]; omega⟩
theorem chunk_cell {z n : Nat} {l : List AV} {i j : Nat} {e : List AV} {v : AV} (h : (chunks z n l)[i]? = some e) (hv : e[j]? = some v) : j < z ∧ l[i * z + j]? = some v := by
  obtain ⟨_, rfl⟩ := chunks_get z n l i e h
  rw [List.getElem?_take] at hv
  split at hv
  · rename_i hj
    rw [List.getElem?_drop] at hv
    exact ⟨hj, hv⟩
  · cases hv
theorem flatten_get {z : Nat} : ∀ {es : List (List AV)}, (∀ (i : Nat) (e : List AV), es[i]? = some e → e.length = z) → es.flatten.length = es.length * z ∧
    ∀ (i j : Nat), j < z → es.flatten[i * z + j]? = (es[i]?).bind (·[j]?)
  | [], _ => ⟨by simp, fun i j _ => by simp⟩
  | e :: es, h => by
    obtain ⟨h1, h2⟩ := flatten_get (es := es) (fun i e he => h (i + 1) e (by simpa using he))
    have h0 := h 0 e rfl
    refine ⟨by simp only [List.flatten_cons, List.length_append, h1, h0, List.length_cons, Nat.succ_mul]; omega, fun i j hj => ?_⟩
    cases i with
    | zero => simp only [List.flatten_cons, Nat.zero_mul, Nat.zero_add]; rw [List.getElem?_append_left (by omega)]; rfl
    | succ i =>
      simp only [List.flatten_cons, List.getElem?_cons_succ]
      rw [List.getElem?_append_right (by rw [Nat.succ_mul]; omega), ← h2 i j hj]
      congr 1
      rw [Nat.succ_mul]; omega

section
variable {P : Program} {G : Gh} {w : World} {fr : List AV} {act : Act} {o : Oper}
theorem lstAt_chunks {z n b q : Nat} {cs : List AV} (hm : MemAt G w cs b q) (hf : refFreeL cs = true) (hc : Cov G w b (q + n * z)) (hl : n * z ≤ cs.length) : ∃ X, LstAt G w z (chunks z n cs) b q X := by
  obtain ⟨X, hX⟩ := hm.choose
  refine ⟨fun i j => X (i * z + j), by rw [chunks_length]; exact hc, ?_, ?_, ?_, ?_⟩
  · intro i e he
    obtain ⟨h1, rfl⟩ := chunks_get _ _ _ _ _ he
    have := mul_lt_of (z := z) h1
    simp; omega
  · intro i e j v he hv
    exact refFreeL_mem hf v (List.mem_of_getElem? (chunk_cell he hv).2)
  · intro i e j v he hv
    rw [Nat.add_assoc]
    exact (hX _ v (chunk_cell he hv).2).1
  · intro i e j v he hv
    exact (hX _ v (chunk_cell he hv).2).2
theorem mem_new {cs : List AV} {xs : Array Value} {T : TypeId} {n : Nat} {G' : Gh} (hv : Valid G w n) (h : RelCs G w cs xs) (he : Ext (fun _ => False) G w G' (w.alloc (.cells xs T))) :
    MemAt G' (w.alloc (.cells xs T)) cs w.heap.size 0 := by
  intro j v hj
  have hlt := (List.getElem?_eq_some_iff.1 hj).1
  have h1 := h.1
  have hx : xs[j]? = some (xs[j]'(by omega)) := Array.getElem?_eq_getElem (by omega)
  exact ⟨_, by rw [World.cell?, heap_alloc_eq]; simp [hx], (h.2 j v _ hj hx).ext hv he⟩
def initCells (z : Array Value) (n : Nat) : Array Value := (Array.range n).map (z[· % z.size]!)
theorem run_bslice {z len : Nat} {zs cs : List AV} {ps : List (Nat × Nat × XArg)} {qs : Array (Nat × Operand)} {T E : TypeId} {i : TypeInfo} {zv : Value} (ho : o.op = .buildSlice T len qs) (hT : P.underlying T = some (.slice E))
    (hi : P.info? E = some i) (hsz : i.size = z) (hzv : i.zero = some zv) (hlim : len * z ≤ 2 ^ 24) (hz : RelCs G w zs (initCells (if len * z = 0 then #[] else zv.cells) (len * z)))
    (hp : partsOk (fun k => some (k * z, z)) ps qs.toList = true) (hs : ∀ p ∈ ps, ∀ t ∈ argTmp p.2.2, RelS G w fr act t) (he : fillX fr ps zs = some cs) :
    ∃ xs, (execOp act.eval o).run P w = .ok (.value (.slice (some ⟨w.heap.size, 0, none⟩) len len)) (w.alloc (.cells xs E)) ∧ RelCs G w cs xs := by
  obtain ⟨xs, h5, h6⟩ := fill_rel hp hs hz he
  refine ⟨xs, ?_, h6⟩
  have hmap : (qs.map fun (p : Nat × Operand) => (p.1, act.eval p.2)).toList = qs.toList.map fun p => (p.1, act.eval p.2) := by simp
  have h7 : Instr.fill (fun k => some (k * z, z)) ((Array.range (len * z)).map ((if len * z = 0 then #[] else zv.cells)[· % (if len * z = 0 then #[] else zv.cells).size]!)) (qs.map fun (p : Nat × Operand) => (p.1, act.eval p.2)).toList = some xs := by
    rw [hmap]; exact h5
  subst hsz
  simp only [execOp, ho, Instr.buildSlice, Sem.run_bind, run_underlying' hT, Result.andThen_ok, run_sizeOf' hi, if_neg (show ¬ len * i.size > 2 ^ 24 by omega), Sem.run_ite, Sem.run_pure]
  by_cases h0 : len * i.size = 0
  · rw [if_pos h0] at h7
    simp only [if_pos h0, Result.andThen_ok]
    rw [h7]
    simp only [newRow, Sem.run_bind, run_newObj, Result.andThen_ok, Sem.run_pure]
    rfl
  · rw [if_neg h0] at h7
    simp only [if_neg h0, zeroValue, Sem.run_bind, run_typeInfo hi, Result.andThen_ok, hzv, Sem.run_pure]
    rw [h7]
    simp only [newRow, Sem.run_bind, run_newObj, Result.andThen_ok, Sem.run_pure]
    rfl
/-! ### bytes -/
theorem bytesOfL_get : ∀ {es : List (List AV)} {s : List UInt8}, bytesOfL es = some s → s.length = es.length ∧ ∀ (i : Nat) (e : List AV), es[i]? = some e → ∃ n, e = [.int .u8 n] ∧ s[i]? = some (UInt8.ofNat n.toNat)
  | [], s, h => by simp [bytesOfL] at h; subst h; exact ⟨rfl, by simp⟩
  | e :: es, s, h => by
    unfold bytesOfL at h
    split at h
    · rename_i h1; cases h1
    · rename_i n l h1
      injection h1 with h1 h1'
      subst h1 h1'
      obtain ⟨r, hr, rfl⟩ := Option.map_eq_some_iff.1 h
      obtain ⟨h2, h3⟩ := bytesOfL_get hr
      refine ⟨by simp [h2], fun i e he => ?_⟩
      cases i with
      | zero => simp at he; exact ⟨n, he.symm, by simp⟩
      | succ i => simpa using h3 i e (by simpa using he)
    · cases h
theorem run_pushBytes {f : Value → ByteArray → Sem (ForInStep ByteArray)} (hf : ∀ n r, f (.int .u8 n) r = pure (ForInStep.yield (r.push (UInt8.ofNat n.toNat)))) :
    ∀ (l : List Value) (acc : ByteArray) (s : List UInt8), l.length = s.length → (∀ (i : Nat) (x : Value), l[i]? = some x → ∃ n : Int, x = .int .u8 n ∧ s[i]? = some (UInt8.ofNat n.toNat)) →
    (forIn l acc f).run P w = .ok ⟨(acc.data.toList ++ s).toArray⟩ w
  | [], acc, s, h, _ => by
    have : s = [] := List.eq_nil_of_length_eq_zero h.symm
    subst this
    simp
  | x :: l, acc, s, h, hx => by
    cases s with
    | nil => simp at h
    | cons c s =>
      obtain ⟨n, rfl, h2⟩ := hx 0 x rfl
      simp at h2
      subst h2
      simp only [List.forIn_cons, Sem.run_bind, hf, Sem.run_pure, Result.andThen_ok]
      rw [run_pushBytes hf l _ s (by simpa using h) (fun i y hy => by simpa using hx (i + 1) y (by simpa using hy))]
      simp [ByteArray.push]
theorem run_bytesToString {b q cap : Nat} {es : List (List AV)} {s : List UInt8} (hm : MemAt G w es.flatten b q) (hs : bytesOfL es = some s) :
    (Conv.bytesToString (.slice (some ⟨b, q, none⟩) es.length cap)).run P w = .ok (.string ⟨s.toArray⟩) w := by
  obtain ⟨X, hX⟩ := hm.choose
  obtain ⟨h1, h2⟩ := bytesOfL_get hs
  have hz : ∀ (i : Nat) (e : List AV), es[i]? = some e → e.length = 1 := fun i e he => by obtain ⟨n, rfl, _⟩ := h2 i e he; rfl
  obtain ⟨h3, h4⟩ := flatten_get hz
  have hget : ∀ i, i < es.length → ∃ n, es.flatten[i]? = some (.int .u8 n) ∧ s[i]? = some (UInt8.ofNat n.toNat) := by
    intro i hi
    obtain ⟨n, h5, h6⟩ := h2 i es[i] (by simp)
    have := h4 i 0 (by omega)
    simp only [Nat.mul_one, Nat.add_zero] at this
    exact ⟨n, by rw [this]; simp [hi, h5], h6⟩
  have hl : (loadCells ⟨b, q, none⟩ es.length).run P w = .ok ((List.range es.length).map X).toArray w := by
    refine run_loadCells fun j hj => ?_
    obtain ⟨n, h5, _⟩ := hget j hj
    exact (hX j _ h5).1
  simp only [Conv.bytesToString, Sem.run_bind, hl, Result.andThen_ok]
  rw [← Array.forIn_toList]
  rw [run_pushBytes (f := _) (fun n r => rfl) _ ByteArray.empty s (by simp [h1])]
  · simp
  · intro i x hx
    have hlt : i < es.length := by
      have := (List.getElem?_eq_some_iff.1 hx).1
      simpa using this
    obtain ⟨n, h5, h6⟩ := hget i hlt
    simp [List.getElem?_range hlt] at hx
    have h7 := (hX i _ h5).2
    rw [hx] at h7
    cases h7
    exact ⟨n, rfl, h6⟩
end
end Go.Proofs.Ytpfollpbkpgglaa.Sx
