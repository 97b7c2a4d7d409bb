/- SX, part L: lists made of cells; literals of slices; bytes and strings. -/
import Derived.Test.YtjbgceogkgpjpaaGreatDoorSxK
import Derived.Laws.BytesString
import Derived.Laws.IdiomStrings
import Derived.Calls
import Derived.Below
set_option linter.unusedVariables false
set_option linter.unusedSimpArgs false
namespace Go.Proofs.YtjbgceogkgpjpaaGreatDoor.Sx
open Go

def slOf : AV → Option Ref
  | .sl r _ _ _ => some r
  | _ => none
theorem refFreeL_mem : ∀ {cs : List AV}, refFreeL cs = true → ∀ v ∈ cs, refFree v = true
  | [], _, _, h => by simp at h
  | c :: cs, h, v, hv => by
    simp only [refFreeL, Bool.and_eq_true] at h
    rcases List.mem_cons.1 hv with rfl | hv
    · exact h.1
    · exact refFreeL_mem h.2 v hv
theorem chunks_length (z n : Nat) (l : List AV) : (chunks z n l).length = n := by
  induction n generalizing l with
  | zero => rfl
  | succ n ih => simp [chunks, ih]
theorem chunks_get : ∀ (z n : Nat) (l : List AV) (i : Nat) (e : List AV), (chunks z n l)[i]? = some e → i < n ∧ e = (l.drop (i * z)).take z
  | z, 0, l, i, e, h => by simp [chunks] at h
  | z, n + 1, l, i, e, h => by
    cases i with
    | zero => simp [chunks] at h; exact ⟨by omega, by simp [h]⟩
    | succ i =>
      simp only [chunks, List.getElem?_cons_succ] at h
      obtain ⟨h1, h2⟩ := chunks_get z n _ i e h
      exact ⟨by omega, by rw [h2, List.drop_drop]; congr 2; rw [Nat.succ_mul]; omega⟩
theorem chunk_cell {z n : Nat} {l : List AV} {i j : Nat} {e : List AV} {v : AV} (h : (chunks z n l)[i]? = some e) (hv : e[j]? = some v) : j < z ∧ l[i * z + j]? = some v := by
  obtain ⟨_, rfl⟩ := chunks_get z n l i e h
  rw [List.getElem?_take] at hv
  split at hv
  · rename_i hj
    rw [List.getElem?_drop] at hv
    exact ⟨hj, hv⟩
  · cases hv
theorem flatten_get {z : Nat} : ∀ {es : List (List AV)}, (∀ (i : Nat) (e : List AV), es[i]? = some e → e.length = z) → es.flatten.length = es.length * z ∧
    ∀ (i j : Nat), j < z → es.flatten[i * z + j]? = (es[i]?).bind (·[j]?)
  | [], _ => ⟨by simp, fun i j _ => by simp⟩
  | e :: es, h => by
    obtain ⟨h1, h2⟩ := flatten_get (es := es) (fun i e he => h (i + 1) e (by simpa using he))
    have h0 := h 0 e rfl
    refine ⟨by simp only [List.flatten_cons, List.length_append, h1, h0, List.length_cons, Nat.succ_mul]; omega, fun i j hj => ?_⟩
    cases i with
    | zero => simp only [List.flatten_cons, Nat.zero_mul, Nat.zero_add]; rw [List.getElem?_append_left (by omega)]; rfl
    | succ i =>
      simp only [List.flatten_cons, List.getElem?_cons_succ]
      rw [List.getElem?_append_right (by rw [Nat.succ_mul]; omega), ← h2 i j hj]
      congr 1
      rw [Nat.succ_mul]; omega

section
variable {P : Program} {G : Gh} {w : World} {fr : List AV} {act : Act} {o : Oper}
theorem lstAt_chunks {z n b q : Nat} {cs : List AV} (hm : MemAt G w cs b q) (hf : refFreeL cs = true) (hc : Cov G w b (q + n * z)) (hl : n * z ≤ cs.length) : ∃ X, LstAt G w z (chunks z n cs) b q X := by
  obtain ⟨X, hX⟩ := hm.choose
  refine ⟨fun i j => X (i * z + j), by rw [chunks_length]; exact hc, ?_, ?_, ?_, ?_⟩
  · intro i e he
    obtain ⟨h1, rfl⟩ := chunks_get _ _ _ _ _ he
    have := mul_lt_of (z := z) h1
    simp; omega
  · intro i e j v he hv
    exact refFreeL_mem hf v (List.mem_of_getElem? (chunk_cell he hv).2)
  · intro i e j v he hv
    rw [Nat.add_assoc]
    exact (hX _ v (chunk_cell he hv).2).1
  · intro i e j v he hv
    exact (hX _ v (chunk_cell he hv).2).2
theorem mem_new {cs : List AV} {xs : Array Value} {T : TypeId} {n : Nat} {G' : Gh} (hv : Valid G w n) (h : RelCs G w cs xs) (he : Ext (fun _ => False) G w G' (w.alloc (.cells xs T))) :
    MemAt G' (w.alloc (.cells xs T)) cs w.heap.size 0 := by
  intro j v hj
  have hlt := (List.getElem?_eq_some_iff.1 hj).1
  have h1 := h.1
  have hx : xs[j]? = some (xs[j]'(by omega)) := Array.getElem?_eq_getElem (by omega)
  exact ⟨_, by rw [World.cell?, heap_alloc_eq]; simp [hx], (h.2 j v _ hj hx).ext hv he⟩
def initCells (z : Array Value) (n : Nat) : Array Value := (Array.range n).map (z[· % z.size]!)
theorem run_bslice {z len : Nat} {zs cs : List AV} {ps : List (Nat × Nat × XArg)} {qs : Array (Nat × Operand)} {T E : TypeId} {i : TypeInfo} {zv : Value} (ho : o.op = .buildSlice T len qs) (hT : P.underlying T = some (.slice E))
    (hi : P.info? E = some i) (hsz : i.size = z) (hzv : i.zero = some zv) (hlim : len * z ≤ 2 ^ 24) (hz : RelCs G w zs (initCells (if len * z = 0 then #[] else zv.cells) (len * z)))
    (hp : partsOk (fun k => some (k * z, z)) ps qs.toList = true) (hs : ∀ p ∈ ps, ∀ t ∈ argTmp p.2.2, RelS G w fr act t) (he : fillX fr ps zs = some cs) :
    ∃ xs, (execOp act.eval o).run P w = .ok (.value (.slice (some ⟨w.heap.size, 0, none⟩) len len)) (w.alloc (.cells xs E)) ∧ RelCs G w cs xs := by
  obtain ⟨xs, h5, h6⟩ := fill_rel hp hs hz he
  refine ⟨xs, ?_, h6⟩
  have hmap : (qs.map fun (p : Nat × Operand) => (p.1, act.eval p.2)).toList = qs.toList.map fun p => (p.1, act.eval p.2) := by simp
  have h7 : Instr.fill (fun k => some (k * z, z)) ((Array.range (len * z)).map ((if len * z = 0 then #[] else zv.cells)[· % (if len * z = 0 then #[] else zv.cells).size]!)) (qs.map fun (p : Nat × Operand) => (p.1, act.eval p.2)).toList = some xs := by
    rw [hmap]; exact h5
  subst hsz
  simp only [execOp, ho, Instr.buildSlice, Sem.run_bind, run_underlying' hT, Result.andThen_ok, run_sizeOf' hi, if_neg (show ¬ len * i.size > 2 ^ 24 by omega), Sem.run_ite, Sem.run_pure]
  by_cases h0 : len * i.size = 0
  · rw [if_pos h0] at h7
    simp only [if_pos h0, Result.andThen_ok]
    rw [h7]
    simp only [newRow, Sem.run_bind, run_newObj, Result.andThen_ok, Sem.run_pure]
    rfl
  · rw [if_neg h0] at h7
    simp only [if_neg h0, zeroValue, Sem.run_bind, run_typeInfo hi, Result.andThen_ok, hzv, Sem.run_pure]
    rw [h7]
    simp only [newRow, Sem.run_bind, run_newObj, Result.andThen_ok, Sem.run_pure]
    rfl
/-! ### bytes -/
theorem bytesOfL_get : ∀ {es : List (List AV)} {s : List UInt8}, bytesOfL es = some s → s.length = es.length ∧ ∀ (i : Nat) (e : List AV), es[i]? = some e → ∃ n, e = [.int .u8 n] ∧ s[i]? = some (UInt8.ofNat n.toNat)
  | [], s, h => by simp [bytesOfL] at h; subst h; exact ⟨rfl, by simp⟩
  | e :: es, s, h => by
    unfold bytesOfL at h
    split at h
    · rename_i h1; cases h1
    · rename_i n l h1
      injection h1 with h1 h1'
      subst h1 h1'
      obtain ⟨r, hr, rfl⟩ := Option.map_eq_some_iff.1 h
      obtain ⟨h2, h3⟩ := bytesOfL_get hr
      refine ⟨by simp [h2], fun i e he => ?_⟩
      cases i with
      | zero => simp at he; exact ⟨n, he.symm, by simp⟩
      | succ i => simpa using h3 i e (by simpa using he)
    · cases h
theorem run_pushBytes {f : Value → ByteArray → Sem (ForInStep ByteArray)} (hf : ∀ n r, f (.int .u8 n) r = pure (ForInStep.yield (r.push (UInt8.ofNat n.toNat)))) :
    ∀ (l : List Value) (acc : ByteArray) (s : List UInt8), l.length = s.length → (∀ (i : Nat) (x : Value), l[i]? = some x → ∃ n : Int, x = .int .u8 n ∧ s[i]? = some (UInt8.ofNat n.toNat)) →
    (forIn l acc f).run P w = .ok ⟨(acc.data.toList ++ s).toArray⟩ w
  | [], acc, s, h, _ => by
    have : s = [] := List.eq_nil_of_length_eq_zero h.symm
    subst this
    simp
  | x :: l, acc, s, h, hx => by
    cases s with
    | nil => simp at h
    | cons c s =>
      obtain ⟨n, rfl, h2⟩ := hx 0 x rfl
      simp at h2
      subst h2
      simp only [List.forIn_cons, Sem.run_bind, hf, Sem.run_pure, Result.andThen_ok]
      rw [run_pushBytes hf l _ s (by simpa using h) (fun i y hy => by simpa using hx (i + 1) y (by simpa using hy))]
      simp [ByteArray.push]
theorem run_bytesToString {b q cap : Nat} {es : List (List AV)} {s : List UInt8} (hm : MemAt G w es.flatten b q) (hs : bytesOfL es = some s) :
    (Conv.bytesToString (.slice (some ⟨b, q, none⟩) es.length cap)).run P w = .ok (.string ⟨s.toArray⟩) w := by
  obtain ⟨X, hX⟩ := hm.choose
  obtain ⟨h1, h2⟩ := bytesOfL_get hs
  have hz : ∀ (i : Nat) (e : List AV), es[i]? = some e → e.length = 1 := fun i e he => by obtain ⟨n, rfl, _⟩ := h2 i e he; rfl
  obtain ⟨h3, h4⟩ := flatten_get hz
  have hget : ∀ i, i < es.length → ∃ n, es.flatten[i]? = some (.int .u8 n) ∧ s[i]? = some (UInt8.ofNat n.toNat) := by
    intro i hi
    obtain ⟨n, h5, h6⟩ := h2 i es[i] (by simp)
    have := h4 i 0 (by omega)
    simp only [Nat.mul_one, Nat.add_zero] at this
    exact ⟨n, by rw [this]; simp [hi, h5], h6⟩
  have hl : (loadCells ⟨b, q, none⟩ es.length).run P w = .ok ((List.range es.length).map X).toArray w := by
    refine run_loadCells fun j hj => ?_
    obtain ⟨n, h5, _⟩ := hget j hj
    exact (hX j _ h5).1
  simp only [Conv.bytesToString, Sem.run_bind, hl, Result.andThen_ok]
  rw [← Array.forIn_toList]
  rw [run_pushBytes (f := _) (fun n r => rfl) _ ByteArray.empty s (by simp [h1])]
  · simp
  · intro i x hx
    have hlt : i < es.length := by
      have := (List.getElem?_eq_some_iff.1 hx).1
      simpa using this
    obtain ⟨n, h5, h6⟩ := hget i hlt
    simp [List.getElem?_range hlt] at hx
    have h7 := (hX i _ h5).2
    rw [hx] at h7
    cases h7
    exact ⟨n, rfl, h6⟩
theorem MemAt.take {cs : List AV} {b q k : Nat} (h : MemAt G w cs b q) : MemAt G w (cs.take k) b q := by
  intro j v hj
  rw [List.getElem?_take] at hj
  split at hj
  · exact h j v hj
  · cases hj
theorem chunks_flatten : ∀ (z n : Nat) (l : List AV), n * z ≤ l.length → (chunks z n l).flatten = l.take (n * z)
  | z, 0, l, _ => by simp [chunks]
  | z, n + 1, l, h => by
    rw [Nat.succ_mul] at h
    simp only [chunks, List.flatten_cons]
    rw [chunks_flatten z n (l.drop z) (by rw [List.length_drop]; omega), Nat.succ_mul, Nat.add_comm, List.take_add]
theorem listOf_mem {hp : Heap} {z : Nat} {u : AV} {es : List (List AV)} {y : Value} (hl : listOf hp z u = some es) (hr : RelV G w u y) (hu : noFlag u)
    (hh : ∀ r, slOf u = some r → ∀ b base blk, G.m r = some (b, base) → hget hp r = some blk → RelBlk G w r b base blk) :
    (∃ a0, y = .slice a0 0 0 ∧ es = []) ∨ ∃ b q cap, y = .slice (some ⟨b, q, none⟩) es.length cap ∧ es.length ≤ cap ∧ MemAt G w es.flatten b q ∧ (∀ (i : Nat) (e : List AV), es[i]? = some e → e.length = z) := by
  cases u <;> simp only [listOf] at hl <;> (try (cases hl; done))
  · cases hr
    injection hl with hl
    exact .inl ⟨none, rfl, hl.symm⟩
  · rename_i r z' off len
    split at hl
    · rename_i hz
      subst hz
      split at hl
      · rename_i cs hc
        split at hl
        · rename_i hlen
          injection hl with hl
          subst hl
          obtain ⟨b, base, cap, rfl, hm, hcap⟩ : ∃ b base cap, y = .slice (some ⟨b, base + off, none⟩) len cap ∧ G.m r = some (b, base) ∧ len ≤ cap := by
            cases hr with
            | sl _ _ _ _ b base cap hm hcap hs => exact ⟨b, base, cap, rfl, hm, hcap⟩
          have hg : hget hp r = some (.cells cs) := by
            unfold cellsAt at hc
            split at hc
            · rename_i vs hv
              injection hc with hc
              subst hc
              exact hv
            · cases hc
          have hM := (hh r rfl b base _ hm hg).mem
          have hd : len * z' ≤ (cs.drop off).length := by rw [List.length_drop]; omega
          refine .inr ⟨b, base + off, cap, by rw [chunks_length], by rw [chunks_length]; exact hcap, ?_, fun i e he => ?_⟩
          · rw [chunks_flatten _ _ _ hd]
            exact (hM.drop (k := off)).take
          · obtain ⟨h1, h2⟩ := chunks_get _ _ _ _ _ he
            subst h2
            rw [List.length_take, List.length_drop]
            have : i * z' + z' ≤ len * z' := by
              have := Nat.mul_le_mul_right z' (Nat.succ_le_of_lt h1)
              rw [Nat.succ_mul] at this
              exact this
            omega
        · cases hl
      · cases hl
    · cases hl
  · rename_i ow z' es'
    split at hl
    · rename_i hz
      subst hz
      injection hl with hl
      subst hl
      cases hr with
      | uniq _ _ _ => exact absurd hu (by simp [noFlag])
      | emp _ a => exact .inl ⟨some a, rfl, rfl⟩
      | lst _ _ _ b q cap X hu' hcap ht hc hz hf hx hr =>
        refine .inr ⟨b, q, cap, rfl, hcap, ?_, hz⟩
        obtain ⟨h1, h2⟩ := flatten_get hz
        intro j v hj
        have hlt := (List.getElem?_eq_some_iff.1 hj).1
        rw [h1] at hlt
        have hz0 : 0 < z' := by
          apply Nat.pos_of_ne_zero
          intro h0
          subst h0
          simp at hlt
        have e := Nat.div_add_mod j z'
        have hm := Nat.mod_lt j hz0
        rw [← e, Nat.mul_comm z', h2 _ _ hm] at hj
        cases he : es'[j / z']? with
        | none => rw [he] at hj; cases hj
        | some el =>
          rw [he] at hj
          have hj' : el[j % z']? = some v := hj
          have a1 := hx (j / z') el (j % z') v he hj'
          refine ⟨X (j / z') (j % z'), ?_, hr (j / z') el (j % z') v he hj'⟩
          rw [← a1]
          congr 2
          rw [Nat.add_assoc, Nat.mul_comm, e]
    · cases hl
end
end Go.Proofs.YtjbgceogkgpjpaaGreatDoor.Sx
namespace Go.Proofs.YtjbgceogkgpjpaaGreatDoor.Sx
open Go

def typeIs (P : Program) (T : TypeId) (n : Nat) (agg : Bool) : Bool :=
  match P.info? T, P.underlying T with
  | some i, some d => i.size == n && aggOf d == agg
  | _, _ => false
def sizeIs (P : Program) (T : TypeId) (n : Nat) : Bool :=
  match P.info? T with
  | some i => i.size == n
  | none => false
def hasType (P : Program) (T : TypeId) : Bool := (P.underlying T).isSome
def isU8 (P : Program) (E : TypeId) : Bool := match P.underlying E with | some (.int .u8) => true | _ => false
def zeroVal (v : AV) (x : Value) : Bool :=
  match v, x with
  | .agg cs, .agg xs => constCells cs xs.toList
  | .agg _, _ => false
  | v, x => constOk v x && plain1 v
def bodied (P : Program) (f : Nat) : Bool := match P.funcs[f]? with | some fn => fn.body.isSome && !(fn.name == "runtime.NumGoroutine") | none => false
def callFn : Op → Option (Nat × List Operand)
  | .call c => (match c.callee with | .value (.func g) => some (g, c.args.toList) | _ => none)
  | _ => none
def callVal : Op → Option (Operand × List Operand)
  | .call c => (match c.callee with | .value g => some (g, c.args.toList) | _ => none)
  | _ => none
def callB : Op → Option (Builtin × List Operand × List TypeId)
  | .call c => (match c.callee with | .builtin b => some (b, c.args.toList, c.argTypes.toList) | _ => none)
  | _ => none
def bldOk (P : Program) (t : TypeId) : Bool := match P.info? t with
  | some i => match i.zero with
    | some v => match v.cells.toList with
      | [.pointer none, .slice none 0 0] => true
      | _ => false
    | none => false
  | none => false
def chkOp (P : Program) (prims : List (Nat × Nat)) (x : XOp) (o : Oper) : Bool :=
  match x with
  | .mov a => match o.op with
    | .move b => argOk a b
    | .assign b => argOk a b
    | _ => false
  | .own s => match o.op with
    | .move (.tmp t) => s == t
    | .assign (.tmp t) => s == t
    | _ => false
  | .ownl s => match o.op with
    | .move (.tmp t) => s == t
    | .assign (.tmp t) => s == t
    | _ => false
  | .ownd s => match o.op with
    | .move (.tmp t) => s == t
    | .assign (.tmp t) => s == t
    | _ => false
  | .thw s => match o.op with
    | .move (.tmp t) => s == t
    | .assign (.tmp t) => s == t
    | _ => false
  | .pick c a b => match o.op with
    | .pick c' a' b' => argOk c c' && argOk a a' && argOk b b'
    | _ => false
  | .allocb t e => match o.op with
    | .alloc T => (T == t) && bldOk P T && decide (e < 1000)
    | _ => false
  | .alloc zs => match o.op with
    | .alloc T => zeroOk P T zs
    | _ => false
  | .boxe a _ => match o.op with
    | .box _ b => argOk a b
    | _ => false
  | .loade a n agg => match o.op with
    | .load T b => argOk a b && typeIs P T n agg
    | _ => false
  | .box a _ => match o.op with
    | .box _ b => argOk a b
    | _ => false
  | .build zs ps => match o.op with
    | .build T qs => zeroOk P T zs && (match P.underlying T with
      | some (.struct fs) => fs.toList.all (fun f => (P.info? f.type).isSome) && partsOk (structPlaces P fs) ps qs.toList
      | some (.array _ e) => (match P.info? e with | some i => partsOk (fun k => some (k * i.size, i.size)) ps qs.toList | none => false)
      | _ => false)
    | _ => false
  | .bslice z zs ps => match o.op with
    | .buildSlice T len qs => (match P.underlying T with
      | some (.slice E) => (match P.info? E with
        | some i => (match i.zero with
          | some zv => i.size == z && zs.length == len * z && decide (len * z ≤ 2 ^ 24) && constCells zs (initCells (if len * z = 0 then #[] else zv.cells) (len * z)).toList && partsOk (fun k => some (k * z, z)) ps qs.toList
          | none => false)
        | none => false)
      | _ => false)
    | _ => false
  | .bslu z zs ps => match o.op with
    | .buildSlice T len qs => (match P.underlying T with
      | some (.slice E) => (match P.info? E with
        | some i => (match i.zero with
          | some zv => i.size == z && zs.length == len * z && decide (len * z ≤ 2 ^ 24) && constCells zs (initCells (if len * z = 0 then #[] else zv.cells) (len * z)).toList && partsOk (fun k => some (k * z, z)) ps qs.toList
          | none => false)
        | none => false)
      | _ => false)
    | _ => false
  | .cnvb s => match o.op with
    | .convert S D (.tmp t) => S == D && s == t && (match P.underlying S with | some (.slice e) => isU8 P e | _ => false)
    | _ => false
  | .load a n agg => match o.op with
    | .load T b => argOk a b && typeIs P T n agg
    | _ => false
  | .lown a => match o.op with
    | .load T b => argOk a b && typeIs P T 1 false
    | _ => false
  | .store a y n => match o.op with
    | .store T b c => argOk a b && argOk y c && sizeIs P T n
    | _ => false
  | .nilck a => match o.op with
    | .nilCheck b => argOk a b
    | _ => false
  | .bin b x y => match o.op with
    | .binOp op _ x' y' _ => decide (op = xbin b) && argOk x x' && argOk y y'
    | _ => false
  | .beq n x y => match o.op with
    | .binOp op T x' y' _ => decide (op = if n then .neq else .eql) && argOk x x' && argOk y y' && (match P.underlying T with | some .bool => true | _ => false)
    | _ => false
  | .eqnil kd n x => match o.op with
    | .binOp op T x' (.const c) _ => decide (op = if n then .neq else .eql) && argOk x x' && (match P.underlying T with | some d => nilKind kd d | none => false) && nilConst kd c
    | _ => false
  | .eqif n ts x y => match o.op with
    | .binOp op T x' y' _ => decide (op = if n then .neq else .eql) && argOk x x' && argOk y y' && (match P.underlying T with | some (.interface _) => true | _ => false) && ts.all (intT P)
    | _ => false
  | .eqagg n sh x y => match o.op with
    | .binOp op T x' y' _ => decide (op = if n then .neq else .eql) && argOk x x' && argOk y y' && decide (eqT P 50 T = some sh) && !P.eqGuardType P.depth T &&
      (match P.underlying T with | some d => aggOf d | none => false)
    | _ => false
  | .neg a => match o.op with
    | .unOp .neg _ b => argOk a b
    | _ => false
  | .not a => match o.op with
    | .unOp .not _ b => argOk a b
    | _ => false
  | .cpl a => match o.op with
    | .unOp .xor _ b => argOk a b
    | _ => false
  | .conv k a => match o.op with
    | .convert S D b => argOk a b && hasType P S && (match P.underlying D with | some (.int j) => decide (j = k) | _ => false)
    | _ => false
  | .same a => match o.op with
    | .convert S D b => argOk a b && hasType P S && (match P.underlying D with | some .string => true | _ => false)
    | _ => false
  | .bstr a => match o.op with
    | .convert S D b => argOk a b && (match P.underlying S with | some (.slice e) => isU8 P e | _ => false) && (match P.underlying D with | some .string => true | _ => false)
    | _ => false
  | .strb a => match o.op with
    | .convert S D b => argOk a b && (match P.underlying S with | some .string => true | _ => false) && (match P.underlying D with | some (.slice e) => isU8 P e | _ => false)
    | _ => false
  | .mkif t a => match o.op with
    | .makeInterface T b => t == T && argOk a b && (match P.underlying T with | some (.interface _) => false | some _ => true | none => false)
    | _ => false
  | .tas t ok zero a => match o.op with
    | .typeAssert b _ t' ok' => t == t' && ok == ok' && argOk a b && (match P.underlying t with | some (.interface _) => false | some _ => true | none => false) &&
      (match P.info? t with | some i => (match i.zero with | some zv => zeroVal zero zv | none => false) | none => false)
    | _ => false
  | .mkfn f ds cs => match o.op with
    | .makeFunc (.func g) ds' cs' => f == g && argsOk ds ds'.toList && argsOk cs cs'.toList
    | _ => false
  | .mks z zero l c => match o.op with
    | .makeSlice T l' c' => argOk l l' && argOk c c' && (match P.underlying T with
      | some (.slice E) => (match P.info? E with | some i => i.size == z && decide (i.bytes ≤ 32 * z) && zeroOk P E zero && zero.length == z && decide (0 < z) | none => false)
      | _ => false)
    | _ => false
  | .sstr a lo hi => match o.op with
    | .slice T b lo' hi' none => argOk a b && optOk lo lo' && optOk hi hi' && (match P.underlying T with | some .string => true | _ => false)
    | _ => false
  | .ssl z a lo hi mx => match o.op with
    | .slice T b lo' hi' mx' => argOk a b && optOk lo lo' && optOk hi hi' && optOk mx mx' && (match P.underlying T with | some (.slice E) => sizeIs P E z | _ => false) && (mx.isNone || hi.isSome)
    | _ => false
  | .sarr n z a lo hi => match o.op with
    | .slice T b lo' hi' none => argOk a b && optOk lo lo' && optOk hi hi' && (match P.underlying T with
      | some (.array m E) => m == n && sizeIs P E z
      | some (.pointer A) => (match P.underlying A with | some (.array m E) => m == n && sizeIs P E z | _ => false)
      | _ => false)
    | _ => false
  | .faddr a k => match o.op with
    | .fieldAddr S b j => argOk a b && (match P.underlying S with
      | some (.struct fs) => (match fs[j]? with | some f => f.offset == k && (match P.info? f.type with | some i => !(i.size == 0) | none => false) | none => false)
      | _ => false)
    | _ => false
  | .field a off n agg => match o.op with
    | .field S b j => argOk a b && (match P.underlying S with
      | some (.struct fs) => (match fs[j]? with | some f => f.offset == off && typeIs P f.type n agg | none => false)
      | _ => false)
    | _ => false
  | .iaddr z a i => match o.op with
    | .indexAddr T b c => argOk a b && argOk i c && (match P.underlying T with | some (.slice E) => sizeIs P E z | _ => false)
    | _ => false
  | .iarr n z a i => match o.op with
    | .indexAddr T b c => argOk a b && argOk i c && (match P.underlying T with | some (.array m E) => m == n && sizeIs P E z | _ => false)
    | _ => false
  | .idxs a i => match o.op with
    | .index T b c => argOk a b && argOk i c && (match P.underlying T with | some .string => true | _ => false)
    | _ => false
  | .idxa n z agg a i => match o.op with
    | .index T b c => argOk a b && argOk i c && (match P.underlying T with | some (.array m E) => m == n && typeIs P E z agg | _ => false)
    | _ => false
  | .ext s i => match o.op with
    | .extract (.tmp t) j => s == t && i == j
    | _ => false
  | .extm s => match o.op with
    | .extract (.tmp t) j => s == t && j == 0
    | _ => false
  | .callq f as => match callFn o.op with | some (g, bs) => f == g && argsOk as bs && bodied P g | _ => false
  | .callqd f as => match callFn o.op with | some (g, bs) => f == g && argsOk as bs && bodied P g | _ => false
  | .callw f as => match callFn o.op with | some (g, bs) => f == g && argsOk as bs && bodied P g | _ => false
  | .callm f s as => match callFn o.op with | some (g, .tmp t :: bs) => f == g && s == t && argsOk as bs && bodied P g | _ => false
  | .prim id f as => match callFn o.op with | some (g, bs) => f == g && argsOk as bs && prims.contains (f, id) | _ => false
  | .primm id f s => match callFn o.op with | some (g, [.tmp t]) => f == g && s == t && prims.contains (f, id) | _ => false
  | .calldq g as => match callVal o.op with | some (h, bs) => argOk g h && argsOk as bs | _ => false
  | .calld g as => match callVal o.op with | some (h, bs) => argOk g h && argsOk as bs | _ => false
  | .lens st a => match callB o.op with | some (.len, [b], [T]) => argOk a b && (match P.underlying T with | some .string => st | some (.slice _) => !st | _ => false) | _ => false
  | .app _ z bytes s a => match callB o.op with
    | some (.append, [.tmp t, b], [T, T2]) => decide (z < 1000) && s == t && argOk a b && T == T2 && (match P.underlying T with
      | some (.slice E) => (match P.info? E with | some i => i.size == z && i.bytes == bytes && decide (0 < z) && decide (0 < bytes) && (match i.zero with | some zv => zv.cells.size == z | none => false) | none => false)
      | _ => false)
    | _ => false
  | .appstr u s a => match callB o.op with
    | some (.append, [.tmp t, b], [T, T2]) => !u && s == t && argOk a b && (match P.underlying T, P.underlying T2 with
      | some (.slice E), some .string => (match P.info? E with | some i => i.size == 1 && i.bytes == 1 && (match i.zero with | some zv => zv.cells.size == 1 | none => false) | none => false)
      | _, _ => false)
    | _ => false
  | .mx a b => match callB o.op with | some (.max, [c, d], _) => argOk a c && argOk b d | _ => false
  | .mn a b => match callB o.op with | some (.min, [c, d], _) => argOk a c && argOk b d | _ => false
  | .rngs a => match o.op with
    | .range T b => argOk a b && (match P.underlying T with | some .string => true | _ => false)
    | _ => false
  | .nexts a => match o.op with
    | .next b true => argOk a b
    | _ => false
  | .clr z zero a => match callB o.op with
    | some (.clear, [b], [T]) => argOk a b && (match P.underlying T with | some (.slice E) => sizeIs P E z && zeroOk P E zero | _ => false)
    | _ => false
  | .stop => true
  | _ => false

/-! ### which slots, which memory -/
def ats : List XArg → List Nat
  | [] => []
  | .tmp t :: l => t :: ats l
  | _ :: l => ats l
def oat (a : Option XArg) : List XArg := a.toList
def rds : XOp → List Nat
  | .mov a | .box a _ | .boxe a _ | .loade a _ _ | .load a _ _ | .lown a | .nilck a | .neg a | .not a | .cpl a | .conv _ a | .same a | .bstr a | .strb a | .mkif _ a | .tas _ _ _ a | .faddr a _ | .field a _ _ _ | .lens _ a | .rngs a | .nexts a | .clr _ _ a | .eqnil _ _ a => ats [a]
  | .own s | .ownl s | .cnvb s | .ownd s | .thw s | .ext s _ | .primm _ _ s => [s]
  | .pick c a b => ats [c, a, b]
  | .alloc _ | .allocb _ _ | .stop => []
  | .build _ ps | .bslice _ _ ps | .bslu _ _ ps => ats (ps.map fun p => p.2.2)
  | .store a b _ | .bin _ a b | .beq _ a b | .eqagg _ _ a b | .eqif _ _ a b | .iaddr _ a b | .iarr _ _ a b | .idxs a b | .idxa _ _ _ a b | .mx a b | .mn a b | .mks _ _ a b | .copy _ a b => ats [a, b]
  | .mkfn _ ds cs => ats (ds ++ cs)
  | .sstr a l h => ats (a :: oat l ++ oat h)
  | .ssl _ a l h m => ats (a :: oat l ++ oat h ++ oat m)
  | .sarr _ _ a l h => ats (a :: oat l ++ oat h)
  | .callq _ as | .callqd _ as | .callw _ as | .prim _ _ as => ats as
  | .callm _ s as => s :: ats as
  | .extm s => [s]
  | .calld g as => ats (g :: as)
  | .calldq g as => ats (g :: as)
  | .inv _ a as => ats (a :: as)
  | .app _ _ _ s a | .appstr _ s a => s :: ats [a]
def mvs : XOp → List Nat
  | .own s | .ownl s | .cnvb s | .ownd s | .thw s | .app _ _ _ s _ | .appstr _ s _ | .primm _ _ s | .callm _ s _ | .extm s => [s]
  | .store _ b _ => ats [b]
  | _ => []
def cls : XOp → Nat
  | .load _ _ _ | .bstr _ | .sarr _ _ _ _ _ | .app _ _ _ _ _ | .appstr _ _ _ => 1
  | .alloc _ | .allocb _ _ | .box _ _ | .mks _ _ _ _ | .rngs _ | .thw _ => 2
  | .store _ _ _ | .lown _ | .callw _ _ | .callm _ _ _ | .calld _ _ | .nexts _ | .clr _ _ _ | .inv _ _ _ | .copy _ _ _ => 3
  | _ => 0
def XO.wr (o : XO) : List Nat := o.dst.toList ++ mvs o.op
def XO.nm (o : XO) : List Nat := o.wr ++ rds o.op ++ (match o.guard with | some (t, _) => [t] | none => [])
def meets (a b : List Nat) : Bool := a.any b.contains
def conflict (a b : XO) : Bool := meets a.wr b.nm || meets b.wr a.nm || (cls a.op == 3 && decide (1 ≤ cls b.op)) || (cls b.op == 3 && decide (1 ≤ cls a.op))
def edges (o : Oper) : List Nat := o.after.toList.filterMap fun e => if Region.binds .any e then some e.on else none
def masks : List Oper → List Nat → List Nat
  | [], acc => acc
  | o :: l, acc => masks l (acc ++ [(edges o).foldl (fun s e => s ||| (2 ^ e ||| acc.getD e 0)) 0])
def ptrSlot : XOp → Option Nat
  | .load (.tmp a) _ _ | .lown (.tmp a) | .store (.tmp a) _ _ => some a
  | _ => none
def standing (xs : List XO) (i a : Nat) : Bool := (xs.drop i).all fun x => !(x.wr.contains a)
def exempt (xs : List XO) (aps : List (Nat × Nat)) (i j : Nat) (x y : XO) : Bool :=
  !meets x.wr y.nm && !meets y.wr x.nm && (match ptrSlot x.op, ptrSlot y.op with
    | some a, some b => aps.contains (a, b) && standing xs i a && standing xs j b
    | _, _ => false)
def drawOk (xs : List XO) (ops : List Oper) (aps : List (Nat × Nat)) : Bool :=
  let ms := masks ops []
  (List.range xs.length).all fun j => ((ops[j]?).map fun o => (edges o).all fun e => decide (e < j)).getD false &&
    (List.range j).all fun i => match xs[i]?, xs[j]? with
      | some a, some b => !conflict a b || (ms.getD j 0).testBit i || exempt xs aps i j a b
      | _, _ => false
def chkXO (P : Program) (prims : List (Nat × Nat)) (nt : Nat) (ops : List Oper) (x : XO) (o : Oper) : Bool :=
  decide (x.dst = o.dst) && (match o.dst with | some d => decide (d < nt) | none => true) && chkOp P prims x.op o &&
  (match x.guard, o.guard with
    | none, none => true
    | some (t, b), some (j, c) => (match ops[j]? with | some q => decide (q.dst = some t) | none => false) && b == c
    | _, _ => false)
def chkOps (P : Program) (prims : List (Nat × Nat)) (nt : Nat) (all : List Oper) : List XO → List Oper → Bool
  | [], [] => true
  | x :: l, o :: m => chkXO P prims nt all x o && chkOps P prims nt all l m
  | _, _ => false
def chkCode (P : Program) (prims : List (Nat × Nat)) (nt : Nat) : XCode → Code → Bool
  | .skip, .skip => true
  | .region dr xs aps, .region _ ops dr' => dr == dr' && chkOps P prims nt ops.toList xs ops.toList && (!dr || drawOk xs ops.toList aps)
  | .seq a b, .seq c d => chkCode P prims nt a c && chkCode P prims nt b d
  | .cond x a b, .cond y c d => argOk x y && chkCode P prims nt a c && chkCode P prims nt b d
  | .block i a, .block j b => i == j && chkCode P prims nt a b
  | .loop a, .loop b => chkCode P prims nt a b
  | .exit i, .exit j => i == j
  | .scope a, .scope b => chkCode P prims nt a b
  | .label i, .label j => i == j
  | .goto i, .goto j => i == j
  | .ret, .ret => true
  | _, _ => false
def chkRes (P : Program) : List XRes → List ResultVar → Bool
  | [], [] => true
  | .tmp t :: l, .tmp u :: m => t == u && chkRes P l m
  | .cell t n agg :: l, .cell u T :: m => t == u && typeIs P T n agg && chkRes P l m
  | _, _ => false
def chkFn (P : Program) (prims : List (Nat × Nat)) (x : XFn) (f : Func) : Bool :=
  !(f.name == "runtime.NumGoroutine") && x.ntmps == f.ntmps && chkRes P x.results f.results.toList && (match f.body with | some c => chkCode P prims f.ntmps x.body c | none => false) && (spec x).isNone
end Go.Proofs.YtjbgceogkgpjpaaGreatDoor.Sx
namespace Go.Proofs.YtjbgceogkgpjpaaGreatDoor.Sx
open Go
def ptrOf : AV → Option Ref
  | .ptr r _ => some r
  | _ => none
def footR (fr : List AV) : XOp → Ref → Prop
  | .load a _ _, r => ptrOf (earg fr a) = some r
  | .lown a, r => ptrOf (earg fr a) = some r
  | .store a _ _, r => ptrOf (earg fr a) = some r
  | .nexts a, r => ptrOf (earg fr a) = some r
  | .clr _ _ a, r => slOf (earg fr a) = some r
  | op, _ => cls op = 1 ∨ cls op = 3
theorem mem_ats {a : XArg} {l : List XArg} {t : Nat} (ha : a ∈ l) (ht : t ∈ argTmp a) : t ∈ ats l := by
  induction l with
  | nil => simp at ha
  | cons b l ih =>
    rcases List.mem_cons.1 ha with rfl | h
    · cases a <;> simp [argTmp] at ht
      simp [ats, ht]
    · have := ih h
      cases b <;> simp [ats, this]
def pureOp : XOp → Bool
  | .mov _ | .pick _ _ _ | .build _ _ | .load _ _ _ | .bin _ _ _ | .beq _ _ _ | .eqnil _ _ _ | .eqagg _ _ _ _ | .eqif _ _ _ _ | .neg _ | .not _ | .conv _ _ | .mkif _ _ | .mkfn _ _ _ | .sstr _ _ _ | .ssl _ _ _ _ _
  | .faddr _ _ | .iaddr _ _ _ | .idxs _ _ | .ext _ _ | .lens _ _ | .mx _ _ | .bstr _ => true
  | _ => false
section
variable {P : Program} {G : Gh} {w : World} {fr : List AV} {act : Act} {o : Oper} {C : CallT} {gl : Nat → List AV} {d : Nat} {hp : Heap} {v : AV} {fr1 : List AV} {hp1 : Heap} {prims : List (Nat × Nat)}
def OpGives (P : Program) (G : Gh) (w : World) (act : Act) (o : Oper) (v : AV) (fr fr1 : List AV) (hp hp1 : Heap) : Prop := Gives P G w act o v ∧ noFlag v ∧ fr1 = fr ∧ hp1 = hp
theorem ats1 {x : XArg} (hs : ∀ t ∈ ats [x], RelS G w fr act t) : ∀ t ∈ argTmp x, RelS G w fr act t := fun t ht => hs t (mem_ats (a := x) (by simp) ht)
theorem ats2 {x y : XArg} (hs : ∀ t ∈ ats [x, y], RelS G w fr act t) : ∀ t ∈ argTmp x ++ argTmp y, RelS G w fr act t := fun t ht => hs t (by
  rcases List.mem_append.1 ht with h | h
  · exact mem_ats (a := x) (by simp) h
  · exact mem_ats (a := y) (by simp) h)
theorem callB_spec' {b : Builtin} {as : List Operand} {ts : List TypeId} (h : callB o.op = some (b, as, ts)) : o.op = .call { callee := .builtin b, args := as.toArray, argTypes := ts.toArray } := by
  cases ho : o.op <;> rw [ho] at h <;> simp only [callB] at h <;> (try (cases h; done))
  rename_i c
  split at h
  · rename_i b' hb
    injection h with h
    injection h with h1 h
    injection h with h2 h3
    subst h1 h2 h3
    obtain ⟨ca, ar, at'⟩ := c
    simp only at hb
    subst hb
    simp
  · cases h
theorem callB_spec {b : Builtin} {as : List Operand} {ts : List TypeId} (h : callB o.op = some (b, as, ts)) : ∃ tt, o.op = .call { callee := .builtin b, args := as.toArray, argTypes := tt } := ⟨_, callB_spec' h⟩
theorem op_mov {a : XArg} (hc : chkOp P prims (.mov a) o = true) (he : evOp C gl d (.mov a) fr hp = some (v, fr1, hp1)) (hs : ∀ t ∈ rds (.mov a), RelS G w fr act t) : OpGives P G w act o v fr fr1 hp hp1 := by
  cases ho : o.op <;> (try (simp [chkOp, ho] at hc; done))
  all_goals simp [chkOp, ho] at hc
  all_goals simp only [evOp, Option.some.injEq, Prod.mk.injEq] at he
  all_goals obtain ⟨rfl, rfl, rfl⟩ := he
  · exact ⟨gives_mov hc (.inl ho) (ats1 hs), earg_noFlag hc, rfl, rfl⟩
  · exact ⟨gives_mov hc (.inr ho) (ats1 hs), earg_noFlag hc, rfl, rfl⟩
theorem op_bin {b : XBin} {x y : XArg} (hc : chkOp P prims (.bin b x y) o = true) (he : evOp C gl d (.bin b x y) fr hp = some (v, fr1, hp1)) (hs : ∀ t ∈ rds (.bin b x y), RelS G w fr act t) : OpGives P G w act o v fr fr1 hp hp1 := by
  cases ho : o.op <;> simp [chkOp, ho] at hc
  obtain ⟨⟨rfl, h1⟩, h2⟩ := hc
  simp only [evOp] at he
  split at he
  · rename_i u hu
    simp only [Option.some.injEq, Prod.mk.injEq] at he
    obtain ⟨rfl, rfl, rfl⟩ := he
    obtain ⟨h3, h4⟩ := gives_bin h1 h2 ho (ats2 hs) hu
    exact ⟨h3, h4, rfl, rfl⟩
  · cases he
theorem op_pick {c a b : XArg} (hc : chkOp P prims (.pick c a b) o = true) (he : evOp C gl d (.pick c a b) fr hp = some (v, fr1, hp1)) (hs : ∀ t ∈ rds (.pick c a b), RelS G w fr act t) : OpGives P G w act o v fr fr1 hp hp1 := by
  cases ho : o.op <;> simp [chkOp, ho] at hc
  obtain ⟨⟨h1, h2⟩, h3⟩ := hc
  have hs' : ∀ t ∈ argTmp c ++ argTmp a ++ argTmp b, RelS G w fr act t := fun t ht => hs t (by
    rcases List.mem_append.1 ht with h | h
    · rcases List.mem_append.1 h with h | h
      · exact mem_ats (a := c) (by simp) h
      · exact mem_ats (a := a) (by simp) h
    · exact mem_ats (a := b) (by simp) h)
  simp only [evOp] at he
  split at he
  · rename_i hv
    simp only [Option.some.injEq, Prod.mk.injEq] at he
    obtain ⟨rfl, rfl, rfl⟩ := he
    exact ⟨by simpa using gives_pick h1 h2 h3 ho hs' hv, earg_noFlag h2, rfl, rfl⟩
  · rename_i hv
    simp only [Option.some.injEq, Prod.mk.injEq] at he
    obtain ⟨rfl, rfl, rfl⟩ := he
    exact ⟨by simpa using gives_pick h1 h2 h3 ho hs' hv, earg_noFlag h3, rfl, rfl⟩
  · cases he
theorem op_beq {n : Bool} {x y : XArg} (hc : chkOp P prims (.beq n x y) o = true) (he : evOp C gl d (.beq n x y) fr hp = some (v, fr1, hp1)) (hs : ∀ t ∈ rds (.beq n x y), RelS G w fr act t) : OpGives P G w act o v fr fr1 hp hp1 := by
  cases ho : o.op <;> simp [chkOp, ho] at hc
  obtain ⟨⟨⟨h0, h1⟩, h2⟩, h3⟩ := hc
  simp only [evOp] at he
  split at he
  · rename_i a b ha hb
    simp only [Option.some.injEq, Prod.mk.injEq] at he
    obtain ⟨rfl, rfl, rfl⟩ := he
    split at h3
    · rename_i hT
      exact ⟨gives_beq h1 h2 (by rw [ho, h0]) hT (ats2 hs) ha hb, trivial, rfl, rfl⟩
    · simp at h3
  · cases he
theorem op_eqagg {n : Bool} {sh : List Nat} {x y : XArg} (hc : chkOp P prims (.eqagg n sh x y) o = true) (he : evOp C gl d (.eqagg n sh x y) fr hp = some (v, fr1, hp1)) (hs : ∀ t ∈ rds (.eqagg n sh x y), RelS G w fr act t) : OpGives P G w act o v fr fr1 hp hp1 := by
  cases ho : o.op <;> simp [chkOp, ho] at hc
  obtain ⟨⟨⟨⟨⟨h0, h1⟩, h2⟩, h3⟩, h4⟩, h5⟩ := hc
  simp only [evOp] at he
  split at he
  · rename_i l m ha hb
    split at he
    · rename_i r hr
      simp only [Option.some.injEq, Prod.mk.injEq] at he
      obtain ⟨rfl, rfl, rfl⟩ := he
      split at h5
      · rename_i dd hT
        exact ⟨gives_eqagg h1 h2 (by rw [ho, h0]) h3 (by omega) h4 ⟨dd, hT, h5⟩ (ats2 hs) ha hb hr, trivial, rfl, rfl⟩
      · simp at h5
    · cases he
  · cases he
theorem op_neg {a : XArg} (hc : chkOp P prims (.neg a) o = true) (he : evOp C gl d (.neg a) fr hp = some (v, fr1, hp1)) (hs : ∀ t ∈ rds (.neg a), RelS G w fr act t) : OpGives P G w act o v fr fr1 hp hp1 := by
  simp only [chkOp] at hc
  split at hc
  · rename_i T b ho
    simp only [evOp] at he
    split at he
    · rename_i k n ha
      simp only [Option.some.injEq, Prod.mk.injEq] at he
      obtain ⟨rfl, rfl, rfl⟩ := he
      exact ⟨gives_neg hc ho (ats1 hs) ha, trivial, rfl, rfl⟩
    · cases he
  · simp at hc
theorem op_not {a : XArg} (hc : chkOp P prims (.not a) o = true) (he : evOp C gl d (.not a) fr hp = some (v, fr1, hp1)) (hs : ∀ t ∈ rds (.not a), RelS G w fr act t) : OpGives P G w act o v fr fr1 hp hp1 := by
  simp only [chkOp] at hc
  split at hc
  · rename_i T b ho
    simp only [evOp] at he
    split at he
    · rename_i bb ha
      simp only [Option.some.injEq, Prod.mk.injEq] at he
      obtain ⟨rfl, rfl, rfl⟩ := he
      exact ⟨gives_not hc ho (ats1 hs) ha, trivial, rfl, rfl⟩
    · cases he
  · simp at hc
theorem op_faddr {a : XArg} {k : Nat} (hc : chkOp P prims (.faddr a k) o = true) (he : evOp C gl d (.faddr a k) fr hp = some (v, fr1, hp1)) (hs : ∀ t ∈ rds (.faddr a k), RelS G w fr act t) : OpGives P G w act o v fr fr1 hp hp1 := by
  cases ho : o.op <;> simp [chkOp, ho] at hc
  obtain ⟨h1, h2⟩ := hc
  split at h2
  · rename_i fs hS
    split at h2
    · rename_i f hf
      simp only [Bool.and_eq_true, beq_iff_eq] at h2
      obtain ⟨h3, h4⟩ := h2
      split at h4
      · rename_i i hi
        have hz : i.size ≠ 0 := by simpa using h4
        obtain ⟨h5, h6⟩ := gives_faddr h1 ho hS hf h3 hi hz (ats1 hs)
        simp only [evOp] at he
        split at he
        · rename_i r off ha
          simp only [Option.some.injEq, Prod.mk.injEq] at he
          obtain ⟨rfl, rfl, rfl⟩ := he
          exact ⟨h5 _ _ ha, trivial, rfl, rfl⟩
        · rename_i cs ha
          split at he
          · rename_i hl
            simp only [Option.some.injEq, Prod.mk.injEq] at he
            obtain ⟨rfl, rfl, rfl⟩ := he
            exact ⟨h6 _ ha hl, trivial, rfl, rfl⟩
          · cases he
        · cases he
      · simp at h4
    · simp at h2
  · simp at h2
theorem op_iaddr {z : Nat} {a i : XArg} (hc : chkOp P prims (.iaddr z a i) o = true) (he : evOp C gl d (.iaddr z a i) fr hp = some (v, fr1, hp1)) (hs : ∀ t ∈ rds (.iaddr z a i), RelS G w fr act t) : OpGives P G w act o v fr fr1 hp hp1 := by
  cases ho : o.op <;> simp [chkOp, ho] at hc
  obtain ⟨⟨h1, h2⟩, h3⟩ := hc
  split at h3
  · rename_i E hT
    simp only [sizeIs] at h3
    split at h3
    · rename_i ii hi
      simp only [beq_iff_eq] at h3
      simp only [evOp] at he
      split at he
      · rename_i oo z' es k ha hk
        split at he
        · rename_i hlt
          obtain ⟨rfl, hlt⟩ := hlt
          simp only [Option.some.injEq, Prod.mk.injEq] at he
          obtain ⟨rfl, rfl, rfl⟩ := he
          exact ⟨(gives_iaddr h1 h2 ho hT hi h3 (ats2 hs) hk).1 _ _ ha hlt, trivial, rfl, rfl⟩
        · cases he
      · rename_i r z' off len k ha hk
        split at he
        · rename_i hlt
          obtain ⟨rfl, hlt⟩ := hlt
          simp only [Option.some.injEq, Prod.mk.injEq] at he
          obtain ⟨rfl, rfl, rfl⟩ := he
          exact ⟨(gives_iaddr h1 h2 ho hT hi h3 (ats2 hs) hk).2 _ _ _ ha hlt, trivial, rfl, rfl⟩
        · cases he
      · cases he
    · simp at h3
  · simp at h3
theorem op_idxs {a i : XArg} (hc : chkOp P prims (.idxs a i) o = true) (he : evOp C gl d (.idxs a i) fr hp = some (v, fr1, hp1)) (hs : ∀ t ∈ rds (.idxs a i), RelS G w fr act t) : OpGives P G w act o v fr fr1 hp hp1 := by
  cases ho : o.op <;> simp [chkOp, ho] at hc
  obtain ⟨⟨h1, h2⟩, h3⟩ := hc
  split at h3
  · rename_i hT
    simp only [evOp] at he
    split at he
    · rename_i s k ha hk
      split at he
      · rename_i hlt
        simp only [Option.some.injEq, Prod.mk.injEq] at he
        obtain ⟨rfl, rfl, rfl⟩ := he
        exact ⟨gives_idxs h1 h2 ho hT (ats2 hs) ha hk hlt, trivial, rfl, rfl⟩
      · cases he
    · cases he
  · simp at h3
theorem op_conv {k : IntKind} {a : XArg} (hc : chkOp P prims (.conv k a) o = true) (he : evOp C gl d (.conv k a) fr hp = some (v, fr1, hp1)) (hs : ∀ t ∈ rds (.conv k a), RelS G w fr act t) : OpGives P G w act o v fr fr1 hp hp1 := by
  cases ho : o.op <;> simp [chkOp, ho] at hc
  obtain ⟨⟨h1, h2⟩, h3⟩ := hc
  obtain ⟨sd, hS⟩ := Option.isSome_iff_exists.1 (show (P.underlying _).isSome = true from h2)
  split at h3
  · rename_i j hD
    have h3 : j = k := by simpa using h3
    subst h3
    simp only [evOp] at he
    split at he
    · rename_i kk n ha
      simp only [Option.some.injEq, Prod.mk.injEq] at he
      obtain ⟨rfl, rfl, rfl⟩ := he
      exact ⟨gives_conv h1 ho hS hD (ats1 hs) ha, trivial, rfl, rfl⟩
    · cases he
  · simp at h3
theorem op_ext {s i : Nat} (hc : chkOp P prims (.ext s i) o = true) (he : evOp C gl d (.ext s i) fr hp = some (v, fr1, hp1)) (hs : ∀ t ∈ rds (.ext s i), RelS G w fr act t) : OpGives P G w act o v fr fr1 hp hp1 := by
  cases ho : o.op <;> (try (simp [chkOp, ho] at hc; done))
  rename_i b j
  cases b <;> simp [chkOp, ho] at hc
  obtain ⟨rfl, rfl⟩ := hc
  simp only [evOp] at he
  split at he
  · rename_i vs hvs
    split at he
    · rename_i u hu
      simp only [Option.some.injEq, Prod.mk.injEq] at he
      obtain ⟨rfl, rfl, rfl⟩ := he
      exact ⟨gives_ext (T := .tmp 0) ho (hs _ (by simp [rds])) hvs hu, noFlag_uf _, rfl, rfl⟩
    · cases he
  · rename_i z cs es hvs
    split at he
    · rename_i hz
      split at he
      · rename_i u hu
        simp only [Option.some.injEq, Prod.mk.injEq] at he
        obtain ⟨rfl, rfl, rfl⟩ := he
        exact ⟨gives_exth ho (hs _ (by simp [rds])) hvs hz.1 hz.2 hu, noFlag_uf _, rfl, rfl⟩
      · cases he
    · cases he
  · cases he
theorem op_load {a : XArg} {n : Nat} {agg : Bool} (hc : chkOp P prims (.load a n agg) o = true) (he : evOp C gl d (.load a n agg) fr hp = some (v, fr1, hp1)) (hs : ∀ t ∈ rds (.load a n agg), RelS G w fr act t)
    (hh : ∀ r, footR fr (.load a n agg) r → ∀ b base blk, G.m r = some (b, base) → hget hp r = some blk → RelBlk G w r b base blk) (hg : GlOk G w gl) : OpGives P G w act o v fr fr1 hp hp1 := by
  cases ho : o.op <;> simp [chkOp, ho] at hc
  obtain ⟨h1, h2⟩ := hc
  simp only [typeIs] at h2
  split at h2
  · rename_i i dd hi hd
    simp only [Bool.and_eq_true, beq_iff_eq] at h2
    simp only [evOp] at he
    split at he
    · rename_i u hu
      simp only [Option.some.injEq, Prod.mk.injEq] at he
      obtain ⟨rfl, rfl, rfl⟩ := he
      obtain ⟨h3, h4⟩ := gives_load h1 ho hi hd h2.1 h2.2 (ats1 hs) (fun r off hr => hh r (by simp [footR, hr, ptrOf])) hg hu
      exact ⟨h3, h4, rfl, rfl⟩
    · cases he
  · simp at h2
theorem op_build {zs : List AV} {ps : List (Nat × Nat × XArg)} (hc : chkOp P prims (.build zs ps) o = true) (he : evOp C gl d (.build zs ps) fr hp = some (v, fr1, hp1)) (hs : ∀ t ∈ rds (.build zs ps), RelS G w fr act t) : OpGives P G w act o v fr fr1 hp hp1 := by
  cases ho : o.op <;> simp [chkOp, ho] at hc
  obtain ⟨h1, h2⟩ := hc
  have hs' : ∀ p ∈ ps, ∀ t ∈ argTmp p.2.2, RelS G w fr act t := fun p hp t ht => hs t (mem_ats (List.mem_map.2 ⟨p, hp, rfl⟩) ht)
  simp only [evOp] at he
  split at he
  · rename_i cs hcs
    simp only [Option.some.injEq, Prod.mk.injEq] at he
    obtain ⟨rfl, rfl, rfl⟩ := he
    split at h2
    · rename_i fs hd
      simp only [Bool.and_eq_true, List.all_eq_true] at h2
      exact ⟨gives_build ho h1 hd (.inl ⟨fs, rfl, fun f hf => Array.all_eq_true_iff_forall_mem.1 h2.1 f (by simpa using hf), h2.2⟩) hs' hcs, trivial, rfl, rfl⟩
    · rename_i nn e hd
      split at h2
      · rename_i i hi
        exact ⟨gives_build ho h1 hd (.inr ⟨nn, e, i, rfl, hi, h2⟩) hs' hcs, trivial, rfl, rfl⟩
      · simp at h2
    · simp at h2
  · cases he
theorem op_mkif {t : Nat} {a : XArg} (hc : chkOp P prims (.mkif t a) o = true) (he : evOp C gl d (.mkif t a) fr hp = some (v, fr1, hp1)) (hs : ∀ t ∈ rds (.mkif t a), RelS G w fr act t) : OpGives P G w act o v fr fr1 hp hp1 := by
  simp only [chkOp] at hc
  split at hc
  · rename_i T b ho
    simp only [Bool.and_eq_true, beq_iff_eq] at hc
    obtain ⟨⟨rfl, h1⟩, h2⟩ := hc
    simp only [evOp] at he
    simp only [Option.some.injEq, Prod.mk.injEq] at he
    obtain ⟨rfl, rfl, rfl⟩ := he
    split at h2
    · simp at h2
    · rename_i dd hni hT
      exact ⟨gives_mkif h1 ho hT (fun ms e => hni ms e) (ats1 hs), trivial, rfl, rfl⟩
    · simp at h2
  · simp at hc
theorem op_mkfn {f : Nat} {ds cs : List XArg} (hc : chkOp P prims (.mkfn f ds cs) o = true) (he : evOp C gl d (.mkfn f ds cs) fr hp = some (v, fr1, hp1)) (hs : ∀ t ∈ rds (.mkfn f ds cs), RelS G w fr act t) : OpGives P G w act o v fr fr1 hp hp1 := by
  simp only [chkOp] at hc
  split at hc
  · rename_i g ds' cs' ho
    simp only [Bool.and_eq_true, beq_iff_eq] at hc
    obtain ⟨⟨rfl, h1⟩, h2⟩ := hc
    simp only [evOp] at he
    simp only [Option.some.injEq, Prod.mk.injEq] at he
    obtain ⟨rfl, rfl, rfl⟩ := he
    exact ⟨gives_mkfn h1 h2 ho (fun a ha t ht => hs t (mem_ats ha ht)), trivial, rfl, rfl⟩
  · simp at hc
theorem op_mx {a b : XArg} (hc : chkOp P prims (.mx a b) o = true) (he : evOp C gl d (.mx a b) fr hp = some (v, fr1, hp1)) (hs : ∀ t ∈ rds (.mx a b), RelS G w fr act t) : OpGives P G w act o v fr fr1 hp hp1 := by
  simp only [chkOp] at hc
  split at hc
  · rename_i c e tl hb
    simp only [Bool.and_eq_true] at hc
    obtain ⟨ts, ho⟩ := callB_spec hb
    simp only [evOp] at he
    split at he
    · rename_i k x k' y ha hb'
      split at he
      · rename_i hk
        subst hk
        simp only [Option.some.injEq, Prod.mk.injEq] at he
        obtain ⟨rfl, rfl, rfl⟩ := he
        exact ⟨(gives_mx hc.1 hc.2 (ats2 hs) ha hb').1 ho, trivial, rfl, rfl⟩
      · cases he
    · cases he
  · simp at hc
theorem op_lens {st : Bool} {a : XArg} (hc : chkOp P prims (.lens st a) o = true) (he : evOp C gl d (.lens st a) fr hp = some (v, fr1, hp1)) (hs : ∀ t ∈ rds (.lens st a), RelS G w fr act t) : OpGives P G w act o v fr fr1 hp hp1 := by
  simp only [chkOp] at hc
  split at hc
  · rename_i b T hb
    simp only [Bool.and_eq_true] at hc
    obtain ⟨h1, h2⟩ := hc
    have ho := callB_spec' hb
    simp only [evOp] at he
    have key : ∀ n, lenX (rawArg fr a) = some n → (v, fr1, hp1) = ((.int .i64 n : AV), fr, hp) → OpGives P G w act o v fr fr1 hp hp1 := by
      intro n hn h3
      simp only [Prod.mk.injEq] at h3
      obtain ⟨h31, h32, h33⟩ := h3
      subst h31
      refine ⟨?_, trivial, h32, h33⟩
      cases st with
      | true =>
        cases hv : rawArg fr a <;> rw [hv] at he <;> simp only [reduceCtorEq] at he
        split at h2 <;> (try (simp at h2; done))
        exact gives_lens h1 ho (by assumption) (.inl ⟨rfl, _, hv⟩) (ats1 hs) hn
      | false =>
        split at h2 <;> (try (simp at h2; done))
        refine gives_lens h1 ho (by assumption) (.inr ⟨⟨_, rfl⟩, fun s hv => ?_⟩) (ats1 hs) hn
        rw [hv] at he
        simp at he
    split at he <;> (try (split at he)) <;> simp only [Option.some.injEq, reduceCtorEq] at he
    all_goals first | (rename_i hv; exact key _ (by rw [hv]; rfl) he.symm) | (rename_i hv hl; exact key _ (by rw [hv]; simp only [lenX]; rw [if_pos hl]) he.symm)
  · simp at hc
theorem op_eqnil {kd : Nat} {n : Bool} {a : XArg} (hc : chkOp P prims (.eqnil kd n a) o = true) (he : evOp C gl d (.eqnil kd n a) fr hp = some (v, fr1, hp1)) (hs : ∀ t ∈ rds (.eqnil kd n a), RelS G w fr act t) : OpGives P G w act o v fr fr1 hp hp1 := by
  simp only [chkOp] at hc
  split at hc
  · rename_i op T x' c T2 ho
    simp only [Bool.and_eq_true, decide_eq_true_eq] at hc
    obtain ⟨⟨⟨h0, h1⟩, h2⟩, h3⟩ := hc
    split at h2
    · rename_i dd hT
      simp only [evOp] at he
      split at he
      · rename_i r hr
        simp only [Option.some.injEq, Prod.mk.injEq] at he
        obtain ⟨rfl, rfl, rfl⟩ := he
        exact ⟨gives_eqnil h1 (by rw [ho, h0]) hT h2 h3 (ats1 hs) hr, trivial, rfl, rfl⟩
      · cases he
    · simp at h2
  · simp at hc
theorem op_eqif {n : Bool} {ts : List Nat} {x y : XArg} (hc : chkOp P prims (.eqif n ts x y) o = true) (he : evOp C gl d (.eqif n ts x y) fr hp = some (v, fr1, hp1)) (hs : ∀ t ∈ rds (.eqif n ts x y), RelS G w fr act t) : OpGives P G w act o v fr fr1 hp hp1 := by
  simp only [chkOp] at hc
  split at hc
  · rename_i op T x' y' T2 ho
    simp only [Bool.and_eq_true, decide_eq_true_eq] at hc
    obtain ⟨⟨⟨⟨h0, h1⟩, h2⟩, h3⟩, h4⟩ := hc
    split at h3
    · rename_i m hT
      simp only [evOp] at he
      split at he
      · rename_i r hr
        simp only [Option.some.injEq, Prod.mk.injEq] at he
        obtain ⟨rfl, rfl, rfl⟩ := he
        exact ⟨gives_eqif h1 h2 (by rw [ho, h0]) hT h4 (ats2 hs) hr, trivial, rfl, rfl⟩
      · cases he
    · cases h3
  · cases hc
theorem oatS {a : Option XArg} {l : List XArg} (hl : ∀ x ∈ a, x ∈ l) (hs : ∀ t ∈ ats l, RelS G w fr act t) : ∀ x ∈ a, ∀ t ∈ argTmp x, RelS G w fr act t :=
  fun x hx t ht => hs t (mem_ats (hl x hx) ht)
theorem op_sstr {a : XArg} {lo hi : Option XArg} (hc : chkOp P prims (.sstr a lo hi) o = true) (he : evOp C gl d (.sstr a lo hi) fr hp = some (v, fr1, hp1)) (hs : ∀ t ∈ rds (.sstr a lo hi), RelS G w fr act t) : OpGives P G w act o v fr fr1 hp hp1 := by
  simp only [chkOp] at hc
  split at hc
  · rename_i T b lo' hi' ho
    simp only [Bool.and_eq_true] at hc
    obtain ⟨⟨⟨h1, h2⟩, h3⟩, h4⟩ := hc
    split at h4
    · rename_i hT
      simp only [rds] at hs
      simp only [evOp] at he
      split at he
      · rename_i s ha
        split at he
        · rename_i l h hl hh
          split at he
          · rename_i hcond
            simp only [Option.some.injEq, Prod.mk.injEq] at he
            obtain ⟨rfl, rfl, rfl⟩ := he
            exact ⟨gives_sstr h1 ho hT h2 h3 (fun t ht => hs t (mem_ats (a := a) (by simp) ht)) (oatS (by intro x hx; have hx' := Option.mem_def.1 hx; simp [oat, hx']) hs) (oatS (by intro x hx; have hx' := Option.mem_def.1 hx; simp [oat, hx']) hs) ha hl hh hcond.1 hcond.2, trivial, rfl, rfl⟩
          · cases he
        · cases he
      · cases he
    · cases h4
  · cases hc
theorem op_ssl {z : Nat} {a : XArg} {lo hi mx : Option XArg} (hc : chkOp P prims (.ssl z a lo hi mx) o = true) (he : evOp C gl d (.ssl z a lo hi mx) fr hp = some (v, fr1, hp1)) (hs : ∀ t ∈ rds (.ssl z a lo hi mx), RelS G w fr act t) : OpGives P G w act o v fr fr1 hp hp1 := by
  simp only [chkOp] at hc
  split at hc
  · rename_i T b lo' hi' mx' ho
    simp only [Bool.and_eq_true] at hc
    obtain ⟨⟨⟨⟨⟨h1, h2⟩, h3⟩, h4⟩, h5⟩, h6⟩ := hc
    split at h5
    · rename_i E hT
      simp only [sizeIs] at h5
      split at h5
      · rename_i i hi0
        have hz : i.size = z := by simpa using h5
        simp only [rds] at hs
        have hsa : ∀ t ∈ argTmp a, RelS G w fr act t := fun t ht => hs t (mem_ats (a := a) (by simp) ht)
        have hslo : ∀ x ∈ lo, ∀ t ∈ argTmp x, RelS G w fr act t := oatS (by intro x hx; have hx' := Option.mem_def.1 hx; simp [oat, hx']) hs
        have hshi : ∀ x ∈ hi, ∀ t ∈ argTmp x, RelS G w fr act t := oatS (by intro x hx; have hx' := Option.mem_def.1 hx; simp [oat, hx']) hs
        have hsmx : ∀ x ∈ mx, ∀ t ∈ argTmp x, RelS G w fr act t := oatS (by intro x hx; have hx' := Option.mem_def.1 hx; simp [oat, hx']) hs
        have hmn : mx = none → mx' = none := by
          rintro rfl
          cases mx' with
          | none => rfl
          | some _ => simp [optOk] at h4
        simp only [evOp] at he
        split at he
        · rename_i ha
          split at he
          · rename_i hm hl hh
            simp only [Option.some.injEq, Prod.mk.injEq] at he
            obtain ⟨rfl, rfl, rfl⟩ := he
            exact ⟨gives_sslnil h1 (by rw [ho, hmn rfl]) hT hi0 h2 h3 hsa hslo hshi ha hl hh, trivial, rfl, rfl⟩
          · cases he
        · rename_i ow z' es ha
          split at he
          · rename_i l h hl hh
            split at he
            · rename_i hcond
              obtain ⟨rfl, h7, h8⟩ := hcond
              split at he
              · simp only [Option.some.injEq, Prod.mk.injEq] at he
                obtain ⟨rfl, rfl, rfl⟩ := he
                exact ⟨gives_ssl h1 (by rw [ho, hmn rfl]) hT hi0 hz h2 h3 hsa hslo hshi ha hl hh h7 h8, by split <;> trivial, rfl, rfl⟩
              · rename_i m
                split at he
                · rename_i hmm
                  obtain ⟨hmm, hne0⟩ := hmm
                  simp only [Option.some.injEq, Prod.mk.injEq] at he
                  obtain ⟨rfl, rfl, rfl⟩ := he
                  cases hi with
                  | none => simp at h6
                  | some y =>
                    cases hi' with
                    | none => simp [optOk] at h3
                    | some y' =>
                      cases mx' with
                      | none => simp [optOk] at h4
                      | some m' =>
                        refine ⟨gives_ssl3 h1 (by simpa [optOk] using h3) (by simpa [optOk] using h4) ho hT hi0 hz h2 (fun t ht => ?_) hslo ha hl (by simpa using hh) hmm h7 h8 hne0, trivial, rfl, rfl⟩
                        rcases List.mem_append.1 ht with ht | ht
                        · rcases List.mem_append.1 ht with ht | ht
                          · exact hsa t ht
                          · exact hshi y rfl t ht
                        · exact hsmx m rfl t ht
                · cases he
            · cases he
          · cases he
        · rename_i r z' off len ha
          split at he
          · rename_i l h hm hl hh
            split at he
            · rename_i hcond
              obtain ⟨rfl, h7, h8, h9⟩ := hcond
              simp only [Option.some.injEq, Prod.mk.injEq] at he
              obtain ⟨rfl, rfl, rfl⟩ := he
              exact ⟨gives_sslsl h1 (by rw [ho, hmn rfl]) hT hi0 hz h2 h3 hsa hslo hshi ha hl hh h7 h8 h9, trivial, rfl, rfl⟩
            · cases he
          · cases he
        · cases he
      · cases h5
    · cases h5
  · cases hc
theorem op_bstr {a : XArg} (hc : chkOp P prims (.bstr a) o = true) (he : evOp C gl d (.bstr a) fr hp = some (v, fr1, hp1)) (hs : ∀ t ∈ rds (.bstr a), RelS G w fr act t)
    (hh : ∀ r, footR fr (.bstr a) r → ∀ b base blk, G.m r = some (b, base) → hget hp r = some blk → RelBlk G w r b base blk) : OpGives P G w act o v fr fr1 hp hp1 := by
  cases ho : o.op <;> simp only [chkOp, ho] at hc <;> (try (cases hc; done))
  rename_i S D b
  simp only [Bool.and_eq_true] at hc
  obtain ⟨⟨h1, h2⟩, h3⟩ := hc
  split at h2
  · rename_i e hS
    split at h3
    · rename_i hD
      simp only [evOp] at he
      split at he
      · rename_i es hes
        split at he
        · rename_i s hb
          simp only [Option.some.injEq, Prod.mk.injEq] at he
          obtain ⟨rfl, rfl, rfl⟩ := he
          have hu8 : P.underlying e = some (.int .u8) := by
            unfold isU8 at h2
            split at h2
            · assumption
            · cases h2
          have hr := arg_rel (w := w) (G := G) h1 (ats1 hs)
          refine ⟨⟨.string ⟨s.toArray⟩, ?_, .str ⟨s.toArray⟩⟩, trivial, rfl, rfl⟩
          rcases listOf_mem hes hr (earg_noFlag h1) (fun r _ => hh r (by simp [footR, cls])) with ⟨a0, h5, rfl⟩ | ⟨b', q, cap, h5, _, hM, _⟩
          · simp [bytesOfL] at hb
            subst hb
            simp only [execOp, ho, h5, Sem.run_bind, run_convert_bytes_string w S D e a0 0 0 hS hu8 hD, Result.andThen_ok]
            cases a0 with
            | none =>
              simp [Conv.bytesToString]
              rfl
            | some a0 =>
              simp [Conv.bytesToString, loadCells]
              rfl
          · simp only [execOp, ho, h5, Sem.run_bind, run_convert_bytes_string w S D e _ _ _ hS hu8 hD, run_bytesToString hM hb, Result.andThen_ok]
            rfl
        · cases he
      · cases he
    · cases h3
  · cases h2
end
end Go.Proofs.YtjbgceogkgpjpaaGreatDoor.Sx
namespace Go.Proofs.YtjbgceogkgpjpaaGreatDoor.Sx
open Go
def Touch (x : XO) (fr : List AV) (l : Loc) : Prop := (∃ t, t ∈ x.wr ∧ l = .slot t) ∨ (cls x.op = 3 ∧ ∃ r i, footR fr x.op r ∧ l = .cell r i)
def nv : Heap → Nat → Nat
  | [], _ => 0
  | l :: _, s => nextVer l s
def newRef (x : XO) (hp : Heap) : Ref := ⟨hp.length - 1, x.dst.getD 0, nv hp (x.dst.getD 0)⟩
def finX (x : XO) (fr : List AV) (v : AV) : List AV := match x.dst with | some d => fput fr d v | none => fr
structure Next (x : XO) (fr : List AV) (hp : Heap) (G : Gh) (act : Act) (w : World) (N : Nat) (fr' : List AV) (hp' : Heap) (G' : Gh) (act' : Act) (w' : World) : Prop where
  ext : Ext (fun b => ∃ l, Touch x fr l ∧ G.o l = some b) G w G' w'
  valid : Valid G' w' N
  size : act'.tmps.size = act.tmps.size
  defers : act'.defers = act.defers
  tmps : ∀ t, x.dst ≠ some t → act'.tmps.getD t undef = act.tmps.getD t undef
  slots : ∀ t ∈ x.wr, RelS G' w' fr' act' t
  oo : ∀ l, ¬ Touch x fr l → G'.o l = G.o l
  on : ∀ l b, Touch x fr l → G'.o l = some b → (∃ l', Touch x fr l' ∧ G.o l' = some b) ∨ w.heap.size ≤ b
  mm : cls x.op ≠ 2 → G'.m = G.m
  mnew : ∀ r, G.m r = none → G'.m r ≠ none → cls x.op = 2 ∧ r = newRef x hp ∧ hget hp' r ≠ none ∧ ∀ b base blk, G'.m r = some (b, base) → hget hp' r = some blk → RelBlk G' w' r b base blk
  mfr : ∀ r b base, G.m r = none → G'.m r = some (b, base) → ¬ (b < w.heap.size ∧ G.k b = .mb)
  mbk : ∀ r b base, G.m r = some (b, base) → ¬ (cls x.op = 3 ∧ footR fr x.op r) → w'.heap[b]? = w.heap[b]?
  blk : cls x.op = 3 → ∀ r b base blk, footR fr x.op r → G'.m r = some (b, base) → hget hp' r = some blk → RelBlk G' w' r b base blk
section
variable {P : Program} {G : Gh} {w : World} {N : Nat} {x : XO} {fr : List AV} {hp : Heap} {act : Act} {o : Oper} {v : AV} {y : Value}
theorem put_size (act : Act) (d : Option Tmp) (y : Value) : (act.put d y).tmps.size = act.tmps.size := by cases d <;> simp [Act.put]
theorem put_defers (act : Act) (d : Option Tmp) (y : Value) : (act.put d y).defers = act.defers := by cases d <;> simp [Act.put]
theorem put_ne (act : Act) (d : Option Tmp) (y : Value) (t : Nat) (h : d ≠ some t) : (act.put d y).tmps.getD t undef = act.tmps.getD t undef := by
  cases d with
  | none => rfl
  | some d => simp [Act.put, Array.getElem?_setIfInBounds_ne (show d ≠ t from fun e => h (by rw [e]))]
theorem put_eq (act : Act) (d : Nat) (y : Value) (h : d < act.tmps.size) : (act.put (some d) y).tmps.getD d undef = y := by
  simp [Act.put, h]
theorem RelV.sameMK {G G' : Gh} (hm : ∀ r a, G.m r = some a → G'.m r = some a) (hk : ∀ b, b < w.heap.size → G'.k b = G.k b) {v : AV} {y : Value} (h : RelV G w v y) : RelV G' w v y :=
  h.mapG hm (fun b hb hh => by rw [hk b hb, hh]) (fun b f hb hh => ⟨f, Nat.le_refl _, by rw [hk b hb, hh]⟩)
theorem RelV.withO {f : Loc → Option Nat} {v : AV} {y : Value} (h : RelV G w v y) : RelV { G with o := f } w v y :=
  RelV.sameMK (G := G) (G' := { G with o := f }) (fun _ _ h => h) (fun _ _ => rfl) h
theorem next_val (hv : Valid G w N) (h2 : cls x.op ≠ 2) (h3 : cls x.op ≠ 3) (hm : mvs x.op = []) (hr : RelV G w v y) (hno : noFlag v) (hd : ∀ d, x.dst = some d → d < act.tmps.size) :
    ∃ G', Next x fr hp G act w N (finX x fr v) hp G' (act.put x.dst y) w := by
  have hwr : ∀ t, t ∈ x.wr ↔ x.dst = some t := by
    intro t
    cases h : x.dst <;> simp [XO.wr, hm, h, eq_comm]
  refine ⟨{ G with o := fun l => if ∃ t, x.dst = some t ∧ l = .slot t then none else G.o l }, ?_⟩
  have ht : ∀ l, Touch x fr l ↔ ∃ t, x.dst = some t ∧ l = .slot t := by
    intro l
    constructor
    · rintro (⟨t, h, rfl⟩ | ⟨h, _⟩)
      · exact ⟨t, (hwr t).1 h, rfl⟩
      · exact absurd h h3
    · rintro ⟨t, h, rfl⟩
      exact .inl ⟨t, (hwr t).2 h, rfl⟩
  refine ⟨.of_same rfl rfl rfl (Nat.le_refl _) (fun _ _ => rfl) (fun _ _ => rfl) (fun _ _ h => h), ⟨hv.lev, hv.inj, hv.mkk, ?_, ?_⟩, put_size .., put_defers .., fun t h => put_ne _ _ _ _ h, ?_, ?_, ?_, fun _ => rfl, ?_, fun r b base h1 h2 => (by rw [show G.m r = some (b, base) from h2] at h1; cases h1), fun _ _ _ _ _ => rfl, fun h => absurd h h3⟩
  · intro l l' b h1 h2
    simp only at h1 h2
    split at h1
    · cases h1
    · split at h2
      · cases h2
      · exact hv.oinj _ _ b h1 h2
  · intro l b h1
    simp only at h1
    split at h1
    · cases h1
    · exact hv.ok _ _ h1
  · intro t h
    have hdt := (hwr t).1 h
    have e1 : fget (finX x fr v) t = v := by simp [finX, hdt, fget_fput]
    have e2 : (act.put x.dst y).tmps.getD t undef = y := by rw [hdt]; exact put_eq _ _ _ (hd t hdt)
    unfold RelS
    rw [e1, e2]
    exact ⟨hr.withO, .of_noFlag hno⟩
  · intro l h
    show (if _ then _ else _) = _
    rw [if_neg (fun hh => h ((ht l).2 hh))]
  · intro l b h h1
    simp only at h1
    rw [if_pos ((ht l).1 h)] at h1
    cases h1
  · intro r h1 h2
    exact absurd h1 h2
theorem drop1_rel {G' : Gh} {w' : World} {s t : Nat} {y : Value} (h : RelV G w (fget fr t) y) (hts : t ≠ s → OwnOk G' w' (.slot t) (fget fr t) y)
    (hG : ∀ v, RelV G w v y → RelV G' w' v y) : RelV G' w' (fget (drop1 fr (.tmp s)) t) y ∧ OwnOk G' w' (.slot t) (fget (drop1 fr (.tmp s)) t) y := by
  by_cases hs : t = s
  · subst hs
    simp only [drop1]
    split
    · rename_i z es hv
      rw [fget_fput, if_pos rfl]
      rw [hv] at h
      exact ⟨hG _ (h.uf), .of_noFlag trivial⟩
    · rw [fget_fput, if_pos rfl]
      exact ⟨.undef _, .of_noFlag trivial⟩
    · rename_i h1 h2
      exact ⟨hG _ h, .of_not fun z es => ⟨h1 z es, h2 z es⟩⟩
  · have : fget (drop1 fr (.tmp s)) t = fget fr t := by
      simp only [drop1]
      split <;> first | rw [fget_fput, if_neg hs] | rfl
    rw [this]
    exact ⟨hG _ h, hts hs⟩
theorem OwnOk.sameK {G G' : Gh} {l l' : Loc} {v : AV} {y : Value} (hm : ∀ r a, G.m r = some a → G'.m r = some a) (hk : ∀ b, G'.k b = G.k b) (hl : G'.o l' = G.o l) (h : OwnOk G w l v y) : OwnOk G' w l' v y := by
  unfold OwnOk at *
  split
  · rename_i ow z es
    cases ow with
    | none => trivial
    | tight => trivial
    | own =>
      obtain ⟨b, o, cap, hx, hcap, hob, hc, h4, h5⟩ := h
      exact ⟨b, o, cap, hx, hcap, by rw [hl, hob], hc, (fun _ => by rw [hk, h4 rfl]), (fun h => by cases h)⟩
    | uniq =>
      obtain ⟨z', es', x', hvv, b, o, cap, hx, hcap, hob, hc, h4, h5⟩ := h
      obtain ⟨h6, hz0, X, hz, hX⟩ := h5 rfl
      refine ⟨z', es', x', hvv.map (fun v y _ hr => hr.sameMK hm (fun b _ => hk b)), b, o, cap, hx, hcap, by rw [hl, hob], hc, (fun h => by cases h), fun _ => ⟨by rw [hk, h6], hz0, X, hz, fun i e j u hi hj => ?_⟩⟩
      obtain ⟨h8, h9, h10⟩ := hX i e j u hi hj
      exact ⟨h8, h9, h10.sameMK hm (fun b _ => hk b)⟩
  · trivial
theorem OwnOk.withO {f : Loc → Option Nat} {l l' : Loc} {v : AV} {y : Value} (h : OwnOk G w l v y) (hl : f l' = G.o l) : OwnOk { G with o := f } w l' v y :=
  OwnOk.sameK (G := G) (G' := { G with o := f }) (fun _ _ h => h) (fun _ => rfl) hl h
theorem next_own {s : Nat} (hmx : mvs x.op = [s]) (h2 : cls x.op ≠ 2) (h3 : cls x.op ≠ 3) (hv : Valid G w N) (hs : RelS G w fr act s) (hd : ∀ d, x.dst = some d → d < act.tmps.size) :
    ∃ G', Next x fr hp G act w N (finX x (drop1 fr (.tmp s)) (fget fr s)) hp G' (act.put x.dst (act.tmps.getD s undef)) w := by
  have hwr : ∀ t, t ∈ x.wr ↔ x.dst = some t ∨ t = s := by
    intro t
    cases h : x.dst <;> simp [XO.wr, hmx, h, eq_comm]
  let f : Loc → Option Nat := fun l => if ∃ t, x.dst = some t ∧ l = .slot t then G.o (.slot s) else if l = .slot s then none else G.o l
  have hf : ∀ l b, f l = some b → ∃ l', G.o l' = some b ∧ (l' = l ∧ ¬ (∃ t, x.dst = some t ∧ l = .slot t) ∧ l ≠ .slot s ∨ l' = .slot s ∧ ∃ t, x.dst = some t ∧ l = .slot t) := by
    intro l b h
    simp only [f] at h
    split at h
    · rename_i h1; exact ⟨_, h, .inr ⟨rfl, h1⟩⟩
    · split at h
      · cases h
      · rename_i h1 h2; exact ⟨_, h, .inl ⟨rfl, h1, h2⟩⟩
  have ht : ∀ l, Touch x fr l ↔ ∃ t, (x.dst = some t ∨ t = s) ∧ l = .slot t := by
    intro l
    constructor
    · rintro (⟨t, h, rfl⟩ | ⟨h, _⟩)
      · exact ⟨t, (hwr t).1 h, rfl⟩
      · exact absurd h h3
    · rintro ⟨t, h, rfl⟩
      exact .inl ⟨t, (hwr t).2 h, rfl⟩
  refine ⟨{ G with o := f }, ?_⟩
  refine ⟨.of_same rfl rfl rfl (Nat.le_refl _) (fun _ _ => rfl) (fun _ _ => rfl) (fun _ _ h => h), ⟨hv.lev, hv.inj, hv.mkk, ?_, ?_⟩, put_size .., put_defers .., fun t h => put_ne _ _ _ _ h, ?_, ?_, ?_, fun _ => rfl, ?_, fun r b base h1 h2 => (by rw [show G.m r = some (b, base) from h2] at h1; cases h1), fun _ _ _ _ _ => rfl, fun h => absurd h h3⟩
  · intro l l' b h1 h2
    obtain ⟨l1, h4, h5⟩ := hf l b h1
    obtain ⟨l2, h6, h7⟩ := hf l' b h2
    have := hv.oinj _ _ b h4 h6
    subst this
    rcases h5 with ⟨rfl, h8, h9⟩ | ⟨rfl, t, h8, rfl⟩ <;> rcases h7 with ⟨h10, h11, h12⟩ | ⟨h10, u, h11, rfl⟩
    · exact h10
    · exact absurd h10 h9
    · exact absurd h10.symm h12
    · rw [h8] at h11; injection h11 with h11; rw [h11]
  · intro l b h1
    obtain ⟨l1, h4, h5⟩ := hf l b h1
    exact hv.ok _ _ h4
  · intro t h
    by_cases hdt : x.dst = some t
    · have e1 : fget (finX x (drop1 fr (.tmp s)) (fget fr s)) t = fget fr s := by simp [finX, hdt, fget_fput]
      have e2 : (act.put x.dst (act.tmps.getD s undef)).tmps.getD t undef = act.tmps.getD s undef := by rw [hdt]; exact put_eq _ _ _ (hd t hdt)
      unfold RelS
      rw [e1, e2]
      exact ⟨hs.1.withO, hs.2.withO (by simp only [f]; rw [if_pos ⟨t, hdt, rfl⟩])⟩
    · have hts : t = s := ((hwr t).1 h).resolve_left hdt
      subst hts
      have e1 : fget (finX x (drop1 fr (.tmp t)) (fget fr t)) t = fget (drop1 fr (.tmp t)) t := by
        simp only [finX]
        split
        · rename_i d hd'; rw [fget_fput, if_neg (fun e => hdt (by rw [hd', e]))]
        · rfl
      have e2 : (act.put x.dst (act.tmps.getD t undef)).tmps.getD t undef = act.tmps.getD t undef := put_ne _ _ _ _ hdt
      unfold RelS
      rw [e1, e2]
      exact drop1_rel hs.1 (fun h => absurd rfl h) (fun _ h => h.withO)
  · intro l h
    show f l = _
    simp only [f]
    rw [if_neg (fun ⟨t, h1, h2⟩ => h ((ht l).2 ⟨t, .inl h1, h2⟩)), if_neg (fun h1 => h ((ht l).2 ⟨s, .inr rfl, h1⟩))]
  · intro l b h h1
    obtain ⟨l1, h4, h5⟩ := hf l b h1
    refine .inl ⟨l1, ?_, h4⟩
    rcases h5 with ⟨rfl, h8, h9⟩ | ⟨rfl, t, h8, rfl⟩
    · exact h
    · exact (ht _).2 ⟨s, .inr rfl, rfl⟩
  · intro r h1 h2
    exact absurd h1 h2
theorem mkBlk_spec {d : Nat} {b : Blk} {r : Ref} {hp' : Heap} (h : mkBlk hp d b = some (r, hp')) :
    ∃ l t, hp = l :: t ∧ r = ⟨t.length, d, nextVer l d⟩ ∧ hp' = lput l d (some (nextVer l d, b)) :: t := by
  cases hp with
  | nil => cases h
  | cons l t =>
    simp only [mkBlk, Option.some.injEq, Prod.mk.injEq] at h
    exact ⟨l, t, rfl, h.1.symm, h.2.symm⟩
end
theorem mkBlk_facts {hp hp' : Heap} {d : Nat} {b : Blk} {r : Ref} (h : mkBlk hp d b = some (r, hp')) :
    hp'.length = hp.length ∧ (∀ s, nv hp s ≤ nv hp' s) ∧ r = ⟨hp.length - 1, d, nv hp d⟩ ∧ hp ≠ [] ∧ hget hp' r ≠ none ∧ ∀ q blk, hget hp' q = some blk → q ≠ r → hget hp q = some blk := by
  obtain ⟨l, t, rfl, rfl, rfl⟩ := mkBlk_spec h
  refine ⟨by simp, fun s => ?_, by simp [nv], by simp, by simp [hget, lget_lput], fun q blk hq hne => ?_⟩
  · simp only [nv, nextVer, lget_lput]
    by_cases hs : s = d
    · rw [if_pos hs, hs]
      split <;> simp_all
    · rw [if_neg hs]; exact Nat.le_refl _
  · simp only [hget] at hq ⊢
    by_cases hl : q.lev = t.length
    · rw [if_pos hl] at hq ⊢
      rw [lget_lput] at hq
      by_cases hs : q.site = d
      · rw [if_pos hs] at hq
        simp only at hq
        split at hq
        · rename_i e
          exact absurd (by cases q; simp_all) hne
        · cases hq
      · rw [if_neg hs] at hq
        exact hq
    · rw [if_neg hl] at hq ⊢
      exact hq
section
variable {P : Program} {G : Gh} {w : World} {N : Nat} {x : XO} {fr : List AV} {hp : Heap} {act : Act} {o : Oper} {v : AV} {y : Value}
theorem next_new1 {v0 : AV} {y0 : Value} {blk0 : Blk} {ob : Obj} {r : Ref} {hp' : Heap} (hv : Valid G w N) (hN : hp.length = N) (h2 : cls x.op = 2) (hm : mvs x.op = []) (hb : mkBlk hp (x.dst.getD 0) blk0 = some (r, hp'))
    (hfresh : G.m (newRef x hp) = none)
    (hr : ∀ (f : Loc → Option Nat) (G' : Gh), r.lev + 1 = N → Valid { G with o := f } w N → Ext (fun _ => False) { G with o := f } w G' (w.alloc ob) → RelBlk G' (w.alloc ob) r w.heap.size 0 blk0) (hval : ∀ G' : Gh, G'.m r = some (w.heap.size, 0) → RelV G' (w.alloc ob) v0 y0 ∧ noFlag v0) (hd : ∀ d, x.dst = some d → d < act.tmps.size) :
    ∃ G', Next x fr hp G act w N (finX x fr v0) hp' G' (act.put x.dst y0) (w.alloc ob) := by
  obtain ⟨l, t, rfl, hrr, rfl⟩ := mkBlk_spec hb
  have hnr : newRef x (l :: t) = r := hrr.symm
  rw [hnr] at hfresh
  have hwr : ∀ t, t ∈ x.wr ↔ x.dst = some t := by
    intro t
    cases h : x.dst <;> simp [XO.wr, hm, h, eq_comm]
  have h3 : cls x.op ≠ 3 := by omega
  let G1 : Gh := { G with o := fun l => if ∃ t, x.dst = some t ∧ l = .slot t then none else G.o l }
  have hv1 : Valid G1 w N := by
    refine ⟨hv.lev, hv.inj, hv.mkk, ?_, ?_⟩
    · intro l l' b h1 h2
      simp only [G1] at h1 h2
      split at h1
      · cases h1
      · split at h2
        · cases h2
        · exact hv.oinj _ _ b h1 h2
    · intro l b h1
      simp only [G1] at h1
      split at h1
      · cases h1
      · exact hv.ok _ _ h1
  have hlev : r.lev + 1 = N := by rw [hrr, ← hN]; simp
  have ht : ∀ l, Touch x fr l ↔ ∃ t, x.dst = some t ∧ l = .slot t := by
    intro l
    constructor
    · rintro (⟨t, h, rfl⟩ | ⟨h, _⟩)
      · exact ⟨t, (hwr t).1 h, rfl⟩
      · exact absurd h h3
    · rintro ⟨t, h, rfl⟩
      exact .inl ⟨t, (hwr t).2 h, rfl⟩
  have hext : ∀ A, Ext A G w (addB G1 w.heap.size .mb (some r) none) (w.alloc ob) := fun A =>
    .of_alloc (fun b hb => addB_k_lt G1 w .mb (some r) none b hb) (fun q a hq => by
      simp only [addB]
      rw [if_neg (fun e => by injection e with e; subst e; rw [hfresh] at hq; cases hq)]
      exact hq)
  have hext1 : Ext (fun _ => False) G1 w (addB G1 w.heap.size .mb (some r) none) (w.alloc ob) := 
    .of_alloc (fun b hb => addB_k_lt G1 w .mb (some r) none b hb) (fun q a hq => by
      simp only [addB]
      rw [if_neg (fun e => by injection e with e; subst e; rw [show G1.m r = none from hfresh] at hq; cases hq)]
      exact hq)
  refine ⟨addB G1 w.heap.size .mb (some r) none, hext _, hv1.addB (by simp) (fun q h => by injection h with h; subst h; exact ⟨by omega, rfl⟩) (fun q h => by cases h), put_size .., put_defers .., fun t h => put_ne _ _ _ _ h, ?_, ?_, ?_, fun h => absurd h2 h, ?_, ?_, ?_, fun h => absurd h h3⟩
  · intro t h
    have hdt := (hwr t).1 h
    unfold RelS
    rw [show fget (finX x fr v0) t = v0 by simp [finX, hdt, fget_fput], hdt, put_eq _ _ _ (hd t hdt)]
    obtain ⟨k1, k2⟩ := hval (addB G1 w.heap.size .mb (some r) none) (by simp [addB])
    exact ⟨k1, .of_noFlag k2⟩
  · intro l h
    simp only [addB, G1]
    rw [if_neg (by simp), if_neg (fun hh => h ((ht l).2 hh))]
  · intro l b h h1
    simp only [addB] at h1
    rw [if_neg (by simp)] at h1
    simp only [G1] at h1
    rw [if_pos ((ht l).1 h)] at h1
    cases h1
  · intro q h1 h4
    have hq : q = r := by
      simp only [addB] at h4
      split at h4
      · rename_i e; injection e with e; exact e.symm
      · exact absurd h1 h4
    subst hq
    refine ⟨h2, hnr.symm, (by rw [hrr]; simp [hget, lget_lput]), fun b base blk h5 h6 => ?_⟩
    simp only [addB, if_true] at h5
    injection h5 with h5
    injection h5 with h5 h7
    subst h5 h7
    have : blk = blk0 := by
      rw [hrr] at h6
      simp only [hget, if_true, lget_lput] at h6
      injection h6 with h6
      exact h6.symm
    subst this
    exact hr _ _ hlev hv1 hext1
  · intro q b base h1 h4 h5
    simp only [addB] at h4
    split at h4
    · injection h4 with h4; injection h4 with h4 _; omega
    · rw [show G.m q = some (b, base) from h4] at h1; cases h1
  · intro q b base h _
    exact heap_alloc_lt w _ b (hv.mkk _ _ h).2
theorem next_new0 {blk0 : Blk} {ob : Obj} {r : Ref} {hp' : Heap} (hv : Valid G w N) (hN : hp.length = N) (h2 : cls x.op = 2) (hm : mvs x.op = []) (hb : mkBlk hp (x.dst.getD 0) blk0 = some (r, hp'))
    (hfresh : G.m (newRef x hp) = none)
    (hr : ∀ (f : Loc → Option Nat) (G' : Gh), r.lev + 1 = N → Valid { G with o := f } w N → Ext (fun _ => False) { G with o := f } w G' (w.alloc ob) → RelBlk G' (w.alloc ob) r w.heap.size 0 blk0) (hd : ∀ d, x.dst = some d → d < act.tmps.size) :
    ∃ G', Next x fr hp G act w N (finX x fr (.ptr r 0)) hp' G' (act.put x.dst (.pointer (some ⟨w.heap.size, 0, none⟩))) (w.alloc ob) :=
  next_new1 hv hN h2 hm hb hfresh hr (fun G' hm => ⟨.ptr r 0 w.heap.size 0 hm, trivial⟩) hd
theorem next_new {cs : List AV} {xs : Array Value} {T : TypeId} {r : Ref} {hp' : Heap} (hv : Valid G w N) (hN : hp.length = N) (h2 : cls x.op = 2) (hm : mvs x.op = []) (hb : mkBlk hp (x.dst.getD 0) (.cells cs) = some (r, hp'))
    (hfresh : G.m (newRef x hp) = none) (hr : RelCs G w cs xs) (hno : ∀ v ∈ cs, noFlag v) (hd : ∀ d, x.dst = some d → d < act.tmps.size) :
    ∃ G', Next x fr hp G act w N (finX x fr (.ptr r 0)) hp' G' (act.put x.dst (.pointer (some ⟨w.heap.size, 0, none⟩))) (w.alloc (.cells xs T)) :=
  next_new0 hv hN h2 hm hb hfresh (fun f G' hlev hv1 hE => relBlk_new hv1 hlev ⟨hr.1, fun j u a h8 h9 => (hr.2 j u a h8 h9).withO⟩ hno hE) hd
end
end Go.Proofs.YtjbgceogkgpjpaaGreatDoor.Sx
namespace Go.Proofs.YtjbgceogkgpjpaaGreatDoor.Sx
open Go
theorem hget_hput : ∀ {hp : Heap} {r q : Ref} {b b0 : Blk}, hget hp r = some b0 → hget (hput hp r b) q = if q = r then some b else hget hp q
  | [], _, _, _, _, h => by cases h
  | l :: t, r, q, b, b0, h => by
    simp only [hget, hput] at h ⊢
    by_cases hr : r.lev = t.length
    · rw [if_pos hr] at h
      rw [if_pos hr]
      simp only [hget]
      by_cases hq : q.lev = t.length
      · rw [if_pos hq, if_pos hq, lget_lput]
        by_cases hs : q.site = r.site
        · rw [if_pos hs]
          simp only
          by_cases hv : r.ver = q.ver
          · rw [if_pos hv, if_pos (by cases q; cases r; simp_all)]
          · rw [if_neg hv, if_neg (fun e => hv (by rw [e]))]
            rw [hs]
            split at h
            · rename_i v b' hl
              split at h
              · rename_i e; simp [e, hv]
              · cases h
            · cases h
        · rw [if_neg hs, if_neg (fun e => hs (by rw [e]))]
      · rw [if_neg hq, if_neg hq, if_neg (fun e => hq (by rw [e]; exact hr))]
    · rw [if_neg hr] at h
      rw [if_neg hr]
      simp only [hget]
      have hlen : ∀ (t : Heap) (r : Ref) (b : Blk), (hput t r b).length = t.length := by
        intro t
        induction t with
        | nil => intro r b; rfl
        | cons l t ih => intro r b; simp only [hput]; split <;> simp [ih]
      rw [hlen]
      by_cases hq : q.lev = t.length
      · rw [if_pos hq, if_pos hq, if_neg (fun e => hr (by rw [← e]; exact hq))]
      · rw [if_neg hq, if_neg hq]
        exact hget_hput h
theorem hput_length : ∀ (t : Heap) (r : Ref) (b : Blk), (hput t r b).length = t.length
  | [], _, _ => rfl
  | l :: t, r, b => by simp only [hput]; split <;> simp [hput_length t]
section
variable {P : Program} {G : Gh} {w : World} {N : Nat} {x : XO} {fr : List AV} {hp : Heap} {act : Act} {o : Oper}
theorem RelV.noRef2 {G' : Gh} (hs : ∀ b, b < w.heap.size → G.k b = .st → G'.k b = .st) (hg : ∀ b f, b < w.heap.size → G.k b = .gr f → ∃ f', f ≤ f' ∧ G'.k b = .gr f')
    {v : AV} {y : Value} (h : RelV G w v y) : refFree v = true → RelV G' w v y := by
  have hcov : ∀ {b n}, Cov G w b n → Cov G' w b n := by
    rintro b n ⟨hb, h | ⟨f, h, hn⟩⟩
    · exact ⟨hb, .inl (hs b hb h)⟩
    · obtain ⟨f', h1, h2⟩ := hg b f hb h
      exact ⟨hb, .inr ⟨f', h2, Nat.le_trans hn h1⟩⟩
  induction h with
  | undef x => exact fun _ => .undef x
  | bool b => exact fun _ => .bool b
  | int k n => exact fun _ => .int k n
  | str x => exact fun _ => .str x
  | opq x h => exact fun _ => .opq x h
  | nilptr => exact fun _ => .nilptr
  | nilsl => exact fun _ => .nilsl
  | nilif => exact fun _ => .nilif
  | nilfn => exact fun _ => .nilfn
  | ptr r off b base h => intro h; cases h
  | elp cs b o X hc hf hx hr ih => exact fun _ => .elp cs b o X (hcov hc) hf hx (fun j v hj => ih j v hj (hf j v hj))
  | gptr g => exact fun _ => .gptr g
  | sl r z off len b base cap h hl hs => intro h; cases h
  | uniq z es x => exact fun _ => .uniq z es x
  | lst ow z es b o cap X hu hl ht hc hz hf hx hr ih => exact fun _ => .lst ow z es b o cap X hu hl ht (hcov hc) hz hf hx (fun i e j v hi hj => ih i e j v hi hj (hf i e j v hi hj))
  | emp z a => exact fun _ => .emp z a
  | agg cs xs hl hr ih => exact fun h => .agg cs xs hl (fun j v x hv hx => ih j v x hv hx (refFreeL_mem h _ (List.mem_of_getElem? hv)))
  | tup cs xs hl hr ih => intro h; cases h
  | fn f ds cs xs ys hl hm hr hs ih1 ih2 =>
    intro h
    simp only [refFree, Bool.and_eq_true] at h
    exact .fn f ds cs xs ys hl hm (fun j v x hv hx => ih1 j v x hv hx (refFreeL_mem h.1 _ (List.mem_of_getElem? hv))) (fun j v x hv hx => ih2 j v x hv hx (refFreeL_mem h.2 _ (List.mem_of_getElem? hv)))
  | ifc t v x hr ih => exact fun h => .ifc t v x (ih h)
  | lenv n a cap => exact fun _ => .lenv n a cap
  | anyi k n => exact fun _ => .anyi k n
theorem RelV.noRef {G' : Gh} (hk : ∀ b, G'.k b = G.k b) {v : AV} {y : Value} (h : RelV G w v y) (hf : refFree v = true) : RelV G' w v y :=
  h.noRef2 (fun b _ h => by rw [hk, h]) (fun b f _ h => ⟨f, Nat.le_refl _, by rw [hk, h]⟩) hf
theorem solid_of_plain {v : AV} (h : (cellsOf v).all plain1 = true) : solid v = true := by
  cases v <;> simp_all [solid, cellsOf]
theorem Ext.setB {G G' : Gh} {w w' : World} {b : Nat} {cs cs' : Array Value} {T : TypeId} {fz : Nat × Nat} (hB : SetB w w' b (.cells cs' T fz)) (h0 : w.heap[b]? = some (.cells cs T fz)) (hs : cs'.size = cs.size) (hk : ∀ c, G'.k c = G.k c) (hkb : G.k b = .mb)
    (hm : ∀ r x, G.m r = some x → G'.m r = some x) (A : Nat → Prop) : Ext A G w G' w' where
  os := hB.os
  tape := hB.tape
  output := hB.output
  size := by rw [hB.size]; exact Nat.le_refl _
  st := fun c _ h => ⟨by rw [hk, h], hB.old c (fun e => by rw [e, hkb] at h; cases h)⟩
  gr := fun c f _ h => ⟨f, Nat.le_refl _, by rw [hk, h], fun i _ => cell_of_heap (hB.old c (fun e => by rw [e, hkb] at h; cases h)) i⟩
  keep := fun c _ _ h _ => ⟨hk c, hB.old c (fun e => h (by rw [e, hkb]))⟩
  mm := hm
  mb := fun c _ h => ⟨by rw [hk, h], fun ds S f hh => by
    by_cases e : c = b
    · subst e
      rw [h0] at hh
      injection hh with hh
      injection hh with h1 h2 h3
      subst h1 h2 h3
      exact ⟨cs', hB.new, hs⟩
    · exact ⟨ds, by rw [hB.old c e, hh], rfl⟩⟩
def argOwn (G : Gh) : XArg → Option Nat
  | .tmp s => G.o (.slot s)
  | _ => none
theorem next_store {a y : XArg} {n : Nat} {T : TypeId} {a' c' : Operand} {i : TypeInfo} {hp' : Heap} {K : Act → World → Prop} {Q : Exit → Act → World → Prop} (hx : x.op = .store a y n) (hxd : x.dst = o.dst) (hv : Valid G w N) (hN : hp.length = N)
    (ho : o.op = .store T a' c') (ha : argOk a a' = true) (hc : argOk y c' = true) (hi : P.info? T = some i) (hin : i.size = n) (hs : ∀ t ∈ ats [a, y], RelS G w fr act t)
    (hh : ∀ r, footR fr x.op r → ∀ b base blk, G.m r = some (b, base) → hget hp r = some blk → RelBlk G w r b base blk)
    (hd : ∀ d, x.dst = some d → d < act.tmps.size) (hlen : (cellsOf (rawArg fr y)).length = n) (hpl : (cellsOf (rawArg fr y)).all plain1 = true) (he : stAt hp (earg fr a) (cellsOf (rawArg fr y)) = some hp')
    (hK : ∀ G' act' w', Next x fr hp G act w N (finX x (drop1 fr y) .undef) hp' G' act' w' → K act' w') : o.wp P act w K Q := by
  have hs2 := ats2 hs
  have h1 := arg_rel (w := w) (G := G) (fr := fr) (act := act) ha (fun t ht => hs2 t (by simp [ht]))
  have h2 := raw_rel (w := w) (G := G) (fr := fr) (act := act) hc (fun t ht => hs2 t (by simp [ht]))
  have hcs := cellsOf_rel (solid_of_plain hpl) h2
  generalize hvs : cellsOf (rawArg fr y) = vs at *
  unfold stAt at he
  split at he
  · rename_i r off hae
    rw [hae] at h1
    obtain ⟨b, base, h3, hm⟩ := ptr_form h1
    split at he
    · rename_i ds hds
      split at he
      · rename_i hcond
        obtain ⟨hfit, hlev⟩ := hcond
        injection he with he
        subst he
        have hget0 : hget hp r = some (.cells ds) := by
          unfold cellsAt at hds
          split at hds
          · rename_i vs' hb; injection hds with hds; subst hds; exact hb
          · cases hds
        have hfoot : footR fr x.op r := by rw [hx]; simp [footR, hae, ptrOf]
        obtain ⟨cs, TT, h4, h5, h6⟩ := hh r hfoot b base _ hm hget0
        have hone : ∀ z ∈ (act.eval c').cells.toList, z.oneCell' = true := by
          intro z hz
          obtain ⟨j, hj, rfl⟩ := List.getElem_of_mem hz
          have hjv : j < vs.length := by rw [hcs.1]; simpa using hj
          have e1 : vs[j]? = some vs[j] := by simp [hjv]
          have e2 : (act.eval c').cells[j]? = some ((act.eval c').cells.toList[j]) := by simp
          have hp1 : plain1 vs[j] = true := List.all_eq_true.1 hpl _ (List.getElem_mem hjv)
          exact (plain1_one hp1 (hcs.2 j _ _ e1 e2)).1
        have hszv : (act.eval c').cells.toList.length = vs.length := by rw [Array.length_toList]; exact hcs.1.symm
        obtain ⟨w', cs', h7, h8, h9, h10⟩ := run_storeCells (P := P) (b := b) (q := base + off) (act.eval c').cells.toList 0 w cs h4 (by rw [hszv]; omega) hone (by intro j _ _ hj; exact Nat.not_lt_zero _ hj.2)
        have hrun : (execOp act.eval o).run P w = .ok .skip w' := by
          have hsz : (act.eval c').cells.size = i.size := by rw [← Array.length_toList, hszv, hlen, hin]
          simp only [execOp, ho, h3, Instr.storeAt, Instr.sureAddr, storeVar, Sem.run_bind, Sem.run_pure, Result.andThen_ok, run_sizeOf' hi, hsz]
          simp [h7]
        unfold Oper.wp
        rw [hrun]
        show K (act.put o.dst undef) w'
        rw [← hxd]
        have hmb := (hv.mkk _ _ hm).1
        let f : Loc → Option Nat := fun l => match l with
          | .cell q j => if q = r ∧ off ≤ j ∧ j < off + vs.length then (if j = off then argOwn G y else none) else G.o l
          | .slot t => if t ∈ ats [y] ∨ x.dst = some t then none else G.o l
          | .res => G.o l
        have hft : ∀ t, f (.slot t) = if t ∈ ats [y] ∨ x.dst = some t then none else G.o (.slot t) := fun _ => rfl
        have hfc : ∀ q j, f (.cell q j) = if q = r ∧ off ≤ j ∧ j < off + vs.length then (if j = off then argOwn G y else none) else G.o (.cell q j) := fun _ _ => rfl
        have hf : ∀ l c, f l = some c → ∃ l', G.o l' = some c ∧ ((l' = l ∧ (∀ t, l = .slot t → ¬ (t ∈ ats [y] ∨ x.dst = some t)) ∧ (∀ q j, l = .cell q j → ¬ (q = r ∧ off ≤ j ∧ j < off + vs.length))) ∨
            (l = .cell r off ∧ ∃ s, y = .tmp s ∧ l' = .slot s)) := by
          intro l c h
          cases l with
          | slot t =>
            rw [hft] at h
            split at h
            · cases h
            · rename_i h0
              exact ⟨_, h, .inl ⟨rfl, fun u hu => (by injection hu with hu; rw [← hu]; exact h0), fun q j hq => by cases hq⟩⟩
          | cell q j =>
            rw [hfc] at h
            split at h
            · rename_i h0
              split at h
              · rename_i hj
                cases y with
                | tmp s => exact ⟨_, h, .inr ⟨by rw [h0.1, hj], s, rfl, rfl⟩⟩
                | cst _ => cases h
                | glob _ => cases h
              · cases h
            · rename_i h0
              exact ⟨_, h, .inl ⟨rfl, fun u hu => (by cases hu), fun q' j' hq => (by injection hq with e1 e2; rw [← e1, ← e2]; exact h0)⟩⟩
          | res => exact ⟨_, h, .inl ⟨rfl, fun u hu => (by cases hu), fun q j hq => by cases hq⟩⟩
        have hwr : ∀ t, t ∈ x.wr ↔ x.dst = some t ∨ t ∈ ats [y] := by
          intro t
          cases h : x.dst <;> simp [XO.wr, hx, mvs, h, eq_comm]
        have h3c : cls x.op = 3 := by rw [hx]; rfl
        have htouch : ∀ l, Touch x fr l ↔ (∃ t, (x.dst = some t ∨ t ∈ ats [y]) ∧ l = .slot t) ∨ ∃ j, l = .cell r j := by
          intro l
          constructor
          · rintro (⟨t, h, rfl⟩ | ⟨_, q, j, hq, rfl⟩)
            · exact .inl ⟨t, (hwr t).1 h, rfl⟩
            · rw [hx] at hq
              simp only [footR, hae, ptrOf, Option.some.injEq] at hq
              exact .inr ⟨j, by rw [hq]⟩
          · rintro (⟨t, h, rfl⟩ | ⟨j, rfl⟩)
            · exact .inl ⟨t, (hwr t).2 h, rfl⟩
            · exact .inr ⟨h3c, r, j, hfoot, rfl⟩
        have hv1 : Valid { G with o := f } w N := by
          refine ⟨hv.lev, hv.inj, hv.mkk, ?_, ?_⟩
          · intro l l' c e1 e2
            obtain ⟨l1, g1, g2⟩ := hf l c e1
            obtain ⟨l2, g3, g4⟩ := hf l' c e2
            have := hv.oinj _ _ c g1 g3
            subst this
            rcases g2 with ⟨rfl, g5, g6⟩ | ⟨rfl, s, g5, rfl⟩ <;> rcases g4 with ⟨g7, g8, g9⟩ | ⟨rfl, u, g7, g8⟩
            · exact g7
            · exact absurd (.inl (by rw [g7]; simp [ats])) (g5 u g8)
            · exact absurd (.inl (by rw [g5]; simp [ats])) (g8 s g7.symm)
            · rfl
          · intro l c e1
            obtain ⟨l1, g1, _⟩ := hf l c e1
            exact hv.ok _ _ g1
        have hext0 : ∀ A, Ext A G w { G with o := f } w' := fun A => Ext.setB (G := G) (G' := { G with o := f }) h8 h4 h9 (fun _ => rfl) hmb (fun _ _ h => h) A
        have hext1 : Ext (fun _ => False) { G with o := f } w { G with o := f } w' := Ext.setB (G := { G with o := f }) (G' := { G with o := f }) h8 h4 h9 (fun _ => rfl) hmb (fun _ _ h => h) _
        have hv2 : Valid { G with o := f } w' N := ⟨hv1.lev, hv1.inj, fun q z h => ⟨(hv1.mkk q z h).1, by rw [h8.size]; exact (hv1.mkk q z h).2⟩, hv1.oinj, fun l c h => ⟨by rw [h8.size]; exact (hv1.ok l c h).1, (hv1.ok l c h).2⟩⟩
        refine hK { G with o := f } _ _ ⟨hext0 _, hv2, put_size .., put_defers .., fun t h => put_ne _ _ _ _ h, ?_, ?_, ?_, fun _ => rfl, fun q e1 e2 => absurd e1 e2, fun r b base h1 h2 => (by rw [show G.m r = some (b, base) from h2] at h1; cases h1), ?_, ?_⟩
        · intro t h
          by_cases hdt : x.dst = some t
          · unfold RelS
            rw [show fget (finX x (drop1 fr y) .undef) t = .undef by simp [finX, hdt, fget_fput], hdt]
            exact ⟨.undef _, .of_noFlag trivial⟩
          · have hty := ((hwr t).1 h).resolve_left hdt
            cases y with
            | cst _ => simp [ats] at hty
            | glob _ => simp [ats] at hty
            | tmp s =>
              simp [ats] at hty
              subst hty
              have e1 : fget (finX x (drop1 fr (.tmp t)) .undef) t = fget (drop1 fr (.tmp t)) t := by
                simp only [finX]
                split
                · rename_i d hd'; rw [fget_fput, if_neg (fun e => hdt (by rw [hd', e]))]
                · rfl
              unfold RelS
              rw [e1, put_ne _ _ _ _ hdt]
              exact drop1_rel (hs2 t (by simp [argTmp])).1 (fun h => absurd rfl h) (fun _ h => h.ext hv (hext0 (fun _ => False)))
        · intro l h
          show f l = _
          cases l with
          | slot t => rw [hft, if_neg (fun e => h ((htouch _).2 (.inl ⟨t, e.symm, rfl⟩)))]
          | cell q j => rw [hfc, if_neg (fun e => h ((htouch _).2 (.inr ⟨j, by rw [e.1]⟩)))]
          | res => rfl
        · intro l c h e
          obtain ⟨l1, g1, g2⟩ := hf l c e
          refine .inl ⟨l1, ?_, g1⟩
          rcases g2 with ⟨rfl, _, _⟩ | ⟨rfl, s, rfl, rfl⟩
          · exact h
          · exact (htouch _).2 (.inl ⟨s, .inr (by simp [ats]), rfl⟩)
        · intro q b2 base2 hq hnf
          refine h8.old b2 (fun e => hnf ⟨h3c, ?_⟩)
          have := hv.inj q r _ _ hq hm e
          rw [this]
          exact hfoot
        · intro _ q b2 base2 blk hq hm2 hg2
          have hqr : q = r := by
            rw [hx] at hq
            simp only [footR, hae, ptrOf, Option.some.injEq] at hq
            exact hq.symm
          subst hqr
          have hbb : (b2, base2) = (b, base) := Option.some.inj (hm2.symm.trans hm)
          injection hbb with e1 e2
          subst e1 e2
          rw [hget_hput hget0, if_pos rfl] at hg2
          injection hg2 with hg2
          subst hg2
          refine ⟨cs', TT, h8.new, by rw [h9, splice_length]; exact h5, fun j u z hu hz => ?_⟩
          rw [splice_get _ _ _ _ hfit] at hu
          rw [h10, hszv] at hz
          by_cases hj : off ≤ j ∧ j < off + vs.length
          · rw [if_pos hj] at hu
            rw [if_pos (by omega), show base2 + j - (base2 + off + 0) = j - off by omega, Array.getElem?_toList] at hz
            have hr0 : RelV G w u z := hcs.2 _ u z hu hz
            have hr1 : RelV (Gh.below { G with o := f } (q.lev + 1)) w u z := by
              rcases hlev with hl | hl
              · exact RelV.to_below (n := q.lev + 1) (fun p e hp => by rw [hl, hN]; exact hv1.lev p e hp) hr0.withO
              · exact RelV.noRef (G := G) (G' := Gh.below { G with o := f } (q.lev + 1)) (fun _ => rfl) hr0 (refFreeL_mem hl _ (List.mem_of_getElem? hu))
            refine ⟨hr1.ext hv1.below hext1.below, ?_⟩
            have hown : OwnOk { G with o := f } w (.cell q j) u z := by
              by_cases hnf : noFlag u
              · exact .of_noFlag hnf
              · have hone2 : vs = [rawArg fr y] ∧ ¬ noFlag (rawArg fr y) := by
                  rw [← hvs] at hu
                  cases hy : rawArg fr y with
                  | agg us =>
                    rw [hy] at hu
                    simp only [cellsOf, List.getElem?_map, Option.map_eq_some_iff] at hu
                    obtain ⟨u', _, rfl⟩ := hu
                    exact absurd (noFlag_uf _) hnf
                  | _ =>
                    rw [hy] at hu
                    simp only [cellsOf] at hu
                    have e0 : j - off = 0 := by
                      rcases Nat.eq_zero_or_pos (j - off) with e | e
                      · exact e
                      · rw [List.getElem?_eq_none (by simp; omega)] at hu; cases hu
                    rw [e0] at hu
                    simp at hu
                    subst hu
                    exact ⟨by rw [← hvs, hy]; rfl, hnf⟩
                obtain ⟨hone3, hnf3⟩ := hone2
                have hlen1 : vs.length = 1 := by rw [hone3]; rfl
                have hjo : j = off := by omega
                cases y with
                | cst c =>
                  refine absurd ?_ hnf3
                  have := earg_noFlag (fr := fr) hc
                  exact this
                | glob g => exact absurd trivial hnf3
                | tmp s =>
                  have hss := hs2 s (by simp [argTmp])
                  have e1 : u = fget fr s := by
                    rw [hone3, hjo] at hu
                    simp [rawArg] at hu
                    exact hu.symm
                  have e2 : z = act.tmps.getD s undef := by
                    cases c' <;> simp [argOk] at hc
                    subst hc
                    have h1c : (act.eval (.tmp s)).cells = #[act.tmps.getD s undef] := by
                      have hpl1 : plain1 (fget fr s) = true := by
                        rw [hone3] at hpl
                        simpa [rawArg] using hpl
                      exact (plain1_one hpl1 hss.1).2
                    rw [h1c, hjo] at hz
                    simp at hz
                    rw [← hz]; simp
                  rw [e1, e2]
                  refine hss.2.withO ?_
                  rw [hfc, if_pos ⟨rfl, hj⟩, if_pos hjo]
                  rfl
            exact hown.ext hv1 hext1 rfl (fun _ _ h => h)
          · rw [if_neg hj] at hu
            rw [if_neg (by omega)] at hz
            obtain ⟨g1, g2⟩ := h6 j u z hu hz
            have g3 : RelV (Gh.below { G with o := f } (q.lev + 1)) w u z := g1.withO (f := f)
            refine ⟨g3.ext hv1.below hext1.below, ?_⟩
            have g4 : OwnOk { G with o := f } w (.cell q j) u z := g2.withO (by rw [hfc, if_neg (fun e => hj e.2)])
            exact g4.ext hv1 hext1 rfl (fun _ _ h => h)
      · cases he
    · cases he
  · cases he
end
end Go.Proofs.YtjbgceogkgpjpaaGreatDoor.Sx
namespace Go.Proofs.YtjbgceogkgpjpaaGreatDoor.Sx
open Go Go.RowKit
def CallOk (P : Program) (gl : Nat → List AV) (C : CallT) : Prop :=
  ∀ (f : Nat) (args : List AV) (hp : Heap) (v : AV) (hp' : Heap), C f args hp = some (v, hp') → ∀ (G : Gh) (w : World) (xs : Array Value), Valid G w hp.length → args.length = xs.size →
    (∀ (j : Nat) (u : AV) (z : Value), args[j]? = some u → xs[j]? = some z → RelV G w u z ∧ OwnOk G w (.slot j) u z) → RelHeap G w hp → GlOk G w gl →
    bodied P f = true ∧ Calls P f xs w fun e w' => ∃ z G', e = .returned z ∧ Ext (fun b => ∃ l, G.o l = some b) G w G' w' ∧ Valid G' w' hp.length ∧ RelV G' w' v z ∧ OwnOk G' w' .res v z ∧ RelHeap G' w' hp' ∧ G'.m = G.m ∧
      (∀ l b, G'.o l = some b → (∃ l', G.o l' = some b) ∨ w.heap.size ≤ b)
def PrimAns (P : Program) (f : Nat) (xs : Array Value) (v : AV) (G : Gh) (w : World) : Prop :=
  (∃ z, (callFunc f xs).run P w = .ok (.value z) w ∧ RelV G w v z ∧ noFlag v) ∨
  (bodied P f = true ∧ Calls P f xs w fun e w' => ∃ z, e = .returned z ∧ Below w.heap.size w w' ∧ (∀ G' : Gh, (∀ b, w.heap.size ≤ b → b < w'.heap.size → G'.k b = .st) → RelV G' w' v z) ∧ noFlag v)
def PrimMAns (P : Program) (f : Nat) (n : Nat) (es' : List (List AV)) (w : World) (b o cap : Nat) (cs : Array Value) (T : TypeId) : Prop :=
  bodied P f = true ∧ Calls P f #[.slice (some ⟨b, o, none⟩) n cap] w fun e w' => e = .returned (.slice (some ⟨b, o, none⟩) es'.length cap) ∧ es'.length ≤ cap ∧ w'.os = w.os ∧ w'.tape = w.tape ∧ w'.output = w.output ∧ w.heap.size ≤ w'.heap.size ∧
    (∀ c, c < w.heap.size → c ≠ b → w'.heap[c]? = w.heap[c]?) ∧ ∃ cs', w'.heap[b]? = some (.cells cs' T (0, 0)) ∧ cs'.size = cs.size ∧
    ∀ (i : Nat) (e : List AV), es'[i]? = some e → ∃ x : ByteArray, e = [.str x.data.toList] ∧ cs'[o + i]? = some (.string x)
def PrimMOne (P : Program) (f id : Nat) : Prop :=
  (∀ es es', primM id es = some es' → bodied P f = true ∧ (∀ w, Calls P f #[.slice none 0 0] w fun e w' => e = .returned (.slice none 0 0) ∧ w' = w) ∧
    ∀ (w : World) (b o cap : Nat) (cs : Array Value) (T : TypeId), w.heap[b]? = some (.cells cs T (0, 0)) → es.length ≤ cap → o + cap ≤ cs.size →
      (∀ (i : Nat) (e : List AV), es[i]? = some e → ∃ x : ByteArray, e = [.str x.data.toList] ∧ cs[o + i]? = some (.string x)) → PrimMAns P f es.length es' w b o cap cs T)
def PrimOk (P : Program) (gl : Nat → List AV) (prims : List (Nat × Nat)) : Prop :=
  (∀ p ∈ prims, ∀ (as : List AV) (v : AV), primX p.2 as = some v → ∀ (G : Gh) (w : World) (xs : Array Value), GlOk G w gl → as.length = xs.size → (∀ (j : Nat) (u : AV) (z : Value), as[j]? = some u → xs[j]? = some z → RelV G w u z) →
    PrimAns P p.1 xs v G w) ∧ ∀ p ∈ prims, PrimMOne P p.1 p.2
section
variable {P : Program} {G : Gh} {w : World} {N : Nat} {x : XO} {fr : List AV} {hp : Heap} {act : Act} {o : Oper} {K : Act → World → Prop} {Q : Exit → Act → World → Prop}
theorem run_call {g : Nat} {bs : List Operand} (h : callFn o.op = some (g, bs)) : (execOp act.eval o).run P w = (callFunc g (bs.map act.eval).toArray).run P w := by
  cases ho : o.op <;> rw [ho] at h <;> simp only [callFn] at h <;> (try (cases h; done))
  rename_i c
  split at h
  · rename_i g' hg
    injection h with h
    injection h with h1 h2
    subst h1 h2
    rw [show (c.args.toList.map act.eval).toArray = c.args.map act.eval by rw [← Array.toList_map]]
    simp [execOp, ho, resolve, hg, Deferred.ofValue, Act.eval, invoke]
  · cases h
theorem run_enter {g : Nat} {xs : Array Value} (h : bodied P g = true) : (callFunc g xs).run P w = .ok (.enter g xs) w := by
  unfold bodied at h
  split at h
  · rename_i fn hf
    simp only [Bool.and_eq_true, Option.isSome_iff_exists, Bool.not_eq_true', beq_eq_false_iff_ne, ne_eq] at h
    obtain ⟨⟨c, h1⟩, h2⟩ := h
    simp [callFunc, hf, h1, h2]
  · cases h
theorem eargs_noFlag : ∀ {as : List XArg} {bs : List Operand}, argsOk as bs = true → ∀ v ∈ eargs fr as, noFlag v
  | [], [], _, v, hv => by simp [eargs] at hv
  | [], _ :: _, h, _, _ => by simp [argsOk] at h
  | _ :: _, [], h, _, _ => by simp [argsOk] at h
  | a :: as, b :: bs, h, v, hv => by
    simp only [argsOk, Bool.and_eq_true] at h
    simp only [eargs, List.mem_cons] at hv
    rcases hv with rfl | hv
    · exact earg_noFlag h.1
    · exact eargs_noFlag h.2 v hv
theorem OwnOk.mapG {G G' : Gh} {l l' : Loc} {v : AV} {y : Value} (hs : ∀ b, b < w.heap.size → G.k b = .st → G'.k b = .st)
    (hg : ∀ b f, b < w.heap.size → G.k b = .gr f → ∃ f', f ≤ f' ∧ G'.k b = .gr f') (hl : ∀ b, G.o l = some b → G'.o l' = some b ∧ G'.k b = G.k b) (h : OwnOk G w l v y) : OwnOk G' w l' v y := by
  unfold OwnOk at *
  split
  · rename_i ow z es
    cases ow with
    | none => trivial
    | tight => trivial
    | own =>
      obtain ⟨b, o, cap, hx, hcap, hob, hc, h4, h5⟩ := h
      exact ⟨b, o, cap, hx, hcap, (hl b hob).1, hc, (fun _ => by rw [(hl b hob).2, h4 rfl]), (fun h => by cases h)⟩
    | uniq =>
      obtain ⟨z', es', x', hvv, b, o, cap, hx, hcap, hob, hc, h4, h5⟩ := h
      obtain ⟨h6, hz0, X, hz, hX⟩ := h5 rfl
      refine ⟨z', es', x', hvv.map (fun v y hf hr => hr.noRef2 hs hg hf), b, o, cap, hx, hcap, (hl b hob).1, hc, (fun h => by cases h), fun _ => ⟨by rw [(hl b hob).2, h6], hz0, X, hz, fun i e j u hi hj => ?_⟩⟩
      obtain ⟨h8, h9, h10⟩ := hX i e j u hi hj
      exact ⟨h8, h9, h10.noRef2 hs hg h8⟩
  · trivial
def away (G : Gh) : Gh where
  m := fun _ => none
  k := fun b => if G.k b = .mb then .al else G.k b
  o := fun _ => none
theorem away_valid : Valid (away G) w 0 := ⟨fun _ _ h => (by cases h), fun _ _ _ _ h => (by cases h), fun _ _ h => (by cases h), fun _ _ _ h => (by cases h), fun _ _ h => (by cases h)⟩
theorem away_st {b : Nat} (h : G.k b = .st) : (away G).k b = .st := by simp [away, h]
theorem away_gr {b f : Nat} (h : G.k b = .gr f) : (away G).k b = .gr f := by simp [away, h]
theorem away_rel {v : AV} {y : Value} (h : RelV G w v y) (hf : refFree v = true) : RelV (away G) w v y :=
  h.noRef2 (fun _ _ h => away_st h) (fun _ f _ h => ⟨f, Nat.le_refl _, away_gr h⟩) hf
theorem away_gl {gl : Nat → List AV} (h : GlOk G w gl) : GlOk (away G) w gl := by
  intro g
  rcases h g with h | ⟨h1, h2, h3, h4, h9⟩
  · exact .inl h
  · refine .inr ⟨h1, away_st h2, h3, fun j v hj => ?_, h9⟩
    obtain ⟨x, h5, h6⟩ := h4 j v hj
    exact ⟨x, h5, away_rel h6 (refFreeL_mem h3 _ (List.mem_of_getElem? hj))⟩
theorem next_newblk {k : BK} {own : Bool} {w' : World} {fr1 : List AV} {v : AV} {y : Value} (hv : Valid G w N) (h2 : cls x.op ≠ 2) (h3 : cls x.op ≠ 3) (hos : w'.os = w.os) (ht : w'.tape = w.tape) (hout : w'.output = w.output)
    (hsz : w'.heap.size = w.heap.size + 1) (hold : ∀ b, b < w.heap.size → w'.heap[b]? = w.heap[b]?) (hkm : k ≠ .mb) (hko : own = true → (∃ f, k = .gr f) ∨ k = .un)
    (hd : ∀ d, x.dst = some d → d < act.tmps.size)
    (hfr : ∀ t ∈ mvs x.op, RelV G w (fget fr1 t) (act.tmps.getD t undef) ∧ noFlag (fget fr1 t))
    (hrel : ∀ G' : Gh, G'.m = G.m → (∀ b, b < w.heap.size → G'.k b = G.k b) → G'.k w.heap.size = k → (own = true → ∀ d, x.dst = some d → G'.o (.slot d) = some w.heap.size) →
      Ext (fun _ => False) G w { G' with o := G.o } w' → RelV G' w' v y ∧ (if own then ∀ d, x.dst = some d → OwnOk G' w' (.slot d) v y else noFlag v)) :
    ∃ G', Next x fr hp G act w N (finX x fr1 v) hp G' (act.put x.dst y) w' := by
  let f : Loc → Option Nat := fun l => if ∃ t, x.dst = some t ∧ l = .slot t then (if own then some w.heap.size else none) else if ∃ t, t ∈ mvs x.op ∧ l = .slot t then none else G.o l
  have hf : ∀ l b, f l = some b → ((∃ t, x.dst = some t ∧ l = .slot t) ∧ own = true ∧ b = w.heap.size) ∨ (G.o l = some b ∧ ¬ (∃ t, x.dst = some t ∧ l = .slot t)) := by
    intro l b h
    simp only [f] at h
    split at h
    · rename_i h1
      split at h
      · injection h with h; exact .inl ⟨h1, by assumption, h.symm⟩
      · cases h
    · rename_i h1
      split at h
      · cases h
      · exact .inr ⟨h, h1⟩
  have hwr : ∀ t, t ∈ x.wr ↔ x.dst = some t ∨ t ∈ mvs x.op := by
    intro t
    cases h : x.dst <;> simp [XO.wr, h, eq_comm]
  have htouch : ∀ l, Touch x fr l ↔ ∃ t, (x.dst = some t ∨ t ∈ mvs x.op) ∧ l = .slot t := by
    intro l
    constructor
    · rintro (⟨t, h, rfl⟩ | ⟨h, _⟩)
      · exact ⟨t, (hwr t).1 h, rfl⟩
      · exact absurd h h3
    · rintro ⟨t, h, rfl⟩
      exact .inl ⟨t, (hwr t).2 h, rfl⟩
  let G' : Gh := { m := G.m, k := upd G.k w.heap.size k, o := f }
  have hk1 : ∀ b, b < w.heap.size → G'.k b = G.k b := fun b hb => by simp only [G', upd]; rw [if_neg (by omega)]
  have hk2 : G'.k w.heap.size = k := by simp [G', upd]
  have hE : ∀ A, Ext A G w G' w' := fun A => .of_same hos ht hout (by omega) hold hk1 (fun _ _ h => h)
  have hE0 : Ext (fun _ => False) G w { G' with o := G.o } w' := .of_same hos ht hout (by omega) hold hk1 (fun _ _ h => h)
  obtain ⟨hR, hO⟩ := hrel G' rfl hk1 hk2 (fun ho d hd' => by simp only [G', f]; rw [if_pos ⟨d, hd', rfl⟩, if_pos ho]) hE0
  refine ⟨G', hE _, ⟨hv.lev, hv.inj, fun r a h => ⟨by rw [hk1 _ (hv.mkk r a h).2]; exact (hv.mkk r a h).1, by have := (hv.mkk r a h).2; omega⟩, ?_, ?_⟩, put_size .., put_defers .., fun t h => put_ne _ _ _ _ h, ?_, ?_, ?_, fun _ => rfl, fun r h1 h2 => absurd h1 h2,
    fun r b base h1 h2 => (by rw [show G.m r = some (b, base) from h2] at h1; cases h1), fun r b base h _ => hold b (hv.mkk _ _ h).2, fun h => absurd h h3⟩
  · intro l l' b h1 h2
    rcases hf l b h1 with ⟨⟨t, h4, rfl⟩, _, rfl⟩ | ⟨h4, h5⟩ <;> rcases hf l' _ h2 with ⟨⟨u, h6, rfl⟩, _, h7⟩ | ⟨h6, h7⟩
    · rw [h4] at h6; injection h6 with h6; rw [h6]
    · have := (hv.ok _ _ h6).1; omega
    · have := (hv.ok _ _ h4).1; omega
    · exact hv.oinj _ _ b h4 h6
  · intro l b h1
    rcases hf l b h1 with ⟨_, ho, rfl⟩ | ⟨h4, _⟩
    · exact ⟨by omega, by rw [hk2]; exact hko ho⟩
    · have := hv.ok _ _ h4
      exact ⟨by omega, by rw [hk1 b this.1]; exact this.2⟩
  · intro t h
    unfold RelS
    by_cases hdt : x.dst = some t
    · rw [show fget (finX x fr1 v) t = v by simp [finX, hdt, fget_fput], hdt, put_eq _ _ _ (hd t hdt)]
      refine ⟨hR, ?_⟩
      split at hO
      · exact hO t hdt
      · exact .of_noFlag hO
    · have hm := ((hwr t).1 h).resolve_left hdt
      have e1 : fget (finX x fr1 v) t = fget fr1 t := by
        simp only [finX]
        split
        · rename_i d hd'; rw [fget_fput, if_neg (fun e => hdt (by rw [hd', e]))]
        · rfl
      rw [e1, put_ne _ _ _ _ hdt]
      exact ⟨(hfr t hm).1.ext hv (hE fun _ => False), .of_noFlag (hfr t hm).2⟩
  · intro l h
    show f l = _
    simp only [f]
    rw [if_neg (fun ⟨t, h1, h2⟩ => h ((htouch l).2 ⟨t, .inl h1, h2⟩)), if_neg (fun ⟨t, h1, h2⟩ => h ((htouch l).2 ⟨t, .inr h1, h2⟩))]
  · intro l b h h1
    rcases hf l b h1 with ⟨_, _, rfl⟩ | ⟨h4, _⟩
    · exact .inr (Nat.le_refl _)
    · exact .inl ⟨l, h, h4⟩
def laidSt (G : Gh) (n : Nat) : Gh := { G with k := fun b => if b < n then G.k b else .st }
theorem Ext.of_below {A : Nat → Prop} {G' : Gh} {w' : World} (hB : Below w.heap.size w w') (hk : ∀ b, b < w.heap.size → G'.k b = G.k b) (hm : ∀ r x, G.m r = some x → G'.m r = some x) : Ext A G w G' w' where
  os := hB.os
  tape := hB.tape
  output := hB.output
  size := hB.size
  st := fun b hb h => ⟨(hk b hb).trans h, hB.block b hb⟩
  gr := fun b f hb h => ⟨f, Nat.le_refl _, (hk b hb).trans h, fun i hi => cell_of_heap (hB.block b hb) i⟩
  keep := fun b hb _ _ _ => ⟨hk b hb, hB.block b hb⟩
  mm := hm
  mb := fun b hb h => ⟨(hk b hb).trans h, fun cs T fz e => ⟨cs, (hB.block b hb).trans e, rfl⟩⟩
theorem lstR_free {x : AV} {es : List (List AV)} (h : lstR x = some es) : refFree x = true := by
  unfold lstR at h
  split at h <;> first | rfl | (cases h; done) | skip
  all_goals simp [refFree]
theorem primX_free {id : Nat} {vs : List AV} {v : AV} (h : primX id vs = some v) : refFreeL vs = true := by
  unfold primX at h
  split at h <;> first | rfl | (cases h; done) | skip
  · rename_i x t
    cases hl : lstR x with
    | none => rw [hl] at h; cases h
    | some es => simp [refFreeL, lstR_free hl, refFree]
  unfold primY at h
  split at h
  · cases h
  · split at h
    · unfold primZ at h
      split at h <;> first | rfl | (cases h; done)
    · unfold primN at h
      split at h <;> first | rfl | (cases h; done)
def primC (id f : Nat) : CallT := fun g us _ => if g = f then (match primX id us with | some v => some (v, []) | none => none) else none
theorem prim_call {prims : List (Nat × Nat)} {gl : Nat → List AV} {id f : Nat} (hP : PrimOk P gl prims) (hm : (f, id) ∈ prims) (hb : bodied P f = true) : CallOk P gl (primC id f) := by
  intro g us h v' h' hc G w xs hV hl hr hH hG
  unfold primC at hc
  split at hc
  · rename_i e
    subst e
    split at hc
    · rename_i v hu
      cases hc
      rcases hP.1 (g, id) hm _ _ hu G w xs hG hl (fun j u z a b => (hr j u z a b).1) with ⟨z, h5, _⟩ | ⟨_, hC⟩
      · rw [run_enter hb] at h5; cases h5
      · refine ⟨hb, Calls.mono hC ?_⟩
        rintro e w' ⟨z, rfl, hB, hR, hN⟩
        have e1 : ∀ b, b < w.heap.size → (laidSt G w.heap.size).k b = G.k b := fun b hb => if_pos hb
        refine ⟨z, laidSt G w.heap.size, rfl, .of_below hB e1 (fun _ _ h => h), ⟨hV.lev, hV.inj, fun r x h => ⟨by rw [e1 _ (hV.mkk r x h).2]; exact (hV.mkk r x h).1, Nat.lt_of_lt_of_le (hV.mkk r x h).2 hB.size⟩, hV.oinj, fun l b h => ⟨Nat.lt_of_lt_of_le (hV.ok l b h).1 hB.size, by rw [e1 _ (hV.ok l b h).1]; exact (hV.ok l b h).2⟩⟩, hR _ (fun b h1 _ => if_neg (by omega)), .of_noFlag hN, (fun r b base blk _ h => by cases h), rfl, fun l b h => .inl ⟨l, h⟩⟩
    · cases hc
  · cases hc
theorem primC_eq {id f : Nat} {us : List AV} {v : AV} (h : primX id us = some v) : primC id f f us [] = some (v, []) := by simp [primC, h]
theorem next_callq {C : CallT} {gl : Nat → List AV} {f : Nat} {zs : List Value} {v : AV} {hq : Heap} (hC : CallOk P gl C) (h2 : cls x.op ≠ 2) (h3 : cls x.op ≠ 3) (hm : mvs x.op = []) (hxd : x.dst = o.dst)
    (hv : Valid G w N) (hrun : (execOp act.eval o).run P w = (callFunc f zs.toArray).run P w)
    {vs : List AV} (hlen : vs.length = zs.length) (hrel : ∀ (j : Nat) (u : AV) (z : Value), vs[j]? = some u → zs[j]? = some z → RelV G w u z) (hnf : ∀ u ∈ vs, noFlag u) (hfree : refFreeL vs = true)
    (hgl : GlOk G w gl) (hc : C f vs [] = some (v, hq)) (hd : ∀ d, x.dst = some d → d < act.tmps.size)
    (hK : ∀ G' act' w', Next x fr hp G act w N (finX x fr v) hp G' act' w' → K act' w') : o.wp P act w K Q := by
  obtain ⟨hb, hcalls⟩ := hC f vs [] v hq hc (away G) w zs.toArray away_valid (by simp [hlen]) (fun j u z hu hz => by
    have hz' : zs[j]? = some z := by simpa using hz
    exact ⟨away_rel (hrel j u z hu hz') (refFreeL_mem hfree _ (List.mem_of_getElem? hu)), .of_noFlag (hnf u (List.mem_of_getElem? hu))⟩) (fun r b base blk h => by cases h) (away_gl hgl)
  unfold Oper.wp
  rw [hrun, run_enter hb]
  show Calls P f _ w _
  refine Calls.mono hcalls ?_
  · rintro e w' ⟨z, G1, rfl, hE, hV, hR, hO, _, hM, hOn⟩
    show K (act.put o.dst z) w'
    rw [← hxd]
    have hwr : ∀ t, t ∈ x.wr ↔ x.dst = some t := by
      intro t
      cases h : x.dst <;> simp [XO.wr, hm, h, eq_comm]
    have htouch : ∀ l, Touch x fr l ↔ ∃ t, x.dst = some t ∧ l = .slot t := by
      intro l
      constructor
      · rintro (⟨t, h, rfl⟩ | ⟨h, _⟩)
        · exact ⟨t, (hwr t).1 h, rfl⟩
        · exact absurd h h3
      · rintro ⟨t, h, rfl⟩
        exact .inl ⟨t, (hwr t).2 h, rfl⟩
    have hA : ∀ b, ¬ ∃ l, (away G).o l = some b := by rintro b ⟨l, h⟩; cases h
    have hkeep : ∀ b, b < w.heap.size → G.k b ≠ .st → (away G).k b = G1.k b ∧ w'.heap[b]? = w.heap[b]? := by
      intro b hb hs
      have h1 : (away G).k b ≠ .st := by simp only [away]; split; simp; exact hs
      have h2 : (away G).k b ≠ .mb := by simp only [away]; split; simp; assumption
      obtain ⟨h5, h6⟩ := hE.keep b hb h1 h2 (hA b)
      exact ⟨h5.symm, h6⟩
    have hst : ∀ b, b < w.heap.size → G.k b = .st → G1.k b = .st ∧ w'.heap[b]? = w.heap[b]? := fun b hb h => hE.st b hb (away_st h)
    have hheap : ∀ b, b < w.heap.size → w'.heap[b]? = w.heap[b]? := by
      intro b hb
      by_cases h : G.k b = .st
      · exact (hst b hb h).2
      · exact (hkeep b hb h).2
    have hfresh : ∀ l b, G1.o l = some b → w.heap.size ≤ b := fun l b h => (hOn l b h).resolve_left (fun ⟨l', h'⟩ => by cases h')
    let G' : Gh := { m := G.m, k := fun b => if b < w.heap.size ∧ G.k b = .mb then .mb else G1.k b, o := fun l => if ∃ t, x.dst = some t ∧ l = .slot t then G1.o .res else G.o l }
    have hk' : ∀ b, b < w.heap.size → G'.k b = G.k b := by
      intro b hb
      simp only [G']
      by_cases h : G.k b = .mb
      · rw [if_pos ⟨hb, h⟩, h]
      · rw [if_neg (fun e => h e.2)]
        by_cases h' : G.k b = .st
        · rw [(hst b hb h').1, h']
        · rw [← (hkeep b hb h').1]; simp [away, h]
    have hk1 : ∀ b, w.heap.size ≤ b → G'.k b = G1.k b := fun b hb => by simp only [G']; rw [if_neg (by omega)]
    have hm1 : ∀ r a, G1.m r = some a → G'.m r = some a := fun r a h => by rw [hM] at h; cases h
    have hs1 : ∀ b, b < w'.heap.size → G1.k b = .st → G'.k b = .st := by
      intro b _ h
      rcases Nat.lt_or_ge b w.heap.size with hb | hb
      · rw [hk' b hb]
        by_cases h' : G.k b = .st
        · exact h'
        · have := (hkeep b hb h').1
          rw [h] at this
          simp only [away] at this
          split at this <;> first | cases this | exact this
      · rw [hk1 b hb, h]
    have hg1 : ∀ b f, b < w'.heap.size → G1.k b = .gr f → ∃ f', f ≤ f' ∧ G'.k b = .gr f' := by
      intro b f _ h
      rcases Nat.lt_or_ge b w.heap.size with hb | hb
      · refine ⟨f, Nat.le_refl _, ?_⟩
        rw [hk' b hb]
        by_cases h' : G.k b = .st
        · rw [(hst b hb h').1] at h; cases h
        · have := (hkeep b hb h').1
          rw [h] at this
          simp only [away] at this
          split at this <;> first | cases this | exact this
      · exact ⟨f, Nat.le_refl _, by rw [hk1 b hb, h]⟩
    refine hK G' _ _ ⟨.of_same hE.os hE.tape hE.output hE.size hheap hk' (fun _ _ h => h), ⟨hv.lev, hv.inj, fun r a h => ⟨by rw [hk' _ (hv.mkk r a h).2]; exact (hv.mkk r a h).1, Nat.lt_of_lt_of_le (hv.mkk r a h).2 hE.size⟩, ?_, ?_⟩, put_size .., put_defers .., fun t h => put_ne _ _ _ _ h, ?_, ?_, ?_, fun _ => rfl, fun r h1 h2 => absurd h1 h2, fun r b base h1 h2 => (by rw [show G.m r = some (b, base) from h2] at h1; cases h1), fun r b base h _ => hheap b (hv.mkk _ _ h).2, fun h => absurd h h3⟩
    · intro l l' b h1 h2
      simp only [G'] at h1 h2
      split at h1 <;> split at h2
      · rename_i a1 a2
        obtain ⟨t, a1, rfl⟩ := a1
        obtain ⟨u, a2, rfl⟩ := a2
        rw [a1] at a2; injection a2 with a2; rw [a2]
      · have := hfresh _ _ h1; have := (hv.ok _ _ h2).1; omega
      · have := hfresh _ _ h2; have := (hv.ok _ _ h1).1; omega
      · exact hv.oinj _ _ b h1 h2
    · intro l b h1
      simp only [G'] at h1
      split at h1
      · have h4 := hV.ok _ _ h1
        rw [hk1 b (hfresh _ _ h1)]
        exact h4
      · have h4 := hv.ok _ _ h1
        rw [hk' b h4.1]
        exact ⟨Nat.lt_of_lt_of_le h4.1 hE.size, h4.2⟩
    · intro t h
      have hdt := (hwr t).1 h
      unfold RelS
      rw [show fget (finX x fr v) t = v by simp [finX, hdt, fget_fput], hdt, put_eq _ _ _ (hd t hdt)]
      refine ⟨hR.mapG hm1 hs1 hg1, hO.mapG hs1 hg1 fun b hb => ⟨?_, hk1 b (hfresh _ _ hb)⟩⟩
      simp only [G']
      rw [if_pos ⟨t, hdt, rfl⟩]
      exact hb
    · intro l h
      simp only [G']
      rw [if_neg (fun hh => h ((htouch l).2 hh))]
    · intro l b h h1
      simp only [G'] at h1
      rw [if_pos ((htouch l).1 h)] at h1
      exact .inr (hfresh _ _ h1)
end
end Go.Proofs.YtjbgceogkgpjpaaGreatDoor.Sx
