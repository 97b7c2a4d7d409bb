/- SX, part D: operations that only compute, continued: fields, elements, cuts, function values, structs. -/
import Derived.Test.YtpfollpbkpgglaaSxC
set_option linter.unusedVariables false
set_option linter.unusedSimpArgs false
namespace Go.Proofs.Ytpfollpbkpgglaa.Sx
open Go
section
variable {P : Program} {G : Gh} {w : World} {fr : List AV} {act : Act} {o : Oper}

def aggOf : TypeDesc → Bool
  | .struct _ => true
  | .array _ _ => true
  | _ => false
theorem run_isAgg2 {t : TypeId} {d : TypeDesc} (h : P.underlying t = some d) : (isAgg t).run P w = .ok (aggOf d) w := by
  rw [run_isAgg' h]
  cases d <;> rfl
theorem noFlag_uf' (v : AV) : noFlag (uf v) := noFlag_uf v
theorem ldCells_noFlag {cs : List AV} {n : Nat} {agg : Bool} {v : AV} (h : ldCells cs n agg = some v) : noFlag v := by
  unfold ldCells at h
  split at h
  · split at h
    · injection h with h; subst h; trivial
    · split at h
      · injection h with h; subst h; exact noFlag_uf _
      · cases h
  · cases h
/-- A part of a struct's or an array's value. -/
theorem part_rel {cs : List AV} {xs : Array Value} {off n : Nat} {agg : Bool} {v : AV} {T : TypeId} {i : TypeInfo} {d : TypeDesc}
    (h : RelV G w (.agg cs) (.agg xs)) (hi : P.info? T = some i) (hd : P.underlying T = some d) (hn : i.size = n) (ha : aggOf d = agg) (hoff : off + n ≤ cs.length)
    (he : ldCells (cs.drop off) n agg = some v) : ∃ y, (part T xs off).run P w = .ok y w ∧ RelV G w v y := by
  cases h with
  | agg _ _ hl hr =>
  unfold ldCells at he
  rw [if_pos (by simp; omega)] at he
  cases agg with
  | true =>
    simp only [if_true] at he
    injection he with he
    subst he
    refine ⟨.agg (xs.extract off (off + n)), ?_, .agg _ _ ?_ ?_⟩
    · simp only [part, Sem.run_bind, run_isAgg2 hd, ha, Result.andThen_ok, if_true, run_sizeOf' hi, hn, Sem.run_pure]
    · simp; omega
    · intro j v x hv hx
      simp only [List.getElem?_map, List.getElem?_take, List.getElem?_drop] at hv
      split at hv
      · obtain ⟨u, hu, rfl⟩ := Option.map_eq_some_iff.1 hv
        rw [Array.getElem?_extract] at hx
        split at hx
        · exact (hr _ u x hu hx).uf
        · cases hx
      · simp at hv
  | false =>
    simp only [Bool.false_eq_true, if_false] at he
    split at he
    · rename_i u l hu
      injection he with he
      subst he
      have h1 : cs[off]? = some u := by
        have : (cs.drop off)[0]? = some u := by rw [hu]; rfl
        simpa [List.getElem?_drop] using this
      have hlt := (List.getElem?_eq_some_iff.1 h1).1
      obtain ⟨x, hx⟩ : ∃ x, xs[off]? = some x := ⟨xs[off]'(by omega), by simp⟩
      refine ⟨x, ?_, (hr _ u x h1 hx).uf⟩
      simp only [part, Sem.run_bind, run_isAgg2 hd, ha, Result.andThen_ok, Bool.false_eq_true, if_false, hx, Sem.run_pure]
    · cases he

theorem gives_field {x : XArg} {x' : Operand} {S T : TypeId} {j n off : Nat} {agg : Bool} {fs : Array Field} {f : Field} {i : TypeInfo} {d : TypeDesc} {cs : List AV} {v : AV}
    (hx : argOk x x' = true) (ho : o.op = .field S x' j) (hS : P.underlying S = some (.struct fs)) (hf : fs[j]? = some f) (hoff : f.offset = off)
    (hi : P.info? f.type = some i) (hd : P.underlying f.type = some d) (hn : i.size = n) (ha : aggOf d = agg)
    (hs : ∀ t ∈ argTmp x, RelS G w fr act t) (he : earg fr x = .agg cs) (hl : off + n ≤ cs.length) (hv : ldCells (cs.drop off) n agg = some v) : Gives P G w act o v := by
  have h1 := arg_rel (w := w) (G := G) hx hs
  rw [he] at h1
  cases h3 : act.eval x' <;> rw [h3] at h1 <;> (try (cases h1; done))
  rename_i xs
  obtain ⟨y, hy, hr⟩ := part_rel h1 hi hd hn ha hl hv
  refine ⟨y, ?_, hr⟩
  subst hoff
  simp only [execOp, ho, h3, Instr.field, Sem.run_bind, run_underlying' hS, Result.andThen_ok, hf, Go.asAgg, Sem.run_pure, hy]
theorem add_eq (b o n : Nat) : (⟨b, o, none⟩ : Addr).add n = ⟨b, o + n, none⟩ := by
  unfold Addr.add
  split
  · simp_all
  · rfl
theorem ptr_form {r : Ref} {off : Nat} {y : Value} (h : RelV G w (.ptr r off) y) : ∃ b base, y = .pointer (some ⟨b, base + off, none⟩) ∧ G.m r = some (b, base) := by
  cases h with | ptr _ _ b base hm => exact ⟨b, base, rfl, hm⟩
theorem sl_form {r : Ref} {z off len : Nat} {y : Value} (h : RelV G w (.sl r z off len) y) : ∃ b base cap, y = .slice (some ⟨b, base + off, none⟩) len cap ∧ G.m r = some (b, base) ∧ len ≤ cap ∧
    ∃ cs T fz, w.heap[b]? = some (.cells cs T fz) ∧ base + off + cap * z ≤ cs.size := by
  cases h with | sl _ _ _ _ b base cap hm hl hs => exact ⟨b, base, cap, rfl, hm, hl, hs⟩
/-- The memory of a list. -/
structure LstAt (G : Gh) (w : World) (z : Nat) (es : List (List AV)) (b o : Nat) (X : Nat → Nat → Value) : Prop where
  hc : Cov G w b (o + es.length * z)
  hz : ∀ (i : Nat) (e : List AV), es[i]? = some e → e.length = z
  hf : ∀ (i : Nat) (e : List AV) (j : Nat) (v : AV), es[i]? = some e → e[j]? = some v → refFree v = true
  hx : ∀ (i : Nat) (e : List AV) (j : Nat) (v : AV), es[i]? = some e → e[j]? = some v → w.cell? ⟨b, o + i * z + j, none⟩ = some (X i j)
  hr : ∀ (i : Nat) (e : List AV) (j : Nat) (v : AV), es[i]? = some e → e[j]? = some v → RelV G w v (X i j)
theorem lst_form {ow : Own} {z : Nat} {es : List (List AV)} {y : Value} (h : RelV G w (.lst ow z es) y) (hu : ow ≠ .uniq) :
    ∃ b o cap X, y = .slice (some ⟨b, o, none⟩) es.length cap ∧ es.length ≤ cap ∧ (ow = .tight → cap = es.length) ∧ LstAt G w z es b o X := by
  cases h with
  | uniq => exact absurd rfl hu
  | lst _ _ _ b o cap X _ hl ht hc hz hf hx hr => exact ⟨b, o, cap, X, rfl, hl, ht, hc, hz, hf, hx, hr⟩
theorem noFlag_lst {ow : Own} {z : Nat} {es : List (List AV)} (h : noFlag (.lst ow z es)) : ow ≠ .own ∧ ow ≠ .uniq := by
  cases ow <;> simp [noFlag] at h ⊢
theorem elp_drop {cs : List AV} {b k off : Nat} (h : RelV G w (.elp cs) (.pointer (some ⟨b, k, none⟩))) (hle : off ≤ cs.length) :
    RelV G w (.elp (cs.drop off)) (.pointer (some ⟨b, k + off, none⟩)) := by
  cases h with
  | elp _ _ _ X hc hf' hx' hr =>
  refine .elp _ b (k + off) (fun j => X (off + j)) ⟨hc.1, ?_⟩ ?_ ?_ ?_
  · rcases hc.2 with h | ⟨g, h, hg⟩
    · exact .inl h
    · exact .inr ⟨g, h, by simp; omega⟩
  · intro j v hj; rw [List.getElem?_drop] at hj; exact hf' _ v hj
  · intro j v hj; rw [List.getElem?_drop] at hj; rw [Nat.add_assoc]; exact hx' _ v hj
  · intro j v hj; rw [List.getElem?_drop] at hj; exact hr _ v hj
theorem elp_form {cs : List AV} {y : Value} (h : RelV G w (.elp cs) y) : ∃ b k, y = .pointer (some ⟨b, k, none⟩) := by
  cases h with | elp _ b k X hc hf hx hr => exact ⟨b, k, rfl⟩
theorem gives_faddr {x : XArg} {x' : Operand} {S : TypeId} {j off : Nat} {fs : Array Field} {f : Field} {i : TypeInfo}
    (hx : argOk x x' = true) (ho : o.op = .fieldAddr S x' j) (hS : P.underlying S = some (.struct fs)) (hf : fs[j]? = some f) (hoff : f.offset = off)
    (hi : P.info? f.type = some i) (hn : i.size ≠ 0) (hs : ∀ t ∈ argTmp x, RelS G w fr act t) :
    (∀ r k, earg fr x = .ptr r k → Gives P G w act o (.ptr r (k + off))) ∧ (∀ cs, earg fr x = .elp cs → off ≤ cs.length → Gives P G w act o (.elp (cs.drop off))) := by
  have h1 := arg_rel (w := w) (G := G) hx hs
  subst hoff
  refine ⟨fun r k he => ?_, fun cs he hle => ?_⟩
  · rw [he] at h1
    obtain ⟨b, base, h3, hm⟩ := ptr_form h1
    refine ⟨.pointer (some ⟨b, base + (k + f.offset), none⟩), ?_, .ptr _ _ _ _ hm⟩
    simp only [execOp, ho, h3, Instr.fieldAt, Sem.run_bind, run_underlying' hS, Result.andThen_ok, hf, Instr.sureAddr, Sem.run_pure, fieldPlace, run_sizeOf' hi, if_neg hn, add_eq, Nat.add_assoc]
  · rw [he] at h1
    obtain ⟨b, k, h3⟩ := elp_form h1
    rw [h3] at h1
    refine ⟨_, ?_, elp_drop h1 hle⟩
    simp only [execOp, ho, h3, Instr.fieldAt, Sem.run_bind, run_underlying' hS, Result.andThen_ok, hf, Instr.sureAddr, Sem.run_pure, fieldPlace, run_sizeOf' hi, if_neg hn, add_eq]

/-! ### indexes -/
theorem asNat_rel {v : AV} {x : Value} {n : Nat} (h : asNat v = some n) (hr : RelV G w v x) : ∃ k, x = .int k n := by
  cases v <;> simp [asNat] at h
  rename_i k m
  cases hr
  obtain ⟨h1, h2⟩ := h
  exact ⟨k, by rw [← h2]; congr 1; omega⟩
theorem mul_lt_of {i n z : Nat} (h : i < n) : i * z + z ≤ n * z := by
  have := Nat.mul_le_mul_right z (Nat.succ_le_of_lt h)
  rw [Nat.succ_mul] at this
  exact this
theorem gives_iaddr {z : Nat} {x y : XArg} {x' y' : Operand} {T E : TypeId} {i : TypeInfo} {k : Nat} (hx : argOk x x' = true) (hy : argOk y y' = true) (ho : o.op = .indexAddr T x' y')
    (hT : P.underlying T = some (.slice E)) (hi : P.info? E = some i) (hz : i.size = z) (hs : ∀ t ∈ argTmp x ++ argTmp y, RelS G w fr act t) (hk : asNat (earg fr y) = some k) :
    (∀ ow es, earg fr x = .lst ow z es → k < es.length → Gives P G w act o (.elp (es.getD k []))) ∧
    (∀ r off len, earg fr x = .sl r z off len → k < len → Gives P G w act o (.ptr r (off + k * z))) := by
  have h1 := arg_rel (w := w) (G := G) (fr := fr) (act := act) hx (fun t ht => hs t (by simp [ht]))
  have h2 := arg_rel (w := w) (G := G) (fr := fr) (act := act) hy (fun t ht => hs t (by simp [ht]))
  obtain ⟨kk, h4⟩ := asNat_rel hk h2
  subst hz
  have key : ∀ (a : Addr) (len cap : Nat), act.eval x' = .slice (some a) len cap → k < len →
      (execOp act.eval o).run P w = .ok (.value (.pointer (some (a.add (k * i.size))))) w := by
    intro a len cap h3 hlt
    have hc : (0 ≤ (k : Int) ∧ (k : Int) < (len : Int)) := ⟨by omega, by omega⟩
    simp only [execOp, ho, h3, h4, Instr.indexAt, Go.asIntOf, Sem.run_bind, Sem.run_pure, run_underlying' hT, Result.andThen_ok, if_pos hc, run_sizeOf' hi, Int.toNat_natCast]
  refine ⟨fun ow es he hlt => ?_, fun r off len he hlt => ?_⟩
  · rw [he] at h1
    have hnf : noFlag (AV.lst ow i.size es) := he ▸ earg_noFlag hx
    obtain ⟨b, off, cap, X, h3, hl, ht, hc, hz', hf, hx', hr⟩ := lst_form h1 (noFlag_lst hnf).2
    refine ⟨_, key _ _ _ h3 hlt, ?_⟩
    rw [add_eq]
    have hke : es[k]? = some (es.getD k []) := by simp [List.getD, List.getElem?_eq_getElem hlt]
    have hlen := hz' k _ hke
    have hm := mul_lt_of (z := i.size) hlt
    refine .elp _ b _ (X k) ⟨hc.1, ?_⟩ ?_ ?_ ?_
    · rcases hc.2 with h | ⟨g, h, hg⟩
      · exact .inl h
      · exact .inr ⟨g, h, by omega⟩
    · exact fun j v hj => hf k _ j v hke hj
    · exact fun j v hj => hx' k _ j v hke hj
    · exact fun j v hj => hr k _ j v hke hj
  · rw [he] at h1
    obtain ⟨b, base, cap, h3, hm, hl, hs'⟩ := sl_form h1
    refine ⟨_, key _ _ _ h3 hlt, ?_⟩
    rw [add_eq, Nat.add_assoc]
    exact .ptr _ _ _ _ hm
theorem gives_iarr {n z : Nat} {x y : XArg} {x' y' : Operand} {T E : TypeId} {i : TypeInfo} {k : Nat} (hx : argOk x x' = true) (hy : argOk y y' = true) (ho : o.op = .indexAddr T x' y')
    (hT : P.underlying T = some (.array n E)) (hi : P.info? E = some i) (hz : i.size = z) (hs : ∀ t ∈ argTmp x ++ argTmp y, RelS G w fr act t) (hk : asNat (earg fr y) = some k) (hlt : k < n) :
    (∀ r off, earg fr x = .ptr r off → Gives P G w act o (.ptr r (off + k * z))) ∧
    (∀ cs, earg fr x = .elp cs → k * z ≤ cs.length → Gives P G w act o (.elp (cs.drop (k * z)))) := by
  have h1 := arg_rel (w := w) (G := G) (fr := fr) (act := act) hx (fun t ht => hs t (by simp [ht]))
  have h2 := arg_rel (w := w) (G := G) (fr := fr) (act := act) hy (fun t ht => hs t (by simp [ht]))
  obtain ⟨kk, h4⟩ := asNat_rel hk h2
  subst hz
  have hc : (0 ≤ (k : Int) ∧ (k : Int) < (n : Int)) := ⟨by omega, by omega⟩
  have key : ∀ (a : Addr), act.eval x' = .pointer (some a) → (execOp act.eval o).run P w = .ok (.value (.pointer (some (a.add (k * i.size))))) w := by
    intro a h3
    simp only [execOp, ho, h3, h4, Instr.indexAt, Go.asIntOf, Instr.sureAddr, Sem.run_bind, Sem.run_pure, run_underlying' hT, Result.andThen_ok, if_pos hc, run_sizeOf' hi, Int.toNat_natCast]
  refine ⟨fun r off he => ?_, fun cs he hle => ?_⟩
  · rw [he] at h1
    obtain ⟨b, base, h3, hm⟩ := ptr_form h1
    refine ⟨_, key _ h3, ?_⟩
    rw [add_eq, Nat.add_assoc]
    exact .ptr _ _ _ _ hm
  · rw [he] at h1
    obtain ⟨b, q, h3⟩ := elp_form h1
    rw [h3] at h1
    refine ⟨_, key _ h3, ?_⟩
    rw [add_eq]
    exact elp_drop h1 hle
theorem gives_idxs {x y : XArg} {x' y' : Operand} {T : TypeId} {s : List UInt8} {k : Nat} (hx : argOk x x' = true) (hy : argOk y y' = true) (ho : o.op = .index T x' y')
    (hT : P.underlying T = some .string) (hs : ∀ t ∈ argTmp x ++ argTmp y, RelS G w fr act t) (he : earg fr x = .str s) (hk : asNat (earg fr y) = some k) (hlt : k < s.length) :
    Gives P G w act o (.int .u8 (s.getD k 0).toNat) := by
  have h1 := arg_rel (w := w) (G := G) (fr := fr) (act := act) hx (fun t ht => hs t (by simp [ht]))
  have h2 := arg_rel (w := w) (G := G) (fr := fr) (act := act) hy (fun t ht => hs t (by simp [ht]))
  obtain ⟨kk, h4⟩ := asNat_rel hk h2
  rw [he] at h1
  cases h3 : act.eval x' <;> rw [h3] at h1 <;> cases h1
  rename_i q
  have eq : q.data.toList.length = q.size := Array.length_toList
  have hq : k < q.size := by omega
  refine ⟨.int .u8 q[k].toNat, ?_, ?_⟩
  · simp only [execOp, ho, h3, h4, Instr.index, Go.asIntOf, Sem.run_bind, Sem.run_pure, run_underlying' hT, Result.andThen_ok]
    simp [hq]
  · have : (q.data.toList.getD k 0).toNat = q[k].toNat := by
      rw [List.getD_eq_getElem?_getD, List.getElem?_eq_getElem hlt]
      rfl
    rw [this]
    exact .int _ _
theorem gives_idxa {n z : Nat} {agg : Bool} {x y : XArg} {x' y' : Operand} {T E : TypeId} {i : TypeInfo} {d : TypeDesc} {cs : List AV} {k : Nat} {v : AV} (hx : argOk x x' = true) (hy : argOk y y' = true)
    (ho : o.op = .index T x' y') (hT : P.underlying T = some (.array n E)) (hi : P.info? E = some i) (hd : P.underlying E = some d) (hz : i.size = z) (ha : aggOf d = agg)
    (hs : ∀ t ∈ argTmp x ++ argTmp y, RelS G w fr act t) (he : earg fr x = .agg cs) (hk : asNat (earg fr y) = some k) (hlt : k < n) (hl : k * z + z ≤ cs.length) (hv : ldCells (cs.drop (k * z)) z agg = some v) :
    Gives P G w act o v := by
  have h1 := arg_rel (w := w) (G := G) (fr := fr) (act := act) hx (fun t ht => hs t (by simp [ht]))
  have h2 := arg_rel (w := w) (G := G) (fr := fr) (act := act) hy (fun t ht => hs t (by simp [ht]))
  obtain ⟨kk, h4⟩ := asNat_rel hk h2
  rw [he] at h1
  cases h3 : act.eval x' <;> rw [h3] at h1 <;> (try (cases h1; done))
  rename_i xs
  obtain ⟨y, hy, hr⟩ := part_rel h1 hi hd hz ha hl hv
  have hc : (0 ≤ (k : Int) ∧ (k : Int) < (n : Int)) := ⟨by omega, by omega⟩
  refine ⟨y, ?_, hr⟩
  simp only [execOp, ho, h3, h4, Instr.index, Go.asIntOf, Sem.run_bind, Sem.run_pure, run_underlying' hT, Result.andThen_ok, if_pos hc, run_sizeOf' hi, Int.toNat_natCast, hz, hy]

/-! ### cuts -/
theorem sliceBound_run {k : IntKind} {n y : Nat} {c : BoundsCode} (h : n ≤ y) : (Instr.sliceBound (.int k (n : Int)) y c).run P w = .ok n w := by
  have hc : (0 ≤ (n : Int) ∧ (n : Int) ≤ (y : Int)) := ⟨by omega, by omega⟩
  simp only [Instr.sliceBound, Go.asIntOf, Sem.run_bind, Sem.run_pure, Result.andThen_ok, if_pos hc, Int.toNat_natCast]
theorem optNat_rel {a : Option XArg} {b : Option Operand} {d n : Nat} (h : optOk a b = true) (hs : ∀ x ∈ a, ∀ t ∈ argTmp x, RelS G w fr act t) (hn : optNat (a.map (earg fr)) d = some n) :
    (a = none ∧ b = none ∧ n = d) ∨ (∃ x y k, a = some x ∧ b = some y ∧ act.eval y = .int k (n : Int)) := by
  cases a <;> cases b <;> simp [optOk, optNat] at h hn
  · exact .inl ⟨rfl, rfl, hn.symm⟩
  · rename_i x y
    have h1 := arg_rel (w := w) (G := G) (fr := fr) (act := act) h (fun t ht => hs x rfl t ht)
    cases hx : earg fr x <;> rw [hx] at h1 hn <;> simp at hn
    rename_i k m
    obtain ⟨h2, h3⟩ := hn
    cases hy : act.eval y <;> rw [hy] at h1 <;> cases h1
    exact .inr ⟨x, y, k, rfl, rfl, by rw [hy, ← h3]; congr 1; omega⟩
/-- the bounds, no third index -/
theorem sliceBounds_run {isS : Bool} {len cap l h : Nat} {lo hi : Option XArg} {lo' hi' : Option Operand} (ho : optOk lo lo' = true) (hh : optOk hi hi' = true)
    (hs : ∀ x ∈ lo, ∀ t ∈ argTmp x, RelS G w fr act t) (hs2 : ∀ x ∈ hi, ∀ t ∈ argTmp x, RelS G w fr act t)
    (hl : optNat (lo.map (earg fr)) 0 = some l) (hhi : optNat (hi.map (earg fr)) len = some h) (h1 : l ≤ h) (h2 : h ≤ len) (h3 : len ≤ cap) :
    (Instr.sliceBounds isS len cap (lo'.map act.eval) (hi'.map act.eval) none).run P w = .ok (l, h, cap) w := by
  unfold Instr.sliceBounds
  rcases optNat_rel hh hs2 hhi with ⟨rfl, rfl, rfl⟩ | ⟨x, y, k, rfl, rfl, hy⟩ <;> rcases optNat_rel ho hs hl with ⟨rfl, rfl, rfl⟩ | ⟨x2, y2, k2, rfl, rfl, hy2⟩
  · simp only [Option.map_none, Sem.run_bind, Sem.run_pure, Result.andThen_ok]
  · simp only [Option.map_none, Option.map_some, Sem.run_bind, Sem.run_pure, Result.andThen_ok, hy2, sliceBound_run h1]
  · simp only [Option.map_none, Option.map_some, Sem.run_bind, Sem.run_pure, Result.andThen_ok, hy, sliceBound_run (Nat.le_trans h2 h3)]
  · simp only [Option.map_none, Option.map_some, Sem.run_bind, Sem.run_pure, Result.andThen_ok, hy, hy2, sliceBound_run (Nat.le_trans h2 h3), sliceBound_run h1]
theorem gives_sstr {x : XArg} {x' : Operand} {T : TypeId} {lo hi : Option XArg} {lo' hi' : Option Operand} {s : List UInt8} {l h : Nat} (hx : argOk x x' = true) (ho : o.op = .slice T x' lo' hi' none)
    (hT : P.underlying T = some .string) (hlo : optOk lo lo' = true) (hhi : optOk hi hi' = true) (hs0 : ∀ t ∈ argTmp x, RelS G w fr act t)
    (hs : ∀ x ∈ lo, ∀ t ∈ argTmp x, RelS G w fr act t) (hs2 : ∀ x ∈ hi, ∀ t ∈ argTmp x, RelS G w fr act t) (he : earg fr x = .str s)
    (hl : optNat (lo.map (earg fr)) 0 = some l) (hh : optNat (hi.map (earg fr)) s.length = some h) (h1 : l ≤ h) (h2 : h ≤ s.length) : Gives P G w act o (.str ((s.take h).drop l)) := by
  have hr := arg_rel (w := w) (G := G) hx hs0
  rw [he] at hr
  cases h3 : act.eval x' <;> rw [h3] at hr <;> cases hr
  rename_i q
  have hq : q.data.toList.length = q.size := Array.length_toList
  rw [hq] at hh h2
  have hb := sliceBounds_run (P := P) (isS := false) (cap := q.size) hlo hhi hs hs2 hl hh h1 h2 (Nat.le_refl _)
  refine ⟨.string (q.extract l h), ?_, ?_⟩
  · simp only [execOp, ho, h3, Instr.sliceAt, Instr.slice, Sem.run_bind, Sem.run_pure, run_underlying' hT, Result.andThen_ok, Option.isSome_none, Bool.false_eq_true, if_false, Option.map_none, hb]
  · have : (q.extract l h).data.toList = (q.data.toList.take h).drop l := by
      rw [ByteArray.data_extract]
      simp [Array.toList_extract, List.extract_eq_take_drop, List.drop_take]
    rw [← this]
    exact .str _
end
end Go.Proofs.Ytpfollpbkpgglaa.Sx
