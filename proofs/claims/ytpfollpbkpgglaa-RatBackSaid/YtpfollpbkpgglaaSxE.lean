/- SX, part E: operations that only compute, continued: cuts of lists, lengths, function values, structs. -/
import Derived.Test.YtpfollpbkpgglaaSxD
set_option linter.unusedVariables false
set_option linter.unusedSimpArgs false
namespace Go.Proofs.Ytpfollpbkpgglaa.Sx
open Go
section
variable {P : Program} {G : Gh} {w : World} {fr : List AV} {act : Act} {o : Oper}

theorem cut_get {es : List (List AV)} {l h i : Nat} {e : List AV} (he : ((es.take h).drop l)[i]? = some e) : es[l + i]? = some e := by
  rw [List.getElem?_drop, List.getElem?_take] at he
  split at he
  · exact he
  · cases he
theorem lst_cut {z : Nat} {es : List (List AV)} {b q l h : Nat} {X : Nat → Nat → Value} (hA : LstAt G w z es b q X) (h1 : l ≤ h) (h2 : h ≤ es.length) :
    LstAt G w z ((es.take h).drop l) b (q + l * z) (fun i j => X (l + i) j) := by
  have hlen : ((es.take h).drop l).length = h - l := by simp; omega
  have hm : q + l * z + (h - l) * z ≤ q + es.length * z := by
    have : l * z + (h - l) * z = h * z := by rw [← Nat.add_mul]; congr 1; omega
    have := Nat.mul_le_mul_right z h2
    omega
  refine ⟨⟨hA.hc.1, ?_⟩, fun i e he => hA.hz _ e (cut_get he), fun i e j v he hv => hA.hf _ e j v (cut_get he) hv, fun i e j v he hv => ?_, fun i e j v he hv => hA.hr _ e j v (cut_get he) hv⟩
  · rcases hA.hc.2 with h | ⟨g, h, hg⟩
    · exact .inl h
    · exact .inr ⟨g, h, by rw [hlen]; omega⟩
  · rw [← hA.hx _ e j v (cut_get he) hv]
    congr 2
    rw [Nat.add_mul]; omega
theorem lst_nil {z : Nat} {es : List (List AV)} {b q : Nat} {X : Nat → Nat → Value} (hA : LstAt G w z es b q X) : LstAt G w z [] b q X := by
  refine ⟨⟨hA.hc.1, ?_⟩, by simp, by simp, by simp, by simp⟩
  rcases hA.hc.2 with h | ⟨g, h, hg⟩
  · exact .inl h
  · exact .inr ⟨g, h, by simp; omega⟩
theorem LstAt.rel {z : Nat} {es : List (List AV)} {b q cap : Nat} {X : Nat → Nat → Value} {ow : Own} (hA : LstAt G w z es b q X) (hu : ow ≠ .uniq) (hl : es.length ≤ cap) (ht : ow = .tight → cap = es.length) :
    RelV G w (.lst ow z es) (.slice (some ⟨b, q, none⟩) es.length cap) := .lst ow z es b q cap X hu hl ht hA.hc hA.hz hA.hf hA.hx hA.hr
theorem gives_ssl {x : XArg} {x' : Operand} {T E : TypeId} {i : TypeInfo} {lo hi : Option XArg} {lo' hi' : Option Operand} {ow : Own} {z : Nat} {es : List (List AV)} {l h : Nat} (hx : argOk x x' = true)
    (ho : o.op = .slice T x' lo' hi' none) (hT : P.underlying T = some (.slice E)) (hi0 : P.info? E = some i) (hz : i.size = z) (hlo : optOk lo lo' = true) (hhi : optOk hi hi' = true)
    (hs0 : ∀ t ∈ argTmp x, RelS G w fr act t) (hs : ∀ x ∈ lo, ∀ t ∈ argTmp x, RelS G w fr act t) (hs2 : ∀ x ∈ hi, ∀ t ∈ argTmp x, RelS G w fr act t) (he : earg fr x = .lst ow z es)
    (hl : optNat (lo.map (earg fr)) 0 = some l) (hh : optNat (hi.map (earg fr)) es.length = some h) (h1 : l ≤ h) (h2 : h ≤ es.length) :
    Gives P G w act o (.lst (if ow = .tight ∧ hi.isNone then .tight else .none) z ((es.take h).drop l)) := by
  have hr := arg_rel (w := w) (G := G) hx hs0
  rw [he] at hr
  have hnf : noFlag (AV.lst ow z es) := he ▸ earg_noFlag hx
  obtain ⟨b, q, cap, X, h3, hcap, htight, hA⟩ := lst_form hr (noFlag_lst hnf).2
  have hb := sliceBounds_run (P := P) (isS := true) (cap := cap) hlo hhi hs hs2 hl hh h1 h2 hcap
  have hlen : ((es.take h).drop l).length = h - l := by simp; omega
  have hrun : (execOp act.eval o).run P w = .ok (.value (.slice (if cap = l then some ⟨b, q, none⟩ else some ⟨b, q + l * z, none⟩) (h - l) (cap - l))) w := by
    subst hz
    simp only [execOp, ho, h3, Instr.sliceAt, Instr.slice, Sem.run_bind, Sem.run_pure, run_underlying' hT, Result.andThen_ok, Option.map_none, hb, run_sizeOf' hi0, Option.map_some, add_eq]
  refine ⟨_, hrun, ?_⟩
  have hne : (if ow = .tight ∧ hi.isNone = true then Own.tight else Own.none) ≠ .uniq := by split <;> simp
  have hti : (if ow = .tight ∧ hi.isNone = true then Own.tight else Own.none) = .tight → cap - l = h - l := by
    split
    · rename_i hc
      intro _
      have : hi = none := by simpa using hc.2
      subst this
      simp [optNat] at hh
      rw [htight hc.1, hh]
    · intro h; cases h
  by_cases hcl : cap = l
  · rw [if_pos hcl]
    have hz0 : (es.take h).drop l = [] := List.eq_nil_of_length_eq_zero (by omega)
    have hl0 : h - l = 0 := by omega
    rw [hz0, hl0]
    rw [hl0] at hti
    exact (lst_nil hA).rel hne (by simp) hti
  · rw [if_neg hcl, ← hlen]
    rw [← hlen] at hti
    exact (lst_cut hA h1 h2).rel hne (by omega) hti
/-- with a third index: the capacity is the length -/
theorem gives_ssl3 {x m : XArg} {x' m' y' : Operand} {T E : TypeId} {i : TypeInfo} {lo : Option XArg} {y : XArg} {lo' : Option Operand} {ow : Own} {z : Nat} {es : List (List AV)} {l h : Nat} (hx : argOk x x' = true)
    (hy : argOk y y' = true) (hm : argOk m m' = true)
    (ho : o.op = .slice T x' lo' (some y') (some m')) (hT : P.underlying T = some (.slice E)) (hi0 : P.info? E = some i) (hz : i.size = z) (hlo : optOk lo lo' = true)
    (hs0 : ∀ t ∈ argTmp x ++ argTmp y ++ argTmp m, RelS G w fr act t) (hs : ∀ x ∈ lo, ∀ t ∈ argTmp x, RelS G w fr act t) (he : earg fr x = .lst ow z es)
    (hl : optNat (lo.map (earg fr)) 0 = some l) (hh : optNat (some (earg fr y)) es.length = some h) (hmm : optNat (some (earg fr m)) 0 = some h) (h1 : l ≤ h) (h2 : h ≤ es.length) :
    Gives P G w act o (.lst .tight z ((es.take h).drop l)) := by
  have hr := arg_rel (w := w) (G := G) (fr := fr) (act := act) hx (fun t ht => hs0 t (by simp [ht]))
  rw [he] at hr
  have hnf : noFlag (AV.lst ow z es) := he ▸ earg_noFlag hx
  obtain ⟨b, q, cap, X, h3, hcap, htight, hA⟩ := lst_form hr (noFlag_lst hnf).2
  have hlen : ((es.take h).drop l).length = h - l := by simp; omega
  obtain ⟨k1, e1⟩ : ∃ k, act.eval y' = .int k (h : Int) := by
    rcases optNat_rel (a := some y) (b := some y') (d := es.length) (n := h) (G := G) (w := w) (fr := fr) (act := act) hy (fun x hx t ht => hs0 t (by cases hx; simp [ht])) hh with ⟨h, _⟩ | ⟨x, y, k, h4, h5, h6⟩
    · cases h
    · cases h5; exact ⟨k, h6⟩
  obtain ⟨k2, e2⟩ : ∃ k, act.eval m' = .int k (h : Int) := by
    rcases optNat_rel (a := some m) (b := some m') (d := 0) (n := h) (G := G) (w := w) (fr := fr) (act := act) hm (fun x hx t ht => hs0 t (by cases hx; simp [ht])) hmm with ⟨h, _⟩ | ⟨x, y, k, h4, h5, h6⟩
    · cases h
    · cases h5; exact ⟨k, h6⟩
  have hb : (Instr.sliceBounds true es.length cap (lo'.map act.eval) (some (act.eval y')) (some (act.eval m'))).run P w = .ok (l, h, h) w := by
    unfold Instr.sliceBounds
    rcases optNat_rel hlo hs hl with ⟨rfl, rfl, rfl⟩ | ⟨x2, y2, k3, rfl, rfl, hy2⟩
    · simp only [Option.map_none, Sem.run_bind, Sem.run_pure, Result.andThen_ok, e1, e2, sliceBound_run (Nat.le_trans h2 hcap), sliceBound_run (Nat.le_refl h)]
    · simp only [Option.map_some, Sem.run_bind, Sem.run_pure, Result.andThen_ok, e1, e2, hy2, sliceBound_run (Nat.le_trans h2 hcap), sliceBound_run (Nat.le_refl h), sliceBound_run h1]
  have hrun : (execOp act.eval o).run P w = .ok (.value (.slice (if h = l then some ⟨b, q, none⟩ else some ⟨b, q + l * z, none⟩) (h - l) (h - l))) w := by
    subst hz
    simp only [execOp, ho, h3, Instr.sliceAt, Instr.slice, Sem.run_bind, Sem.run_pure, run_underlying' hT, Result.andThen_ok, Option.map_some, hb, run_sizeOf' hi0, add_eq]
  refine ⟨_, hrun, ?_⟩
  split
  · have hz0 : (es.take h).drop l = [] := List.eq_nil_of_length_eq_zero (by omega)
    have hl0 : h - l = 0 := by omega
    rw [hz0, hl0]
    exact (lst_nil hA).rel (by simp) (by simp) (fun _ => rfl)
  · rw [← hlen]
    exact (lst_cut hA h1 h2).rel (by simp) (Nat.le_refl _) (fun _ => rfl)
theorem gives_sslnil {x : XArg} {x' : Operand} {T E : TypeId} {i : TypeInfo} {lo hi : Option XArg} {lo' hi' : Option Operand} (hx : argOk x x' = true)
    (ho : o.op = .slice T x' lo' hi' none) (hT : P.underlying T = some (.slice E)) (hi0 : P.info? E = some i) (hlo : optOk lo lo' = true) (hhi : optOk hi hi' = true)
    (hs0 : ∀ t ∈ argTmp x, RelS G w fr act t) (hs : ∀ x ∈ lo, ∀ t ∈ argTmp x, RelS G w fr act t) (hs2 : ∀ x ∈ hi, ∀ t ∈ argTmp x, RelS G w fr act t) (he : earg fr x = .nilsl)
    (hl : optNat (lo.map (earg fr)) 0 = some 0) (hh : optNat (hi.map (earg fr)) 0 = some 0) : Gives P G w act o .nilsl := by
  have hr := arg_rel (w := w) (G := G) hx hs0
  rw [he] at hr
  cases h3 : act.eval x' <;> rw [h3] at hr <;> cases hr
  have hb := sliceBounds_run (P := P) (isS := true) (len := 0) (cap := 0) hlo hhi hs hs2 hl hh (Nat.le_refl _) (Nat.le_refl _) (Nat.le_refl _)
  refine ⟨.slice none 0 0, ?_, .nilsl⟩
  simp only [execOp, ho, h3, Instr.sliceAt, Instr.slice, Sem.run_bind, Sem.run_pure, run_underlying' hT, Result.andThen_ok, Option.map_none, hb, run_sizeOf' hi0, Nat.sub_self, if_true]
theorem gives_sslsl {x : XArg} {x' : Operand} {T E : TypeId} {i : TypeInfo} {lo hi : Option XArg} {lo' hi' : Option Operand} {r : Ref} {z off len l h : Nat} (hx : argOk x x' = true)
    (ho : o.op = .slice T x' lo' hi' none) (hT : P.underlying T = some (.slice E)) (hi0 : P.info? E = some i) (hz : i.size = z) (hlo : optOk lo lo' = true) (hhi : optOk hi hi' = true)
    (hs0 : ∀ t ∈ argTmp x, RelS G w fr act t) (hs : ∀ x ∈ lo, ∀ t ∈ argTmp x, RelS G w fr act t) (hs2 : ∀ x ∈ hi, ∀ t ∈ argTmp x, RelS G w fr act t) (he : earg fr x = .sl r z off len)
    (hl : optNat (lo.map (earg fr)) 0 = some l) (hh : optNat (hi.map (earg fr)) len = some h) (h1 : l ≤ h) (h2 : h ≤ len) (hpos : l < len ∨ l = 0) :
    Gives P G w act o (.sl r z (off + l * z) (h - l)) := by
  have hr := arg_rel (w := w) (G := G) hx hs0
  rw [he] at hr
  obtain ⟨b, base, cap, h3, hm, hcap, cs, T', fz, hc1, hc2⟩ := sl_form hr
  have hb := sliceBounds_run (P := P) (isS := true) (cap := cap) hlo hhi hs hs2 hl hh h1 h2 hcap
  have hrun : (execOp act.eval o).run P w = .ok (.value (.slice (if cap = l then some ⟨b, base + off, none⟩ else some ⟨b, base + off + l * z, none⟩) (h - l) (cap - l))) w := by
    subst hz
    simp only [execOp, ho, h3, Instr.sliceAt, Instr.slice, Sem.run_bind, Sem.run_pure, run_underlying' hT, Result.andThen_ok, Option.map_none, hb, run_sizeOf' hi0, Option.map_some, add_eq]
  refine ⟨_, hrun, ?_⟩
  have hsum : l * z + (cap - l) * z = cap * z := by rw [← Nat.add_mul]; congr 1; omega
  have e : (if cap = l then (some ⟨b, base + off, none⟩ : Option Addr) else some ⟨b, base + off + l * z, none⟩) = some ⟨b, base + (off + l * z), none⟩ := by
    split
    · have : l = 0 := by omega
      subst this; simp
    · rw [Nat.add_assoc]
  rw [e]
  exact .sl r z (off + l * z) (h - l) b base (cap - l) hm (by omega) ⟨cs, T', fz, hc1, by omega⟩
theorem gives_sarr {x : XArg} {x' : Operand} {T A E : TypeId} {i : TypeInfo} {n : Nat} {lo hi : Option XArg} {lo' hi' : Option Operand} {r : Ref} {z off l h : Nat} (hx : argOk x x' = true)
    (ho : o.op = .slice T x' lo' hi' none) (hT : P.underlying T = some (.array n E) ∨ (P.underlying T = some (.pointer A) ∧ P.underlying A = some (.array n E))) (hi0 : P.info? E = some i) (hz : i.size = z) (hlo : optOk lo lo' = true) (hhi : optOk hi hi' = true)
    (hs0 : ∀ t ∈ argTmp x, RelS G w fr act t) (hs : ∀ x ∈ lo, ∀ t ∈ argTmp x, RelS G w fr act t) (hs2 : ∀ x ∈ hi, ∀ t ∈ argTmp x, RelS G w fr act t) (he : earg fr x = .ptr r off)
    (hl : optNat (lo.map (earg fr)) 0 = some l) (hh : optNat (hi.map (earg fr)) n = some h) (h1 : l ≤ h) (h2 : h ≤ n) (hpos : l < n ∨ l = 0)
    (hroom : ∀ b base, G.m r = some (b, base) → ∃ cs T fz, w.heap[b]? = some (.cells cs T fz) ∧ base + off + n * z ≤ cs.size) :
    Gives P G w act o (.sl r z (off + l * z) (h - l)) := by
  have hr := arg_rel (w := w) (G := G) hx hs0
  rw [he] at hr
  obtain ⟨b, base, h3, hm⟩ := ptr_form hr
  obtain ⟨cs, T', fz, hc1, hc2⟩ := hroom b base hm
  have hb := sliceBounds_run (P := P) (isS := false) (cap := n) hlo hhi hs hs2 hl hh h1 h2 (Nat.le_refl _)
  have hrun : (execOp act.eval o).run P w = .ok (.value (.slice (some (if n = l then ⟨b, base + off, none⟩ else ⟨b, base + off + l * z, none⟩)) (h - l) (n - l))) w := by
    subst hz
    rcases hT with hT | ⟨hT, hA⟩
    · simp only [execOp, ho, h3, Instr.sliceAt, Instr.sureAddr, Sem.run_bind, Sem.run_pure, run_underlying' hT, Result.andThen_ok, Option.map_none, hb, run_sizeOf' hi0, add_eq]
    · simp only [execOp, ho, h3, Instr.sliceAt, Instr.slice, Go.asAddr, Sem.run_bind, Sem.run_pure, run_underlying' hT, run_underlying' hA, Result.andThen_ok, Option.map_none, hb, run_sizeOf' hi0, add_eq]
  refine ⟨_, hrun, ?_⟩
  have hsum : l * z + (n - l) * z = n * z := by rw [← Nat.add_mul]; congr 1; omega
  have e : (if n = l then (⟨b, base + off, none⟩ : Addr) else ⟨b, base + off + l * z, none⟩) = ⟨b, base + (off + l * z), none⟩ := by
    split
    · have : l = 0 := by omega
      subst this; simp
    · rw [Nat.add_assoc]
  rw [e]
  exact .sl r z (off + l * z) (h - l) b base (n - l) hm (by omega) ⟨cs, T', fz, hc1, by omega⟩

/-! ### lengths, the greater and the smaller, carries -/
theorem call_builtin (b : Builtin) (args : Array Operand) (ts : Array TypeId) (ho : o.op = .call { callee := .builtin b, args := args, argTypes := ts }) :
    ∃ c, execOp act.eval o = builtin b ts o.type c (args.map act.eval) := by
  refine ⟨args.map fun | .const _ => true | _ => false, ?_⟩
  simp only [execOp, ho, resolve, invoke]
  rfl
def lenX : AV → Option Nat
  | .str s => some s.length
  | .lst _ _ es => some es.length
  | .nilsl => some 0
  | .sl _ _ _ n => some n
  | _ => none
theorem slot_slice {s : Nat} {ow : Own} {z : Nat} {es : List (List AV)} (hs : RelS G w fr act s) (he : fget fr s = .lst ow z es) : ∃ a cap, act.tmps.getD s undef = .slice a es.length cap := by
  obtain ⟨h1, h2⟩ := hs
  rw [he] at h1 h2
  by_cases hu : ow = .uniq
  · subst hu
    obtain ⟨b, q, cap, hx, _⟩ := h2
    exact ⟨_, cap, hx⟩
  · obtain ⟨b, q, cap, X, hx, _⟩ := lst_form h1 hu
    exact ⟨_, cap, hx⟩
theorem raw_rel {a : XArg} {b : Operand} (h : argOk a b = true) (hs : ∀ t ∈ argTmp a, RelS G w fr act t) : RelV G w (rawArg fr a) (act.eval b) := by
  cases a with
  | tmp t =>
    cases b <;> simp [argOk] at h
    subst h
    exact (hs t (by simp [argTmp])).1
  | cst v => exact arg_rel (a := .cst v) h hs
  | glob g => exact arg_rel (a := .glob g) h hs
theorem gives_lens {x : XArg} {x' : Operand} {t : TypeId} {d : TypeDesc} {n : Nat} (hx : argOk x x' = true) (ho : o.op = .call { callee := .builtin .len, args := #[x'], argTypes := #[t] })
    (hT : P.underlying t = some d) (hd : (d = .string ∧ ∃ s, rawArg fr x = .str s) ∨ ((∃ e, d = .slice e) ∧ ∀ s, rawArg fr x ≠ .str s)) (hs : ∀ t ∈ argTmp x, RelS G w fr act t) (he : lenX (rawArg fr x) = some n) : Gives P G w act o (.int .i64 n) := by
  obtain ⟨c, hc⟩ := call_builtin (act := act) (o := o) _ _ _ ho
  have key : (Builtin.len_ #[t] o.type #[act.eval x']).run P w = .ok (goInt n) w := by
    have h1 := raw_rel (w := w) (G := G) hx hs
    simp only [Builtin.len_]
    rcases hd with ⟨rfl, s, hst⟩ | ⟨⟨e, rfl⟩, hst⟩
    · rw [hst] at h1 he
      simp [lenX] at he
      subst he
      cases h3 : act.eval x' <;> rw [h3] at h1 <;> cases h1
      rename_i q
      simp [run_underlying' hT, Array.length_toList]
    · cases hv : rawArg fr x <;> rw [hv] at h1 he <;> simp [lenX] at he
      · exact absurd hv (hst _)
      · cases h3 : act.eval x' <;> rw [h3] at h1 <;> cases h1
        subst he
        simp [run_underlying' hT]
      · obtain ⟨b, base, cap, h3, _⟩ := sl_form h1
        subst he
        simp [run_underlying' hT, h3]
      · rename_i ow z es
        have : ∃ a cap, act.eval x' = .slice a es.length cap := by
          cases x with
          | tmp s =>
            cases x' <;> simp [argOk] at hx
            subst hx
            exact slot_slice (hs s (by simp [argTmp])) hv
          | cst v => simp only [rawArg] at hv; subst hv; cases x' <;> simp [argOk, constOk] at hx
          | glob g => simp [rawArg] at hv
        obtain ⟨a, cap, h3⟩ := this
        subst he
        simp [run_underlying' hT, h3]
  exact ⟨goInt n, by rw [hc]; simp [builtin, key], .int _ _⟩
theorem gives_mx {x y : XArg} {x' y' : Operand} {ts : Array TypeId} {k : IntKind} {a b : Int} (hx : argOk x x' = true) (hy : argOk y y' = true) (hs : ∀ t ∈ argTmp x ++ argTmp y, RelS G w fr act t)
    (he : earg fr x = .int k a) (hf : earg fr y = .int k b) :
    (o.op = .call { callee := .builtin .max, args := #[x', y'], argTypes := ts } → Gives P G w act o (.int k (if b > a then b else a))) ∧
    (o.op = .call { callee := .builtin .min, args := #[x', y'], argTypes := ts } → Gives P G w act o (.int k (if b < a then b else a))) := by
  have h1 := arg_rel (w := w) (G := G) (fr := fr) (act := act) hx (fun t ht => hs t (by simp [ht]))
  have h2 := arg_rel (w := w) (G := G) (fr := fr) (act := act) hy (fun t ht => hs t (by simp [ht]))
  rw [he] at h1; rw [hf] at h2
  cases h3 : act.eval x' <;> rw [h3] at h1 <;> cases h1
  cases h4 : act.eval y' <;> rw [h4] at h2 <;> cases h2
  refine ⟨fun ho => ?_, fun ho => ?_⟩
  · obtain ⟨c, hc⟩ := call_builtin (act := act) (o := o) _ _ _ ho
    exact ⟨.int k (if b > a then b else a), by rw [hc]; simp [builtin, Builtin.max_, Builtin.max2, h3, h4], .int _ _⟩
  · obtain ⟨c, hc⟩ := call_builtin (act := act) (o := o) _ _ _ ho
    exact ⟨.int k (if b < a then b else a), by rw [hc]; simp [builtin, Builtin.min_, Builtin.min2, h3, h4], .int _ _⟩
end
end Go.Proofs.Ytpfollpbkpgglaa.Sx
