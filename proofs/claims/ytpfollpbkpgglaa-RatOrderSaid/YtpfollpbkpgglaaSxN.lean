/- SX, part N: operations that only compute, all in one. -/
import Derived.Test.YtpfollpbkpgglaaSxM
set_option linter.unusedVariables false
set_option linter.unusedSimpArgs false
namespace Go.Proofs.Ytpfollpbkpgglaa.Sx
open Go
def ptrOf : AV → Option Ref
  | .ptr r _ => some r
  | _ => none
def slOf : AV → Option Ref
  | .sl r _ _ _ => some r
  | _ => none
/-- the blocks of the call's own that an operation looks at or writes -/
def footR (fr : List AV) : XOp → Ref → Prop
  | .load a _ _, r => ptrOf (earg fr a) = some r
  | .lown a, r => ptrOf (earg fr a) = some r
  | .store a _ _, r => ptrOf (earg fr a) = some r
  | .nexts a, r => ptrOf (earg fr a) = some r
  | .clr _ _ a, r => slOf (earg fr a) = some r
  | op, _ => cls op = 1 ∨ cls op = 3
theorem mem_ats {a : XArg} {l : List XArg} {t : Nat} (ha : a ∈ l) (ht : t ∈ argTmp a) : t ∈ ats l := by
  induction l with
  | nil => simp at ha
  | cons b l ih =>
    rcases List.mem_cons.1 ha with rfl | h
    · cases a <;> simp [argTmp] at ht
      simp [ats, ht]
    · have := ih h
      cases b <;> simp [ats, this]
def pureOp : XOp → Bool
  | .mov _ | .pick _ _ _ | .build _ _ | .load _ _ _ | .nilck _ | .bin _ _ _ | .beq _ _ _ | .eqnil _ _ _ | .eqagg _ _ _ _ | .neg _ | .not _ | .cpl _ | .conv _ _ | .same _ | .mkif _ _ | .tas _ _ _ _ | .mkfn _ _ _ | .sstr _ _ _ | .ssl _ _ _ _ _
  | .faddr _ _ | .field _ _ _ _ | .iaddr _ _ _ | .iarr _ _ _ _ | .idxs _ _ | .idxa _ _ _ _ _ | .ext _ _ | .lens _ _ | .mx _ _ | .mn _ _ => true
  | _ => false
section
variable {P : Program} {G : Gh} {w : World} {fr : List AV} {act : Act} {o : Oper} {C : CallT} {gl : Nat → List AV} {d : Nat} {hp : Heap} {v : AV} {fr1 : List AV} {hp1 : Heap} {prims : List (Nat × Nat)}
def OpGives (P : Program) (G : Gh) (w : World) (act : Act) (o : Oper) (v : AV) (fr fr1 : List AV) (hp hp1 : Heap) : Prop := Gives P G w act o v ∧ noFlag v ∧ fr1 = fr ∧ hp1 = hp
theorem ats1 {x : XArg} (hs : ∀ t ∈ ats [x], RelS G w fr act t) : ∀ t ∈ argTmp x, RelS G w fr act t := fun t ht => hs t (mem_ats (a := x) (by simp) ht)
theorem ats2 {x y : XArg} (hs : ∀ t ∈ ats [x, y], RelS G w fr act t) : ∀ t ∈ argTmp x ++ argTmp y, RelS G w fr act t := fun t ht => hs t (by
  rcases List.mem_append.1 ht with h | h
  · exact mem_ats (a := x) (by simp) h
  · exact mem_ats (a := y) (by simp) h)
theorem callB_spec' {b : Builtin} {as : List Operand} {ts : List TypeId} (h : callB o.op = some (b, as, ts)) : o.op = .call { callee := .builtin b, args := as.toArray, argTypes := ts.toArray } := by
  cases ho : o.op <;> rw [ho] at h <;> simp only [callB] at h <;> (try (cases h; done))
  rename_i c
  split at h
  · rename_i b' hb
    injection h with h
    injection h with h1 h
    injection h with h2 h3
    subst h1 h2 h3
    obtain ⟨ca, ar, at'⟩ := c
    simp only at hb
    subst hb
    simp
  · cases h
theorem callB_spec {b : Builtin} {as : List Operand} {ts : List TypeId} (h : callB o.op = some (b, as, ts)) : ∃ tt, o.op = .call { callee := .builtin b, args := as.toArray, argTypes := tt } := ⟨_, callB_spec' h⟩
theorem op_mov {a : XArg} (hc : chkOp P prims (.mov a) o = true) (he : evOp C gl d (.mov a) fr hp = some (v, fr1, hp1)) (hs : ∀ t ∈ rds (.mov a), RelS G w fr act t) : OpGives P G w act o v fr fr1 hp hp1 := by
  cases ho : o.op <;> (try (simp [chkOp, ho] at hc; done))
  all_goals simp [chkOp, ho] at hc
  all_goals simp only [evOp, Option.some.injEq, Prod.mk.injEq] at he
  all_goals obtain ⟨rfl, rfl, rfl⟩ := he
  · exact ⟨gives_mov hc (.inl ho) (ats1 hs), earg_noFlag hc, rfl, rfl⟩
  · exact ⟨gives_mov hc (.inr ho) (ats1 hs), earg_noFlag hc, rfl, rfl⟩
theorem op_bin {b : XBin} {x y : XArg} (hc : chkOp P prims (.bin b x y) o = true) (he : evOp C gl d (.bin b x y) fr hp = some (v, fr1, hp1)) (hs : ∀ t ∈ rds (.bin b x y), RelS G w fr act t) : OpGives P G w act o v fr fr1 hp hp1 := by
  cases ho : o.op <;> simp [chkOp, ho] at hc
  obtain ⟨⟨rfl, h1⟩, h2⟩ := hc
  simp only [evOp] at he
  split at he
  · rename_i u hu
    simp only [Option.some.injEq, Prod.mk.injEq] at he
    obtain ⟨rfl, rfl, rfl⟩ := he
    obtain ⟨h3, h4⟩ := gives_bin h1 h2 ho (ats2 hs) hu
    exact ⟨h3, h4, rfl, rfl⟩
  · cases he
theorem op_pick {c a b : XArg} (hc : chkOp P prims (.pick c a b) o = true) (he : evOp C gl d (.pick c a b) fr hp = some (v, fr1, hp1)) (hs : ∀ t ∈ rds (.pick c a b), RelS G w fr act t) : OpGives P G w act o v fr fr1 hp hp1 := by
  cases ho : o.op <;> simp [chkOp, ho] at hc
  obtain ⟨⟨h1, h2⟩, h3⟩ := hc
  have hs' : ∀ t ∈ argTmp c ++ argTmp a ++ argTmp b, RelS G w fr act t := fun t ht => hs t (by
    rcases List.mem_append.1 ht with h | h
    · rcases List.mem_append.1 h with h | h
      · exact mem_ats (a := c) (by simp) h
      · exact mem_ats (a := a) (by simp) h
    · exact mem_ats (a := b) (by simp) h)
  simp only [evOp] at he
  split at he
  · rename_i hv
    simp only [Option.some.injEq, Prod.mk.injEq] at he
    obtain ⟨rfl, rfl, rfl⟩ := he
    exact ⟨by simpa using gives_pick h1 h2 h3 ho hs' hv, earg_noFlag h2, rfl, rfl⟩
  · rename_i hv
    simp only [Option.some.injEq, Prod.mk.injEq] at he
    obtain ⟨rfl, rfl, rfl⟩ := he
    exact ⟨by simpa using gives_pick h1 h2 h3 ho hs' hv, earg_noFlag h3, rfl, rfl⟩
  · cases he
theorem op_beq {n : Bool} {x y : XArg} (hc : chkOp P prims (.beq n x y) o = true) (he : evOp C gl d (.beq n x y) fr hp = some (v, fr1, hp1)) (hs : ∀ t ∈ rds (.beq n x y), RelS G w fr act t) : OpGives P G w act o v fr fr1 hp hp1 := by
  cases ho : o.op <;> simp [chkOp, ho] at hc
  obtain ⟨⟨⟨h0, h1⟩, h2⟩, h3⟩ := hc
  simp only [evOp] at he
  split at he
  · rename_i a b ha hb
    simp only [Option.some.injEq, Prod.mk.injEq] at he
    obtain ⟨rfl, rfl, rfl⟩ := he
    split at h3
    · rename_i hT
      exact ⟨gives_beq h1 h2 (by rw [ho, h0]) hT (ats2 hs) ha hb, trivial, rfl, rfl⟩
    · simp at h3
  · cases he
theorem op_eqagg {n : Bool} {sh : List Nat} {x y : XArg} (hc : chkOp P prims (.eqagg n sh x y) o = true) (he : evOp C gl d (.eqagg n sh x y) fr hp = some (v, fr1, hp1)) (hs : ∀ t ∈ rds (.eqagg n sh x y), RelS G w fr act t) : OpGives P G w act o v fr fr1 hp hp1 := by
  cases ho : o.op <;> simp [chkOp, ho] at hc
  obtain ⟨⟨⟨⟨⟨h0, h1⟩, h2⟩, h3⟩, h4⟩, h5⟩ := hc
  simp only [evOp] at he
  split at he
  · rename_i l m ha hb
    split at he
    · rename_i r hr
      simp only [Option.some.injEq, Prod.mk.injEq] at he
      obtain ⟨rfl, rfl, rfl⟩ := he
      split at h5
      · rename_i dd hT
        exact ⟨gives_eqagg h1 h2 (by rw [ho, h0]) h3 (by omega) h4 ⟨dd, hT, h5⟩ (ats2 hs) ha hb hr, trivial, rfl, rfl⟩
      · simp at h5
    · cases he
  · cases he
theorem op_neg {a : XArg} (hc : chkOp P prims (.neg a) o = true) (he : evOp C gl d (.neg a) fr hp = some (v, fr1, hp1)) (hs : ∀ t ∈ rds (.neg a), RelS G w fr act t) : OpGives P G w act o v fr fr1 hp hp1 := by
  simp only [chkOp] at hc
  split at hc
  · rename_i T b ho
    simp only [evOp] at he
    split at he
    · rename_i k n ha
      simp only [Option.some.injEq, Prod.mk.injEq] at he
      obtain ⟨rfl, rfl, rfl⟩ := he
      exact ⟨gives_neg hc ho (ats1 hs) ha, trivial, rfl, rfl⟩
    · cases he
  · simp at hc
theorem op_not {a : XArg} (hc : chkOp P prims (.not a) o = true) (he : evOp C gl d (.not a) fr hp = some (v, fr1, hp1)) (hs : ∀ t ∈ rds (.not a), RelS G w fr act t) : OpGives P G w act o v fr fr1 hp hp1 := by
  simp only [chkOp] at hc
  split at hc
  · rename_i T b ho
    simp only [evOp] at he
    split at he
    · rename_i bb ha
      simp only [Option.some.injEq, Prod.mk.injEq] at he
      obtain ⟨rfl, rfl, rfl⟩ := he
      exact ⟨gives_not hc ho (ats1 hs) ha, trivial, rfl, rfl⟩
    · cases he
  · simp at hc
theorem op_field {a : XArg} {off n : Nat} {agg : Bool} (hc : chkOp P prims (.field a off n agg) o = true) (he : evOp C gl d (.field a off n agg) fr hp = some (v, fr1, hp1)) (hs : ∀ t ∈ rds (.field a off n agg), RelS G w fr act t) : OpGives P G w act o v fr fr1 hp hp1 := by
  cases ho : o.op <;> simp [chkOp, ho] at hc
  obtain ⟨h1, h2⟩ := hc
  split at h2
  · rename_i fs hS
    split at h2
    · rename_i f hf
      simp only [typeIs, Bool.and_eq_true, beq_iff_eq] at h2
      obtain ⟨h3, h4⟩ := h2
      split at h4
      · rename_i i dd hi hd
        simp only [Bool.and_eq_true, beq_iff_eq] at h4
        simp only [evOp] at he
        split at he
        · rename_i cs ha
          split at he
          · rename_i u hu
            simp only [Option.some.injEq, Prod.mk.injEq] at he
            obtain ⟨rfl, rfl, rfl⟩ := he
            split at hu
            · rename_i hl
              exact ⟨gives_field (T := 0) h1 ho hS hf h3 hi hd h4.1 h4.2 (ats1 hs) ha hl hu, ldCells_noFlag hu, rfl, rfl⟩
            · cases hu
          · cases he
        · cases he
      · simp at h4
    · simp at h2
  · simp at h2
theorem op_faddr {a : XArg} {k : Nat} (hc : chkOp P prims (.faddr a k) o = true) (he : evOp C gl d (.faddr a k) fr hp = some (v, fr1, hp1)) (hs : ∀ t ∈ rds (.faddr a k), RelS G w fr act t) : OpGives P G w act o v fr fr1 hp hp1 := by
  cases ho : o.op <;> simp [chkOp, ho] at hc
  obtain ⟨h1, h2⟩ := hc
  split at h2
  · rename_i fs hS
    split at h2
    · rename_i f hf
      simp only [Bool.and_eq_true, beq_iff_eq] at h2
      obtain ⟨h3, h4⟩ := h2
      split at h4
      · rename_i i hi
        have hz : i.size ≠ 0 := by simpa using h4
        obtain ⟨h5, h6⟩ := gives_faddr h1 ho hS hf h3 hi hz (ats1 hs)
        simp only [evOp] at he
        split at he
        · rename_i r off ha
          simp only [Option.some.injEq, Prod.mk.injEq] at he
          obtain ⟨rfl, rfl, rfl⟩ := he
          exact ⟨h5 _ _ ha, trivial, rfl, rfl⟩
        · rename_i cs ha
          split at he
          · rename_i hl
            simp only [Option.some.injEq, Prod.mk.injEq] at he
            obtain ⟨rfl, rfl, rfl⟩ := he
            exact ⟨h6 _ ha hl, trivial, rfl, rfl⟩
          · cases he
        · cases he
      · simp at h4
    · simp at h2
  · simp at h2
theorem op_iarr {n z : Nat} {a i : XArg} (hc : chkOp P prims (.iarr n z a i) o = true) (he : evOp C gl d (.iarr n z a i) fr hp = some (v, fr1, hp1)) (hs : ∀ t ∈ rds (.iarr n z a i), RelS G w fr act t) : OpGives P G w act o v fr fr1 hp hp1 := by
  cases ho : o.op <;> simp [chkOp, ho] at hc
  obtain ⟨⟨h1, h2⟩, h3⟩ := hc
  split at h3
  · rename_i m E hT
    simp only [sizeIs, Bool.and_eq_true, beq_iff_eq] at h3
    obtain ⟨rfl, h4⟩ := h3
    split at h4
    · rename_i ii hi
      simp only [beq_iff_eq] at h4
      simp only [evOp] at he
      split at he
      · rename_i r off k ha hk
        split at he
        · rename_i hlt
          simp only [Option.some.injEq, Prod.mk.injEq] at he
          obtain ⟨rfl, rfl, rfl⟩ := he
          exact ⟨(gives_iarr h1 h2 ho hT hi h4 (ats2 hs) hk hlt).1 _ _ ha, trivial, rfl, rfl⟩
        · cases he
      · rename_i cs k ha hk
        split at he
        · rename_i hlt
          simp only [Option.some.injEq, Prod.mk.injEq] at he
          obtain ⟨rfl, rfl, rfl⟩ := he
          exact ⟨(gives_iarr h1 h2 ho hT hi h4 (ats2 hs) hk hlt.1).2 _ ha hlt.2, trivial, rfl, rfl⟩
        · cases he
      · cases he
    · simp at h4
  · simp at h3
theorem op_iaddr {z : Nat} {a i : XArg} (hc : chkOp P prims (.iaddr z a i) o = true) (he : evOp C gl d (.iaddr z a i) fr hp = some (v, fr1, hp1)) (hs : ∀ t ∈ rds (.iaddr z a i), RelS G w fr act t) : OpGives P G w act o v fr fr1 hp hp1 := by
  cases ho : o.op <;> simp [chkOp, ho] at hc
  obtain ⟨⟨h1, h2⟩, h3⟩ := hc
  split at h3
  · rename_i E hT
    simp only [sizeIs] at h3
    split at h3
    · rename_i ii hi
      simp only [beq_iff_eq] at h3
      simp only [evOp] at he
      split at he
      · rename_i oo z' es k ha hk
        split at he
        · rename_i hlt
          obtain ⟨rfl, hlt⟩ := hlt
          simp only [Option.some.injEq, Prod.mk.injEq] at he
          obtain ⟨rfl, rfl, rfl⟩ := he
          exact ⟨(gives_iaddr h1 h2 ho hT hi h3 (ats2 hs) hk).1 _ _ ha hlt, trivial, rfl, rfl⟩
        · cases he
      · rename_i r z' off len k ha hk
        split at he
        · rename_i hlt
          obtain ⟨rfl, hlt⟩ := hlt
          simp only [Option.some.injEq, Prod.mk.injEq] at he
          obtain ⟨rfl, rfl, rfl⟩ := he
          exact ⟨(gives_iaddr h1 h2 ho hT hi h3 (ats2 hs) hk).2 _ _ _ ha hlt, trivial, rfl, rfl⟩
        · cases he
      · cases he
    · simp at h3
  · simp at h3
theorem op_idxs {a i : XArg} (hc : chkOp P prims (.idxs a i) o = true) (he : evOp C gl d (.idxs a i) fr hp = some (v, fr1, hp1)) (hs : ∀ t ∈ rds (.idxs a i), RelS G w fr act t) : OpGives P G w act o v fr fr1 hp hp1 := by
  cases ho : o.op <;> simp [chkOp, ho] at hc
  obtain ⟨⟨h1, h2⟩, h3⟩ := hc
  split at h3
  · rename_i hT
    simp only [evOp] at he
    split at he
    · rename_i s k ha hk
      split at he
      · rename_i hlt
        simp only [Option.some.injEq, Prod.mk.injEq] at he
        obtain ⟨rfl, rfl, rfl⟩ := he
        exact ⟨gives_idxs h1 h2 ho hT (ats2 hs) ha hk hlt, trivial, rfl, rfl⟩
      · cases he
    · cases he
  · simp at h3
theorem op_idxa {n z : Nat} {agg : Bool} {a i : XArg} (hc : chkOp P prims (.idxa n z agg a i) o = true) (he : evOp C gl d (.idxa n z agg a i) fr hp = some (v, fr1, hp1)) (hs : ∀ t ∈ rds (.idxa n z agg a i), RelS G w fr act t) : OpGives P G w act o v fr fr1 hp hp1 := by
  cases ho : o.op <;> simp [chkOp, ho] at hc
  obtain ⟨⟨h1, h2⟩, h3⟩ := hc
  split at h3
  · rename_i m E hT
    simp only [typeIs, Bool.and_eq_true, beq_iff_eq] at h3
    obtain ⟨rfl, h4⟩ := h3
    split at h4
    · rename_i ii dd hi hd
      simp only [Bool.and_eq_true, beq_iff_eq] at h4
      simp only [evOp] at he
      split at he
      · rename_i cs k ha hk
        split at he
        · rename_i u hu
          simp only [Option.some.injEq, Prod.mk.injEq] at he
          obtain ⟨rfl, rfl, rfl⟩ := he
          split at hu
          · rename_i hl
            exact ⟨gives_idxa h1 h2 ho hT hi hd h4.1 h4.2 (ats2 hs) ha hk hl.1 hl.2 hu, ldCells_noFlag hu, rfl, rfl⟩
          · cases hu
        · cases he
      · cases he
    · simp at h4
  · simp at h3
theorem op_conv {k : IntKind} {a : XArg} (hc : chkOp P prims (.conv k a) o = true) (he : evOp C gl d (.conv k a) fr hp = some (v, fr1, hp1)) (hs : ∀ t ∈ rds (.conv k a), RelS G w fr act t) : OpGives P G w act o v fr fr1 hp hp1 := by
  cases ho : o.op <;> simp [chkOp, ho] at hc
  obtain ⟨⟨h1, h2⟩, h3⟩ := hc
  obtain ⟨sd, hS⟩ := Option.isSome_iff_exists.1 (show (P.underlying _).isSome = true from h2)
  split at h3
  · rename_i j hD
    have h3 : j = k := by simpa using h3
    subst h3
    simp only [evOp] at he
    split at he
    · rename_i kk n ha
      simp only [Option.some.injEq, Prod.mk.injEq] at he
      obtain ⟨rfl, rfl, rfl⟩ := he
      exact ⟨gives_conv h1 ho hS hD (ats1 hs) ha, trivial, rfl, rfl⟩
    · cases he
  · simp at h3
theorem op_ext {s i : Nat} (hc : chkOp P prims (.ext s i) o = true) (he : evOp C gl d (.ext s i) fr hp = some (v, fr1, hp1)) (hs : ∀ t ∈ rds (.ext s i), RelS G w fr act t) : OpGives P G w act o v fr fr1 hp hp1 := by
  cases ho : o.op <;> (try (simp [chkOp, ho] at hc; done))
  rename_i b j
  cases b <;> simp [chkOp, ho] at hc
  obtain ⟨rfl, rfl⟩ := hc
  simp only [evOp] at he
  split at he
  · rename_i vs hvs
    split at he
    · rename_i u hu
      simp only [Option.some.injEq, Prod.mk.injEq] at he
      obtain ⟨rfl, rfl, rfl⟩ := he
      exact ⟨gives_ext (T := .tmp 0) ho (hs _ (by simp [rds])) hvs hu, noFlag_uf _, rfl, rfl⟩
    · cases he
  · cases he
theorem op_nilck {a : XArg} (hc : chkOp P prims (.nilck a) o = true) (he : evOp C gl d (.nilck a) fr hp = some (v, fr1, hp1)) (hs : ∀ t ∈ rds (.nilck a), RelS G w fr act t) : OpGives P G w act o v fr fr1 hp hp1 := by
  cases ho : o.op <;> simp [chkOp, ho] at hc
  simp only [evOp] at he
  split at he
  · rename_i r off ha
    simp only [Option.some.injEq, Prod.mk.injEq] at he
    obtain ⟨rfl, rfl, rfl⟩ := he
    exact ⟨ha ▸ gives_nilck hc ho (ats1 hs) (.inl ⟨_, _, ha⟩), trivial, rfl, rfl⟩
  · rename_i cs ha
    simp only [Option.some.injEq, Prod.mk.injEq] at he
    obtain ⟨rfl, rfl, rfl⟩ := he
    exact ⟨ha ▸ gives_nilck hc ho (ats1 hs) (.inr (.inl ⟨_, ha⟩)), trivial, rfl, rfl⟩
  · rename_i f ds cs ha
    simp only [Option.some.injEq, Prod.mk.injEq] at he
    obtain ⟨rfl, rfl, rfl⟩ := he
    exact ⟨ha ▸ gives_nilck hc ho (ats1 hs) (.inr (.inr ⟨_, _, _, ha⟩)), trivial, rfl, rfl⟩
  · cases he
theorem op_load {a : XArg} {n : Nat} {agg : Bool} (hc : chkOp P prims (.load a n agg) o = true) (he : evOp C gl d (.load a n agg) fr hp = some (v, fr1, hp1)) (hs : ∀ t ∈ rds (.load a n agg), RelS G w fr act t)
    (hh : ∀ r, footR fr (.load a n agg) r → ∀ b base blk, G.m r = some (b, base) → hget hp r = some blk → RelBlk G w r b base blk) (hg : GlOk G w gl) : OpGives P G w act o v fr fr1 hp hp1 := by
  cases ho : o.op <;> simp [chkOp, ho] at hc
  obtain ⟨h1, h2⟩ := hc
  simp only [typeIs] at h2
  split at h2
  · rename_i i dd hi hd
    simp only [Bool.and_eq_true, beq_iff_eq] at h2
    simp only [evOp] at he
    split at he
    · rename_i u hu
      simp only [Option.some.injEq, Prod.mk.injEq] at he
      obtain ⟨rfl, rfl, rfl⟩ := he
      obtain ⟨h3, h4⟩ := gives_load h1 ho hi hd h2.1 h2.2 (ats1 hs) (fun r off hr => hh r (by simp [footR, hr, ptrOf])) hg hu
      exact ⟨h3, h4, rfl, rfl⟩
    · cases he
  · simp at h2
theorem op_build {zs : List AV} {ps : List (Nat × Nat × XArg)} (hc : chkOp P prims (.build zs ps) o = true) (he : evOp C gl d (.build zs ps) fr hp = some (v, fr1, hp1)) (hs : ∀ t ∈ rds (.build zs ps), RelS G w fr act t) : OpGives P G w act o v fr fr1 hp hp1 := by
  cases ho : o.op <;> simp [chkOp, ho] at hc
  obtain ⟨h1, h2⟩ := hc
  have hs' : ∀ p ∈ ps, ∀ t ∈ argTmp p.2.2, RelS G w fr act t := fun p hp t ht => hs t (mem_ats (List.mem_map.2 ⟨p, hp, rfl⟩) ht)
  simp only [evOp] at he
  split at he
  · rename_i cs hcs
    simp only [Option.some.injEq, Prod.mk.injEq] at he
    obtain ⟨rfl, rfl, rfl⟩ := he
    split at h2
    · rename_i fs hd
      simp only [Bool.and_eq_true, List.all_eq_true] at h2
      exact ⟨gives_build ho h1 hd (.inl ⟨fs, rfl, fun f hf => Array.all_eq_true_iff_forall_mem.1 h2.1 f (by simpa using hf), h2.2⟩) hs' hcs, trivial, rfl, rfl⟩
    · rename_i nn e hd
      split at h2
      · rename_i i hi
        exact ⟨gives_build ho h1 hd (.inr ⟨nn, e, i, rfl, hi, h2⟩) hs' hcs, trivial, rfl, rfl⟩
      · simp at h2
    · simp at h2
  · cases he
theorem op_same {a : XArg} (hc : chkOp P prims (.same a) o = true) (he : evOp C gl d (.same a) fr hp = some (v, fr1, hp1)) (hs : ∀ t ∈ rds (.same a), RelS G w fr act t) : OpGives P G w act o v fr fr1 hp hp1 := by
  simp only [chkOp] at hc
  split at hc
  · rename_i S D b ho
    simp only [Bool.and_eq_true] at hc
    obtain ⟨⟨h1, h2⟩, h3⟩ := hc
    obtain ⟨sd, hS⟩ := Option.isSome_iff_exists.1 (show (P.underlying _).isSome = true from h2)
    split at h3
    · rename_i hD
      simp only [evOp] at he
      split at he
      · rename_i ss ha
        simp only [Option.some.injEq, Prod.mk.injEq] at he
        obtain ⟨rfl, rfl, rfl⟩ := he
        exact ⟨gives_same h1 ho hS hD (ats1 hs) ha, trivial, rfl, rfl⟩
      · cases he
    · simp at h3
  · simp at hc
theorem op_cpl {a : XArg} (hc : chkOp P prims (.cpl a) o = true) (he : evOp C gl d (.cpl a) fr hp = some (v, fr1, hp1)) (hs : ∀ t ∈ rds (.cpl a), RelS G w fr act t) : OpGives P G w act o v fr fr1 hp hp1 := by
  simp only [chkOp] at hc
  split at hc
  · rename_i T b ho
    simp only [evOp] at he
    split at he
    · rename_i k n ha
      split at he
      · rename_i u hu
        simp only [Option.some.injEq, Prod.mk.injEq] at he
        obtain ⟨rfl, rfl, rfl⟩ := he
        obtain ⟨h1, h2⟩ := gives_cpl hc ho (ats1 hs) ha hu
        exact ⟨h1, h2, rfl, rfl⟩
      · cases he
    · cases he
  · simp at hc
theorem op_mkif {t : Nat} {a : XArg} (hc : chkOp P prims (.mkif t a) o = true) (he : evOp C gl d (.mkif t a) fr hp = some (v, fr1, hp1)) (hs : ∀ t ∈ rds (.mkif t a), RelS G w fr act t) : OpGives P G w act o v fr fr1 hp hp1 := by
  simp only [chkOp] at hc
  split at hc
  · rename_i T b ho
    simp only [Bool.and_eq_true, beq_iff_eq] at hc
    obtain ⟨⟨rfl, h1⟩, h2⟩ := hc
    simp only [evOp] at he
    simp only [Option.some.injEq, Prod.mk.injEq] at he
    obtain ⟨rfl, rfl, rfl⟩ := he
    split at h2
    · simp at h2
    · rename_i dd hni hT
      exact ⟨gives_mkif h1 ho hT (fun ms e => hni ms e) (ats1 hs), trivial, rfl, rfl⟩
    · simp at h2
  · simp at hc
theorem op_mkfn {f : Nat} {ds cs : List XArg} (hc : chkOp P prims (.mkfn f ds cs) o = true) (he : evOp C gl d (.mkfn f ds cs) fr hp = some (v, fr1, hp1)) (hs : ∀ t ∈ rds (.mkfn f ds cs), RelS G w fr act t) : OpGives P G w act o v fr fr1 hp hp1 := by
  simp only [chkOp] at hc
  split at hc
  · rename_i g ds' cs' ho
    simp only [Bool.and_eq_true, beq_iff_eq] at hc
    obtain ⟨⟨rfl, h1⟩, h2⟩ := hc
    simp only [evOp] at he
    simp only [Option.some.injEq, Prod.mk.injEq] at he
    obtain ⟨rfl, rfl, rfl⟩ := he
    exact ⟨gives_mkfn h1 h2 ho (fun a ha t ht => hs t (mem_ats ha ht)), trivial, rfl, rfl⟩
  · simp at hc
theorem op_mx {a b : XArg} (hc : chkOp P prims (.mx a b) o = true) (he : evOp C gl d (.mx a b) fr hp = some (v, fr1, hp1)) (hs : ∀ t ∈ rds (.mx a b), RelS G w fr act t) : OpGives P G w act o v fr fr1 hp hp1 := by
  simp only [chkOp] at hc
  split at hc
  · rename_i c e tl hb
    simp only [Bool.and_eq_true] at hc
    obtain ⟨ts, ho⟩ := callB_spec hb
    simp only [evOp] at he
    split at he
    · rename_i k x k' y ha hb'
      split at he
      · rename_i hk
        subst hk
        simp only [Option.some.injEq, Prod.mk.injEq] at he
        obtain ⟨rfl, rfl, rfl⟩ := he
        exact ⟨(gives_mx hc.1 hc.2 (ats2 hs) ha hb').1 ho, trivial, rfl, rfl⟩
      · cases he
    · cases he
  · simp at hc
theorem op_mn {a b : XArg} (hc : chkOp P prims (.mn a b) o = true) (he : evOp C gl d (.mn a b) fr hp = some (v, fr1, hp1)) (hs : ∀ t ∈ rds (.mn a b), RelS G w fr act t) : OpGives P G w act o v fr fr1 hp hp1 := by
  simp only [chkOp] at hc
  split at hc
  · rename_i c e tl hb
    simp only [Bool.and_eq_true] at hc
    obtain ⟨ts, ho⟩ := callB_spec hb
    simp only [evOp] at he
    split at he
    · rename_i k x k' y ha hb'
      split at he
      · rename_i hk
        subst hk
        simp only [Option.some.injEq, Prod.mk.injEq] at he
        obtain ⟨rfl, rfl, rfl⟩ := he
        exact ⟨(gives_mx hc.1 hc.2 (ats2 hs) ha hb').2 ho, trivial, rfl, rfl⟩
      · cases he
    · cases he
  · simp at hc
theorem op_lens {st : Bool} {a : XArg} (hc : chkOp P prims (.lens st a) o = true) (he : evOp C gl d (.lens st a) fr hp = some (v, fr1, hp1)) (hs : ∀ t ∈ rds (.lens st a), RelS G w fr act t) : OpGives P G w act o v fr fr1 hp hp1 := by
  simp only [chkOp] at hc
  split at hc
  · rename_i b T hb
    simp only [Bool.and_eq_true] at hc
    obtain ⟨h1, h2⟩ := hc
    have ho := callB_spec' hb
    simp only [evOp] at he
    have key : ∀ n, lenX (rawArg fr a) = some n → (v, fr1, hp1) = ((.int .i64 n : AV), fr, hp) → OpGives P G w act o v fr fr1 hp hp1 := by
      intro n hn h3
      simp only [Prod.mk.injEq] at h3
      obtain ⟨h31, h32, h33⟩ := h3
      subst h31
      refine ⟨?_, trivial, h32, h33⟩
      cases st with
      | true =>
        cases hv : rawArg fr a <;> rw [hv] at he <;> simp only [reduceCtorEq] at he
        split at h2 <;> (try (simp at h2; done))
        exact gives_lens h1 ho (by assumption) (.inl ⟨rfl, _, hv⟩) (ats1 hs) hn
      | false =>
        split at h2 <;> (try (simp at h2; done))
        refine gives_lens h1 ho (by assumption) (.inr ⟨⟨_, rfl⟩, fun s hv => ?_⟩) (ats1 hs) hn
        rw [hv] at he
        simp at he
    split at he <;> simp only [Option.some.injEq, reduceCtorEq] at he
    all_goals (rename_i hv; exact key _ (by rw [hv]; rfl) he.symm)
  · simp at hc
theorem op_eqnil {kd : Nat} {n : Bool} {a : XArg} (hc : chkOp P prims (.eqnil kd n a) o = true) (he : evOp C gl d (.eqnil kd n a) fr hp = some (v, fr1, hp1)) (hs : ∀ t ∈ rds (.eqnil kd n a), RelS G w fr act t) : OpGives P G w act o v fr fr1 hp hp1 := by
  simp only [chkOp] at hc
  split at hc
  · rename_i op T x' c T2 ho
    simp only [Bool.and_eq_true, decide_eq_true_eq] at hc
    obtain ⟨⟨⟨h0, h1⟩, h2⟩, h3⟩ := hc
    split at h2
    · rename_i dd hT
      simp only [evOp] at he
      split at he
      · rename_i r hr
        simp only [Option.some.injEq, Prod.mk.injEq] at he
        obtain ⟨rfl, rfl, rfl⟩ := he
        exact ⟨gives_eqnil h1 (by rw [ho, h0]) hT h2 h3 (ats1 hs) hr, trivial, rfl, rfl⟩
      · cases he
    · simp at h2
  · simp at hc
theorem oatS {a : Option XArg} {l : List XArg} (hl : ∀ x ∈ a, x ∈ l) (hs : ∀ t ∈ ats l, RelS G w fr act t) : ∀ x ∈ a, ∀ t ∈ argTmp x, RelS G w fr act t :=
  fun x hx t ht => hs t (mem_ats (hl x hx) ht)
theorem op_sstr {a : XArg} {lo hi : Option XArg} (hc : chkOp P prims (.sstr a lo hi) o = true) (he : evOp C gl d (.sstr a lo hi) fr hp = some (v, fr1, hp1)) (hs : ∀ t ∈ rds (.sstr a lo hi), RelS G w fr act t) : OpGives P G w act o v fr fr1 hp hp1 := by
  simp only [chkOp] at hc
  split at hc
  · rename_i T b lo' hi' ho
    simp only [Bool.and_eq_true] at hc
    obtain ⟨⟨⟨h1, h2⟩, h3⟩, h4⟩ := hc
    split at h4
    · rename_i hT
      simp only [rds] at hs
      simp only [evOp] at he
      split at he
      · rename_i s ha
        split at he
        · rename_i l h hl hh
          split at he
          · rename_i hcond
            simp only [Option.some.injEq, Prod.mk.injEq] at he
            obtain ⟨rfl, rfl, rfl⟩ := he
            exact ⟨gives_sstr h1 ho hT h2 h3 (fun t ht => hs t (mem_ats (a := a) (by simp) ht)) (oatS (by intro x hx; have hx' := Option.mem_def.1 hx; simp [oat, hx']) hs) (oatS (by intro x hx; have hx' := Option.mem_def.1 hx; simp [oat, hx']) hs) ha hl hh hcond.1 hcond.2, trivial, rfl, rfl⟩
          · cases he
        · cases he
      · cases he
    · cases h4
  · cases hc
theorem op_ssl {z : Nat} {a : XArg} {lo hi mx : Option XArg} (hc : chkOp P prims (.ssl z a lo hi mx) o = true) (he : evOp C gl d (.ssl z a lo hi mx) fr hp = some (v, fr1, hp1)) (hs : ∀ t ∈ rds (.ssl z a lo hi mx), RelS G w fr act t) : OpGives P G w act o v fr fr1 hp hp1 := by
  simp only [chkOp] at hc
  split at hc
  · rename_i T b lo' hi' mx' ho
    simp only [Bool.and_eq_true] at hc
    obtain ⟨⟨⟨⟨⟨h1, h2⟩, h3⟩, h4⟩, h5⟩, h6⟩ := hc
    split at h5
    · rename_i E hT
      simp only [sizeIs] at h5
      split at h5
      · rename_i i hi0
        have hz : i.size = z := by simpa using h5
        simp only [rds] at hs
        have hsa : ∀ t ∈ argTmp a, RelS G w fr act t := fun t ht => hs t (mem_ats (a := a) (by simp) ht)
        have hslo : ∀ x ∈ lo, ∀ t ∈ argTmp x, RelS G w fr act t := oatS (by intro x hx; have hx' := Option.mem_def.1 hx; simp [oat, hx']) hs
        have hshi : ∀ x ∈ hi, ∀ t ∈ argTmp x, RelS G w fr act t := oatS (by intro x hx; have hx' := Option.mem_def.1 hx; simp [oat, hx']) hs
        have hsmx : ∀ x ∈ mx, ∀ t ∈ argTmp x, RelS G w fr act t := oatS (by intro x hx; have hx' := Option.mem_def.1 hx; simp [oat, hx']) hs
        have hmn : mx = none → mx' = none := by
          rintro rfl
          cases mx' with
          | none => rfl
          | some _ => simp [optOk] at h4
        simp only [evOp] at he
        split at he
        · rename_i ha
          split at he
          · rename_i hm hl hh
            simp only [Option.some.injEq, Prod.mk.injEq] at he
            obtain ⟨rfl, rfl, rfl⟩ := he
            exact ⟨gives_sslnil h1 (by rw [ho, hmn rfl]) hT hi0 h2 h3 hsa hslo hshi ha hl hh, trivial, rfl, rfl⟩
          · cases he
        · rename_i ow z' es ha
          split at he
          · rename_i l h hl hh
            split at he
            · rename_i hcond
              obtain ⟨rfl, h7, h8⟩ := hcond
              split at he
              · simp only [Option.some.injEq, Prod.mk.injEq] at he
                obtain ⟨rfl, rfl, rfl⟩ := he
                exact ⟨gives_ssl h1 (by rw [ho, hmn rfl]) hT hi0 hz h2 h3 hsa hslo hshi ha hl hh h7 h8, by split <;> trivial, rfl, rfl⟩
              · rename_i m
                split at he
                · rename_i hmm
                  simp only [Option.some.injEq, Prod.mk.injEq] at he
                  obtain ⟨rfl, rfl, rfl⟩ := he
                  cases hi with
                  | none => simp at h6
                  | some y =>
                    cases hi' with
                    | none => simp [optOk] at h3
                    | some y' =>
                      cases mx' with
                      | none => simp [optOk] at h4
                      | some m' =>
                        refine ⟨gives_ssl3 h1 (by simpa [optOk] using h3) (by simpa [optOk] using h4) ho hT hi0 hz h2 (fun t ht => ?_) hslo ha hl (by simpa using hh) hmm h7 h8, trivial, rfl, rfl⟩
                        rcases List.mem_append.1 ht with ht | ht
                        · rcases List.mem_append.1 ht with ht | ht
                          · exact hsa t ht
                          · exact hshi y rfl t ht
                        · exact hsmx m rfl t ht
                · cases he
            · cases he
          · cases he
        · rename_i r z' off len ha
          split at he
          · rename_i l h hm hl hh
            split at he
            · rename_i hcond
              obtain ⟨rfl, h7, h8, h9⟩ := hcond
              simp only [Option.some.injEq, Prod.mk.injEq] at he
              obtain ⟨rfl, rfl, rfl⟩ := he
              exact ⟨gives_sslsl h1 (by rw [ho, hmn rfl]) hT hi0 hz h2 h3 hsa hslo hshi ha hl hh h7 h8 h9, trivial, rfl, rfl⟩
            · cases he
          · cases he
        · cases he
      · cases h5
    · cases h5
  · cases hc
theorem zeroVal_rel {v : AV} {x : Value} (h : zeroVal v x = true) : RelV G w v x := by
  unfold zeroVal at h
  split at h
  · rename_i cs xs
    obtain ⟨h1, _⟩ := constCells_rel (G := G) (w := w) h
    exact .agg _ _ (by simpa using h1.1) (fun j v x hv hx => h1.2 j v x hv (by simpa using hx))
  · cases h
  · simp only [Bool.and_eq_true] at h
    exact constOk_rel h.1
theorem op_tas {t : Nat} {ok : Bool} {zero : AV} {a : XArg} (hc : chkOp P prims (.tas t ok zero a) o = true) (he : evOp C gl d (.tas t ok zero a) fr hp = some (v, fr1, hp1)) (hs : ∀ u ∈ rds (.tas t ok zero a), RelS G w fr act u) : OpGives P G w act o v fr fr1 hp hp1 := by
  simp only [chkOp] at hc
  split at hc
  · rename_i b S t' ok' ho
    simp only [Bool.and_eq_true, beq_iff_eq] at hc
    obtain ⟨⟨⟨⟨rfl, rfl⟩, h1⟩, h2⟩, h3⟩ := hc
    split at h3
    · rename_i i hi
      split at h3
      · rename_i zv hzv
        have hd : ∃ dd, P.underlying t = some dd ∧ ∀ ms, dd ≠ .interface ms := by
          split at h2
          · cases h2
          · rename_i dd hni hT; exact ⟨dd, hT, fun ms e => hni ms e⟩
          · cases h2
        obtain ⟨dd, hT, hni⟩ := hd
        obtain ⟨g1, g2, g3⟩ := gives_tas (o := o) h1 ho hT hni hi hzv (zeroVal_rel h3) (ats1 hs)
        simp only [evOp] at he
        split at he
        · rename_i u x ha
          split at he
          · rename_i hut
            subst hut
            simp only [Option.some.injEq, Prod.mk.injEq] at he
            obtain ⟨rfl, rfl, rfl⟩ := he
            obtain ⟨y, h4, h5⟩ := g1 x ha
            refine ⟨⟨y, h4, ?_⟩, ?_, rfl, rfl⟩
            · cases ok
              · exact h5.uf
              · exact h5
            · cases ok
              · exact noFlag_uf x
              · trivial
          · rename_i hut
            split at he
            · rename_i hok
              simp only [Option.some.injEq, Prod.mk.injEq] at he
              obtain ⟨rfl, rfl, rfl⟩ := he
              exact ⟨g2 u x ha hut hok, trivial, rfl, rfl⟩
            · cases he
        · rename_i ha
          split at he
          · rename_i hok
            simp only [Option.some.injEq, Prod.mk.injEq] at he
            obtain ⟨rfl, rfl, rfl⟩ := he
            exact ⟨g3 ha hok, trivial, rfl, rfl⟩
          · cases he
        · cases he
      · cases h3
    · cases h3
  · cases hc
end
end Go.Proofs.Ytpfollpbkpgglaa.Sx
