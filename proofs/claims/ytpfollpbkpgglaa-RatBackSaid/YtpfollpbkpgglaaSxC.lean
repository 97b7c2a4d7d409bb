/- SX, part C: operations that only compute. -/
import Derived.Test.YtpfollpbkpgglaaSxB
import GoSem.Dispatch
import Derived.Laws.Strings
set_option linter.unusedVariables false
set_option linter.unusedSimpArgs false
namespace Go.Proofs.Ytpfollpbkpgglaa.Sx
open Go

/-! ### arguments -/
def constOk : AV → Value → Bool
  | .undef, _ => true
  | .bool b, .bool c => b == c
  | .int k n, .int k' m => decide (k = k') && n == m
  | .str s, .string x => s == x.data.toList
  | .nilptr, .pointer none => true
  | .nilsl, .slice none n m => n == 0 && m == 0
  | .nilif, .nilIface => true
  | .nilfn, .nilFunc => true
  | _, _ => false
def argOk : XArg → Operand → Bool
  | .tmp t, .tmp u => t == u
  | .cst (.fn f [] []), .func g => f == g
  | .cst v, .const x => constOk v x
  | .glob g, .global h => g == h
  | _, _ => false
def argsOk : List XArg → List Operand → Bool
  | [], [] => true
  | a :: l, b :: m => argOk a b && argsOk l m
  | _, _ => false
def optOk : Option XArg → Option Operand → Bool
  | none, none => true
  | some a, some b => argOk a b
  | _, _ => false

section
variable {G : Gh} {w : World} {fr : List AV} {act : Act}

theorem RelV.uf {v : AV} {x : Value} (h : RelV G w v x) : RelV G w (uf v) x := by
  cases h with
  | lst ow z es b o cap X hu hl ht hc hz hf hx hr =>
    cases ow with
    | own => exact .lst .none z es b o cap X (by simp) hl (by simp) hc hz hf hx hr
    | uniq => exact absurd rfl hu
    | none => exact .lst .none z es b o cap X hu hl ht hc hz hf hx hr
    | tight => exact .lst .tight z es b o cap X hu hl ht hc hz hf hx hr
  | uniq z es x => exact .undef x
  | undef x => exact .undef x
  | bool b => exact .bool b
  | int k n => exact .int k n
  | str x => exact .str x
  | opq x h => exact .opq x h
  | nilptr => exact .nilptr
  | nilsl => exact .nilsl
  | nilif => exact .nilif
  | nilfn => exact .nilfn
  | ptr r off b base hm => exact .ptr r off b base hm
  | elp cs b o X hc hf hx hr => exact .elp cs b o X hc hf hx hr
  | gptr g => exact .gptr g
  | sl r z off len b base cap hm hl hs => exact .sl r z off len b base cap hm hl hs
  | agg cs xs hl hr => exact .agg cs xs hl hr
  | tup cs xs hl hr => exact .tup cs xs hl hr
  | fn f ds cs xs ys hl hm hr hs => exact .fn f ds cs xs ys hl hm hr hs
  | ifc t v x hr => exact .ifc t v x hr
/-- no list that is held alone -/
def noFlag : AV → Prop
  | .lst .own _ _ | .lst .uniq _ _ => False
  | _ => True
theorem noFlag_uf (v : AV) : noFlag (Sx.uf v) := by
  cases v <;> simp [Sx.uf, noFlag]
  rename_i o z es
  cases o <;> simp
theorem uf_of_noFlag {v : AV} (h : noFlag v) : Sx.uf v = v := by
  cases v <;> simp [Sx.uf]
  rename_i o z es
  cases o <;> simp [noFlag] at h ⊢
theorem OwnOk.of_noFlag {l : Loc} {v : AV} {x : Value} (h : noFlag v) : OwnOk G w l v x := by
  refine OwnOk.of_not fun z es => ⟨?_, ?_⟩ <;> rintro rfl <;> exact h

theorem constOk_rel {v : AV} {x : Value} (h : constOk v x = true) : RelV G w v x := by
  unfold constOk at h
  split at h <;> first
    | exact .undef _
    | exact .nilptr
    | exact .nilif
    | exact .nilfn
    | (simp at h; done)
    | (simp only [beq_iff_eq] at h; subst h; exact .bool _)
    | (simp only [Bool.and_eq_true, decide_eq_true_eq, beq_iff_eq] at h; obtain ⟨rfl, rfl⟩ := h; exact .int _ _)
    | (simp only [beq_iff_eq] at h; subst h; exact .str _)
    | (simp only [Bool.and_eq_true, beq_iff_eq] at h; obtain ⟨rfl, rfl⟩ := h; exact .nilsl)
theorem constOk_noFlag {v : AV} {x : Value} (h : constOk v x = true) : noFlag v := by
  unfold constOk at h
  split at h <;> first | trivial | (simp at h; done)

def RelS (G : Gh) (w : World) (fr : List AV) (act : Act) (t : Nat) : Prop :=
  RelV G w (fget fr t) (act.tmps.getD t undef) ∧ OwnOk G w (.slot t) (fget fr t) (act.tmps.getD t undef)
def argTmp : XArg → List Nat
  | .tmp t => [t]
  | _ => []
theorem arg_rel {a : XArg} {b : Operand} (h : argOk a b = true) (hs : ∀ t ∈ argTmp a, RelS G w fr act t) : RelV G w (earg fr a) (act.eval b) := by
  unfold argOk at h
  split at h
  · rename_i t u
    simp only [beq_iff_eq] at h
    subst h
    exact (hs t (by simp [argTmp])).1.uf
  · rename_i f g
    simp only [beq_iff_eq] at h
    subst h
    exact .fn f [] [] #[] #[] rfl rfl (by simp) (by simp)
  · exact constOk_rel h
  · rename_i g hh
    simp only [beq_iff_eq] at h
    subst h
    exact .gptr g
  · simp at h
theorem earg_noFlag {a : XArg} {b : Operand} (h : argOk a b = true) : noFlag (earg fr a) := by
  unfold argOk at h
  split at h
  · exact noFlag_uf _
  · trivial
  · exact constOk_noFlag h
  · trivial
  · simp at h
end

/-! ### numbers -/
theorem wr_eq (k : IntKind) (n : Int) : k.wrap n = wr k n := by
  cases k <;> simp [IntKind.wrap, wr, IntKind.bits, IntKind.signed]
theorem bitsOf_eq (k : IntKind) : bitsOf k = k.bits := by cases k <;> rfl

/-! ### what an operation comes to -/
def Gives (P : Program) (G : Gh) (w : World) (act : Act) (o : Oper) (v : AV) : Prop :=
  ∃ y, (execOp act.eval o).run P w = .ok (.value y) w ∧ RelV G w v y
def tinfo (P : Program) (t : TypeId) : Option TypeInfo := P.info? t
section
variable {P : Program} {G : Gh} {w : World} {fr : List AV} {act : Act} {o : Oper}

theorem run_typeInfo {t : TypeId} {i : TypeInfo} (h : P.info? t = some i) : (typeInfo t).run P w = .ok i w := by simp [typeInfo, h]
theorem run_underlying' {t : TypeId} {i : TypeDesc} (h : P.underlying t = some i) : (underlying t).run P w = .ok i w := by simp [underlying, h]
theorem run_sizeOf' {t : TypeId} {i : TypeInfo} (h : P.info? t = some i) : (sizeOf t).run P w = .ok i.size w := by simp [sizeOf, typeInfo, h]
theorem run_isAgg' {t : TypeId} {d : TypeDesc} (h : P.underlying t = some d) :
    (isAgg t).run P w = .ok (match d with | .struct _ => true | .array _ _ => true | _ => false) w := by
  simp only [isAgg, Sem.run_bind, run_underlying' h, Result.andThen_ok]
  cases d <;> rfl

theorem gives_mov {a : XArg} {b : Operand} (h : argOk a b = true) (ho : o.op = .move b ∨ o.op = .assign b) (hs : ∀ t ∈ argTmp a, RelS G w fr act t) :
    Gives P G w act o (earg fr a) := by
  refine ⟨act.eval b, ?_, arg_rel h hs⟩
  rcases ho with ho | ho <;> simp [execOp, ho]
theorem gives_own {s : Nat} (ho : o.op = .move (.tmp s) ∨ o.op = .assign (.tmp s)) :
    (execOp act.eval o).run P w = .ok (.value (act.tmps.getD s undef)) w := by
  rcases ho with ho | ho <;> simp [execOp, ho, Act.eval]
theorem gives_pick {c a b : XArg} {c' a' b' : Operand} {t : Bool} (hc : argOk c c' = true) (ha : argOk a a' = true) (hb : argOk b b' = true) (ho : o.op = .pick c' a' b')
    (hs : ∀ t ∈ argTmp c ++ argTmp a ++ argTmp b, RelS G w fr act t) (he : earg fr c = .bool t) : Gives P G w act o (if t then earg fr a else earg fr b) := by
  have h1 := arg_rel (w := w) (G := G) (fr := fr) (act := act) hc (fun t ht => hs t (by simp [ht]))
  rw [he] at h1
  cases h : act.eval c' <;> rw [h] at h1 <;> cases h1
  cases t
  · exact ⟨act.eval b', by simp [execOp, ho, Go.asBool, h], arg_rel hb (fun t ht => hs t (by simp [ht]))⟩
  · exact ⟨act.eval a', by simp [execOp, ho, Go.asBool, h], arg_rel ha (fun t ht => hs t (by simp [ht]))⟩

def xbin : XBin → BinOp
  | .add => .add | .sub => .sub | .mul => .mul | .quo => .quo | .rem => .rem | .and => .and | .or => .or | .xor => .xor | .andNot => .andNot
  | .shl => .shl | .shr => .shr | .eql => .eql | .neq => .neq | .lss => .lss | .leq => .leq | .gtr => .gtr | .geq => .geq
theorem bless_eq : ∀ x y : List UInt8, bless x y = Op.bytesLess x y
  | _, [] => by simp [bless, Op.bytesLess]
  | [], _ :: _ => by simp [bless, Op.bytesLess]
  | a :: x, b :: y => by simp [bless, Op.bytesLess, bless_eq x y]
def toV : AV → Value
  | .int k n => .int k n
  | .bool b => .bool b
  | .str s => .string ⟨s.toArray⟩
  | _ => Go.undef
def isNB : AV → Prop
  | .int _ _ | .bool _ | .str _ => True
  | _ => False
theorem toV_rel {v : AV} (h : isNB v) : RelV G w v (toV v) := by
  cases v <;> simp [isNB] at h
  · exact .bool _
  · exact .int _ _
  · rename_i s
    have := RelV.str (G := G) (w := w) ⟨s.toArray⟩
    simpa [toV] using this
theorem ints_run {k : IntKind} {b : XBin} {x y : Int} {v : AV} (h : ints k b x y = some v) (hk : b ≠ .shl ∧ b ≠ .shr) (T : TypeId) :
    (binOp (xbin b) T (.int k x) (.int k y)).run P w = .ok (toV v) w ∧ isNB v := by
  cases b
  case add => injection h with h; subst h; exact ⟨by simp [binOp, xbin, Op.intArith, wr_eq, toV], trivial⟩
  case sub => injection h with h; subst h; exact ⟨by simp [binOp, xbin, Op.intArith, wr_eq, toV], trivial⟩
  case mul => injection h with h; subst h; exact ⟨by simp [binOp, xbin, Op.intArith, wr_eq, toV], trivial⟩
  case quo =>
    simp only [ints] at h
    split at h
    · cases h
    · rename_i h1; injection h with h; subst h; exact ⟨by simp [binOp, xbin, Op.intDiv, h1, wr_eq, toV], trivial⟩
  case rem =>
    simp only [ints] at h
    split at h
    · cases h
    · rename_i h1; injection h with h; subst h; exact ⟨by simp [binOp, xbin, Op.intDiv, h1, wr_eq, toV], trivial⟩
  case and => injection h with h; subst h; cases k <;> exact ⟨by simp [binOp, xbin, Op.intBits, wr_eq, toV, IntKind.bits, bitsOf]; rfl, trivial⟩
  case or => injection h with h; subst h; cases k <;> exact ⟨by simp [binOp, xbin, Op.intBits, wr_eq, toV, IntKind.bits, bitsOf]; rfl, trivial⟩
  case xor => injection h with h; subst h; cases k <;> exact ⟨by simp [binOp, xbin, Op.intBits, wr_eq, toV, IntKind.bits, bitsOf]; rfl, trivial⟩
  case andNot => injection h with h; subst h; cases k <;> exact ⟨by simp [binOp, xbin, Op.intBits, wr_eq, toV, IntKind.bits, bitsOf]; rfl, trivial⟩
  case shl => exact absurd rfl hk.1
  case shr => exact absurd rfl hk.2
  case eql => injection h with h; subst h; exact ⟨by simp [binOp, xbin, Op.intCmp, toV], trivial⟩
  case neq => injection h with h; subst h; exact ⟨by simp [binOp, xbin, Op.intCmp, toV], trivial⟩
  case lss => injection h with h; subst h; exact ⟨by simp [binOp, xbin, Op.intCmp, toV], trivial⟩
  case leq => injection h with h; subst h; exact ⟨by simp [binOp, xbin, Op.intCmp, toV], trivial⟩
  case gtr => injection h with h; subst h; exact ⟨by simp [binOp, xbin, Op.intCmp, toV], trivial⟩
  case geq => injection h with h; subst h; exact ⟨by simp [binOp, xbin, Op.intCmp, toV], trivial⟩
theorem shift_run {k k' : IntKind} {b : XBin} {x y : Int} {v : AV} (h : ints k b x y = some v) (hk : b = .shl ∨ b = .shr) (T : TypeId) :
    (binOp (xbin b) T (.int k x) (.int k' y)).run P w = .ok (toV v) w ∧ isNB v := by
  rcases hk with rfl | rfl <;> simp only [ints] at h <;> split at h
  · cases h
  · rename_i h1; injection h with h; subst h; exact ⟨by simp [binOp, xbin, Op.shift, show ¬ y < 0 from h1, wr_eq, bitsOf_eq, toV], trivial⟩
  · cases h
  · rename_i h1; injection h with h; subst h; exact ⟨by simp [binOp, xbin, Op.shift, show ¬ y < 0 from h1, wr_eq, bitsOf_eq, toV], trivial⟩
theorem strs_run {b : XBin} {x y : ByteArray} {v : AV} (h : strs b x.data.toList y.data.toList = some v) (T : TypeId) :
    (binOp (xbin b) T (.string x) (.string y)).run P w = .ok (toV v) w ∧ isNB v := by
  cases b <;> simp only [strs] at h <;> first
    | (cases h; done)
    | (injection h with h; subst h; refine ⟨?_, trivial⟩; simp [binOp, xbin, Op.stringOp, ByteArray.toList_eq, bless_eq, toV]; done)
    | skip
  split at h
  · rename_i h1
    injection h with h; subst h
    refine ⟨?_, trivial⟩
    have e : IntKind.i64.max = 9223372036854775807 := rfl
    have e1 : x.size = x.data.toList.length := Array.length_toList.symm
    have e2 : y.size = y.data.toList.length := Array.length_toList.symm
    have hm : ¬ (((x.size + y.size : Nat) : Int) > IntKind.i64.max) := by rw [e, e1, e2]; omega
    simp only [binOp, xbin, Op.stringOp, if_neg hm, Sem.run_pure, toV]
    congr 2
  · cases h
theorem gives_bin {b : XBin} {x y : XArg} {x' y' : Operand} {T T2 : TypeId} {v : AV} (hx : argOk x x' = true) (hy : argOk y y' = true) (ho : o.op = .binOp (xbin b) T x' y' T2)
    (hs : ∀ t ∈ argTmp x ++ argTmp y, RelS G w fr act t) (he : binX b (earg fr x) (earg fr y) = some v) : Gives P G w act o v ∧ noFlag v := by
  have h1 := arg_rel (w := w) (G := G) (fr := fr) (act := act) hx (fun t ht => hs t (by simp [ht]))
  have h2 := arg_rel (w := w) (G := G) (fr := fr) (act := act) hy (fun t ht => hs t (by simp [ht]))
  have hn : ∀ v, isNB v → noFlag v := by intro v hv; cases v <;> simp [isNB] at hv <;> trivial
  unfold binX at he
  split at he
  · rename_i k n k' m e1 e2
    rw [e1] at h1; rw [e2] at h2
    cases h3 : act.eval x' <;> rw [h3] at h1 <;> cases h1
    cases h4 : act.eval y' <;> rw [h4] at h2 <;> cases h2
    have hg : (eqGuard (xbin b) T x' y' (.int k n) (.int k' m)).run P w = .ok () w := by
      unfold eqGuard
      simp only [Sem.run_bind, Sem.run_ite]
      cases b <;> simp [xbin]
    have key : (binOp (xbin b) T (.int k n) (.int k' m)).run P w = .ok (toV v) w ∧ isNB v := by
      split at he
      · rename_i hk
        by_cases hb : b = .shl ∨ b = .shr
        · exact shift_run he hb T
        · have : k = k' := by rcases hk with h | h | h <;> first | exact h | exact absurd (by simp [h]) hb
          subst this
          exact ints_run he (by simpa using hb) T
      · cases he
    exact ⟨⟨_, by simp only [execOp, ho, h3, h4, Sem.run_bind, hg, key.1, Result.andThen_ok, Sem.run_pure], toV_rel key.2⟩, hn _ key.2⟩
  · rename_i s t e1 e2
    rw [e1] at h1; rw [e2] at h2
    cases h3 : act.eval x' <;> rw [h3] at h1 <;> cases h1
    cases h4 : act.eval y' <;> rw [h4] at h2 <;> cases h2
    rename_i a c
    have hg : (eqGuard (xbin b) T x' y' (.string a) (.string c)).run P w = .ok () w := by
      unfold eqGuard
      simp only [Sem.run_bind, Sem.run_ite]
      cases b <;> simp [xbin]
    have key := strs_run (P := P) (w := w) he T
    exact ⟨⟨_, by simp only [execOp, ho, h3, h4, Sem.run_bind, hg, key.1, Result.andThen_ok, Sem.run_pure], toV_rel key.2⟩, hn _ key.2⟩
  · cases he
theorem eqGuard_pure {op : BinOp} {T : TypeId} {x y : Operand} {a b : Value} (h : ¬ (a = .nilIface ∧ b = .nilIface)) (h2 : ∀ l m, ¬ (a = .agg l ∧ b = .agg m)) :
    (eqGuard op T x y a b).run P w = .ok () w := by
  cases op <;> first
    | rfl
    | (cases a <;> cases b <;> first | rfl | exact absurd ⟨rfl, rfl⟩ h | exact absurd ⟨rfl, rfl⟩ (h2 _ _))
theorem run_equal {T : TypeId} {x y : Value} {r : Bool} (h : ∀ d, (Op.equalIn (d + 1) T x y).run P w = .ok r w) : (Op.equal T x y).run P w = .ok r w := h 9999
theorem gives_beq {n : Bool} {x y : XArg} {x' y' : Operand} {T T2 : TypeId} {a b : Bool} (hx : argOk x x' = true) (hy : argOk y y' = true)
    (ho : o.op = .binOp (if n then .neq else .eql) T x' y' T2) (hT : P.underlying T = some .bool)
    (hs : ∀ t ∈ argTmp x ++ argTmp y, RelS G w fr act t) (he : earg fr x = .bool a) (hf : earg fr y = .bool b) : Gives P G w act o (.bool ((a == b) != n)) := by
  have h1 := arg_rel (w := w) (G := G) (fr := fr) (act := act) hx (fun t ht => hs t (by simp [ht]))
  have h2 := arg_rel (w := w) (G := G) (fr := fr) (act := act) hy (fun t ht => hs t (by simp [ht]))
  rw [he] at h1; rw [hf] at h2
  cases h3 : act.eval x' <;> rw [h3] at h1 <;> cases h1
  cases h4 : act.eval y' <;> rw [h4] at h2 <;> cases h2
  have hq : (Op.equal T (.bool a) (.bool b)).run P w = .ok (a == b) w := by
    refine run_equal fun d => ?_
    simp only [Op.equalIn, Sem.run_bind, run_underlying' hT, Result.andThen_ok, Sem.run_pure]
  have hg : ∀ op, (eqGuard op T x' y' (.bool a) (.bool b)).run P w = .ok () w := fun op => eqGuard_pure (by simp) (by simp)
  cases n
  · exact ⟨.bool (a == b), by simp only [execOp, ho, h3, h4, Sem.run_bind, hg, Bool.false_eq_true, if_false, binOp, hq, Result.andThen_ok, Sem.run_pure], by cases a <;> cases b <;> exact .bool _⟩
  · exact ⟨.bool (!(a == b)), by simp only [execOp, ho, h3, h4, Sem.run_bind, hg, if_true, binOp, hq, Result.andThen_ok, Sem.run_pure], by cases a <;> cases b <;> exact .bool _⟩
theorem gives_not {x : XArg} {x' : Operand} {T : TypeId} {a : Bool} (hx : argOk x x' = true) (ho : o.op = .unOp .not T x') (hs : ∀ t ∈ argTmp x, RelS G w fr act t)
    (he : earg fr x = .bool a) : Gives P G w act o (.bool !a) := by
  have h1 := arg_rel (w := w) (G := G) hx hs
  rw [he] at h1
  cases h3 : act.eval x' <;> rw [h3] at h1 <;> cases h1
  exact ⟨.bool !a, by simp [execOp, ho, h3, Op.unary], .bool _⟩
theorem gives_neg {x : XArg} {x' : Operand} {T : TypeId} {k : IntKind} {n : Int} (hx : argOk x x' = true) (ho : o.op = .unOp .neg T x') (hs : ∀ t ∈ argTmp x, RelS G w fr act t)
    (he : earg fr x = .int k n) : Gives P G w act o (.int k (wr k (0 - n))) := by
  have h1 := arg_rel (w := w) (G := G) hx hs
  rw [he] at h1
  cases h3 : act.eval x' <;> rw [h3] at h1 <;> cases h1
  exact ⟨.int k (wr k (0 - n)), by simp [execOp, ho, h3, Op.unary, Op.intArith, wr_eq], .int _ _⟩
theorem gives_cpl {x : XArg} {x' : Operand} {T : TypeId} {k : IntKind} {n : Int} {v : AV} (hx : argOk x x' = true) (ho : o.op = .unOp .xor T x') (hs : ∀ t ∈ argTmp x, RelS G w fr act t)
    (he : earg fr x = .int k n) (hv : ints k .xor (onesOf k) n = some v) : Gives P G w act o v ∧ noFlag v := by
  have h1 := arg_rel (w := w) (G := G) hx hs
  rw [he] at h1
  cases h3 : act.eval x' <;> rw [h3] at h1 <;> cases h1
  injection hv with hv
  subst hv
  refine ⟨⟨_, ?_, .int _ _⟩, trivial⟩
  cases k <;> (simp [execOp, ho, h3, Op.unary, Op.intBits, wr_eq, IntKind.signed, IntKind.max, IntKind.bits, bitsOf, onesOf]; rfl)
theorem gives_conv {k : IntKind} {x : XArg} {x' : Operand} {S D : TypeId} {j : IntKind} {n : Int} {sd : TypeDesc} (hx : argOk x x' = true) (ho : o.op = .convert S D x') (hS : P.underlying S = some sd)
    (hD : P.underlying D = some (.int k)) (hs : ∀ t ∈ argTmp x, RelS G w fr act t) (he : earg fr x = .int j n) : Gives P G w act o (.int k (wr k n)) := by
  have h1 := arg_rel (w := w) (G := G) hx hs
  rw [he] at h1
  cases h3 : act.eval x' <;> rw [h3] at h1 <;> cases h1
  refine ⟨.int k (wr k n), ?_, .int _ _⟩
  simp only [execOp, ho, h3, convert, Sem.run_bind, run_underlying' hS, run_underlying' hD, Result.andThen_ok]
  simp [Conv.intToInt, wr_eq]
theorem gives_same {x : XArg} {x' : Operand} {S D : TypeId} {s : List UInt8} {sd : TypeDesc} (hx : argOk x x' = true) (ho : o.op = .convert S D x') (hS : P.underlying S = some sd)
    (hD : P.underlying D = some .string) (hs : ∀ t ∈ argTmp x, RelS G w fr act t) (he : earg fr x = .str s) : Gives P G w act o (.str s) := by
  have h1 := arg_rel (w := w) (G := G) hx hs
  rw [he] at h1
  cases h3 : act.eval x' <;> rw [h3] at h1 <;> cases h1
  rename_i y
  refine ⟨.string y, ?_, .str _⟩
  simp only [execOp, ho, h3, convert, Sem.run_bind, run_underlying' hS, run_underlying' hD, Result.andThen_ok]
  cases sd <;> simp
theorem gives_mkif {x : XArg} {x' : Operand} {T : TypeId} {d : TypeDesc} (hx : argOk x x' = true) (ho : o.op = .makeInterface T x') (hT : P.underlying T = some d) (hd : ∀ ms, d ≠ .interface ms)
    (hs : ∀ t ∈ argTmp x, RelS G w fr act t) : Gives P G w act o (.ifc T (earg fr x)) := by
  have h1 := arg_rel (w := w) (G := G) hx hs
  refine ⟨.iface T (act.eval x'), ?_, .ifc _ _ _ h1⟩
  simp only [execOp, ho, Instr.makeInterface, Sem.run_bind, run_underlying' hT, Result.andThen_ok]
  cases d <;> first | rfl | exact absurd rfl (hd _)
theorem gives_ext {s i : Nat} {T : Operand} {vs : List AV} {v : AV} (ho : o.op = .extract (.tmp s) i) (hs : RelS G w fr act s) (he : fget fr s = .tup vs) (hi : vs[i]? = some v) :
    Gives P G w act o (uf v) := by
  have h1 := hs.1
  rw [he] at h1
  cases h3 : act.tmps.getD s undef <;> rw [h3] at h1 <;> cases h1
  rename_i xs hl hr
  have hlt := (List.getElem?_eq_some_iff.1 hi).1
  obtain ⟨x, hx⟩ : ∃ x, xs[i]? = some x := ⟨xs[i]'(by omega), by simp⟩
  refine ⟨x, ?_, (hr i v x hi hx).uf⟩
  have : act.eval (.tmp s) = .tuple xs := h3
  simp [execOp, ho, this, Instr.extract, hx]
theorem gives_nilck {x : XArg} {x' : Operand} (hx : argOk x x' = true) (ho : o.op = .nilCheck x') (hs : ∀ t ∈ argTmp x, RelS G w fr act t)
    (he : (∃ r off, earg fr x = .ptr r off) ∨ (∃ cs, earg fr x = .elp cs) ∨ (∃ f ds cs, earg fr x = .fn f ds cs)) : Gives P G w act o (earg fr x) := by
  have h1 := arg_rel (w := w) (G := G) hx hs
  refine ⟨act.eval x', ?_, h1⟩
  rcases he with ⟨r, off, he⟩ | ⟨cs, he⟩ | ⟨f, ds, cs, he⟩ <;> rw [he] at h1 <;> cases h3 : act.eval x' <;> rw [h3] at h1 <;> cases h1 <;> simp [execOp, ho, h3]
end
end Go.Proofs.Ytpfollpbkpgglaa.Sx
