/- SX, part F: comparisons with nil, of structs; function values; type assertions; literals of structs. -/
import Derived.Test.YtpfollpbkpgglaaSxE
import Derived.Laws.StructEq
set_option linter.unusedVariables false
set_option linter.unusedSimpArgs false
namespace Go.Proofs.Ytpfollpbkpgglaa.Sx
open Go
section
variable {P : Program} {G : Gh} {w : World} {fr : List AV} {act : Act} {o : Oper}

def nilKind : Nat → TypeDesc → Bool
  | 0, .interface _ => true
  | 1, .slice _ => true
  | 2, .pointer _ => true
  | _, _ => false
def nilConst : Nat → Value → Bool
  | 0, .nilIface => true
  | 1, .slice none n m => n == 0 && m == 0
  | 2, .pointer none => true
  | _, _ => false
theorem equal_nil {kd : Nat} {v : AV} {x c : Value} {r : Bool} {T : TypeId} {d : TypeDesc} (hT : P.underlying T = some d) (hk : nilKind kd d = true) (hc : nilConst kd c = true)
    (hr : RelV G w v x) (hn : isNil kd v = some r) : (Op.equal T x c).run P w = .ok r w := by
  refine run_equal fun e => ?_
  cases v <;> simp [isNil] at hn
  case nilif =>
    obtain ⟨rfl, rfl⟩ := hn
    cases hr
    cases d <;> simp [nilKind] at hk
    cases c <;> simp [nilConst] at hc
    simp only [Op.equalIn, Sem.run_bind, run_underlying' hT, Result.andThen_ok, Sem.run_pure]
  case ifc t v =>
    obtain ⟨rfl, rfl⟩ := hn
    cases hr
    cases d <;> simp [nilKind] at hk
    cases c <;> simp [nilConst] at hc
    simp only [Op.equalIn, Sem.run_bind, run_underlying' hT, Result.andThen_ok, Sem.run_pure]
  case nilsl =>
    obtain ⟨rfl, rfl⟩ := hn
    cases hr
    cases d <;> simp [nilKind] at hk
    unfold nilConst at hc
    split at hc <;> simp_all
    simp only [Op.equalIn, Sem.run_bind, run_underlying' hT, Result.andThen_ok, Sem.run_pure, Option.isNone_none]
  case lst ow z es =>
    obtain ⟨⟨rfl, hu⟩, rfl⟩ := hn
    obtain ⟨b, q, cap, X, rfl, _⟩ := lst_form hr hu
    cases d <;> simp [nilKind] at hk
    unfold nilConst at hc
    split at hc <;> simp_all
    simp only [Op.equalIn, Sem.run_bind, run_underlying' hT, Result.andThen_ok, Sem.run_pure]
  case sl r z off len =>
    obtain ⟨rfl, rfl⟩ := hn
    obtain ⟨b, base, cap, rfl, _⟩ := sl_form hr
    cases d <;> simp [nilKind] at hk
    unfold nilConst at hc
    split at hc <;> simp_all
    simp only [Op.equalIn, Sem.run_bind, run_underlying' hT, Result.andThen_ok, Sem.run_pure]
  case nilptr =>
    obtain ⟨rfl, rfl⟩ := hn
    cases hr
    cases d <;> simp [nilKind] at hk
    unfold nilConst at hc
    split at hc <;> simp_all
    simp only [Op.equalIn, Sem.run_bind, run_underlying' hT, Result.andThen_ok, Sem.run_pure, Option.isNone_none]
  case ptr r off =>
    obtain ⟨rfl, rfl⟩ := hn
    obtain ⟨b, base, rfl, _⟩ := ptr_form hr
    cases d <;> simp [nilKind] at hk
    unfold nilConst at hc
    split at hc <;> simp_all
    simp only [Op.equalIn, Sem.run_bind, run_underlying' hT, Result.andThen_ok, Sem.run_pure]
  case elp cs =>
    obtain ⟨rfl, rfl⟩ := hn
    obtain ⟨b, k, rfl⟩ := elp_form hr
    cases d <;> simp [nilKind] at hk
    unfold nilConst at hc
    split at hc <;> simp_all
    simp only [Op.equalIn, Sem.run_bind, run_underlying' hT, Result.andThen_ok, Sem.run_pure]
  case gptr g =>
    obtain ⟨rfl, rfl⟩ := hn
    cases hr
    cases d <;> simp [nilKind] at hk
    unfold nilConst at hc
    split at hc <;> simp_all
    simp only [Op.equalIn, Sem.run_bind, run_underlying' hT, Result.andThen_ok, Sem.run_pure]
theorem isNil_notNB {kd : Nat} {v : AV} {x : Value} {r : Bool} (hr : RelV G w v x) (hn : isNil kd v = some r) :
    (∃ t y, x = .iface t y) ∨ x = .nilIface ∨ (∃ a n m, x = .slice a n m) ∨ (∃ a, x = .pointer a) := by
  cases v <;> simp [isNil] at hn
  case nilif => cases hr; exact .inr (.inl rfl)
  case ifc => cases hr; exact .inl ⟨_, _, rfl⟩
  case nilsl => cases hr; exact .inr (.inr (.inl ⟨_, _, _, rfl⟩))
  case lst => obtain ⟨b, q, cap, X, rfl, _⟩ := lst_form hr hn.1.2; exact .inr (.inr (.inl ⟨_, _, _, rfl⟩))
  case sl => obtain ⟨b, base, cap, rfl, _⟩ := sl_form hr; exact .inr (.inr (.inl ⟨_, _, _, rfl⟩))
  case nilptr => cases hr; exact .inr (.inr (.inr ⟨_, rfl⟩))
  case ptr => obtain ⟨b, base, rfl, _⟩ := ptr_form hr; exact .inr (.inr (.inr ⟨_, rfl⟩))
  case elp => obtain ⟨b, base, rfl⟩ := elp_form hr; exact .inr (.inr (.inr ⟨_, rfl⟩))
  case gptr => cases hr; exact .inr (.inr (.inr ⟨_, rfl⟩))
theorem gives_eqnil {kd : Nat} {n r : Bool} {x : XArg} {x' : Operand} {c : Value} {T T2 : TypeId} {d : TypeDesc} (hx : argOk x x' = true)
    (ho : o.op = .binOp (if n then .neq else .eql) T x' (.const c) T2) (hT : P.underlying T = some d) (hk : nilKind kd d = true) (hc : nilConst kd c = true)
    (hs : ∀ t ∈ argTmp x, RelS G w fr act t) (he : isNil kd (earg fr x) = some r) : Gives P G w act o (.bool (r != n)) := by
  have h1 := arg_rel (w := w) (G := G) hx hs
  have hq := equal_nil hT hk hc h1 he
  have hcv : act.eval (.const c) = c := rfl
  have hg : (eqGuard (if n then .neq else .eql) T x' (.const c) (act.eval x') c).run P w = .ok () w := by
    unfold nilConst at hc
    rcases isNil_notNB h1 he with ⟨t, y, hy⟩ | hy | ⟨a, p, q, hy⟩ | ⟨a, hy⟩ <;> rw [hy] <;> cases n <;> split at hc <;> simp_all [eqGuard]
  have hb : ∀ (op : BinOp), (op = .eql ∨ op = .neq) → binOp op T (act.eval x') c = (match op with | .eql => do pure (.bool (← Op.equal T (act.eval x') c)) | _ => do pure (.bool (!(← Op.equal T (act.eval x') c)))) := by
    intro op hop
    unfold nilConst at hc
    rcases isNil_notNB h1 he with ⟨t, y, hy⟩ | hy | ⟨a, p, q, hy⟩ | ⟨a, hy⟩ <;> rw [hy] <;> rcases hop with rfl | rfl <;> split at hc <;> first | rfl | (simp at hc; done)
  cases n
  · refine ⟨.bool r, ?_, by cases r <;> exact .bool _⟩
    simp only [Bool.false_eq_true, if_false] at ho hg
    simp only [execOp, ho, hcv, Sem.run_bind, hg, Result.andThen_ok, hb .eql (.inl rfl), hq, Sem.run_pure]
  · refine ⟨.bool (!r), ?_, by cases r <;> exact .bool _⟩
    simp only [if_true] at ho hg
    simp only [execOp, ho, hcv, Sem.run_bind, hg, Result.andThen_ok, hb .neq (.inr rfl), hq, Sem.run_pure]
end
end Go.Proofs.Ytpfollpbkpgglaa.Sx
