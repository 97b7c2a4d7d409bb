/- SX, part H: structs' equality as an operation; type assertions; function values; literals of structs. -/
import Derived.Test.YtpfollpbkpgglaaSxG
set_option linter.unusedVariables false
set_option linter.unusedSimpArgs false
namespace Go.Proofs.Ytpfollpbkpgglaa.Sx
open Go
section
variable {P : Program} {G : Gh} {w : World} {fr : List AV} {act : Act} {o : Oper}

theorem eqCells_len : ∀ {s : List Nat} {l m : List AV} {r : Bool}, eqCells s l m = some r → l.length = s.length ∧ m.length = s.length
  | s, l, m, r, h => by
    unfold eqCells at h
    split at h
    · exact ⟨rfl, rfl⟩
    · split at h
      · obtain ⟨r0, h0, _⟩ := Option.map_eq_some_iff.1 h
        have := eqCells_len h0
        simp; omega
      · cases h
    · obtain ⟨r0, h0, _⟩ := Option.map_eq_some_iff.1 h
      have := eqCells_len h0
      simp; omega
    · obtain ⟨r0, h0, _⟩ := Option.map_eq_some_iff.1 h
      have := eqCells_len h0
      simp; omega
    · cases h
theorem gives_eqagg {n r : Bool} {sh : List Nat} {x y : XArg} {x' y' : Operand} {T T2 : TypeId} {l m : List AV} {D : Nat} (hx : argOk x x' = true) (hy : argOk y y' = true)
    (ho : o.op = .binOp (if n then .neq else .eql) T x' y' T2) (hT : eqT P D T = some sh) (hD : D ≤ 10000) (hg0 : P.eqGuardType P.depth T = false) (hag : ∃ d, P.underlying T = some d ∧ aggOf d = true)
    (hs : ∀ t ∈ argTmp x ++ argTmp y, RelS G w fr act t) (he : earg fr x = .agg l) (hf : earg fr y = .agg m) (hq : eqCells sh l m = some r) : Gives P G w act o (.bool (r != n)) := by
  have h1 := arg_rel (w := w) (G := G) (fr := fr) (act := act) hx (fun t ht => hs t (by simp [ht]))
  have h2 := arg_rel (w := w) (G := G) (fr := fr) (act := act) hy (fun t ht => hs t (by simp [ht]))
  rw [he] at h1; rw [hf] at h2
  cases h3 : act.eval x' <;> rw [h3] at h1 <;> (try (cases h1; done))
  cases h4 : act.eval y' <;> rw [h4] at h2 <;> (try (cases h2; done))
  rename_i xs ys
  cases h1 with
  | agg _ _ hl1 hr1 =>
  cases h2 with
  | agg _ _ hl2 hr2 =>
  obtain ⟨e1, e2⟩ := eqCells_len hq
  obtain ⟨i, de, hi, hde, hsz, _, hrun⟩ := equalIn_flat (P := P) (G := G) (w := w) D T sh hT l m xs ys 0 r (by omega) hl1 hl2 (by omega) hr1 hr2
    (by rw [List.drop_zero, List.drop_zero, ← e1, List.take_length, show l.length = m.length by omega, List.take_length]; exact hq)
  obtain ⟨d, hd, hda⟩ := hag
  have : de = d := by rw [hde] at hd; injection hd
  subst this
  have hex : ∀ zs : Array Value, zs.size = sh.length → partV de zs 0 sh.length = .agg zs := by
    intro zs hz
    unfold partV
    rw [if_pos hda, Nat.zero_add, ← hz, Array.extract_size]
  rw [hex xs (by omega), hex ys (by omega)] at hrun
  have hE : (Op.equal T (.agg xs) (.agg ys)).run P w = .ok r w := by
    have := hrun (10000 - D)
    rw [show D + (10000 - D) = 10000 by omega] at this
    exact this
  have hg : ∀ op, (eqGuard op T x' y' (.agg xs) (.agg ys)).run P w = .ok () w := fun op => run_eqGuard_agg w op T x' y' xs ys hg0
  cases n
  · simp only [Bool.false_eq_true, if_false] at ho
    exact ⟨.bool r, by simp only [execOp, ho, h3, h4, Sem.run_bind, hg, Result.andThen_ok, binOp, hE, Sem.run_pure], by cases r <;> exact .bool _⟩
  · simp only [if_true] at ho
    exact ⟨.bool (!r), by simp only [execOp, ho, h3, h4, Sem.run_bind, hg, Result.andThen_ok, binOp, hE, Sem.run_pure], by cases r <;> exact .bool _⟩

theorem gives_tas {t : TypeId} {ok : Bool} {zero : AV} {x : XArg} {x' : Operand} {S : TypeId} {d : TypeDesc} {i : TypeInfo} {zv : Value} (hx : argOk x x' = true) (ho : o.op = .typeAssert x' S t ok)
    (hd : P.underlying t = some d) (hni : ∀ ms, d ≠ .interface ms) (hi : P.info? t = some i) (hz : i.zero = some zv) (hzr : RelV G w zero zv) (hs : ∀ t ∈ argTmp x, RelS G w fr act t) :
    (∀ v, earg fr x = .ifc t v → Gives P G w act o (if ok then .tup [v, .bool true] else v)) ∧
    (∀ u v, earg fr x = .ifc u v → u ≠ t → ok = true → Gives P G w act o (.tup [zero, .bool false])) ∧
    (earg fr x = .nilif → ok = true → Gives P G w act o (.tup [zero, .bool false])) := by
  have h1 := arg_rel (w := w) (G := G) hx hs
  have htup : ∀ {a b : AV} {y z : Value}, RelV G w a y → RelV G w b z → RelV G w (.tup [a, b]) (.tuple #[y, z]) := by
    intro a b y z ha hb
    refine .tup _ _ rfl fun j v x hv hxx => ?_
    match j with
    | 0 => simp at hv hxx; subst hv hxx; exact ha
    | 1 => simp at hv hxx; subst hv hxx; exact hb
    | j + 2 => simp at hv
  refine ⟨fun v he => ?_, fun u v he hne hok => ?_, fun he hok => ?_⟩
  · rw [he] at h1
    cases h3 : act.eval x' <;> rw [h3] at h1 <;> (try (cases h1; done))
    rename_i t' y
    cases h1
    rename_i hr
    cases ok
    · refine ⟨y, ?_, hr⟩
      simp only [execOp, ho, h3, Instr.typeAssert, Sem.run_bind, run_underlying' hd, Result.andThen_ok]
      cases d <;> first | exact absurd rfl (hni _) | simp
    · refine ⟨.tuple #[y, .bool true], ?_, htup hr (.bool _)⟩
      simp only [execOp, ho, h3, Instr.typeAssert, Sem.run_bind, run_underlying' hd, Result.andThen_ok]
      cases d <;> first | exact absurd rfl (hni _) | simp
  · rw [he] at h1
    cases h3 : act.eval x' <;> rw [h3] at h1 <;> (try (cases h1; done))
    rename_i t' y
    cases h1
    subst hok
    refine ⟨.tuple #[zv, .bool false], ?_, htup hzr (.bool _)⟩
    simp only [execOp, ho, h3, Instr.typeAssert, Sem.run_bind, run_underlying' hd, Result.andThen_ok]
    cases d <;> first | exact absurd rfl (hni _) | simp [hne, zeroValue, typeInfo, hi, hz]
  · rw [he] at h1
    cases h3 : act.eval x' <;> rw [h3] at h1 <;> (try (cases h1; done))
    subst hok
    refine ⟨.tuple #[zv, .bool false], ?_, htup hzr (.bool _)⟩
    simp only [execOp, ho, h3, Instr.typeAssert, Sem.run_bind, run_underlying' hd, Result.andThen_ok]
    cases d <;> first | exact absurd rfl (hni _) | simp [zeroValue, typeInfo, hi, hz]

theorem eargs_rel : ∀ {as : List XArg} {bs : List Operand}, argsOk as bs = true → (∀ a ∈ as, ∀ t ∈ argTmp a, RelS G w fr act t) →
    (eargs fr as).length = bs.length ∧ ∀ (j : Nat) (v : AV) (x : Value), (eargs fr as)[j]? = some v → (bs.map act.eval)[j]? = some x → RelV G w v x
  | [], [], _, _ => ⟨rfl, by simp [eargs]⟩
  | [], _ :: _, h, _ => by simp [argsOk] at h
  | _ :: _, [], h, _ => by simp [argsOk] at h
  | a :: as, b :: bs, h, hs => by
    simp [argsOk] at h
    obtain ⟨h1, h2⟩ := eargs_rel h.2 (fun a ha => hs a (by simp [ha]))
    refine ⟨by simp [eargs, h1], fun j v x hv hx => ?_⟩
    cases j with
    | zero =>
      simp [eargs] at hv hx
      subst hv hx
      exact arg_rel h.1 (fun t ht => hs a (by simp) t ht)
    | succ j =>
      simp [eargs] at hv
      exact h2 j v x hv (by simpa using hx)
theorem gives_mkfn {f : Nat} {ds cs : List XArg} {ds' cs' : Array Operand} (hd : argsOk ds ds'.toList = true) (hc : argsOk cs cs'.toList = true) (ho : o.op = .makeFunc (.func f) ds' cs')
    (hs : ∀ a ∈ ds ++ cs, ∀ t ∈ argTmp a, RelS G w fr act t) : Gives P G w act o (.fn f (eargs fr ds) (eargs fr cs)) := by
  obtain ⟨h1, h2⟩ := eargs_rel (w := w) (G := G) (fr := fr) (act := act) hd (fun a ha => hs a (by simp [ha]))
  obtain ⟨h3, h4⟩ := eargs_rel (w := w) (G := G) (fr := fr) (act := act) hc (fun a ha => hs a (by simp [ha]))
  refine ⟨.func (.func f) (ds'.map act.eval) (cs'.map act.eval), by simp [execOp, ho, Instr.makeFunc], .fn _ _ _ _ _ (by simpa using h1) (by simpa using h3) ?_ ?_⟩
  · intro j v x hv hx
    exact h2 j v x hv (by rw [← hx]; simp)
  · intro j v x hv hx
    exact h4 j v x hv (by rw [← hx]; simp)
end
end Go.Proofs.Ytpfollpbkpgglaa.Sx
