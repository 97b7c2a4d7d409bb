/- SX, part Z: laws by the evaluator. -/
import Derived.Test.YtpfollpbkpgglaaSxY
import Derived.Below
import Derived.Laws.Externs
import Derived.WalkKit
set_option linter.unusedVariables false
set_option linter.unusedSimpArgs false
namespace Go.Proofs.Ytpfollpbkpgglaa.Sx
open Go Go.RowKit
/-- Every function of a list is the compiled form of the program's function of its number. -/
def AllOk (P : Program) (prims : List (Nat × Nat)) : List (Option XFn) → Nat → Prop
  | [], _ => True
  | none :: l, i => AllOk P prims l (i + 1)
  | some x :: l, i => (∃ F, P.funcs[i]? = some F ∧ (chkFn P prims x F && supCode x.body) = true) ∧ AllOk P prims l (i + 1)
theorem allOk_get {P : Program} {prims : List (Nat × Nat)} : ∀ {X : List (Option XFn)} {i : Nat}, AllOk P prims X i → ∀ (f : Nat) (x : XFn), X[f]? = some (some x) → ∃ F, P.funcs[i + f]? = some F ∧ chkFn P prims x F = true ∧ supCode x.body = true
  | [], _, _, f, x, h => by simp at h
  | none :: l, i, hA, f, x, h => by
    cases f with
    | zero => simp at h
    | succ f =>
      have := allOk_get (i := i + 1) hA f x (by simpa using h)
      rw [show i + (f + 1) = i + 1 + f by omega]
      exact this
  | some y :: l, i, hA, f, x, h => by
    cases f with
    | zero =>
      simp at h
      subst h
      obtain ⟨F, h1, h2⟩ := hA.1
      exact ⟨F, h1, by simpa using h2⟩
    | succ f =>
      have := allOk_get (i := i + 1) hA.2 f x (by simpa using h)
      rw [show i + (f + 1) = i + 1 + f by omega]
      exact this
theorem checked_of {P : Program} {prims : List (Nat × Nat)} {X : List (Option XFn)} (h : AllOk P prims X 0) : Checked0 P prims X := fun f x hx => by
  have := allOk_get h f x hx
  rwa [Nat.zero_add] at this
/-- Every block that is there stands as it is. -/
def flatG : Gh where
  m := fun _ => none
  k := fun _ => .st
  o := fun _ => none
theorem flat_valid {w : World} : Valid flatG w 0 := ⟨fun _ _ h => (by cases h), fun _ _ _ _ h => (by cases h), fun _ _ h => (by cases h), fun _ _ _ h => (by cases h), fun _ _ h => (by cases h)⟩
theorem law_true {P : Program} {prims : List (Nat × Nat)} {X : List (Option XFn)} (hX : Checked0 P prims X) (hP : PrimOk P prims) (hmix : P.follows .mixedOrders = true) {n f : Nat} {args : List AV} {hq : Heap}
    (he : evCall X (fun _ => []) n f args [] = some (.bool true, hq)) {xs : Array Value} {W : World} (hlen : args.length = xs.size)
    (hrel : ∀ (j : Nat) (u : AV) (z : Value), args[j]? = some u → xs[j]? = some z → RelV flatG W u z ∧ noFlag u) :
    Calls P f xs W fun e W' => e = .returned (.bool true) ∧ Below W.heap.size W W' := by
  refine Calls.mono (evCall_ok hX hP hmix n f args [] _ hq he flatG W xs flat_valid hlen (fun j u z hu hz => ⟨(hrel j u z hu hz).1, .of_noFlag (hrel j u z hu hz).2⟩) (fun r b base blk h => by cases h) (fun g => .inl rfl)).2 ?_
  rintro e W' ⟨z, G', rfl, hE, _, hR, _⟩
  cases hR
  exact ⟨rfl, hE.os, hE.tape, hE.output, hE.size, fun k hk => (hE.st k hk rfl).2⟩
def PrimOne (P : Program) (f id : Nat) : Prop :=
  ∀ (as : List AV) (v : AV), primX id as = some v → ∀ (G : Gh) (w : World) (xs : Array Value), as.length = xs.size → (∀ (j : Nat) (u : AV) (z : Value), as[j]? = some u → xs[j]? = some z → RelV G w u z) →
    ∃ z, (callFunc f xs).run P w = .ok (.value z) w ∧ RelV G w v z ∧ noFlag v
theorem prims_nil {P : Program} : PrimOk P [] := fun p hp => by cases hp
theorem prims_cons {P : Program} {f id : Nat} {l : List (Nat × Nat)} (h : PrimOne P f id) (hl : PrimOk P l) : PrimOk P ((f, id) :: l) := fun p hp => by
  rcases List.mem_cons.1 hp with rfl | hp
  · exact h
  · exact hl p hp
theorem three_ints {G : Gh} {w : World} {k : IntKind} {x y c : Int} {xs : Array Value} (hl : [AV.int k x, .int k y, .int k c].length = xs.size)
    (hr : ∀ (j : Nat) (u : AV) (z : Value), [AV.int k x, .int k y, .int k c][j]? = some u → xs[j]? = some z → RelV G w u z) : xs = #[.int k x, .int k y, .int k c] := by
  obtain ⟨l⟩ := xs
  match l, hl with
  | [a, b, d], _ =>
    have h0 := hr 0 _ a rfl rfl
    have h1 := hr 1 _ b rfl rfl
    have h2 := hr 2 _ d rfl rfl
    cases h0; cases h1; cases h2
    rfl
theorem tup2 {G : Gh} {w : World} {u v : AV} {a b : Value} (h1 : RelV G w u a) (h2 : RelV G w v b) : RelV G w (.tup [u, v]) (.tuple #[a, b]) := by
  refine .tup _ _ rfl fun j c x hc hx => ?_
  match j with
  | 0 => simp at hc hx; subst hc hx; exact h1
  | 1 => simp at hc hx; subst hc hx; exact h2
  | j + 2 => simp at hc
theorem prim_add64 {P : Program} {f : Nat} {fn : Func} (hf : P.funcs[f]? = some fn) (hname : (fn.name == "runtime.NumGoroutine") = false) (hb : fn.body.isNone = true) (hn : Extern.findNext fn = none) (he : Extern.find fn = some add64Entry) : PrimOne P f 0 := by
  intro as v h G w xs hl hr
  unfold primX at h
  split at h <;> (try (cases h; done)) <;> rename_i e <;> (try (cases e; done))
  split at h
  · rename_i hc
    injection h with h
    subst h
    rw [three_ints hl hr, run_callFunc_extern hf hname hb hn he, run_add64 _ _ _ hc.1 hc.2.1 hc.2.2.1 hc.2.2.2]
    exact ⟨_, rfl, tup2 (.int _ _) (.int _ _), trivial⟩
  · cases h
def subCarry : Array Value → Sem Value := fun args => do
  let (x, y, b) ← Extern.MathBitsCarry.three "Sub64" args
  pure (Extern.MathBitsCarry.pair ((x + Extern.MathBitsCarry.m64 - y - b) % Extern.MathBitsCarry.m64) (if x < y + b then 1 else 0))
theorem run_subCarry {P : Program} (x y b : Nat) (hb : b ≤ 1) (w : World) : (subCarry #[.int .u64 x, .int .u64 y, .int .u64 b]).run P w =
    .ok (.tuple #[.int .u64 (((x + 18446744073709551616 - y - b) % 18446744073709551616 : Nat) : Int), .int .u64 ((if x < y + b then 1 else 0 : Nat) : Int)]) w := by
  have : b = 0 ∨ b = 1 := by omega
  rcases this with rfl | rfl <;> rfl
theorem prim_sub64 {P : Program} {f : Nat} {fn : Func} (hf : P.funcs[f]? = some fn) (hname : (fn.name == "runtime.NumGoroutine") = false) (hb : fn.body.isNone = true) (hn : Extern.findNext fn = none) (he : Extern.find fn = some subCarry) : PrimOne P f 1 := by
  intro as v h G w xs hl hr
  unfold primX at h
  split at h <;> (try (cases h; done)) <;> rename_i e <;> (try (cases e; done))
  rename_i x y k
  split at h
  · rename_i hc
    injection h with h
    subst h
    obtain ⟨X, rfl⟩ := Int.eq_ofNat_of_zero_le hc.1
    obtain ⟨Y, rfl⟩ := Int.eq_ofNat_of_zero_le hc.2.2.1
    obtain ⟨K, rfl⟩ := Int.eq_ofNat_of_zero_le hc.2.2.2.2.1
    rw [three_ints hl hr, run_callFunc_extern hf hname hb hn he, run_subCarry _ _ _ (by omega)]
    have e1 : (((X + 18446744073709551616 - Y - K) % 18446744073709551616 : Nat) : Int) = ((X : Int) - Y - K) % 18446744073709551616 := by omega
    have e2 : ((if X < Y + K then 1 else 0 : Nat) : Int) = if (X : Int) < Y + K then 1 else 0 := by split <;> split <;> omega
    rw [e1, e2]
    exact ⟨_, rfl, tup2 (.int _ _) (.int _ _), trivial⟩
  · cases h
end Go.Proofs.Ytpfollpbkpgglaa.Sx
