/- SX, part J: operations that make blocks. -/
import Derived.Test.YtpfollpbkpgglaaSxI
set_option linter.unusedVariables false
set_option linter.unusedSimpArgs false
namespace Go.Proofs.Ytpfollpbkpgglaa.Sx
open Go

/-! ### worlds -/
theorem Ext.of_same {A : Nat → Prop} {G G' : Gh} {w w' : World} (hos : w'.os = w.os) (ht : w'.tape = w.tape) (hout : w'.output = w.output) (hsz : w.heap.size ≤ w'.heap.size)
    (hh : ∀ b, b < w.heap.size → w'.heap[b]? = w.heap[b]?) (hk : ∀ b, b < w.heap.size → G'.k b = G.k b) (hm : ∀ r x, G.m r = some x → G'.m r = some x) : Ext A G w G' w' where
  os := hos
  tape := ht
  output := hout
  size := hsz
  st := fun b hb h => ⟨by rw [hk b hb, h], hh b hb⟩
  gr := fun b f hb h => ⟨f, Nat.le_refl _, by rw [hk b hb, h], fun i _ => cell_of_heap (hh b hb) i⟩
  keep := fun b hb _ _ _ => ⟨hk b hb, hh b hb⟩
  mm := hm
  mb := fun b hb h => ⟨by rw [hk b hb, h], fun cs T fz hc => ⟨cs, by rw [hh b hb, hc], rfl⟩⟩
theorem heap_alloc_lt (w : World) (ob : Obj) (b : Nat) (h : b < w.heap.size) : (w.alloc ob).heap[b]? = w.heap[b]? := by
  simp only [World.alloc, Array.getElem?_push]
  rw [if_neg (by omega)]
theorem heap_alloc_eq (w : World) (ob : Obj) : (w.alloc ob).heap[w.heap.size]? = some ob := by
  show (w.heap.push ob)[w.heap.size]? = some ob
  simp
def upd {α : Type} (f : Nat → α) (n : Nat) (v : α) : Nat → α := fun i => if i = n then v else f i
theorem Ext.of_alloc {A : Nat → Prop} {G G' : Gh} {w : World} {ob : Obj} (hk : ∀ b, b < w.heap.size → G'.k b = G.k b) (hm : ∀ r x, G.m r = some x → G'.m r = some x) : Ext A G w G' (w.alloc ob) :=
  .of_same rfl rfl rfl (by simp) (fun b hb => heap_alloc_lt w ob b hb) hk hm
theorem Ext.of_drew {A : Nat → Prop} {G G' : Gh} {w : World} (hk : ∀ b, b < w.heap.size → G'.k b = G.k b) (hm : ∀ r x, G.m r = some x → G'.m r = some x) : Ext A G w G' w.drew :=
  .of_same rfl rfl rfl (Nat.le_refl _) (fun _ _ => rfl) hk hm

theorem RelBlk.ext {A : Nat → Prop} {G G' : Gh} {w w' : World} {n : Nat} {r : Ref} {b base : Nat} {blk : Blk} (hv : Valid G w n) (h : Ext A G w G' w') (hb : w'.heap[b]? = w.heap[b]?)
    (ho : ∀ i, G'.o (.cell r i) = G.o (.cell r i)) (hA : ∀ i c, G.o (.cell r i) = some c → ¬ A c) (hr : RelBlk G w r b base blk) : RelBlk G' w' r b base blk := by
  cases blk with
  | cells vs =>
    obtain ⟨cs, T, h1, h2, h3⟩ := hr
    refine ⟨cs, T, by rw [hb, h1], h2, fun i v x hi hx => ?_⟩
    obtain ⟨h4, h5⟩ := h3 i v x hi hx
    exact ⟨h4.ext hv.below h.below, h5.ext hv h (ho i) (hA i)⟩
  | iter s pos =>
    obtain ⟨s', h1, h2, h3⟩ := hr
    exact ⟨s', h1, by rw [hb, h2], h3⟩
theorem RelS.ext {A : Nat → Prop} {G G' : Gh} {w w' : World} {n : Nat} {fr : List AV} {act : Act} {t : Nat} (hv : Valid G w n) (h : Ext A G w G' w') (hr : RelS G w fr act t)
    (ho : G'.o (.slot t) = G.o (.slot t)) (hA : ∀ c, G.o (.slot t) = some c → ¬ A c) : RelS G' w' fr act t :=
  ⟨hr.1.ext hv h, hr.2.ext hv h ho hA⟩

/-- The ghost with another owner of one place. -/
def setO (G : Gh) (l : Loc) (b : Option Nat) : Gh := { G with o := fun l' => if l' = l then b else G.o l' }
theorem setO_o (G : Gh) (l l' : Loc) (b : Option Nat) : (setO G l b).o l' = if l' = l then b else G.o l' := rfl
theorem Valid.setO_none {G : Gh} {w : World} {n : Nat} (h : Valid G w n) (l : Loc) : Valid (setO G l none) w n where
  lev := h.lev
  inj := h.inj
  mkk := h.mkk
  oinj := fun l1 l2 b h1 h2 => by
    rw [setO_o] at h1 h2
    split at h1
    · cases h1
    · split at h2
      · cases h2
      · exact h.oinj _ _ b h1 h2
  ok := fun l1 b h1 => by
    rw [setO_o] at h1
    split at h1
    · cases h1
    · exact h.ok _ b h1
/-- A new block: what it is to us, and perhaps its name and its owner. -/
def addB (G : Gh) (b : Nat) (k : BK) (r : Option Ref) (l : Option Loc) : Gh where
  m := fun r' => if r = some r' then some (b, 0) else G.m r'
  k := upd G.k b k
  o := fun l' => if l = some l' then some b else G.o l'
theorem addB_k_lt (G : Gh) (w : World) (k : BK) (r : Option Ref) (l : Option Loc) (b : Nat) (h : b < w.heap.size) : (addB G w.heap.size k r l).k b = G.k b := by
  simp [addB, upd]; omega
theorem Valid.addB {G : Gh} {w w' : World} {n : Nat} {k : BK} {r : Option Ref} {l : Option Loc} (h : Valid G w n) (hs : w'.heap.size = w.heap.size + 1) (hr : ∀ q, r = some q → q.lev < n ∧ k = .mb)
    (hl : ∀ q, l = some q → (∃ f, k = .gr f) ∨ k = .un) : Valid (addB G w.heap.size k r l) w' n where
  lev := fun q x hx => by
    simp only [Sx.addB] at hx
    split at hx
    · rename_i e; exact (hr q e).1
    · exact h.lev q x hx
  inj := fun q q' x y hx hy he => by
    simp only [Sx.addB] at hx hy
    split at hx <;> split at hy
    · rename_i e1 e2; rw [e1] at e2; injection e2
    · injection hx with hx; subst hx
      have := (h.mkk _ _ hy).2
      simp at he; omega
    · injection hy with hy; subst hy
      have := (h.mkk _ _ hx).2
      simp at he; omega
    · exact h.inj q q' x y hx hy he
  mkk := fun q x hx => by
    simp only [Sx.addB] at hx
    split at hx
    · rename_i e
      injection hx with hx
      subst hx
      exact ⟨by simp [Sx.addB, upd, (hr q e).2], by omega⟩
    · have := h.mkk q x hx
      exact ⟨by rw [addB_k_lt _ _ _ _ _ _ this.2]; exact this.1, by omega⟩
  oinj := fun l1 l2 b h1 h2 => by
    simp only [Sx.addB] at h1 h2
    split at h1 <;> split at h2
    · rename_i e1 e2; rw [e1] at e2; injection e2
    · injection h1 with h1; have := (h.ok _ _ h2).1; omega
    · injection h2 with h2; have := (h.ok _ _ h1).1; omega
    · exact h.oinj _ _ b h1 h2
  ok := fun l1 b h1 => by
    simp only [Sx.addB] at h1
    split at h1
    · rename_i e
      injection h1 with h1
      subst h1
      refine ⟨by omega, ?_⟩
      simpa [Sx.addB, upd] using hl l1 e
    · obtain ⟨h2, h3⟩ := h.ok _ _ h1
      exact ⟨by omega, by rw [addB_k_lt _ _ _ _ _ _ h2]; exact h3⟩

section
variable {P : Program} {G : Gh} {w : World} {fr : List AV} {act : Act} {o : Oper}
theorem run_alloc {zs : List AV} {T : TypeId} (ho : o.op = .alloc T) (hz : zeroOk P T zs = true) :
    ∃ xs, (execOp act.eval o).run P w = .ok (.value (.pointer (some ⟨w.heap.size, 0, none⟩))) (w.alloc (.cells xs T)) ∧ RelCs G w zs xs ∧ ∀ v ∈ zs, plain1 v = true ∧ noFlag v := by
  obtain ⟨z, h1, h2, h3⟩ := zeroOk_run (G := G) (w := w) hz
  refine ⟨z.cells, ?_, h2, h3⟩
  simp only [execOp, ho, Instr.alloc, Sem.run_bind, h1, Result.andThen_ok, newVar, newRow, run_newObj, Sem.run_pure]
  rfl
theorem run_box {x : XArg} {x' : Operand} {T : TypeId} (hx : argOk x x' = true) (ho : o.op = .box T x') (hs : ∀ t ∈ argTmp x, RelS G w fr act t) (hp : (cellsOf (earg fr x)).all plain1 = true) :
    ∃ xs, (execOp act.eval o).run P w = .ok (.value (.pointer (some ⟨w.heap.size, 0, none⟩))) (w.alloc (.cells xs T)) ∧ RelCs G w (cellsOf (earg fr x)) xs := by
  have h1 := arg_rel (w := w) (G := G) hx hs
  have hsol : solid (earg fr x) = true := by
    cases h : earg fr x <;> rw [h] at hp <;> simp_all [solid, cellsOf]
  refine ⟨(act.eval x').cells, ?_, cellsOf_rel hsol h1⟩
  simp only [execOp, ho, Instr.box, newVar, newRow, Sem.run_bind, run_newObj, Result.andThen_ok, Sem.run_pure]
  rfl
/-- A new block of cells is what it is to be. -/
theorem relBlk_new {cs : List AV} {xs : Array Value} {T : TypeId} {n : Nat} {r : Ref} {G' : Gh} (hv : Valid G w n) (hn : r.lev + 1 = n) (h : RelCs G w cs xs) (hf : ∀ v ∈ cs, noFlag v)
    (he : Ext (fun _ => False) G w G' (w.alloc (.cells xs T))) : RelBlk G' (w.alloc (.cells xs T)) r w.heap.size 0 (.cells cs) := by
  refine ⟨xs, T, heap_alloc_eq w _, by have := h.1; omega, fun i v x hi hx => ?_⟩
  rw [Nat.zero_add] at hx
  exact ⟨(RelV.to_below (n := r.lev + 1) (fun q y hq => by rw [hn]; exact hv.lev q y hq) (h.2 i v x hi hx)).ext hv.below he.below, .of_noFlag (hf v (List.mem_of_getElem? hi))⟩
end
end Go.Proofs.Ytpfollpbkpgglaa.Sx
