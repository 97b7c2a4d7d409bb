/- SX, part W: what a call hands back. -/
import Derived.Test.YtpfollpbkpgglaaSxV
set_option linter.unusedVariables false
set_option linter.unusedSimpArgs false
namespace Go.Proofs.Ytpfollpbkpgglaa.Sx
open Go
theorem mapO_spec {f : AV → Option AV} : ∀ {l l' : List AV}, mapO f l = some l' → l'.length = l.length ∧ ∀ (j : Nat) (v' : AV), l'[j]? = some v' → ∃ v, l[j]? = some v ∧ f v = some v'
  | [], l', h => by
    simp only [mapO, Option.some.injEq] at h
    subst h
    exact ⟨rfl, by simp⟩
  | v :: l, l', h => by
    simp only [mapO] at h
    split at h
    · rename_i v' hv
      split at h
      · rename_i l2 hl
        injection h with h
        subst h
        obtain ⟨h1, h2⟩ := mapO_spec hl
        refine ⟨by simp [h1], fun j u hu => ?_⟩
        cases j with
        | zero => simp at hu; subst hu; exact ⟨v, rfl, hv⟩
        | succ j => simpa using h2 j u (by simpa using hu)
      · cases h
    · cases h
section
variable {G G' : Gh} {w : World} {N : Nat} {hp : Heap}
structure Shuts (N : Nat) (G : Gh) (w : World) (hp : Heap) (G' : Gh) : Prop where
  m : ∀ r x, G.m r = some x → r.lev ≠ N → G'.m r = some x
  st : ∀ b, b < w.heap.size → G.k b = .st → G'.k b = .st
  gr : ∀ b f, b < w.heap.size → G.k b = .gr f → ∃ f', f ≤ f' ∧ G'.k b = .gr f'
  own : ∀ r b base, G.m r = some (b, base) → r.lev = N → G'.k b = .st ∧ b < w.heap.size
  heap : RelHeap G w hp
theorem cellsAt_get {r : Ref} {vs : List AV} (h : cellsAt hp r = some vs) : hget hp r = some (.cells vs) := by
  unfold cellsAt at h
  split at h
  · rename_i vs' hb; injection h with h; subst h; exact hb
  · cases h
theorem mem_take {cs : List AV} {b q k : Nat} (h : MemAt G w cs b q) : MemAt G w (cs.take k) b q := by
  intro j v hj
  rw [List.getElem?_take] at hj
  split at hj
  · exact h j v hj
  · cases hj
theorem shut_rel (hS : Shuts N G w hp G') : ∀ (n : Nat) (v v' : AV) (y : Value), shut hp N n v = some v' → RelV G w v y → RelV G' w v' y ∧ noFlag v'
  | 0, _, _, _, h, _ => by cases h
  | n + 1, v, v', y, h, hr => by
    have mem : ∀ {cs cs' : List AV} {b q : Nat}, mapO (shut hp N n) cs = some cs' → MemAt G w cs b q → MemAt G' w cs' b q := by
      intro cs cs' b q hm hM j u hu
      obtain ⟨u0, h1, h2⟩ := (mapO_spec hm).2 j u hu
      obtain ⟨x, h3, h4⟩ := hM j u0 h1
      exact ⟨x, h3, (shut_rel hS n u0 u x h2 h4).1⟩
    have arr : ∀ {cs cs' : List AV} {xs : Array Value}, mapO (shut hp N n) cs = some cs' → cs.length = xs.size → (∀ (j : Nat) (v : AV) (x : Value), cs[j]? = some v → xs[j]? = some x → RelV G w v x) →
        cs'.length = xs.size ∧ ∀ (j : Nat) (v : AV) (x : Value), cs'[j]? = some v → xs[j]? = some x → RelV G' w v x := by
      intro cs cs' xs hm hl hh
      refine ⟨(mapO_spec hm).1.trans hl, fun j u x hu hx => ?_⟩
      obtain ⟨u0, h1, h2⟩ := (mapO_spec hm).2 j u hu
      exact (shut_rel hS n u0 u x h2 (hh j u0 x h1 hx)).1
    have plain : refFree v = true → some (uf v) = some v' → RelV G' w v' y ∧ noFlag v' := by
      intro hf h
      injection h with h
      subst h
      exact ⟨(hr.noRef2 hS.st hS.gr hf).uf, noFlag_uf v⟩
    cases hr with
    | ptr r off b base hm =>
      simp only [shut] at h
      split at h
      · rename_i hl
        split at h
        · rename_i vs hvs
          split at h
          · rename_i cs hcs
            split at h
            · rename_i hf
              injection h with h
              subst h
              have hM := mem hcs ((hS.heap r b base _ hm (cellsAt_get hvs)).mem.drop (k := off))
              obtain ⟨X, hX⟩ := hM.choose
              obtain ⟨h5, h6⟩ := hS.own r b base hm hl
              exact ⟨.elp cs b (base + off) X ⟨h6, .inl h5⟩ (fun j u hu => refFreeL_mem hf _ (List.mem_of_getElem? hu)) (fun j u hu => (hX j u hu).1) (fun j u hu => (hX j u hu).2), trivial⟩
            · cases h
          · cases h
        · cases h
      · rename_i hl
        injection h with h
        subst h
        exact ⟨.ptr r off b base (hS.m r _ hm hl), trivial⟩
    | sl r z off len b base cap hm hcap hsz =>
      simp only [shut] at h
      split at h
      · rename_i hl
        split at h
        · rename_i vs hvs
          split at h
          · rename_i cs hcs
            split at h
            · rename_i hcond
              obtain ⟨hf, hfit⟩ := hcond
              injection h with h
              subst h
              have hM := mem hcs (mem_take (k := len * z) ((hS.heap r b base _ hm (cellsAt_get hvs)).mem.drop (k := off)))
              obtain ⟨h5, h6⟩ := hS.own r b base hm hl
              have hlen : len * z ≤ cs.length := by
                rw [(mapO_spec hcs).1]
                simp
                omega
              obtain ⟨X, hA⟩ := lstAt_chunks (n := len) hM hf ⟨h6, .inl h5⟩ hlen
              have := hA.rel (ow := .none) (cap := cap) (by simp) (by rw [chunks_length]; exact hcap) (by simp)
              rw [chunks_length] at this
              exact ⟨this, trivial⟩
            · cases h
          · cases h
        · cases h
      · rename_i hl
        injection h with h
        subst h
        exact ⟨.sl r z off len b base cap (hS.m r _ hm hl) hcap hsz, trivial⟩
    | agg cs xs hl hh =>
      simp only [shut, Option.map_eq_some_iff] at h
      obtain ⟨cs', h1, rfl⟩ := h
      obtain ⟨h2, h3⟩ := arr h1 hl hh
      exact ⟨.agg cs' xs h2 h3, trivial⟩
    | tup cs xs hl hh =>
      simp only [shut, Option.map_eq_some_iff] at h
      obtain ⟨cs', h1, rfl⟩ := h
      obtain ⟨h2, h3⟩ := arr h1 hl hh
      exact ⟨.tup cs' xs h2 h3, trivial⟩
    | ifc t u x hr =>
      simp only [shut, Option.map_eq_some_iff] at h
      obtain ⟨u', h1, rfl⟩ := h
      exact ⟨.ifc t u' x (shut_rel hS n u u' x h1 hr).1, trivial⟩
    | fn f ds cs xs ys hl hm hh hs =>
      simp only [shut] at h
      split at h
      · rename_i ds' hds
        simp only [Option.map_eq_some_iff] at h
        obtain ⟨cs', h1, rfl⟩ := h
        obtain ⟨h2, h3⟩ := arr hds hl hh
        obtain ⟨h4, h5⟩ := arr h1 hm hs
        exact ⟨.fn f ds' cs' xs ys h2 h4 h3 h5, trivial⟩
      · cases h
    | undef x => exact plain rfl h
    | bool b => exact plain rfl h
    | int k n => exact plain rfl h
    | str x => exact plain rfl h
    | opq x h0 => exact plain rfl h
    | nilptr => exact plain rfl h
    | nilsl => exact plain rfl h
    | nilif => exact plain rfl h
    | nilfn => exact plain rfl h
    | elp cs b o X hc hf hx hh => exact plain rfl h
    | gptr g => exact plain rfl h
    | uniq z es x => exact plain rfl h
    | lst ow z es b o cap X hu hl ht hc hz hf hx hh => exact plain rfl h
end
end Go.Proofs.Ytpfollpbkpgglaa.Sx
