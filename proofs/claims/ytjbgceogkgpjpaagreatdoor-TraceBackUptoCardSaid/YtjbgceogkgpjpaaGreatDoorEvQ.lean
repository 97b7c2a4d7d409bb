/- EV, part Q: a strings.Builder in a frame's own level. -/
import Derived.Test.YtjbgceogkgpjpaaGreatDoorEvS
set_option linter.unusedVariables false
set_option linter.unusedSimpArgs false
namespace Go.Proofs.YtjbgceogkgpjpaaGreatDoor.Sx
def lputb (l : Level) (d u t e : Nat) (bs : List UInt8) : Level := lput l d (some (u, .bld t e bs))
def lbld (l : Level) (s v : Nat) : Option (Nat × Nat × List UInt8) := match lget l s with
  | some (u, .bld t e bs) => if u = v then some (t, e, bs) else none
  | _ => none
theorem lbld_put (l : Level) (d u : Nat) (cs : List AV) (s v : Nat) : lbld (lputc l d u cs) s v = if s = d then none else lbld l s v := by
  unfold lbld lputc
  rw [lget_lput]
  by_cases h : s = d <;> simp [h]
theorem lbld_putb (l : Level) (d u t e : Nat) (bs : List UInt8) (s v : Nat) : lbld (lputb l d u t e bs) s v = if s = d then (if u = v then some (t, e, bs) else none) else lbld l s v := by
  unfold lbld lputb
  rw [lget_lput]
  by_cases h : s = d <;> simp [h]
theorem lcells_putb (l : Level) (d u t e : Nat) (bs : List UInt8) (s v : Nat) : lcells (lputb l d u t e bs) s v = if s = d then none else lcells l s v := by
  unfold lcells lputb
  rw [lget_lput]
  by_cases h : s = d <;> simp [h]
theorem o_allocb {C : CallT} {gl : Nat → List AV} (d t e : Nat) (fr : List AV) (l : Level) (h : Heap) : evO1 C gl (some d) (.allocb t e) fr (l :: h) = some (fput fr d (.ptr ⟨h.length, d, nextVer l d⟩ 0), lputb l d (nextVer l d) t e [] :: h) := rfl
theorem lbld_some {l : Level} {s v t e : Nat} {bs : List UInt8} (h : lbld l s v = some (t, e, bs)) : lget l s = some (v, .bld t e bs) := by
  unfold lbld at h
  split at h
  · rename_i u t' e' bs' hg
    split at h
    · rename_i hu
      simp only [Option.some.injEq, Prod.mk.injEq] at h
      obtain ⟨rfl, rfl, rfl⟩ := h
      rw [hg, hu]
    · cases h
  · cases h
theorem hget_bld {l : Level} {h : Heap} {n s v t e : Nat} {bs : List UInt8} (hn : n = h.length) (hb : lbld l s v = some (t, e, bs)) : hget (l :: h) ⟨n, s, v⟩ = some (.bld t e bs) := by
  subst hn
  simp [hget, lbld_some hb]
theorem hput_bld {l : Level} {h : Heap} {n s v : Nat} (hn : n = h.length) (b : Blk) : hput (l :: h) ⟨n, s, v⟩ b = lput l s (some (v, b)) :: h := by
  subst hn
  simp [hput]
def bwK (id s v : Nat) (str : List UInt8) (l : Level) (h : Heap) (o : Option (Nat × Nat × List UInt8)) : Option (AV × Heap) := match o with
  | some (t, e, bs) => if id = t * 1000 + e ∧ bs.length + str.length ≤ 140737488355328 then some (.tup [.int .i64 str.length, .nilif], lputb l s v t e (bs ++ str) :: h) else none
  | none => none
theorem bwK_some (id s v : Nat) (str : List UInt8) (l : Level) (h : Heap) (t e : Nat) (bs : List UInt8) : bwK id s v str l h (some (t, e, bs)) = if id = t * 1000 + e ∧ bs.length + str.length ≤ 140737488355328 then some (.tup [.int .i64 str.length, .nilif], lputb l s v t e (bs ++ str) :: h) else none := rfl
def bsK (id s v : Nat) (l : Level) (h : Heap) (o : Option (Nat × Nat × List UInt8)) : Option (AV × Heap) := match o with
  | some (t, e, bs) => if id = t * 1000 + e then some (.str bs, lputc l s v [.undef, .undef] :: h) else none
  | none => none
theorem bsK_some (id s v : Nat) (l : Level) (h : Heap) (t e : Nat) (bs : List UInt8) : bsK id s v l h (some (t, e, bs)) = if id = t * 1000 + e then some (.str bs, lputc l s v [.undef, .undef] :: h) else none := rfl
theorem hget_lbld (l : Level) (h : Heap) (s v : Nat) : (match hget (l :: h) ⟨h.length, s, v⟩ with | some (.bld t e bs) => some (t, e, bs) | _ => none) = lbld l s v := by
  unfold lbld hget
  simp only [if_true]
  cases lget l s with
  | none => rfl
  | some p =>
    obtain ⟨u, b⟩ := p
    cases b <;> by_cases hu : u = v <;> simp [hu]
theorem hp_writeK {l : Level} {h : Heap} {n s v id : Nat} {str : List UInt8} (hn : n = h.length) (he : id < 1000000) : hprimX (1000000 + id) [.ptr ⟨n, s, v⟩ 0, .str str] (l :: h) = bwK id s v str l h (lbld l s v) := by
  have hk : (1000000 + id) % 1000000 = id := by omega
  cases hb : lbld l s v with
  | some x =>
    obtain ⟨t, e, bs⟩ := x
    unfold hprimX
    simp only [hget_bld hn hb, hput_bld hn, hk]
    rw [if_pos ⟨trivial, by omega⟩]
    rfl
  | none =>
    subst hn
    have := hget_lbld l h s v
    rw [hb] at this
    unfold hprimX
    simp only [bwK]
    split
    · split at this <;> simp_all
    · rfl
theorem hp_stringK {l : Level} {h : Heap} {n s v id : Nat} (hn : n = h.length) (he : id < 1000000) : hprimX (2000000 + id) [.ptr ⟨n, s, v⟩ 0] (l :: h) = bsK id s v l h (lbld l s v) := by
  have hk : (2000000 + id) % 1000000 = id := by omega
  cases hb : lbld l s v with
  | some x =>
    obtain ⟨t, e, bs⟩ := x
    unfold hprimX
    simp only [hget_bld hn hb, hput_bld hn, hk]
    rw [if_pos ⟨trivial, by omega⟩]
    rfl
  | none =>
    subst hn
    have := hget_lbld l h s v
    rw [hb] at this
    unfold hprimX
    simp only [bsK]
    split
    · split at this <;> simp_all
    · rfl
theorem cwK_putb {l : Level} {h : Heap} {s u t e : Nat} (hl : (lbld l s u).isSome = true) (d : Nat) (fr : List AV) (v : AV) (bs' : List UInt8) : cwK (l :: h) d fr (some (v, lputb l s u t e bs' :: h)) = some (fput fr d v, lputb l s u t e bs' :: h) := by
  obtain ⟨⟨a, b, c⟩, hx⟩ := Option.isSome_iff_exists.1 hl
  simp [cwK, sameTop, lputb, sameVers_put (lbld_some hx)]
theorem cwK_putbc {l : Level} {h : Heap} {s u : Nat} (hl : (lbld l s u).isSome = true) (d : Nat) (fr : List AV) (v : AV) (cs : List AV) : cwK (l :: h) d fr (some (v, lputc l s u cs :: h)) = some (fput fr d v, lputc l s u cs :: h) := by
  obtain ⟨⟨a, b, c⟩, hx⟩ := Option.isSome_iff_exists.1 hl
  simp [cwK, sameTop, lputc, sameVers_put (lbld_some hx)]
end Go.Proofs.YtjbgceogkgpjpaaGreatDoor.Sx
