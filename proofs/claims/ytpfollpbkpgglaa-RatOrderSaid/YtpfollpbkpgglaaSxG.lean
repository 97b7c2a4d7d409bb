/- SX, part G: structs compared and made; function values; type assertions. -/
import Derived.Test.YtpfollpbkpgglaaSxF
set_option linter.unusedVariables false
set_option linter.unusedSimpArgs false
namespace Go.Proofs.Ytpfollpbkpgglaa.Sx
open Go

/-! ### structs compared -/
/-- What the cells of a type are, all of whose parts are numbers, bools, strings, and count. -/
def eqFs (f : TypeId → Option (List Nat)) : List Field → Nat → Option (List Nat)
  | [], _ => some []
  | x :: l, off => if x.name ≠ "_" ∧ x.offset = off then match f x.type with
      | some s => match eqFs f l (off + s.length) with | some s' => some (s ++ s') | none => none
      | none => none else none
def rep (s : List Nat) : Nat → List Nat
  | 0 => []
  | n + 1 => s ++ rep s n
def eqT (P : Program) : Nat → TypeId → Option (List Nat)
  | 0, _ => none
  | d + 1, t => match P.info? t with
    | none => none
    | some i => match P.underlying t with
      | some .bool => if i.size = 1 then some [0] else none
      | some (.int _) => if i.size = 1 then some [1] else none
      | some .string => if i.size = 1 then some [2] else none
      | some (.struct fs) => if P.stoodInHeld t = false then match eqFs (eqT P d) fs.toList 0 with | some s => if s.length = i.size then some s else none | none => none else none
      | some (.array n e) => match eqT P d e, P.info? e with | some s, some j => if i.size = n * s.length ∧ j.size = s.length then some (rep s n) else none | _, _ => none
      | _ => none
theorem rep_length (s : List Nat) (n : Nat) : (rep s n).length = n * s.length := by
  induction n with
  | zero => simp [rep]
  | succ n ih => simp [rep, ih, Nat.succ_mul, Nat.add_comm]

theorem eqCells_app : ∀ {s l m s' l' m'} {r : Bool}, s.length = l.length → l.length = m.length → eqCells (s ++ s') (l ++ l') (m ++ m') = some r →
    ∃ r1 r2, eqCells s l m = some r1 ∧ eqCells s' l' m' = some r2 ∧ r = (r1 && r2)
  | [], [], [], s', l', m', r, _, _, h => ⟨true, r, rfl, h, by simp⟩
  | [], _ :: _, _, _, _, _, _, h, _, _ => by simp at h
  | _ :: _, [], _, _, _, _, _, h, _, _ => by simp at h
  | _, [], _ :: _, _, _, _, _, _, h, _ => by simp at h
  | _, _ :: _, [], _, _, _, _, _, h, _ => by simp at h
  | c :: s, a :: l, b :: m, s', l', m', r, hs, h, he => by
    have key : ∀ {r}, eqCells (s ++ s') (l ++ l') (m ++ m') = some r → ∃ r1 r2, eqCells s l m = some r1 ∧ eqCells s' l' m' = some r2 ∧ r = (r1 && r2) :=
      fun h' => eqCells_app (by simpa using hs) (by simpa using h) h'
    simp only [List.cons_append] at he
    unfold eqCells at he
    split at he <;> try (cases he; done)
    · rename_i h1 h2 h3; cases h1
    · rename_i s1 k x l1 k' y m1 h0 h1 h2
      injection h0 with h0 h0'; injection h1 with h1 h1'; injection h2 with h2 h2'; subst h0 h0' h1 h1' h2 h2'
      split at he
      · rename_i hk
        obtain ⟨r0, h0, rfl⟩ := Option.map_eq_some_iff.1 he
        obtain ⟨r1, r2, h3, h4, rfl⟩ := key h0
        exact ⟨(x == y) && r1, r2, by simp only [eqCells, hk, if_true, h3, Option.map_some], h4, by simp [Bool.and_assoc]⟩
      · cases he
    · rename_i s1 x l1 y m1 h0 h1 h2
      injection h0 with h0 h0'; injection h1 with h1 h1'; injection h2 with h2 h2'; subst h0 h0' h1 h1' h2 h2'
      obtain ⟨r0, h0, rfl⟩ := Option.map_eq_some_iff.1 he
      obtain ⟨r1, r2, h3, h4, rfl⟩ := key h0
      exact ⟨(x == y) && r1, r2, by simp only [eqCells, h3, Option.map_some], h4, by simp [Bool.and_assoc]⟩
    · rename_i s1 x l1 y m1 h0 h1 h2
      injection h0 with h0 h0'; injection h1 with h1 h1'; injection h2 with h2 h2'; subst h0 h0' h1 h1' h2 h2'
      obtain ⟨r0, h0, rfl⟩ := Option.map_eq_some_iff.1 he
      obtain ⟨r1, r2, h3, h4, rfl⟩ := key h0
      exact ⟨(x == y) && r1, r2, by simp only [eqCells, h3, Option.map_some], h4, by simp [Bool.and_assoc]⟩
theorem eqCells_split {cs ds : List AV} {a : Nat} {s t : List Nat} {r : Bool} (hl : a + s.length + t.length ≤ cs.length) (hm : cs.length = ds.length)
    (h : eqCells (s ++ t) ((cs.drop a).take (s ++ t).length) ((ds.drop a).take (s ++ t).length) = some r) :
    ∃ r1 r2, eqCells s ((cs.drop a).take s.length) ((ds.drop a).take s.length) = some r1 ∧ eqCells t ((cs.drop (a + s.length)).take t.length) ((ds.drop (a + s.length)).take t.length) = some r2 ∧ r = (r1 && r2) := by
  have e : ∀ l : List AV, (l.drop a).take (s ++ t).length = (l.drop a).take s.length ++ (l.drop (a + s.length)).take t.length := by
    intro l
    rw [List.length_append, List.take_add, List.drop_drop]
  rw [e, e] at h
  exact eqCells_app (by simp; omega) (by simp; omega) h

section
variable {P : Program} {G : Gh} {w : World} {fr : List AV} {act : Act} {o : Oper}
/-- What stands at a place of a struct's value, as a value of that type. -/
def partV (d : TypeDesc) (xs : Array Value) (off n : Nat) : Value := if aggOf d then .agg (xs.extract off (off + n)) else xs.getD off undef
theorem part_partV {T : TypeId} {i : TypeInfo} {d : TypeDesc} {xs : Array Value} {off n : Nat} (hi : P.info? T = some i) (hd : P.underlying T = some d) (hn : i.size = n) (hl : off + n ≤ xs.size) (h0 : aggOf d = false → n = 1) :
    (part T xs off).run P w = .ok (partV d xs off n) w := by
  subst hn
  unfold partV
  cases ha : aggOf d
  · have := h0 ha
    simp only [part, Sem.run_bind, run_isAgg2 hd, ha, Result.andThen_ok, Bool.false_eq_true, if_false]
    have : xs[off]? = some (xs.getD off undef) := by simp [Array.getD_eq_getD_getElem?, Array.getElem?_eq_getElem (show off < xs.size by omega)]
    rw [this]
    rfl
  · simp only [part, Sem.run_bind, run_isAgg2 hd, ha, Result.andThen_ok, if_true, run_sizeOf' hi, Sem.run_pure]
theorem eq1 {cs : List AV} {xs : Array Value} {off : Nat} (hl : off + 1 ≤ cs.length) (hr : ∀ (j : Nat) (v : AV) (x : Value), cs[j]? = some v → xs[j]? = some x → RelV G w v x) (hs : cs.length = xs.size) :
    ∃ v, (cs.drop off).take 1 = [v] ∧ RelV G w v (xs.getD off undef) := by
  refine ⟨cs[off], ?_, hr off _ _ (by simp) ?_⟩
  · rw [List.drop_eq_getElem_cons (by omega)]; rfl
  · simp [Array.getD_eq_getD_getElem?, Array.getElem?_eq_getElem (show off < xs.size by omega)]
def eqElems (d : Nat) (e : TypeId) (n : Nat) (xs ys : Array Value) : List Nat → Sem Bool
  | [] => pure true
  | i :: l => do
    let a ← part e xs (i * n)
    let b ← part e ys (i * n)
    let r ← Op.equalIn d e a b
    if (!r) = true then pure false else eqElems d e n xs ys l
theorem run_equalIn_array (d : Nat) (t e : TypeId) (len : Nat) (i : TypeInfo) (xs ys : Array Value) (ht : P.underlying t = some (.array len e)) (hi : P.info? e = some i) :
    (Op.equalIn (d + 1) t (.agg xs) (.agg ys)).run P w = (eqElems d e i.size xs ys (List.range' 0 len)).run P w := by
  simp only [Op.equalIn, Sem.run_bind, run_underlying' ht, Result.andThen_ok, run_sizeOf' hi]
  rw [Std.Legacy.Range.forIn_eq_forIn_range']
  simp only [Std.Legacy.Range.size, Nat.sub_zero, Nat.add_sub_cancel, Nat.div_one]
  generalize List.range' 0 len = l
  clear ht
  induction l generalizing w with
  | nil => simp [eqElems]
  | cons f fs ih =>
    simp only [List.forIn_cons, eqElems, Sem.run_bind, Sem.run_ite]
    generalize (part e xs (f * i.size)).run P w = r1
    cases r1 with
    | ok a w1 =>
      simp only [Result.andThen_ok]
      generalize (part e ys (f * i.size)).run P w1 = r2
      cases r2 with
      | ok b w2 =>
        simp only [Result.andThen_ok]
        generalize (Op.equalIn d e a b).run P w2 = r3
        cases r3 with
        | ok r w3 =>
          cases r
          · simp only [Result.andThen_ok, Bool.not_false, if_true, Sem.run_pure]
          · simp only [Result.andThen_ok, Bool.not_true, Bool.false_eq_true, if_false, Sem.run_pure]
            exact ih
        | halt x w3 => simp [Result.andThen]
      | halt x w2 => simp [Result.andThen]
    | halt x w1 => simp [Result.andThen]
theorem equalIn_flat : ∀ (d : Nat) (t : TypeId) (s : List Nat), eqT P d t = some s → ∀ (cs ds : List AV) (xs ys : Array Value) (off : Nat) (r : Bool), off + s.length ≤ cs.length → cs.length = xs.size → ds.length = ys.size → cs.length = ds.length →
    (∀ (j : Nat) (v : AV) (x : Value), cs[j]? = some v → xs[j]? = some x → RelV G w v x) → (∀ (j : Nat) (v : AV) (x : Value), ds[j]? = some v → ys[j]? = some x → RelV G w v x) →
    eqCells s ((cs.drop off).take s.length) ((ds.drop off).take s.length) = some r →
    ∃ i de, P.info? t = some i ∧ P.underlying t = some de ∧ i.size = s.length ∧ (aggOf de = false → s.length = 1) ∧
      ∀ e, (Op.equalIn (d + e) t (partV de xs off s.length) (partV de ys off s.length)).run P w = .ok r w := by
  intro d
  induction d with
  | zero => intro t n h; simp [eqT] at h
  | succ d ih =>
    intro t s h cs ds xs ys off r hl hx hy hxy hrx hry he
    unfold eqT at h
    split at h
    · cases h
    rename_i i hi
    split at h
    case h_4 fs hu =>
      split at h
      · rename_i hst
        split at h
        · rename_i s0 hfs
          split at h
          · rename_i hsz
            injection h with h
            subst h
            refine ⟨i, _, hi, hu, hsz.symm, (by simp [aggOf]), fun e => ?_⟩
            have hfo : P.fieldsOf t = fs := by simp [Program.fieldsOf, hu]
            simp only [partV, aggOf, if_true]
            rw [show d + 1 + e = (d + e) + 1 by omega, run_equalIn_struct w (d + e) t _ _ (by rw [hfo]; exact hu) hst, hfo]
            have key : ∀ (l : List Field) (a : Nat) (s : List Nat) (r : Bool), eqFs (eqT P d) l a = some s → a + s.length = s0.length → eqCells s ((cs.drop (off + a)).take s.length) ((ds.drop (off + a)).take s.length) = some r →
                (Op.eqFields (d + e) (xs.extract off (off + s0.length)) (ys.extract off (off + s0.length)) l).run P w = .ok r w := by
              intro l
              induction l with
              | nil =>
                intro a s r ha hle hr
                simp only [eqFs, Option.some.injEq] at ha
                subst ha
                simp [eqCells] at hr
                subst hr
                simp [Op.eqFields]
              | cons f l ihl =>
                intro a s r ha hle hr
                simp only [eqFs] at ha
                split at ha
                · rename_i hf
                  obtain ⟨hn, rfl⟩ := hf
                  split at ha
                  · rename_i k hk
                    split at ha
                    · rename_i k' hk'
                      injection ha with ha
                      subst ha
                      rw [List.length_append] at hle
                      obtain ⟨r1, r2, h1, h2, rfl⟩ := eqCells_split (a := off + f.offset) (by omega) hxy hr
                      obtain ⟨j, de, hj, hde, hjs, hj0, hq⟩ := ih f.type k hk cs ds xs ys (off + f.offset) r1 (by omega) hx hy hxy hrx hry h1
                      have hp : ∀ zs : Array Value, off + s0.length ≤ zs.size → (part f.type (zs.extract off (off + s0.length)) f.offset).run P w = .ok (partV de zs (off + f.offset) k.length) w := by
                        intro zs hz
                        rw [part_partV hj hde hjs (by simp; omega) hj0]
                        congr 1
                        unfold partV
                        split
                        · congr 1
                          rw [Array.extract_extract]
                          congr 1 <;> omega
                        · rename_i hag
                          have := hj0 (by simpa using hag)
                          simp [Array.getD_eq_getD_getElem?, Array.getElem?_extract]
                          split
                          · rfl
                          · omega
                      rw [Op.eqFields]
                      simp only [if_pos hn, Sem.run_bind, hp xs (by omega), hp ys (by omega), Result.andThen_ok, hq e]
                      have h3 := ihl (f.offset + k.length) k' r2 hk' (by omega) (by rw [← Nat.add_assoc]; exact h2)
                      cases r1
                      · simp
                      · simpa using h3
                    · cases ha
                  · cases ha
                · cases ha
            exact key fs.toList 0 s0 r hfs (by simp) (by simpa using he)
          · cases h
        · cases h
      · cases h
    case h_5 m et hu =>
      split at h
      · rename_i s0 j hs0 hj
        split at h
        · rename_i hsz
          obtain ⟨hsz, hjs⟩ := hsz
          injection h with h
          subst h
          have hrl := rep_length s0 m
          refine ⟨i, _, hi, hu, by rw [hrl]; exact hsz, (by simp [aggOf]), fun e => ?_⟩
          simp only [partV, aggOf, if_true]
          rw [show d + 1 + e = (d + e) + 1 by omega, run_equalIn_array (d + e) t et m j _ _ hu hj]
          have key : ∀ (q k : Nat) (r : Bool), k + q = m → eqCells (rep s0 q) ((cs.drop (off + k * s0.length)).take (rep s0 q).length) ((ds.drop (off + k * s0.length)).take (rep s0 q).length) = some r →
              (eqElems (d + e) et j.size (xs.extract off (off + (rep s0 m).length)) (ys.extract off (off + (rep s0 m).length)) (List.range' k q)).run P w = .ok r w := by
            intro q
            induction q with
            | zero =>
              intro k r hk hr
              simp [rep, eqCells] at hr
              subst hr
              simp [eqElems]
            | succ q ihq =>
              intro k r hk hr
              have hm1 : k * s0.length + s0.length + (rep s0 q).length = m * s0.length := by
                rw [rep_length]
                have : m = k + 1 + q := by omega
                rw [this, Nat.add_mul, Nat.add_mul]; omega
              obtain ⟨r1, r2, h1, h2, rfl⟩ := eqCells_split (s := s0) (t := rep s0 q) (a := off + k * s0.length) (by omega) hxy hr
              obtain ⟨j', de, hj', hde, hjs', hj0, hq⟩ := ih et s0 hs0 cs ds xs ys (off + k * s0.length) r1 (by omega) hx hy hxy hrx hry h1
              have hp : ∀ zs : Array Value, off + (rep s0 m).length ≤ zs.size → (part et (zs.extract off (off + (rep s0 m).length)) (k * j.size)).run P w = .ok (partV de zs (off + k * s0.length) s0.length) w := by
                intro zs hz
                rw [part_partV hj' hde hjs' (by simp [hjs]; omega) hj0]
                congr 1
                unfold partV
                split
                · congr 1
                  rw [Array.extract_extract, hjs]
                  congr 1 <;> omega
                · rename_i hag
                  have := hj0 (by simpa using hag)
                  rw [hjs]
                  simp [Array.getD_eq_getD_getElem?, Array.getElem?_extract]
                  split
                  · rfl
                  · omega
              rw [List.range'_succ, eqElems]
              simp only [Sem.run_bind, hp xs (by omega), hp ys (by omega), Result.andThen_ok, hq e]
              have h3 := ihq (k + 1) r2 (by omega) (by rw [Nat.succ_mul, ← Nat.add_assoc]; exact h2)
              cases r1
              · simp
              · simpa using h3
          exact key m 0 r (by omega) (by simpa using he)
        · cases h
      · cases h
    case h_1 hu =>
      split at h
      · rename_i hs; injection h with h; subst h
        obtain ⟨v, hv, hrv⟩ := eq1 hl hrx hx
        obtain ⟨u, hu', hru⟩ := eq1 (off := off) (by simp at hl ⊢; omega) hry hy
        simp only [List.length_singleton] at he
        rw [hv, hu'] at he
        refine ⟨i, _, hi, hu, hs, fun _ => rfl, fun e => ?_⟩
        simp only [partV, aggOf, Bool.false_eq_true, if_false]
        cases v <;> cases u <;> simp [eqCells] at he
        subst he
        generalize xs.getD off undef = x at *
        generalize ys.getD off undef = y at *
        cases hrv; cases hru
        rw [show d + 1 + e = (d + e) + 1 by omega, run_equalIn_bool w (d + e) t _ _ hu]
      · cases h
    case h_2 k hu =>
      split at h
      · rename_i hs; injection h with h; subst h
        obtain ⟨v, hv, hrv⟩ := eq1 hl hrx hx
        obtain ⟨u, hu', hru⟩ := eq1 (off := off) (by simp at hl ⊢; omega) hry hy
        simp only [List.length_singleton] at he
        rw [hv, hu'] at he
        refine ⟨i, _, hi, hu, hs, fun _ => rfl, fun e => ?_⟩
        simp only [partV, aggOf, Bool.false_eq_true, if_false]
        cases v <;> cases u <;> simp [eqCells] at he
        obtain ⟨rfl, rfl⟩ := he
        generalize xs.getD off undef = x at *
        generalize ys.getD off undef = y at *
        cases hrv; cases hru
        rw [show d + 1 + e = (d + e) + 1 by omega, run_equalIn_int w (d + e) t _ _ _ _ hu]
      · cases h
    case h_3 hu =>
      split at h
      · rename_i hs; injection h with h; subst h
        obtain ⟨v, hv, hrv⟩ := eq1 hl hrx hx
        obtain ⟨u, hu', hru⟩ := eq1 (off := off) (by simp at hl ⊢; omega) hry hy
        simp only [List.length_singleton] at he
        rw [hv, hu'] at he
        refine ⟨i, _, hi, hu, hs, fun _ => rfl, fun e => ?_⟩
        simp only [partV, aggOf, Bool.false_eq_true, if_false]
        cases v <;> cases u <;> simp [eqCells] at he
        subst he
        generalize xs.getD off undef = x at *
        generalize ys.getD off undef = y at *
        cases hrv; cases hru
        rw [show d + 1 + e = (d + e) + 1 by omega, run_equalIn_string w (d + e) t _ _ hu, ByteArray.toList_eq, ByteArray.toList_eq]
      · cases h
    · cases h
end
end Go.Proofs.Ytpfollpbkpgglaa.Sx
