/- SX: two told answers more: a text cut at a byte (strings.Split), and the number in an error (errors.As at a struct of one number). -/
import Derived.Test.YtjbgceogkgpjpaaGreatDoorSxZ
import Derived.Lib.SplitLaws
set_option linter.unusedVariables false
set_option linter.unusedSimpArgs false
namespace Go.Proofs.YtjbgceogkgpjpaaGreatDoor.Sx
open Go Go.RowKit
theorem index_one_cons (b c : UInt8) (l : List UInt8) : Lib.index (b :: l) [c] = if b = c then 0 else if Lib.index l [c] == -1 then -1 else Lib.index l [c] + 1 := by
  rw [Lib.index]
  by_cases h : b = c
  · subst h; simp [List.isPrefixOf]
  · have hp : ([c] : List UInt8).isPrefixOf (b :: l) = false := by simp [List.isPrefixOf, Ne.symm h]
    simp [hp, h]
theorem splitK_cutL (c : UInt8) : ∀ s : List UInt8, Lib.splitK [c] 0 (Lib.count s [c]) s = cutL c s
  | [] => by rw [Lib.count_one]; rfl
  | b :: l => by
    have ih := splitK_cutL c l
    by_cases h : b = c
    · subst h
      have hi : (Lib.index (b :: l) [b] == -1) = false := by rw [index_one_cons, if_pos rfl]; rfl
      rw [Lib.count_cons_eq, Nat.add_comm, Lib.splitK, hi]
      simp only [index_one_cons, if_pos, Bool.false_eq_true, if_false]
      show _ :: Lib.splitK [b] 0 (Lib.count l [b]) l = _
      rw [ih]
      simp [cutL]
    · have hbc : (b == c) = false := by simpa using h
      rw [Lib.count_cons_ne _ _ _ h]
      cases hk : Lib.count l [c] with
      | zero =>
        rw [hk] at ih
        simp only [cutL, hbc, ← ih]
        rfl
      | succ k =>
        rw [hk] at ih
        have hge := Lib.index_ge l [c]
        have hne : Lib.index l [c] ≠ -1 := by
          intro e
          rw [Lib.count_miss e] at hk
          simp at hk
        obtain ⟨j, hj⟩ : ∃ j : Nat, Lib.index l [c] = j := ⟨(Lib.index l [c]).toNat, by omega⟩
        have hj1 : (Lib.index l [c] == -1) = false := by simpa using hne
        have hi : Lib.index (b :: l) [c] = ((j + 1 : Nat) : Int) := by rw [index_one_cons, if_neg h, hj1, hj]; simp
        have hi1 : (Lib.index (b :: l) [c] == -1) = false := by rw [hi]; simpa using (by omega : ¬ (((j + 1 : Nat) : Int) = -1))
        rw [Lib.splitK, hi1, hi]
        rw [Lib.splitK, hj1, hj] at ih
        simp only [cutL, hbc, Bool.false_eq_true, if_false] at ih ⊢
        rw [← ih]
        rfl
theorem splitB_cutL (s : ByteArray) (c : UInt8) : (Lib.splitB ⟨#[c]⟩ 0 (Lib.countB s ⟨#[c]⟩) s).map (·.data.toList) = cutL c s.data.toList := by
  rw [Lib.splitB_data]
  exact splitK_cutL c _
theorem alloc_new (w : World) (o : Obj) : (w.alloc o).heap[w.heap.size]? = some o := by
  show (w.heap.push o)[w.heap.size]? = some o
  simp
theorem rel_texts {G : Gh} {w : World} {b : Nat} {T : TypeId} {l : List ByteArray} (hb : w.heap[b]? = some (.cells (l.map Value.string).toArray T (0, 0))) (hk : G.k b = .st) :
    RelV G w (.lst .tight 1 (l.map fun x => [.str x.data.toList])) (.slice (some ⟨b, 0, none⟩) l.length l.length) := by
  have hlt : b < w.heap.size := by
    rcases Nat.lt_or_ge b w.heap.size with h | h
    · exact h
    · rw [Array.getElem?_eq_none h] at hb; cases hb
  have key : ∀ (i : Nat) (e : List AV) (j : Nat) (v : AV), (l.map fun x => [AV.str x.data.toList])[i]? = some e → e[j]? = some v → ∃ x, l[i]? = some x ∧ e = [.str x.data.toList] ∧ j = 0 ∧ v = .str x.data.toList := by
    intro i e j v hi hj
    rw [List.getElem?_map] at hi
    cases hx : l[i]? with
    | none => rw [hx] at hi; cases hi
    | some x =>
      rw [hx] at hi
      injection hi with hi
      subst hi
      match j with
      | 0 => simp at hj; exact ⟨x, rfl, rfl, rfl, hj.symm⟩
      | j + 1 => simp at hj
  have e0 := RelV.lst (G := G) (w := w) .tight 1 (l.map fun x => [.str x.data.toList]) b 0 l.length (fun i _ => .string (l.getD i ByteArray.empty)) (by decide) (by simp) (fun _ => by simp) ⟨hlt, .inl hk⟩
    (fun i e hi => by
      rw [List.getElem?_map] at hi
      cases hx : l[i]? with
      | none => rw [hx] at hi; cases hi
      | some x => rw [hx] at hi; injection hi with hi; subst hi; rfl)
    (fun i e j v hi hj => by obtain ⟨x, _, _, _, rfl⟩ := key i e j v hi hj; rfl)
    (fun i e j v hi hj => by
      obtain ⟨x, hx, _, rfl, rfl⟩ := key i e j v hi hj
      have : l.getD i ByteArray.empty = x := by simp [List.getD, hx]
      simp only [this]
      simp [World.cell?, hb, hx])
    (fun i e j v hi hj => by
      obtain ⟨x, hx, _, rfl, rfl⟩ := key i e j v hi hj
      have : l.getD i ByteArray.empty = x := by simp [List.getD, hx]
      simp only [this]
      exact .str x)
  simpa using e0
theorem prim_split {P : Program} {gl : Nat → List AV} {f : Nat} {T : TypeId} (hb : bodied P f = true)
    (h : ∀ (s : ByteArray) (c : UInt8) (w : World), s.size < 4294967281 → Calls P f #[.string s, .string ⟨#[c]⟩] w fun e w' =>
      e = .returned (.slice (some ⟨w.heap.size, 0, none⟩) (Lib.countB s ⟨#[c]⟩ + 1) (Lib.countB s ⟨#[c]⟩ + 1)) ∧ w' = w.alloc (.cells ((Lib.splitB ⟨#[c]⟩ 0 (Lib.countB s ⟨#[c]⟩) s).map Value.string).toArray T)) : PrimOne P gl f 7 := by
  intro as v h0 G w xs hG hl hr
  unfold primX at h0
  split at h0 <;> (try (cases h0; done)) <;> (try (have := primY_no h0; omega)) <;> rename_i e <;> (try (cases e; done))
  rename_i s t
  split at h0
  · rename_i c
    split at h0
    · rename_i hlen
      injection h0 with h0
      subst h0
      obtain ⟨x, y, rfl, h1, h2⟩ := two_vals hl hr
      obtain ⟨q, rfl, rfl⟩ : ∃ q : ByteArray, x = .string q ∧ s = q.data.toList := by cases h1; exact ⟨_, rfl, rfl⟩
      obtain ⟨q', rfl, hq'⟩ : ∃ q : ByteArray, y = .string q ∧ [c] = q.data.toList := by
        generalize ht : [c] = t at h2
        cases h2; exact ⟨_, rfl, rfl⟩
      have e1 : q' = ⟨#[c]⟩ := by
        obtain ⟨⟨l⟩⟩ := q'
        simp at hq'
        subst hq'; rfl
      subst e1
      have hlen' : q.size < 4294967281 := by rw [Array.length_toList] at hlen; exact hlen
      refine .inr ⟨hb, Calls.mono (h q c w hlen') ?_⟩
      rintro e w' ⟨rfl, rfl⟩
      have hlenS := Lib.splitB_all ⟨#[c]⟩ (Nat.le_refl 1) 0 _ q rfl
      refine ⟨_, rfl, ?_, fun G' hk => ?_, ?_⟩
      · exact (Below.refl _ _).alloc (Nat.le_refl _) _
      · have := rel_texts (G := G') (w := w.alloc (.cells ((Lib.splitB ⟨#[c]⟩ 0 (Lib.countB q ⟨#[c]⟩) q).map Value.string).toArray T)) (b := w.heap.size) (T := T) (l := Lib.splitB ⟨#[c]⟩ 0 (Lib.countB q ⟨#[c]⟩) q) (alloc_new _ _) (hk _ (Nat.le_refl _) (by simp))
        rw [hlenS] at this
        rw [← splitB_cutL, List.map_map]
        exact this
      · exact trivial
    · cases h0
  · cases h0
theorem prim_num {P : Program} {gl : Nat → List AV} {f g T : Nat} {id : Nat} {ev : Value} (hid : id = 2000 + T) (hb : bodied P f = true) (hz : gl g = [.opq ev])
    (h0 : ∀ w : World, Calls P f #[.nilIface] w fun e w' => e = .returned (.int .i64 0) ∧ Below w.heap.size w w')
    (h1 : ∀ (n : Int) (w : World), w.cell? ⟨g, 0, none⟩ = some ev → Calls P f #[.iface T (.agg #[.int .i64 n])] w fun e w' => e = .returned (.int .i64 n) ∧ Below w.heap.size w w') : PrimOne P gl f id := by
  subst hid
  intro as v h2 G w xs hG hl hr
  have hz2 : primN T as = some v := by
    unfold primX at h2
    split at h2 <;> first | omega | skip
    unfold primY at h2
    rw [if_neg (by omega), if_neg (by omega), Nat.add_sub_cancel_left] at h2
    exact h2
  clear h2
  obtain ⟨l⟩ := xs
  unfold primN at hz2
  split at hz2
  · injection hz2 with e
    subst e
    match l, hl with
    | [x], _ =>
      have r := hr 0 _ x rfl rfl
      cases r
      refine .inr ⟨hb, Calls.mono (h0 w) ?_⟩
      rintro e w' ⟨rfl, hB⟩
      exact ⟨_, rfl, hB, fun _ _ => .int _ _, trivial⟩
  · rename_i t n
    split at hz2
    · rename_i ht
      subst ht
      injection hz2 with e
      subst e
      match l, hl with
      | [x], _ =>
        have r := hr 0 _ x rfl rfl
        obtain ⟨y, rfl, r2⟩ : ∃ y, x = .iface t y ∧ RelV G w (.agg [.int .i64 n]) y := by cases r; exact ⟨_, rfl, by assumption⟩
        obtain ⟨ys, rfl, hs, r3⟩ : ∃ ys : Array Value, y = .agg ys ∧ [AV.int .i64 n].length = ys.size ∧ ∀ (j : Nat) (v : AV) (x : Value), [AV.int .i64 n][j]? = some v → ys[j]? = some x → RelV G w v x := by
          cases r2; exact ⟨_, rfl, by assumption, by assumption⟩
        obtain ⟨m⟩ := ys
        match m, hs with
        | [z], _ =>
          have r4 := r3 0 _ z rfl rfl
          cases r4
          have hg : w.cell? ⟨g, 0, none⟩ = some ev := by
            rcases hG g with h | ⟨_, _, _, hm, _⟩
            · rw [hz] at h; cases h
            · obtain ⟨x, hx, hr⟩ := hm 0 (.opq ev) (by rw [hz]; rfl)
              cases hr
              simpa using hx
          refine .inr ⟨hb, Calls.mono (h1 n w hg) ?_⟩
          rintro e w' ⟨rfl, hB⟩
          exact ⟨_, rfl, hB, fun _ _ => .int _ _, trivial⟩
    · cases hz2
  · cases hz2
end Go.Proofs.YtjbgceogkgpjpaaGreatDoor.Sx
