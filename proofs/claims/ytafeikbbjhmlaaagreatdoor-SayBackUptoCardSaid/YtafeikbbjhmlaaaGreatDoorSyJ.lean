/- SX: a told answer more: texts joined (strings.Join). -/
import Derived.Test.YtafeikbbjhmlaaaGreatDoorSxZ
import Derived.Lib.Join
import Derived.Test.YtafeikbbjhmlaaaGreatDoorSyP
import Derived.Lib.Bytealg
import Derived.Lib.Space
set_option linter.unusedVariables false
set_option linter.unusedSimpArgs false
namespace Go.Proofs.YtafeikbbjhmlaaaGreatDoor.Sx
open Go Go.RowKit
theorem strsOf_eq : ∀ {es : List (List AV)} {ws : List (List UInt8)}, strsOf es = some ws → es = ws.map fun w => [AV.str w]
  | [], ws, h => by simp [strsOf] at h; subst h; rfl
  | e :: es, ws, h => by
    unfold strsOf at h
    split at h
    · rename_i hh; cases hh
    · rename_i s l hh
      injection hh with h1 h2
      subst h1 h2
      split at h
      · rename_i r hr
        injection h with h
        subst h
        rw [strsOf_eq hr]
        rfl
      · cases h
    · cases h
theorem prim_join {P : Program} {gl : Nat → List AV} {f : Nat} (hb : bodied P f = true)
    (h0 : ∀ (a : Option Addr) (c : Nat) (sep : ByteArray) (w : World), Calls P f #[.slice a 0 c, .string sep] w fun e w' => e = .returned (.string ⟨#[]⟩) ∧ w' = w)
    (h : ∀ (bk o c : Nat) (xs : List ByteArray) (sep : ByteArray) (w : World), (∀ (j : Nat) x, xs[j]? = some x → w.cell? ⟨bk, o + j, none⟩ = some (.string x)) → bk < w.heap.size → xs.length ≤ 140737488355328 → xs.length ≤ c →
      (Lib.join (xs.map (·.data.toList)) sep.data.toList).length ≤ 140737488355328 → Calls P f #[.slice (some ⟨bk, o, none⟩) xs.length c, .string sep] w fun e w' =>
        e = .returned (.string ⟨(Lib.join (xs.map (·.data.toList)) sep.data.toList).toArray⟩) ∧ Below w.heap.size w w') : PrimOne P gl f 8 := by
  intro as v hv G w zs hG hl hr
  unfold primX at hv
  split at hv <;> (try (cases hv; done)) <;> (try (have := primY_no hv; omega)) <;> rename_i e <;> (try (cases e; done))
  rename_i x0 t
  split at hv
  · rename_i es hes
    split at hv
    · rename_i ws hws
      split at hv
      · rename_i hlen
        injection hv with hv
        subst hv
        obtain ⟨x, y, rfl, h1, h2⟩ := two_vals hl hr
        obtain ⟨q, rfl, rfl⟩ : ∃ q : ByteArray, y = .string q ∧ t = q.data.toList := by cases h2; exact ⟨_, rfl, rfl⟩
        have hee := strsOf_eq hws
        have hnone : ∀ (a : Option Addr) (c : Nat), ws = [] → PrimAns P f #[.slice a 0 c, .string q] (.str (q.data.toList.intercalate ws)) G w := by
          intro a c hw
          refine .inr ⟨hb, (h0 a c q w).mono ?_⟩
          rintro e w' ⟨rfl, rfl⟩
          refine ⟨_, rfl, Below.refl _ _, fun G' _ => ?_, trivial⟩
          rw [hw]
          exact .str ⟨#[]⟩
        unfold lstR at hes
        split at hes
        · injection hes with hes
          subst hes
          cases h1
          refine hnone _ _ ?_
          simpa using hee.symm
        · cases hes
        · rename_i ow z es' hou
          split at hes
          · rename_i hz
            injection hes with hes
            subst hz
            subst hes
            cases h1 with
            | uniq => exact (hou rfl).elim
            | emp a =>
              refine hnone _ _ ?_
              simpa using hee.symm
            | lst _ _ _ b o cap X hu hl2 ht hc hz hf hx hr2 =>
              have hxs : ∀ (j : Nat) (x : ByteArray), (ws.map fun w => (⟨w.toArray⟩ : ByteArray))[j]? = some x → w.cell? ⟨b, o + j, none⟩ = some (.string x) := by
                intro j x hj
                rw [List.getElem?_map] at hj
                cases hw : ws[j]? with
                | none => rw [hw] at hj; cases hj
                | some u =>
                  rw [hw] at hj
                  injection hj with hj
                  subst hj
                  have he : es'[j]? = some [AV.str u] := by rw [hee, List.getElem?_map, hw]; rfl
                  have g1 := hx j _ 0 _ he rfl
                  have g2 := hr2 j _ 0 _ he rfl
                  rw [Nat.mul_one, Nat.add_zero] at g1
                  rw [g1]
                  generalize X j 0 = y at g2
                  generalize hu' : AV.str u = a at g2
                  cases g2 <;> cases hu'
                  rfl
              have hel : es'.length = (ws.map fun w => (⟨w.toArray⟩ : ByteArray)).length := by rw [hee]; simp
              have hmap : (ws.map fun w => (⟨w.toArray⟩ : ByteArray)).map (·.data.toList) = ws := by rw [List.map_map]; simp [Function.comp_def]
              refine .inr ⟨hb, ?_⟩
              rw [hel]
              refine (h b o cap (ws.map fun w => (⟨w.toArray⟩ : ByteArray)) q w hxs hc.1 (by simpa using hlen.1) (by rw [← hel]; exact hl2) (by rw [hmap]; exact hlen.2)).mono ?_
              rintro e w' ⟨rfl, hbel⟩
              refine ⟨_, rfl, hbel, fun G' _ => ?_, trivial⟩
              rw [hmap]
              exact .str ⟨(q.data.toList.intercalate ws).toArray⟩
          · cases hes
        · cases hes
      · cases hv
    · cases hv
  · cases hv
theorem prim_itoa {P : Program} {gl : Nat → List AV} {f g : Nat} {nm : String} (hb : bodied P f = true) (hg : P.globalNamed nm = some g) (hz : gl g = Lib.pow10Tab.map (AV.int .u64))
    (h : ∀ (n : Int) (w : World), -9223372036854775808 ≤ n → n ≤ 9223372036854775807 → Lib.TabIs P w nm .u64 Lib.pow10Tab →
      Calls P f #[.int .i64 n] w fun e w' => e = .returned (.string ⟨(Lib.itoa n).toArray⟩) ∧ ∃ k os, w' = Go.Sort.grow (w.drewN k) os) : PrimOne P gl f 9 := by
  intro as v h0 G w xs hG hl hr
  unfold primX at h0
  split at h0 <;> (try (cases h0; done)) <;> (try (have := primY_no h0; omega)) <;> rename_i e <;> (try (cases e; done))
  split at h0
  · rename_i hn
    obtain ⟨h1, h2⟩ := hn
    injection h0 with h0
    subst h0
    obtain ⟨l⟩ := xs
    match l, hl with
    | [x], _ =>
      have r1 := hr 0 _ x rfl rfl
      cases r1
      refine .inr ⟨hb, Calls.mono (h _ w h1 h2 (tab_of_gl hG hg (by simp [Lib.pow10Tab]) hz)) ?_⟩
      rintro e w' ⟨rfl, k, os, rfl⟩
      refine ⟨_, rfl, below_grow k os, fun G' _ => ?_, trivial⟩
      rw [decI_eq _ ⟨h1, h2⟩]
      exact RelV.str ⟨(Lib.itoa _).toArray⟩
  · cases h0
theorem prim_count {P : Program} {gl : Nat → List AV} {f : Nat} (hb : bodied P f = true)
    (h : ∀ (s : ByteArray) (c : UInt8) (w : World), Calls P f #[.string s, .string ⟨#[c]⟩] w fun e w' => e = .returned (.int .i64 (Lib.countByte s.data.toList c)) ∧ w' = w) : PrimOne P gl f 10 := by
  intro as v h0 G w xs hG hl hr
  unfold primX at h0
  split at h0 <;> (try (cases h0; done)) <;> (try (have := primY_no h0; omega)) <;> rename_i e <;> (try (cases e; done))
  rename_i s t
  split at h0
  · rename_i c
    injection h0 with h0
    subst h0
    obtain ⟨x, y, rfl, h1, h2⟩ := two_vals hl hr
    obtain ⟨q, rfl, rfl⟩ : ∃ q : ByteArray, x = .string q ∧ s = q.data.toList := by cases h1; exact ⟨_, rfl, rfl⟩
    obtain ⟨q', rfl, hq'⟩ : ∃ q : ByteArray, y = .string q ∧ [c] = q.data.toList := by
      generalize ht : [c] = t at h2
      cases h2; exact ⟨_, rfl, rfl⟩
    have e1 : q' = ⟨#[c]⟩ := by
      obtain ⟨⟨l⟩⟩ := q'
      simp at hq'
      subst hq'; rfl
    subst e1
    refine .inr ⟨hb, Calls.mono (h q c w) ?_⟩
    rintro e w' ⟨rfl, rfl⟩
    exact ⟨_, rfl, Below.refl _ _, fun G' _ => .int _ _, trivial⟩
  · cases h0
theorem prim_index2 {P : Program} {gl : Nat → List AV} {f g : Nat} (hb : bodied P f = true) (hz : gl g = [.anyi .i64])
    (h : ∀ (s sub : ByteArray) (m : Int) (w : World), s.size < 4294967281 → w.cell? ⟨g, 0, none⟩ = some (.int .i64 m) → Calls P f #[.string s, .string sub] w fun e w' => e = .returned (.int .i64 (Lib.index s.data.toList sub.data.toList)) ∧ w' = w) : PrimOne P gl f 12 := by
  intro as v h0 G w xs hG hl hr
  unfold primX at h0
  split at h0 <;> (try (cases h0; done)) <;> (try (have := primY_no h0; omega)) <;> rename_i e <;> (try (cases e; done))
  rename_i s t
  split at h0
  · rename_i hlen
    injection h0 with h0
    subst h0
    obtain ⟨x, y, rfl, h1, h2⟩ := two_vals hl hr
    obtain ⟨q, rfl, rfl⟩ : ∃ q : ByteArray, x = .string q ∧ s = q.data.toList := by cases h1; exact ⟨_, rfl, rfl⟩
    obtain ⟨q', rfl, rfl⟩ : ∃ q : ByteArray, y = .string q ∧ t = q.data.toList := by cases h2; exact ⟨_, rfl, rfl⟩
    obtain ⟨z, hx, hrz⟩ := hG.mem g 0 (.anyi .i64) (by rw [hz]; rfl)
    cases hrz with
    | anyi _ m =>
      refine .inr ⟨hb, Calls.mono (h q q' m w (by simpa using hlen) hx) ?_⟩
      rintro e w' ⟨rfl, rfl⟩
      exact ⟨_, rfl, Below.refl _ _, fun G' _ => .int _ _, trivial⟩
  · cases h0
end Go.Proofs.YtafeikbbjhmlaaaGreatDoor.Sx
