/- SX: strings.Fields at every text (the white space table of package unicode is among the listed variables). -/
import Derived.Test.YtafeikbbjhmlaaaGreatDoorSyJ
import Derived.Test.YtafeikbbjhmlaaaGreatDoorEvG
import Derived.Lib.LaidU8
import Derived.Shelf.Unicode.IsSpaceAny
import Derived.ChangeArms
set_option linter.unusedVariables false
set_option linter.unusedSimpArgs false
namespace Go.Proofs.YtafeikbbjhmlaaaGreatDoor.Sx
open Go Go.RowKit Go.Proofs Go.Lib
def whiteRows : List (List AV) := [[.int .u16 9, .int .u16 13, .int .u16 1], [.int .u16 32, .int .u16 133, .int .u16 101], [.int .u16 160, .int .u16 5760, .int .u16 5600], [.int .u16 8192, .int .u16 8202, .int .u16 1], [.int .u16 8232, .int .u16 8233, .int .u16 1], [.int .u16 8239, .int .u16 8287, .int .u16 48], [.int .u16 12288, .int .u16 12288, .int .u16 1]]
def whiteAV : List AV := [.elp [.lst .tight 3 whiteRows, .nilsl, .int .i64 2]]
theorem white_at : ∀ i, i < 21 → ∃ e, whiteRows[i / 3]? = some e ∧ e[i % 3]? = some (.int .u16 ((Lib.whiteT.getD i 0 : Nat) : Int)) := by
  intro i h
  obtain rfl | rfl | rfl | rfl | rfl | rfl | rfl | rfl | rfl | rfl | rfl | rfl | rfl | rfl | rfl | rfl | rfl | rfl | rfl | rfl | rfl : i = 0 ∨ i = 1 ∨ i = 2 ∨ i = 3 ∨ i = 4 ∨ i = 5 ∨ i = 6 ∨ i = 7 ∨ i = 8 ∨ i = 9 ∨ i = 10 ∨ i = 11 ∨ i = 12 ∨ i = 13 ∨ i = 14 ∨ i = 15 ∨ i = 16 ∨ i = 17 ∨ i = 18 ∨ i = 19 ∨ i = 20 := by omega
  all_goals exact ⟨_, rfl, rfl⟩
theorem white_of_gl {G : Gh} {w : World} {gl : Nat → List AV} {g : Nat} (hG : GlOk G w gl) (hz : gl g = whiteAV) : Lib.WhiteTab g w := by
  have hm := hG.mem g
  rw [hz] at hm
  obtain ⟨x, hx, hr⟩ := hm 0 _ rfl
  cases hr with
  | elp cs b o X hc hf hx' hr' =>
    have r0 := hr' 0 _ rfl
    have r1 := hr' 1 _ rfl
    have r2 := hr' 2 _ rfl
    have c0 := hx' 0 _ rfl
    have c1 := hx' 1 _ rfl
    have c2 := hx' 2 _ rfl
    generalize X 0 = v0 at r0 c0
    generalize X 1 = v1 at r1 c1
    generalize X 2 = v2 at r2 c2
    cases r1
    cases r2
    cases r0 with
    | lst ow z es b' o' cap Y hu hl ht hc2 hz2 hf2 hx2 hr2 =>
      have hcap : cap = 7 := ht rfl
      subst hcap
      refine ⟨b, o, b', o', by simpa using hx, c0, c1, c2, fun i hi => ?_⟩
      obtain ⟨e, h1, h2⟩ := white_at i hi
      have h3 := hx2 _ _ _ _ h1 h2
      have h4 := hr2 _ _ _ _ h1 h2
      rw [show o' + i / 3 * 3 + i % 3 = o' + i by omega] at h3
      rw [h3]
      generalize Y (i / 3) (i % 3) = y at h4
      cases h4
      rfl
theorem cell_lt {W : World} {b o : Nat} {v : Value} (h : W.cell? ⟨b, o, none⟩ = some v) : b < W.heap.size := by
  rcases Nat.lt_or_ge b W.heap.size with h' | h'
  · exact h'
  · simp [World.cell?, Array.getElem?_eq_none h'] at h
def whiteR (i : Nat) : List AV := [.int .u16 ((Lib.whiteT.getD (3 * i + 0) 0 : Nat) : Int), .int .u16 ((Lib.whiteT.getD (3 * i + 1) 0 : Nat) : Int), .int .u16 ((Lib.whiteT.getD (3 * i + 2) 0 : Nat) : Int)]
theorem white_row {i : Nat} {e : List AV} (h : whiteRows[i]? = some e) : i < 7 ∧ e = whiteR i := by
  have hi7 : i < 7 := (List.getElem?_eq_some_iff.1 h).1
  refine ⟨hi7, ?_⟩
  obtain rfl | rfl | rfl | rfl | rfl | rfl | rfl : i = 0 ∨ i = 1 ∨ i = 2 ∨ i = 3 ∨ i = 4 ∨ i = 5 ∨ i = 6 := by omega
  all_goals exact (Option.some.inj h).symm
theorem white_cell {i j : Nat} {v : AV} (h : (whiteR i)[j]? = some v) : j < 3 ∧ v = .int .u16 ((Lib.whiteT.getD (3 * i + j) 0 : Nat) : Int) := by
  have hj : j < 3 := (List.getElem?_eq_some_iff.1 h).1
  refine ⟨hj, ?_⟩
  obtain rfl | rfl | rfl : j = 0 ∨ j = 1 ∨ j = 2 := by omega
  all_goals exact (Option.some.inj h).symm
theorem glAt_white {P : Program} {W : World} {n : String} {g : Nat} {v : Value} (hg : P.globalNamed n = some g) (h : W.var? P n = some #[v]) (ht : Lib.WhiteTab g W) : GlAt W g whiteAV := by
  obtain ⟨T, fz, hb⟩ := block_of_var hg h
  obtain ⟨T2, oT, R, oR, c, c0, c1, c2, c3⟩ := ht
  have hv : v = .pointer (some ⟨T2, oT, none⟩) := by
    simpa [World.cell?, hb] using c
  subst hv
  refine glAt_of hb rfl rfl fun j u x hu hx => ?_
  cases j with
  | succ j => simp [whiteAV] at hu
  | zero =>
    simp [whiteAV] at hu hx
    subst hu hx
    have key : RelV flatG W (.lst .tight 3 whiteRows) (.slice (some ⟨R, oR, none⟩) 7 7) := by
      refine .lst .tight 3 whiteRows R oR 7 (fun i j => .int .u16 ((Lib.whiteT.getD (3 * i + j) 0 : Nat) : Int)) (by decide) (Nat.le_refl _) (fun _ => rfl) ⟨cell_lt (c3 0 (by decide)), .inl rfl⟩ (fun i e hi => ?_) (fun i e j v hi hj => ?_) (fun i e j v hi hj => ?_) (fun i e j v hi hj => ?_)
      all_goals obtain ⟨hi7, rfl⟩ := white_row hi
      · rfl
      · obtain ⟨_, rfl⟩ := white_cell hj
        rfl
      · obtain ⟨hj3, rfl⟩ := white_cell hj
        rw [show oR + i * 3 + j = oR + (3 * i + j) by omega]
        exact c3 _ (by omega)
      · obtain ⟨_, rfl⟩ := white_cell hj
        exact .int _ _
    refine .elp _ T2 oT (fun j => match j with | 0 => .slice (some ⟨R, oR, none⟩) 7 7 | 1 => .slice none 0 0 | _ => .int .i64 2) ⟨cell_lt c0, .inl rfl⟩ (fun j v hj => ?_) (fun j v hj => ?_) (fun j v hj => ?_)
    all_goals
      obtain rfl | rfl | rfl : j = 0 ∨ j = 1 ∨ j = 2 := by
        have := (List.getElem?_eq_some_iff.1 hj).1
        simp at this
        omega
      all_goals
        simp at hj
        subst hj
    · rfl
    · rfl
    · rfl
    · exact c0
    · exact c1
    · exact c2
    · exact key
    · exact .nilsl
    · exact .int _ _
theorem white_var {P : Program} {W : World} {n : String} {e t : TypeId} {g : Nat} (h : VarReads P W n Lib.whiteData) (hg : P.globalNamed n = some g) (hty : (P.globals[g]?).map (·.type) = some t) (ht : P.underlying t = some (.pointer e)) : ∃ v, W.var? P n = some #[v] := by
  obtain ⟨g', t', cs, fuel, p, hg', ht', hvar, hd⟩ := h
  obtain rfl := Option.some.inj (hg.symm.trans hg')
  obtain rfl := Option.some.inj (hty.symm.trans ht')
  rcases DataW.trod_pointer ht hd with ⟨hc, _⟩ | ⟨a, cs', y, n, _, hc, _⟩
  · exact ⟨_, by rw [hvar, ← Array.toArray_toList (xs := cs), hc]⟩
  · exact ⟨_, by rw [hvar, ← Array.toArray_toList (xs := cs), hc]⟩
theorem prim_fieldsD {P : Program} {gl : Nat → List AV} {f g g3 : Nat} {T : TypeId} {nm : String} (hb : bodied P f = true) (hg : P.globalNamed nm = some g) (hz : gl g = Lib.asciiSpaceTab.map (AV.int .u8)) (hz3 : gl g3 = whiteAV)
    (h : ∀ (s : ByteArray) (w : World), s.size < 4294967281 → Lib.TabIs P w nm .u8 Lib.asciiSpaceTab → Lib.WhiteTab g3 w → Calls P f #[.string s] w fun e w' =>
      ∃ A, e = .returned (.slice (some ⟨A, 0, none⟩) (Lib.fieldsD s.data.toList).length (Lib.fieldsD s.data.toList).length) ∧ w.heap.size ≤ A ∧
      w'.ownsRow w.heap.size T 1 (.slice (some ⟨A, 0, none⟩) (Lib.fieldsD s.data.toList).length (Lib.fieldsD s.data.toList).length) (Lib.fieldsD s.data.toList).length ((Lib.fieldsD s.data.toList).map fun x => Value.string ⟨x.toArray⟩) ∧ Below w.heap.size w w') : PrimOne P gl f 11 := by
  intro av v h0 G w xs hG hl hr
  unfold primX at h0
  split at h0 <;> (try (cases h0; done)) <;> (try (have := primY_no h0; omega)) <;> rename_i e <;> (try (cases e; done))
  rename_i s
  split at h0
  · rename_i hc
    injection h0 with h0
    subst h0
    obtain ⟨l⟩ := xs
    match l, hl with
    | [x], _ =>
      obtain ⟨q, rfl, rfl⟩ : ∃ q : ByteArray, x = .string q ∧ s = q.data.toList := by
        have h1 := hr 0 _ x rfl rfl
        cases h1; exact ⟨_, rfl, rfl⟩
      have hne : Lib.asciiSpaceTab ≠ [] := by
        intro e
        have := Lib.asciiSpaceTab_length
        rw [e] at this
        cases this
      refine .inr ⟨hb, Calls.mono (h q w (by simpa using hc) (tab_of_gl hG hg hne hz) (white_of_gl hG hz3)) ?_⟩
      rintro e w' ⟨A, rfl, hA, hown, hbel⟩
      refine ⟨_, rfl, hbel, fun G' hk => ?_, trivial⟩
      obtain ⟨_, ⟨hv, _⟩ | ⟨a, cap, cur, hv, hba, hcell, _, _, hsz, htk⟩⟩ := hown
      · cases hv
      · simp only [Value.slice.injEq, Option.some.injEq, Addr.mk.injEq] at hv
        obtain ⟨⟨rfl, _, _⟩, _, hcap⟩ := hv
        have hcur : cur = (((Lib.fieldsD q.data.toList).map fun x => (⟨x.toArray⟩ : ByteArray)).map Value.string).toArray := by
          rw [← hcap] at hsz
          have : cur.toList.length = (Lib.fieldsD q.data.toList).length * 1 := by simpa using hsz
          rw [List.take_of_length_le (by omega)] at htk
          rw [List.map_map, ← Array.toList_inj]
          exact htk
        rw [hcur] at hcell
        have hlt : A < w'.heap.size := (Array.getElem?_eq_some_iff.1 hcell).1
        have := rel_texts (G := G') (w := w') (b := A) (T := T) (l := (Lib.fieldsD q.data.toList).map fun l => (⟨l.toArray⟩ : ByteArray)) hcell (hk _ hA hlt)
        rw [List.length_map, List.map_map] at this
        exact this
  · cases h0
theorem prim_atoi {P : Program} {gl : Nat → List AV} {f g1 g2 t1 t2 E T U : Nat} {u1 u2 : AV} {id : Nat} (hid : id = 1500 + T) (hT : T < 500) (hb : bodied P f = true) (hz1 : gl g1 = [.ifc t1 u1]) (hz2 : gl g2 = [.ifc t2 u2])
    (ho : ∀ (s : ByteArray) (_ : s.size ≤ 9223372036854775806) (v : Int) (_ : Lib.atoiAll s.data.toList = .ok v) (w : World), Calls P f #[.string s] w fun e w' => e = .returned (.tuple #[.int .i64 v, .nilIface]) ∧ (w' = w ∨ ∃ t, w' = Lib.bytesWorld w E t))
    (hs : ∀ (s : ByteArray) (_ : s.size ≤ 281474976710656) (_ : ∀ v, Lib.atoiAll s.data.toList ≠ .ok v) (_ : Lib.atoiAll s.data.toList ≠ .range) (ev : Value) (w : World) (_ : w.cell? ⟨g1, 0, none⟩ = some ev) (_ : ev = .nilIface ∨ ∃ te pe, ev = .iface te pe),
      Calls P f #[.string s] w fun e w' => ∃ N, e = .returned (.tuple #[.int .i64 (0), .iface T (.pointer (some ⟨N, 0, none⟩))]) ∧ w.heap.size ≤ N ∧ w'.heap[N]? = some (.cells #[.string ⟨#[65, 116, 111, 105]⟩, .string s, ev] U (0, 0)) ∧ Below w.heap.size w w')
    (hr' : ∀ (s : ByteArray) (_ : s.size ≤ 281474976710656) (_ : Lib.atoiAll s.data.toList = .range) (ev : Value) (w : World) (_ : w.cell? ⟨g2, 0, none⟩ = some ev) (_ : ev = .nilIface ∨ ∃ te pe, ev = .iface te pe),
      Calls P f #[.string s] w fun e w' => ∃ N, e = .returned (.tuple #[.int .i64 (Lib.atoiSat s.data.toList), .iface T (.pointer (some ⟨N, 0, none⟩))]) ∧ w.heap.size ≤ N ∧ w'.heap[N]? = some (.cells #[.string ⟨#[65, 116, 111, 105]⟩, .string s, ev] U (0, 0)) ∧ Below w.heap.size w w') : PrimOne P gl f id := by
  subst hid
  intro ags v h0 G w xs hG hl hr
  have hz : primZ (500 + T) ags = some v := by
    unfold primX at h0
    split at h0 <;> first | omega | skip
    unfold primY at h0
    rw [if_neg (by omega), if_pos (by omega), show 1500 + T - 1000 = 500 + T by omega] at h0
    exact h0
  clear h0
  unfold primZ at hz
  split at hz <;> (try (cases hz; done))
  · rw [if_neg (by omega)] at hz; cases hz
  rename_i s
  split at hz
  · rename_i hn
    obtain ⟨_, hlen⟩ := hn
    rw [Nat.add_sub_cancel_left] at hz
    injection hz with hz
    subst hz
    obtain ⟨l⟩ := xs
    match l, hl with
    | [x], _ =>
      have r1 := hr 0 _ x rfl rfl
      obtain ⟨q, hq⟩ : ∃ q : ByteArray, x = .string q ∧ s = q.data.toList := by cases r1; exact ⟨_, rfl, rfl⟩
      obtain ⟨rfl, rfl⟩ := hq
      have hlen' : q.size ≤ 281474976710656 := by rw [Array.length_toList] at hlen; exact hlen
      have fin : ∀ (m : Int) (u : AV) (y : Value) (w' : World), atoI q.data.toList = m → (∀ G' : Gh, RelV G' w' u y) → noFlag u → Below w.heap.size w w' →
          ∃ z, (Ending.returned (.tuple #[.int .i64 m, y])) = Ending.returned z ∧ Below w.heap.size w w' ∧ (∀ G' : Gh, (∀ b, w.heap.size ≤ b → b < w'.heap.size → G'.k b = .st) → RelV G' w' (.tup [.int .i64 (atoI q.data.toList), u]) z) ∧ noFlag (.tup [.int .i64 (atoI q.data.toList), u]) := by
        rintro m u y w' rfl hu hnf hB
        exact ⟨_, rfl, hB, fun G' _ => tup2 (.int _ _) (hu G'), by simp [noFlag, hnf]⟩
      cases hp : Lib.atoiAll q.data.toList with
      | ok m =>
        refine .inr ⟨hb, Calls.mono (ho q (by omega) m hp w) ?_⟩
        rintro e w' ⟨rfl, hw⟩
        refine fin m .nilif _ w' (by simp only [atoI, hp]) (fun _ => .nilif) trivial ?_
        rcases hw with rfl | ⟨t, rfl⟩
        · exact Below.refl _ _
        · exact Lib.bytesWorld_below _ _ _
      | range =>
        obtain ⟨ev, h1, h2⟩ := errvar_of_gl hG hz2
        refine .inr ⟨hb, Calls.mono (hr' q hlen' hp ev w h1 h2) ?_⟩
        rintro e w' ⟨N, rfl, _, _, hB⟩
        exact fin _ (.ifc T .undef) _ w' (by simp only [atoI, hp]) (fun _ => .ifc _ _ _ (.undef _)) trivial hB
      | _ =>
        obtain ⟨ev, h1, h2⟩ := errvar_of_gl hG hz1
        refine .inr ⟨hb, Calls.mono (hs q hlen' (by simp [hp]) (by simp [hp]) ev w h1 h2) ?_⟩
        rintro e w' ⟨N, rfl, _, _, hB⟩
        exact fin 0 (.ifc T .undef) _ w' (by simp only [atoI, hp]) (fun _ => .ifc _ _ _ (.undef _)) trivial hB
  · cases hz
end Go.Proofs.YtafeikbbjhmlaaaGreatDoor.Sx
