/- SX, part B of the told calls: strings.Builder: what WriteString and String do, every other block standing as it stood; and what they tell. -/
import Derived.Test.YtjbgceogkgpjpaaGreatDoorSxZ
import Derived.Shelf.Strings.Builder1
set_option linter.unusedVariables false
set_option linter.unusedSimpArgs false
set_option linter.unusedVariables false
namespace Go.Proofs.YtjbgceogkgpjpaaGreatDoor.Sx
open Go Go.RowKit Go.Shelf
theorem run_bappend {P : Program} (w : World) (t u ty e : TypeId) (i : TypeInfo) (ht : P.underlying t = some (.slice e)) (hu : P.underlying u = some .string) (hi : P.info? e = some i) (hz : i.zero = some (.int .u8 0))
    (hs : i.size = 1) (hy : i.bytes = 1) (v : Value) (n : Nat) (xs : List Value) (hown : w.ownsRow 0 e 1 v n xs) (s : ByteArray) (hb : n + s.size ≤ 140737488355328) :
    ∃ v' w', (Builtin.append_ #[t, u] ty #[v, .string s]).run P w = .ok v' w' ∧ w'.ownsRow 0 e 1 v' (n + s.size) (xs ++ Lib.strCells s) ∧ w.grownBy w' v.ownBlock ∧ (v = .slice none 0 0 → s.size = 0 → v' = .slice none 0 0) ∧
      (∀ g, v'.ownBlock = some g → v.ownBlock = some g ∨ w.heap.size ≤ g) := by
  have hmx : n + s.size ≤ maxLen := by unfold maxLen; omega
  obtain ⟨v', w', hr, h2, h3, h4⟩ := Lib.run_append_own_string (P := P) w 0 t u ty e i ht hu hi hz hs hy v n xs hown s hmx hb (Nat.zero_le _)
  refine ⟨v', w', hr, h2, h3, fun a b => h4.2 ⟨a, b⟩, fun g hg => ?_⟩
  rcases hown.2 with ⟨rfl, rfl⟩ | ⟨g0, cap, cur, rfl, _, hg0, hnc, hcm, hcs, hcx⟩
  · right
    obtain rfl : xs = [] := List.eq_nil_of_length_eq_zero (by simpa using hown.1)
    obtain ⟨v2, w2, hr2, h5, _⟩ := Lib.run_append_own_string (P := P) w w.heap.size t u ty e i ht hu hi hz hs hy (.slice none 0 0) 0 [] (World.ownsRow_nil w _ e 1) s hmx hb (Nat.le_refl _)
    rw [hr] at hr2
    injection hr2 with e1 e2
    subst e1 e2
    exact (h5.lt g hg).1
  · by_cases hroom : n + s.size ≤ cap
    · have hr2 := Lib.run_append_room_string (P := P) w t u ty e i ht hu hi hs g0 n cap cur hg0 s hroom (by omega)
      rw [hr] at hr2
      injection hr2 with e1 e2
      subst e1
      exact .inl hg
    · have hold : ∀ j x, xs[j]? = some x → w.cell? ((⟨g0, 0, none⟩ : Addr).add j) = some x := hown.cells (g := g0) rfl
      have hr2 := Lib.run_append_grow_string (P := P) w t u ty e i (.int .u8 0) ht hu hi hz ⟨g0, 0, none⟩ n cap xs (by rw [hs]; exact hown.1) hold s (by omega) (by unfold maxLen at hmx; omega) (by rw [hy]; exact growslice_fits (by omega) (by omega))
      rw [hr] at hr2
      injection hr2 with e1 e2
      subst e1
      simp only [Value.ownBlock, Option.some.injEq] at hg
      right
      omega
theorem wpList_bappend {P : Program} {w : World} {ops : Array Oper} {rest : List Oper} {o : Oper} {a : Act} {Q : Exit → Act → World → Prop} (hgd : o.guard = none) (sl x : Operand) (t u : TypeId)
    (ho : o.op = .call { callee := .builtin .append, args := #[sl, x], argTypes := #[t, u] }) (e : TypeId) (i : TypeInfo) (ht : P.underlying t = some (.slice e)) (hu : P.underlying u = some .string) (hi : P.info? e = some i)
    (hz : i.zero = some (.int .u8 0)) (hs : i.size = 1) (hy : i.bytes = 1) (v : Value) (n : Nat) (xs : List Value) (hv : a.eval sl = v) (hown : w.ownsRow 0 e 1 v n xs) (s : ByteArray) (hx : a.eval x = .string s) (hb : n + s.size ≤ 140737488355328)
    (h : ∀ v' w', w'.ownsRow 0 e 1 v' (n + s.size) (xs ++ Lib.strCells s) → w.grownBy w' v.ownBlock → (v = .slice none 0 0 → s.size = 0 → v' = .slice none 0 0) → (∀ g, v'.ownBlock = some g → v.ownBlock = some g ∨ w.heap.size ≤ g) → wpList P ops Q rest (a.put o.dst v') w') :
    wpList P ops Q (o :: rest) a w := by
  refine wpList_plain hgd fun K hK => ?_
  obtain ⟨v', w', hr, h2, h3, h4, h5⟩ := run_bappend (P := P) w t u o.type e i ht hu hi hz hs hy v n xs hown s hb
  have hrun : (execOp a.eval o).run P w = .ok (.value v') w' := by
    simp only [execOp, ho, resolve, invoke, builtin, Sem.run_bind, Sem.run_pure, Result.andThen_ok, List.map_toArray, List.map_cons, List.map_nil, hv, hx, hr]
  exact wp_of_run hrun (hK _ _ (h v' w' h2 h3 h4 h5))
structure Wrote (T e : TypeId) (b : Nat) (v : Value) (bs : List Value) (s : ByteArray) (w w' : World) : Prop where
  os : w'.os = w.os
  tape : w'.tape = w.tape
  output : w'.output = w.output
  size : w.heap.size ≤ w'.heap.size
  out : ∃ v', w'.heap[b]? = some (.cells #[.pointer (some ⟨b, 0, none⟩), v'] T (0, 0)) ∧ w'.ownsRow 0 e 1 v' (bs.length + s.size) (bs ++ Lib.strCells s) ∧ (v = .slice none 0 0 → s.size = 0 → v' = .slice none 0 0) ∧
    ∀ g, v'.ownBlock = some g → v.ownBlock = some g ∨ w.heap.size ≤ g
  kept : ∀ k, k < w.heap.size → k ≠ b → v.ownBlock ≠ some k → w'.heap[k]? = w.heap[k]?
section
open Go.Proofs
variable {P : Program} {ρ : Ren}
set_option maxHeartbeats 2000000 in
set_option maxRecDepth 100000 in
theorem builder_write (L : Lays.n166 P ρ) (X : Builder.Extra P ρ) (b : Nat) (bs : List Value) (s : ByteArray) (w : World) (p v : Value) (hb : w.heap[b]? = some (.cells #[p, v] (ρ.t 72) (0, 0)))
    (hp : p = .pointer none ∨ p = .pointer (some ⟨b, 0, none⟩)) (hown : w.ownsRow 0 (ρ.t 5) 1 v bs.length bs) (hlen : bs.length + s.size ≤ 140737488355328) :
    Calls P (ρ.f 166) #[.pointer (some ⟨b, 0, none⟩), .string s] w fun e w' => e = .returned (.tuple #[.int .i64 s.size, .nilIface]) ∧ Wrote (ρ.t 72) (ρ.t 5) b v bs s w w' := by
  obtain ⟨i0, hi, hz0, hz1, hz2⟩ := info_parts X.infoByte
  have mixed := L.mixed
  have t72 := L.t72; have a72 := L.a72; have z72 := L.z72; have v72 := L.v72; have u72 := run_underlying L.t72
  have t70 := L.t70; have a70 := L.a70; have z70 := L.z70; have v70 := L.v70; have u70 := run_underlying L.t70
  have t37 := L.t37; have a37 := L.a37; have z37 := L.z37; have v37 := L.v37; have u37 := run_underlying L.t37
  have t3 := L.t3; have a3 := L.a3; have z3 := L.z3; have v3 := L.v3; have u3 := run_underlying L.t3
  have t9 := L.t9; have a9 := L.a9; have z9 := L.z9; have v9 := L.v9; have u9 := run_underlying L.t9
  have t4 := L.t4; have a4 := L.a4; have z4 := L.z4; have v4 := L.v4; have u4 := run_underlying L.t4
  have t164 := L.t164; have a164 := L.a164; have z164 := L.z164; have v164 := L.v164; have u164 := run_underlying L.t164
  have t5 := X.t5; have a5 := X.a5; have z5 := X.z5; have v5 := X.v5; have u5 := run_underlying X.t5
  have e240 : ∀ args w, (callFunc (ρ.f 240) args).run P w = .ok (.enter (ρ.f 240) args) w := enters_of L.f240 (by kernel_rfl) rfl
  have hlt : b < w.heap.size := (Array.getElem?_eq_some_iff.1 hb).1
  have hne : v.ownBlock ≠ some b := Lib.ownBlock_ne hown hb X.neB5
  have hchk : Calls P (ρ.f 240) #[.pointer (some ⟨b, 0, none⟩)] w fun e w' => e = .returned (.tuple #[]) ∧ w'.os = w.os ∧ w'.tape = w.tape ∧ w'.output = w.output ∧ w'.heap.size = w.heap.size ∧
      w'.heap[b]? = some (.cells #[.pointer (some ⟨b, 0, none⟩), v] (ρ.t 72) (0, 0)) ∧ ∀ k, k ≠ b → w'.heap[k]? = w.heap[k]? := by
    rcases hp with rfl | rfl
    · refine (Any.Builder_copyCheck_fresh { L with } X.toX72 b w (by rw [Lib.cell_of_heap hb]; rfl) (by simp [World.shape?, hb]) (Lib.frozen_of_heap hb 0)).mono ?_
      rintro e w' ⟨rfl, rfl⟩
      refine ⟨rfl, rfl, rfl, rfl, by simp [World.setCell], ?_, fun k hk => Below.heap_setCell _ _ _ _ hk⟩
      simp [World.setCell, Array.getElem?_modify, hb]
    · refine (Any.Builder_copyCheck_used { L with } X.toX72 b w (by rw [Lib.cell_of_heap hb]; rfl)).mono ?_
      rintro e w' ⟨rfl, rfl⟩
      exact ⟨rfl, rfl, rfl, rfl, rfl, hb, fun _ _ => rfl⟩
  go_enter L.f166, Body.n166_ntmps ρ
  go_wp2_with (go_at_fn (ρ.f 240); refine hchk.mono ?_)
  rintro e w1 ⟨rfl, k1, k2, k3, k4, hbk, hkp⟩
  have hown1 : w1.ownsRow 0 (ρ.t 5) 1 v bs.length bs := ownsRow_ext hown fun g hg => hkp g fun e => hne (by rw [hg, e])
  have c0 : w1.cell? ⟨b, 0, none⟩ = some (.pointer (some ⟨b, 0, none⟩)) := by rw [Lib.cell_of_heap hbk]; rfl
  have c1 : w1.cell? ⟨b, 1, none⟩ = some v := by rw [Lib.cell_of_heap hbk]; rfl
  go_wp2_with (at_builtin; refine wpList_bappend rfl _ _ (ρ.t 37) (ρ.t 9) rfl (ρ.t 5) i0 L.t37 L.t9 hi hz0 hz1 hz2 v bs.length bs rfl hown1 s rfl hlen ?_)
  intro v' w2 h2 h3 h4 h5
  have hb2 : w2.heap[b]? = some (.cells #[.pointer (some ⟨b, 0, none⟩), v] (ρ.t 72) (0, 0)) := by
    rw [h3.block b (by omega) (fun e => hne e.symm)]
    exact hbk
  have d0 : w2.cell? ⟨b, 0, none⟩ = some (.pointer (some ⟨b, 0, none⟩)) := by rw [Lib.cell_of_heap hb2]; rfl
  have d1 : w2.cell? ⟨b, 1, none⟩ = some v := by rw [Lib.cell_of_heap hb2]; rfl
  have f1 : w2.frozen? ⟨b, 1, none⟩ = false := Lib.frozen_of_heap hb2 1
  have hne2 : v'.ownBlock ≠ some b := Lib.ownBlock_ne h2 hb2 X.neB5
  obtain ⟨ao, n', cap, rfl⟩ : ∃ ao n' cap, v' = .slice ao n' cap := by
    rcases h2.2 with ⟨hv, _⟩ | ⟨g, cap, cur, hv, _⟩
    · exact ⟨_, _, _, hv⟩
    · exact ⟨_, _, _, hv⟩
  go_wp2
  go_ret2
  refine ⟨rfl, ?_⟩
  have hsz := h3.size
  refine ⟨h3.os.trans k1, h3.tape.trans k2, h3.output.trans k3, by simp [World.setCell]; omega, ⟨.slice ao n' cap, by simp [World.setCell, Array.getElem?_modify, hb2], ?_, fun a c => h4 a (ByteArray.ext (Array.size_eq_zero_iff.1 c)), fun g hg => (h5 g hg).imp_right fun h => by omega⟩, fun k hk hkb hkv => ?_⟩
  · refine ownsRow_ext h2 fun g hg => Below.heap_setCell _ _ _ _ fun e => hne2 (by rw [hg, e])
  · rw [Below.heap_setCell _ _ _ _ hkb, h3.block k (by omega) (fun e => hkv e.symm), hkp k hkb]
structure Read (v : Value) (w w' : World) : Prop where
  os : w'.os = w.os
  tape : w'.tape = w.tape
  output : w'.output = w.output
  size : w.heap.size ≤ w'.heap.size
  kept : ∀ k, k < w.heap.size → v.ownBlock ≠ some k → w'.heap[k]? = w.heap[k]?
theorem freeze_read {g n cap m : Nat} {w : World} : Read (.slice (some ⟨g, 0, none⟩) n cap) w (w.drew.freeze ⟨g, 0, none⟩ m) := by
  unfold World.freeze
  split
  · exact ⟨rfl, rfl, rfl, Nat.le_refl _, fun _ _ _ => rfl⟩
  · refine ⟨rfl, rfl, rfl, (by show w.heap.size ≤ (w.heap.modify _ _).size; rw [Array.size_modify]; exact Nat.le_refl _), fun k hk hne => ?_⟩
    simp only [Array.getElem?_modify]
    rw [if_neg (fun e => hne (by simp [Value.ownBlock, e]))]
    rfl
set_option maxHeartbeats 2000000 in
set_option maxRecDepth 100000 in
theorem builder_string (L : Lays.n169 P ρ) (X : Builder.Extra P ρ) (b : Nat) (l : List UInt8) (w : World) (p v : Value) (hb : w.heap[b]? = some (.cells #[p, v] (ρ.t 72) (0, 0)))
    (hown : w.ownsRow 0 (ρ.t 5) 1 v l.length (Lib.byteCells l)) (h0 : l = [] → v = .slice none 0 0) :
    Calls P (ρ.f 169) #[.pointer (some ⟨b, 0, none⟩)] w fun e w' => e = .returned (.string ⟨l.toArray⟩) ∧ Read v w w' := by
  have mixed := L.mixed
  have t72 := L.t72; have a72 := L.a72; have z72 := L.z72; have v72 := L.v72; have u72 := run_underlying L.t72
  have t70 := L.t70; have a70 := L.a70; have z70 := L.z70; have v70 := L.v70; have u70 := run_underlying L.t70
  have t37 := L.t37; have a37 := L.a37; have z37 := L.z37; have v37 := L.v37; have u37 := run_underlying L.t37
  have t127 := L.t127; have a127 := L.a127; have z127 := L.z127; have v127 := L.v127; have u127 := run_underlying L.t127
  have t3 := L.t3; have a3 := L.a3; have z3 := L.z3; have v3 := L.v3; have u3 := run_underlying L.t3
  have t9 := L.t9; have a9 := L.a9; have z9 := L.z9; have v9 := L.v9; have u9 := run_underlying L.t9
  have t5 := X.t5; have a5 := X.a5; have z5 := X.z5; have v5 := X.v5; have u5 := run_underlying X.t5
  have hbd : w.drew.heap[b]? = some (.cells #[p, v] (ρ.t 72) (0, 0)) := hb
  have c1 : w.drew.cell? ⟨b, 1, none⟩ = some v := by rw [Lib.cell_of_heap hbd]; rfl
  by_cases hl : l = []
  · obtain rfl := h0 hl
    subst hl
    have hUS := Any.unsafeString_none L X
    have hSD : (Builtin.unsafeSliceData_ #[(ρ.t 37)] (ρ.t 127) #[.slice none 0 0]).run P w.drew = .ok (.pointer none) w.drew := rfl
    go_enter L.f169, Body.n169_ntmps ρ
    go_wp2
    go_region_o
    all_goals (go_wp2; go_ret; exact ⟨rfl, rfl, rfl, rfl, Nat.le_refl _, fun _ _ _ => rfl⟩)
  · have hl0 : l.length ≠ 0 := by simpa using hl
    obtain ⟨g, cap, cur, rfl, hg, hnc, hcm, hcs⟩ : ∃ g cap cur, v = .slice (some ⟨g, 0, none⟩) l.length cap ∧ w.heap[g]? = some (.cells cur (ρ.t 5) (0, 0)) ∧ l.length ≤ cap ∧ cap ≤ maxLen ∧ cur.size = cap * 1 := by
      rcases hown.2 with ⟨_, hz⟩ | ⟨g, cap, cur, hv, _, h1, h2, h3, h4, _⟩
      · exact absurd hz hl0
      · exact ⟨g, cap, cur, hv, h1, h2, h3, h4⟩
    have hg' : w.drew.heap[g]? = some (.cells cur (ρ.t 5) (0, 0)) := hg
    have hSD : (Builtin.unsafeSliceData_ #[(ρ.t 37)] (ρ.t 127) #[.slice (some ⟨g, 0, none⟩) l.length cap]).run P w.drew = .ok (.pointer (some ⟨g, 0, none⟩)) w.drew :=
      Lib.run_unsafeSliceData_row _ _ _ _ _ _ (by omega)
    have hUS : (Builtin.unsafeString_ #[(ρ.t 127), (ρ.t 3)] (ρ.t 9) #[.pointer (some ⟨g, 0, none⟩), .int .i64 l.length]).run P w.drew = .ok (.string ⟨l.toArray⟩) (w.drew.freeze ⟨g, 0, none⟩ l.length) :=
      Lib.run_unsafeString_row w.drew (ρ.t 127) (ρ.t 3) (ρ.t 9) (ρ.t 5) L.t127 X.cellsByte g cur.size (by simp [World.shape?, hg']) l hl (by omega) (by unfold maxLen at hcm; omega)
        (fun j x hx => hown.cells (g := g) rfl j (.int .u8 x.toNat) (by simp [Lib.byteCells, hx]))
    go_enter L.f169, Body.n169_ntmps ρ
    go_wp2
    go_region_o
    all_goals (go_wp2; go_ret; exact ⟨rfl, freeze_read⟩)
theorem two_of {t e T E : Nat} (h : t * 1000 + e = T * 1000 + E) (he : e < 1000) (hE : E < 1000) : t = T ∧ e = E := by omega
theorem not_two {T E : Nat} (hT : T < 1000) (hE : E < 1000) : ¬ (1000000 + T * 1000 + E) / 1000000 = 2 := by omega
theorem not_one {T E : Nat} (hT : T < 1000) (hE : E < 1000) : ¬ (2000000 + T * 1000 + E) / 1000000 = 1 := by omega
theorem hone_write (L : Lays.n166 P ρ) (X : Builder.Extra P ρ) (hbod : bodied P (ρ.f 166) = true) (hE : ρ.t 5 < 1000) (hT : ρ.t 72 < 1000) : HOne P (ρ.f 166) (1000000 + ρ.t 72 * 1000 + ρ.t 5) := by
  intro args hp v hp' h G w xs hV hlen hargs hH
  unfold hprimX at h
  split at h
  · rename_i r off s
    split at h
    · rename_i hc
      obtain ⟨rfl, _⟩ := hc
      split at h
      · rename_i t e bs hg
        split at h
        · rename_i hc
          simp only [Option.some.injEq, Prod.mk.injEq] at h
          obtain ⟨rfl, rfl⟩ := h
          obtain ⟨hid, hsz⟩ := hc
          obtain ⟨ls⟩ := xs
          match ls, hlen with
          | [x0, x1], _ =>
            have q0 := (hargs 0 _ x0 rfl rfl).1
            have q1 := (hargs 1 _ x1 rfl rfl).1
            cases q0 with
            | ptr r off b base hm =>
              cases q1 with
              | str s =>
                obtain ⟨⟨rfl, he⟩, p, u, hb, hp0, hown, hnil, hob⟩ := hH r b base _ hm hg
                obtain ⟨rfl, rfl⟩ := two_of (t := t) (e := e) (T := ρ.t 72) (E := ρ.t 5) (by omega) he hE
                have hbl : (Lib.byteCells bs).length = bs.length := Lib.byteCells_length bs
                have hss : s.data.toList.length = s.size := Array.length_toList
                refine ⟨hbod, (builder_write L X b (Lib.byteCells bs) s w p u hb hp0 (by rw [hbl]; exact hown) (by rw [hbl, ← hss]; exact hsz)).mono ?_⟩
                rintro e' w' ⟨rfl, hW⟩
                obtain ⟨u', o1, o2, o3, o4⟩ := hW.out
                rw [hbl] at o2
                have hkb := hV.mkk r _ hm
                have hun : ∀ g, u.ownBlock = some g → g < w.heap.size ∧ G.k g = .un ∧ G.o (.cell r 1) = some g := fun g hg => ⟨(hV.ok _ _ (hob g hg).1).1, (hob g hg).2, (hob g hg).1⟩
                have hun' : ∀ g, u'.ownBlock = some g → g < w'.heap.size := fun g hg => (o2.lt g hg).2
                let G' : Gh := { m := G.m, k := fun c => if u'.ownBlock = some c then .un else G.k c, o := fun l => if l = .cell r 1 then u'.ownBlock else G.o l }
                have hk' : ∀ c, c < w.heap.size → G'.k c = G.k c := fun c hc => by
                  show (if _ then _ else _) = _
                  split
                  · rename_i h
                    rcases o4 c h with h | h
                    · exact (hun c h).2.1.symm
                    · omega
                  · rfl
                have hnb : ∀ c, c < w.heap.size → G.k c ≠ .mb → u.ownBlock ≠ some c → w'.heap[c]? = w.heap[c]? := fun c hc h1 h2 => hW.kept c hc (fun e => h1 (by rw [e]; exact hkb.1)) h2
                have hE0 : Ext (fun c => u.ownBlock = some c) G w G' w' := {
                  os := hW.os
                  tape := hW.tape
                  output := hW.output
                  size := hW.size
                  st := fun c hc hk => ⟨by rw [hk' c hc, hk], hnb c hc (by rw [hk]; simp) fun h => by have := (hun c h).2.1; rw [hk] at this; cases this⟩
                  gr := fun c f hc hk => ⟨f, Nat.le_refl _, by rw [hk' c hc, hk], fun i _ => cell_of_heap (hnb c hc (by rw [hk]; simp) fun h => by have := (hun c h).2.1; rw [hk] at this; cases this) i⟩
                  keep := fun c hc _ h2 h3 => ⟨hk' c hc, hnb c hc h2 h3⟩
                  mm := fun _ _ h => h
                  mb := fun c hc hk => by
                    refine ⟨by rw [hk' c hc, hk], fun cs T fz hh => ?_⟩
                    by_cases hcb : c = b
                    · subst hcb
                      rw [hb] at hh
                      simp only [Option.some.injEq, Obj.cells.injEq] at hh
                      obtain ⟨rfl, rfl, rfl⟩ := hh
                      exact ⟨_, o1, rfl⟩
                    · exact ⟨cs, by rw [hW.kept c hc hcb fun h => by have := (hun c h).2.1; rw [hk] at this; cases this]; exact hh, rfl⟩ }
                have hV' : Valid G' w' hp.length := {
                  lev := hV.lev
                  inj := hV.inj
                  mkk := fun q x hq => ⟨by rw [hk' _ (hV.mkk q x hq).2]; exact (hV.mkk q x hq).1, Nat.lt_of_lt_of_le (hV.mkk q x hq).2 hW.size⟩
                  oinj := fun l l' c h1 h2 => by
                    have key : ∀ l', l' ≠ .cell r 1 → u'.ownBlock = some c → G.o l' = some c → False := fun l' hl h3 h4 => by
                      rcases o4 c h3 with h5 | h5
                      · exact hl (hV.oinj _ _ c h4 (hun c h5).2.2)
                      · have := (hV.ok _ _ h4).1; omega
                    simp only [G'] at h1 h2
                    split at h1 <;> split at h2
                    · rename_i e1 e2; rw [e1, e2]
                    · rename_i e1 e2; exact (key _ e2 h1 h2).elim
                    · rename_i e1 e2; exact (key _ e1 h2 h1).elim
                    · exact hV.oinj _ _ c h1 h2
                  ok := fun l c h1 => by
                    simp only [G'] at h1
                    split at h1
                    · refine ⟨hun' c h1, .inr ?_⟩
                      show (if _ then _ else _) = _
                      rw [if_pos h1]
                    · have := hV.ok _ _ h1
                      exact ⟨Nat.lt_of_lt_of_le this.1 hW.size, by rw [hk' c this.1]; exact this.2⟩ }
                refine ⟨_, G', rfl, hE0.mono fun c _ h => ⟨_, (hun c h).2.2⟩, hV', ?_, .of_noFlag trivial, ?_, rfl, ?_⟩
                · refine .tup _ _ rfl fun j c x hc hx => ?_
                  match j with
                  | 0 => simp at hc hx; subst hc hx; exact .int _ _
                  | 1 => simp at hc hx; subst hc hx; exact .nilif
                  | j + 2 => simp at hc
                · intro q c base blk hq hg'
                  rw [hget_hput hg] at hg'
                  split at hg'
                  · rename_i hqr
                    subst hqr
                    injection hg' with hg'
                    subst hg'
                    have hq' : G.m q = some (c, base) := hq
                    rw [hm] at hq'
                    injection hq' with hq'
                    injection hq' with e1 e2
                    subst e1 e2
                    refine ⟨⟨rfl, he⟩, _, u', o1, .inr rfl, ?_, fun h => ?_, fun g hg => ⟨?_, ?_⟩⟩
                    · rw [List.length_append, hss, Lib.byteCells_append, ← Lib.strCells_eq]
                      exact o2
                    · rw [List.append_eq_nil_iff] at h
                      exact o3 (hnil h.1) (by rw [← hss, h.2]; rfl)
                    · show (if _ then _ else _) = _
                      rw [if_pos rfl, hg]
                    · show (if _ then _ else _) = _
                      rw [if_pos hg]
                  · rename_i hqr
                    have hq' : G.m q = some (c, base) := hq
                    have hcb : c ≠ b := fun e => hqr (hV.inj q r _ _ hq' hm e)
                    have hkc := hV.mkk q _ hq'
                    refine RelBlk.ext hV hE0 (hW.kept c hkc.2 hcb fun h => ?_) (fun i => ?_) (fun i c' h1 h2 => ?_) (hH q c base blk hq' hg')
                    · have := (hun c h).2.1
                      rw [hkc.1] at this; cases this
                    · show (if _ then _ else _) = _
                      rw [if_neg (fun e => hqr (by injection e))]
                    · have := hV.oinj _ _ _ h1 (hun c' h2).2.2
                      exact hqr (by injection this)
                · intro l c h1
                  simp only [G'] at h1
                  split at h1
                  · rcases o4 c h1 with h | h
                    · exact .inl ⟨_, (hun c h).2.2⟩
                    · exact .inr h
                  · exact .inl ⟨l, h1⟩
        · cases h
      · cases h
    · cases h
  · rename_i r off
    split at h
    · rename_i hc
      exact absurd hc.2 (not_two hT hE)
    · cases h
  · cases h
theorem hone_string (L : Lays.n169 P ρ) (X : Builder.Extra P ρ) (hbod : bodied P (ρ.f 169) = true) (hE : ρ.t 5 < 1000) (hT : ρ.t 72 < 1000) : HOne P (ρ.f 169) (2000000 + ρ.t 72 * 1000 + ρ.t 5) := by
  intro args hp v hp' h G w xs hV hlen hargs hH
  unfold hprimX at h
  split at h
  · rename_i r off s
    split at h
    · rename_i hc
      exact absurd hc.2 (not_one hT hE)
    · cases h
  · rename_i r off
    split at h
    · rename_i hc
      obtain ⟨rfl, _⟩ := hc
      split at h
      · rename_i t e bs hg
        split at h
        · rename_i hid
          simp only [Option.some.injEq, Prod.mk.injEq] at h
          obtain ⟨rfl, rfl⟩ := h
          obtain ⟨ls⟩ := xs
          match ls, hlen with
          | [x0], _ =>
            have q0 := (hargs 0 _ x0 rfl rfl).1
            cases q0 with
            | ptr r off b base hm =>
              obtain ⟨⟨rfl, he⟩, p, u, hb, hp0, hown, hnil, hob⟩ := hH r b base _ hm hg
              obtain ⟨rfl, rfl⟩ := two_of (t := t) (e := e) (T := ρ.t 72) (E := ρ.t 5) (by omega) he hE
              refine ⟨hbod, (builder_string L X b bs w p u hb hown hnil).mono ?_⟩
              rintro e' w' ⟨rfl, hW⟩
              have hkb := hV.mkk r _ hm
              have hun : ∀ g, u.ownBlock = some g → g < w.heap.size ∧ G.k g = .un ∧ G.o (.cell r 1) = some g := fun g hg => ⟨(hV.ok _ _ (hob g hg).1).1, (hob g hg).2, (hob g hg).1⟩
              let G' : Gh := { m := G.m, k := G.k, o := fun l => if l = .cell r 1 then none else G.o l }
              have hsame : ∀ c, c < w.heap.size → G.k c ≠ .un → w'.heap[c]? = w.heap[c]? := fun c hc h1 => hW.kept c hc fun h => h1 (hun c h).2.1
              have hE0 : Ext (fun c => u.ownBlock = some c) G w G' w' := {
                os := hW.os
                tape := hW.tape
                output := hW.output
                size := hW.size
                st := fun c hc hk => ⟨hk, hsame c hc (by rw [hk]; simp)⟩
                gr := fun c f hc hk => ⟨f, Nat.le_refl _, hk, fun i _ => cell_of_heap (hsame c hc (by rw [hk]; simp)) i⟩
                keep := fun c hc _ h2 h3 => ⟨rfl, hW.kept c hc h3⟩
                mm := fun _ _ h => h
                mb := fun c hc hk => ⟨hk, fun cs T fz hh => ⟨cs, by rw [hsame c hc (by rw [hk]; simp)]; exact hh, rfl⟩⟩ }
              have hV' : Valid G' w' hp.length := {
                lev := hV.lev
                inj := hV.inj
                mkk := fun q x hq => ⟨(hV.mkk q x hq).1, Nat.lt_of_lt_of_le (hV.mkk q x hq).2 hW.size⟩
                oinj := fun l l' c h1 h2 => by
                  simp only [G'] at h1 h2
                  split at h1
                  · cases h1
                  · split at h2
                    · cases h2
                    · exact hV.oinj _ _ c h1 h2
                ok := fun l c h1 => by
                  simp only [G'] at h1
                  split at h1
                  · cases h1
                  · have := hV.ok _ _ h1
                    exact ⟨Nat.lt_of_lt_of_le this.1 hW.size, this.2⟩ }
              refine ⟨_, G', rfl, hE0.mono fun c _ h => ⟨_, (hun c h).2.2⟩, hV', ?_, .of_noFlag trivial, ?_, rfl, ?_⟩
              · exact .str ⟨bs.toArray⟩
              · intro q c base blk hq hg'
                rw [hget_hput hg] at hg'
                split at hg'
                · rename_i hqr
                  subst hqr
                  injection hg' with hg'
                  subst hg'
                  have hq' : G.m q = some (c, base) := hq
                  rw [hm] at hq'
                  injection hq' with hq'
                  injection hq' with e1 e2
                  subst e1 e2
                  refine ⟨_, _, (hsame b hkb.2 (by rw [hkb.1]; simp)).trans hb, by simp, fun i z x hi hx => ?_⟩
                  match i with
                  | 0 => simp at hi; subst hi; exact ⟨.undef _, .of_noFlag trivial⟩
                  | 1 => simp at hi; subst hi; exact ⟨.undef _, .of_noFlag trivial⟩
                  | i + 2 => simp at hi
                · rename_i hqr
                  have hq' : G.m q = some (c, base) := hq
                  have hkc := hV.mkk q _ hq'
                  refine RelBlk.ext hV hE0 (hsame c hkc.2 (by rw [hkc.1]; simp)) (fun i => ?_) (fun i c' h1 h2 => ?_) (hH q c base blk hq' hg')
                  · show (if _ then _ else _) = _
                    rw [if_neg (fun e => hqr (by injection e))]
                  · have := hV.oinj _ _ _ h1 (hun c' h2).2.2
                    exact hqr (by injection this)
              · intro l c h1
                simp only [G'] at h1
                split at h1
                · cases h1
                · exact .inl ⟨l, h1⟩
        · cases h
      · cases h
    · cases h
  · cases h
end
end Go.Proofs.YtjbgceogkgpjpaaGreatDoor.Sx
