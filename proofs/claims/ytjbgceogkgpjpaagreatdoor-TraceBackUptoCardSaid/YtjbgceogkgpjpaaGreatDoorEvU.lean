/- EV, part U: plain data that is handed, read at every depth, with its bulk. -/
import Derived.Test.YtjbgceogkgpjpaaGreatDoorEvF
set_option linter.unusedVariables false
set_option linter.unusedSimpArgs false
namespace Go.Proofs.YtjbgceogkgpjpaaGreatDoor.Sx
open Go Go.RowKit
mutual
def avn : AV → Nat
  | .lst _ _ es => avnE es
  | .str s => s.length
  | _ => 0
def avnE : List (List AV) → Nat
  | [] => 0
  | e :: es => avnL e + 1 + avnE es
def avnL : List AV → Nat
  | [] => 0
  | u :: us => avn u + avnL us
end
theorem avnL_append : ∀ a b : List AV, avnL (a ++ b) = avnL a + avnL b
  | [], b => by simp [avnL]
  | x :: a, b => by rw [List.cons_append, avnL, avnL, avnL_append a b, Nat.add_assoc]
structure Bulky {H : Type} (B : DataW H → Nat) : Prop where
  one : ∀ d, 1 ≤ B d
  str : ∀ bs : List UInt8, bs.length + 1 ≤ B (.lit (.string bs))
  slice : ∀ el sp, (el.map B).sum + 1 ≤ B (.slice el sp)
  agg : ∀ ps, (ps.map B).sum + 1 ≤ B (.agg ps)
theorem sum_ge {α : Type} {B : α → Nat} (h : ∀ d, 1 ≤ B d) : ∀ l : List α, l.length ≤ (l.map B).sum
  | [] => Nat.le_refl _
  | x :: l => by
    have := sum_ge h l
    have := h x
    simp only [List.map_cons, List.sum_cons, List.length_cons]
    omega
theorem le_sum_of_mem : ∀ {l : List Nat} {x : Nat}, x ∈ l → x ≤ l.sum
  | y :: l, x, h => by
    rw [List.sum_cons]
    rcases List.mem_cons.1 h with rfl | h
    · omega
    · have := le_sum_of_mem h; omega
theorem avnE_le (F : Nat → List AV) : ∀ (bs : List Nat) (n : Nat), bs.length = n → (∀ i, i < n → avnL (F i) + 1 ≤ bs.getD i 0) → avnE ((List.range n).map F) ≤ bs.sum := by
  intro bs
  induction bs generalizing F with
  | nil => intro n hn _; subst hn; simp [avnE]
  | cons b bs ih =>
    intro n hn h
    obtain ⟨m, rfl⟩ : ∃ m, n = m + 1 := ⟨bs.length, by simpa using hn.symm⟩
    rw [List.range_succ_eq_map, List.map_cons, List.map_map, avnE, List.sum_cons]
    have h0 := h 0 (by omega)
    have h1 := ih (fun i => F (i + 1)) m (by simpa using hn) (fun i hi => by simpa using h (i + 1) (by omega))
    have e : (F ∘ Nat.succ) = fun i => F (i + 1) := rfl
    rw [e]
    simp at h0
    omega
inductive All2 {α β : Type} (R : α → β → Prop) : List α → List β → Prop where
  | nil : All2 R [] []
  | cons {a : α} {b : β} {l : List α} {m : List β} (h : R a b) (t : All2 R l m) : All2 R (a :: l) (b :: m)
theorem forall2_of {α β : Type} {R : α → β → Prop} : ∀ {l : List α} {m : List β}, l.length = m.length → (∀ (i : Nat) (a : α) (b : β), l[i]? = some a → m[i]? = some b → R a b) → All2 R l m
  | [], [], _, _ => .nil
  | a :: l, b :: m, hl, h => .cons (h 0 a b rfl rfl) (forall2_of (by simpa using hl) (fun i x y hx hy => h (i + 1) x y (by simpa using hx) (by simpa using hy)))
  | [], _ :: _, hl, _ => by simp at hl
  | _ :: _, [], hl, _ => by simp at hl
theorem tile_readB {P : Program} {W : World} {cs : List Value} : ∀ (fs : List Field) (bs : List Nat) (o e : Nat), tiles P o fs e = true → e ≤ cs.length →
    All2 (fun f b => ∃ us, Shp P f.type us ∧ Told1 W us ((cs.drop f.offset).take (P.cellsOf f.type)) ∧ avnL us ≤ b) fs bs →
    ∃ us, o ≤ e ∧ Told1 W us ((cs.drop o).take (e - o)) ∧ (∀ f ∈ fs, o ≤ f.offset ∧ Shp P f.type ((us.drop (f.offset - o)).take (P.cellsOf f.type))) ∧ avnL us ≤ bs.sum
  | [], _, o, e, ht, he, .nil => by
    simp only [tiles, beq_iff_eq] at ht
    subst ht
    refine ⟨[], Nat.le_refl _, ⟨by simp, fun j u h => by simp at h, fun j u x h => by simp at h⟩, fun f h => (by simp at h), by simp [avnL]⟩
  | f :: fs, b :: bs, o, e, ht, he, .cons hr0 hr => by
    simp only [tiles, Bool.and_eq_true, beq_iff_eq] at ht
    obtain ⟨h1, h2⟩ := ht
    obtain ⟨us1, hle, ⟨l1, f1, r1⟩, hs1, hb1⟩ := tile_readB fs bs (o + P.cellsOf f.type) e h2 he hr
    obtain ⟨us0, hs0, ⟨l0, f0, r0⟩, hb0⟩ := hr0
    rw [h1] at l0 r0
    have k0 : us0.length = P.cellsOf f.type := by rw [l0]; simp; omega
    have k1 : us1.length = e - (o + P.cellsOf f.type) := by rw [l1]; simp; omega
    refine ⟨us0 ++ us1, by omega, ⟨?_, fun j u hj => ?_, fun j u x hj hx => ?_⟩, fun g hg => ?_, by rw [avnL_append, List.sum_cons]; omega⟩
    · rw [List.length_append, k0, k1]; simp; omega
    · by_cases hj0 : j < us0.length
      · rw [List.getElem?_append_left hj0] at hj
        exact f0 j u hj
      · rw [List.getElem?_append_right (by omega)] at hj
        exact f1 _ u hj
    · have hxl : cs[o + j]? = some x := by
        rw [List.getElem?_take] at hx
        split at hx
        · rwa [List.getElem?_drop] at hx
        · cases hx
      by_cases hj0 : j < us0.length
      · rw [List.getElem?_append_left hj0] at hj
        refine r0 j u x hj ?_
        rw [List.getElem?_take, if_pos (by omega), List.getElem?_drop]
        exact hxl
      · rw [List.getElem?_append_right (by omega)] at hj
        have hlt := (List.getElem?_eq_some_iff.1 hj).1
        refine r1 _ u x hj ?_
        rw [List.getElem?_take, if_pos (by omega), List.getElem?_drop]
        rw [show o + P.cellsOf f.type + (j - us0.length) = o + j by omega]
        exact hxl
    · rcases List.mem_cons.1 hg with rfl | hg
      · refine ⟨by omega, ?_⟩
        rw [h1, Nat.sub_self, List.drop_zero, List.take_append_of_le_length (by omega), List.take_of_length_le (by omega)]
        exact hs0
      · obtain ⟨g1, g2⟩ := hs1 g hg
        refine ⟨by omega, ?_⟩
        have hd : (us0 ++ us1).drop (g.offset - o) = us1.drop (g.offset - (o + P.cellsOf f.type)) := by
          rw [List.drop_append, List.drop_of_length_le (by omega), List.nil_append]
          congr 1
          omega
        rw [hd]
        exact g2
theorem read_plainB {H : Type} {enc : TypeId × Value → H} {P : Program} {W : World} {held : Bool} {S : List TypeId} (hS : plainSet P S = true) (hz : S.all (fun t => decide (P.bytesOf t ≤ 4096)) = true) {B : DataW H → Nat} (hB : Bulky B) : ∀ (n : Nat) (t : TypeId) (cs : List Value) (y : DataW H × List MemPlace), t ∈ S →
    DataW.trod enc P W 0 (fun _ => true) held n t cs = some y → B y.1 ≤ 1048576 → ∃ us, Shp P t us ∧ Told1 W us cs ∧ avnL us + 1 ≤ B y.1 := by
  intro n
  induction n with
  | zero => intro t cs y _ h; simp [DataW.trod] at h
  | succ n ih =>
    intro t cs y ht h hwt
    have hp := List.all_eq_true.1 hS t ht
    split at hp
    · rename_i hu
      obtain ⟨b, rfl, _⟩ := DataW.trod_bool hu h
      exact ⟨[.bool b], .bool b hu, .one rfl trivial (.bool b), hB.one _⟩
    · rename_i k hu
      obtain ⟨m, rfl, _, hw⟩ := DataW.trod_int hu h
      exact ⟨[.int k m], .int m hu hw, .one rfl trivial (.int k m), hB.one _⟩
    · rename_i hu
      obtain ⟨s, rfl, hy, hw⟩ := DataW.trod_string hu h
      have hs := hB.str s.data.toList
      rw [hy] at hwt ⊢
      simp only at hwt ⊢
      refine ⟨[.str s.data.toList], .str s hu hw (Nat.le_trans (by omega : s.data.toList.length ≤ 1048576) (by decide)), .one rfl trivial (.str s), ?_⟩
      simp only [avnL, avn]
      exact hs
    · rename_i e hu
      simp only [Bool.and_eq_true, decide_eq_true_eq, beq_iff_eq] at hp
      obtain ⟨⟨_, he⟩, hz'⟩ := hp
      have he : e ∈ S := by simpa using he
      rcases DataW.trod_slice hu h with ⟨rfl, _⟩ | ⟨a, len, cap, elems, rest, m, hm, rfl, hy, hb, hl, hcm, hel, h1, h2, _⟩
      · exact ⟨[.nilsl], .nilsl hu, .one rfl trivial .nilsl, hB.one _⟩
      · obtain rfl : n = m := by omega
        obtain ⟨h3, h4⟩ := h2 rfl
        rw [hy] at hwt
        simp only at hwt
        have hsum := hB.slice (elems.map (·.1)) (rest.map (·.1))
        have hel1 : elems.length ≤ ((elems.map (·.1)).map B).sum := by
          have := sum_ge (fun d => hB.one d) (elems.map (·.1))
          simpa using this
        have hby : len * P.bytesOf e ≤ reachBytes := by
          have hb := of_decide_eq_true (List.all_eq_true.1 hz e he)
          have h0 : len * P.bytesOf e ≤ 1048576 * 4096 := Nat.mul_le_mul (by omega) hb
          exact Nat.le_trans h0 (by decide)
        have hew : ∀ x ∈ elems, B x.1 ≤ 1048576 := fun x hx => by
          have := le_sum_of_mem (l := (elems.map (·.1)).map B) (x := B x.1) (List.mem_map_of_mem (List.mem_map_of_mem hx))
          omega
        by_cases hc0 : cap = 0
        · obtain rfl : cap = 0 := hc0
          obtain rfl : len = 0 := by omega
          exact ⟨[.lst .none (P.cellsOf e) []], .lst [] hu (fun x hx => by simp at hx) (Nat.zero_le _) (by simp), .one (by simp [refFree]) trivial (.emp _ a), by rw [hy]; exact hB.one _⟩
        · have first : ∃ cs', W.cells? 0 a (P.cellsOf e) = some cs' := by
            by_cases hl0 : 0 < len
            · have := h1 0 hl0
              rw [List.getElem?_eq_getElem (by omega)] at this
              obtain ⟨cs', g1, _⟩ := Option.bind_eq_some_iff.1 this
              rw [Nat.zero_mul] at g1
              exact ⟨cs', by simpa [Addr.add] using g1⟩
            · have := h4 0 (by omega)
              rw [List.getElem?_eq_getElem (by omega)] at this
              obtain ⟨cs', g1, _⟩ := Option.bind_eq_some_iff.1 this
              rw [show len + 0 = 0 by omega, Nat.zero_mul] at g1
              exact ⟨cs', by simpa [Addr.add] using g1⟩
          obtain ⟨cs0, hcs0⟩ := first
          obtain ⟨_, hlen0, hcell0⟩ := World.cells?_some hcs0
          have hc := hcell0 0 hz'
          rw [List.getElem?_eq_getElem (by omega)] at hc
          obtain ⟨hspot, hblk⟩ := cell_addr (by simpa [Addr.add] using hc : W.cell? a = some _)
          have each : ∀ i, i < len → ∃ us : List AV, (Shp P e us ∧ avnL us + 1 ≤ ((elems.map (·.1)).map B).getD i 0) ∧ us.length = P.cellsOf e ∧ (∀ (j : Nat) (u : AV), us[j]? = some u → refFree u = true) ∧
              ∃ X : Nat → Value, (∀ (j : Nat) (u : AV), us[j]? = some u → W.cell? ⟨a.block, a.off + i * P.cellsOf e + j, none⟩ = some (X j)) ∧ (∀ (j : Nat) (u : AV), us[j]? = some u → RelV flatG W u (X j)) := by
            intro i hi
            have := h1 i hi
            rw [List.getElem?_eq_getElem (by omega)] at this
            obtain ⟨cs', g1, g2⟩ := Option.bind_eq_some_iff.1 this
            obtain ⟨_, hlen', hcell⟩ := World.cells?_some g1
            obtain ⟨us, hs, ⟨hl', hf, hr⟩, hbu⟩ := ih e cs' _ he g2 (hew _ (List.getElem_mem _))
            refine ⟨us, ⟨hs, by simpa [List.getD, show i < elems.length by omega] using hbu⟩, by omega, fun j u hj => (hf j u hj).1, fun j => (cs'[j]?).getD .nilIface, fun j u hj => ?_, fun j u hj => ?_⟩
            · have hjl := (List.getElem?_eq_some_iff.1 hj).1
              have := hcell j (by omega)
              rw [add_flat hspot, add_flat rfl] at this
              have e1 : cs'[j]? = some (cs'[j]'(by omega)) := List.getElem?_eq_getElem _
              simp only [this, e1, Option.getD_some]
            · have hjl := (List.getElem?_eq_some_iff.1 hj).1
              have e1 : cs'[j]? = some (cs'[j]'(by omega)) := List.getElem?_eq_getElem _
              simp only [e1, Option.getD_some]
              exact hr j u _ hj e1
          obtain ⟨F, hF⟩ := Go.Deep.choose_lt (n := len) (α := List AV × (Nat → Value)) (p := fun i x => (Shp P e x.1 ∧ avnL x.1 + 1 ≤ ((elems.map (·.1)).map B).getD i 0) ∧ x.1.length = P.cellsOf e ∧ (∀ (j : Nat) (u : AV), x.1[j]? = some u → refFree u = true) ∧
              (∀ (j : Nat) (u : AV), x.1[j]? = some u → W.cell? ⟨a.block, a.off + i * P.cellsOf e + j, none⟩ = some (x.2 j)) ∧ (∀ (j : Nat) (u : AV), x.1[j]? = some u → RelV flatG W u (x.2 j))) (fun i hi => by
            obtain ⟨us, q1, q2, q3, X, q4, q5⟩ := each i hi
            exact ⟨(us, X), q1, q2, q3, q4, q5⟩)
          have hL : ((List.range len).map fun i => (F i).1).length = len := by simp
          have key : ∀ (i : Nat) (e' : List AV), ((List.range len).map fun i => (F i).1)[i]? = some e' → i < len ∧ e' = (F i).1 := by
            intro i e' hi
            have hlt : i < len := by
              have := (List.getElem?_eq_some_iff.1 hi).1
              rwa [hL] at this
            simp [hlt] at hi
            exact ⟨hlt, hi.symm⟩
          obtain ⟨ab, ao, asp⟩ := a
          simp only at hspot hblk hF
          subst hspot
          have hr := RelV.lst (G := flatG) (w := W) .none (P.cellsOf e) ((List.range len).map fun i => (F i).1) ab ao cap (fun i j => (F i).2 j) (by simp) (by rw [hL]; exact hl) (by simp) ⟨hblk, .inl rfl⟩
            (by intro i e' hi; obtain ⟨hlt, rfl⟩ := key i e' hi; exact (hF i hlt).2.1)
            (by intro i e' j u hi hu; obtain ⟨hlt, rfl⟩ := key i e' hi; exact (hF i hlt).2.2.1 j u hu)
            (by intro i e' j u hi hu; obtain ⟨hlt, rfl⟩ := key i e' hi; exact (hF i hlt).2.2.2.1 j u hu)
            (by intro i e' j u hi hu; obtain ⟨hlt, rfl⟩ := key i e' hi; exact (hF i hlt).2.2.2.2 j u hu)
          rw [hL] at hr
          refine ⟨[.lst .none (P.cellsOf e) ((List.range len).map fun i => (F i).1)], .lst _ hu (fun x hx => ?_) (by rw [hL]; omega) (by rw [hL]; exact hby), .one (by simp [refFree]) trivial hr, ?_⟩
          · obtain ⟨i, hi, rfl⟩ := List.mem_map.1 hx
            exact (hF i (List.mem_range.1 hi)).1.1
          · rw [hy]
            simp only [avnL, avn]
            have := avnE_le (fun i => (F i).1) ((elems.map (·.1)).map B) len (by simp; omega) (fun i hi => (hF i hi).1.2)
            omega
    · rename_i fs hu
      simp only [Bool.and_eq_true, List.all_eq_true] at hp
      obtain ⟨hfs, htl⟩ := hp
      obtain ⟨xs, m, hm, hy, hl, hxl, hx⟩ := DataW.trod_struct hu h
      rw [hy] at hwt
      simp only at hwt
      have hsum := hB.agg (xs.map (·.1))
      obtain rfl : n = m := by omega
      obtain ⟨us, _, hT, hF, hbs⟩ := tile_readB (W := W) (cs := cs) fs.toList ((xs.map (·.1)).map B) 0 (P.cellsOf t) htl (by omega) (forall2_of (by simp [hxl]) (fun i f b hi hb => by
        have hi' : fs[i]? = some f := by simpa using hi
        have hlt : i < xs.length := by
          rw [hxl]
          exact (Array.getElem?_eq_some_iff.1 hi').1
        have hbi : B (xs[i]).1 = b := by simpa [hlt] using hb
        have := hx i f hi'
        rw [List.getElem?_eq_getElem hlt] at this
        have hle := le_sum_of_mem (l := (xs.map (·.1)).map B) (x := B (xs[i]).1) (List.mem_map_of_mem (List.mem_map_of_mem (List.getElem_mem hlt)))
        obtain ⟨us, q1, q2, q3⟩ := ih f.type _ _ (by simpa using hfs f (List.mem_iff_getElem?.2 ⟨i, hi⟩)) this (by omega)
        exact ⟨us, q1, q2, by omega⟩))
      have hcs : (cs.drop 0).take (P.cellsOf t - 0) = cs := by rw [List.drop_zero, Nat.sub_zero, List.take_of_length_le (by omega)]
      rw [hcs] at hT
      refine ⟨us, .struct us hu (by rw [hT.1, hl]) (fun f hf => ?_), hT, by rw [hy]; simp only; omega⟩
      have := (hF f hf).2
      simpa using this
    · cases hp
theorem read_structB {H : Type} {enc : TypeId × Value → H} {P : Program} {W W0 : World} {held : Bool} {S : List TypeId} (hS : plainSet P S = true) (hz : S.all (fun t => decide (P.bytesOf t ≤ 4096)) = true) {B : DataW H → Nat} (hB : Bulky B) {t : TypeId} (ht : t ∈ S) {fs : Array Field} (hu : P.underlying t = some (.struct fs))
    {r : Reach} {b0 : Nat} {v : Value} {d : DataW H} {ps : List MemPlace} (hok : Value.okWide P W0 r b0 t v) (hd : DataW.Trod enc P W 0 (fun _ => true) held t v d ps) (hwt : B d ≤ 1048576) :
    ∃ us, Shp P t us ∧ RelV flatG W (.agg us) v ∧ noFlag (.agg us) ∧ avnL us + 1 ≤ B d := by
  obtain ⟨cs, rfl, _⟩ := Go.WideShapes.okWide_struct hu hok
  obtain ⟨fuel, hf⟩ := hd
  simp only [Value.cells] at hf
  obtain ⟨us, hs, ⟨hl, _, hr⟩, hb⟩ := read_plainB hS hz hB fuel t _ _ ht hf hwt
  exact ⟨us, hs, .agg _ _ (by simpa using hl) (fun j v x hv hx => hr j v x hv (by simpa using hx)), trivial, hb⟩
theorem read_sliceB {H : Type} {enc : TypeId × Value → H} {P : Program} {W W0 : World} {held : Bool} {S : List TypeId} (hS : plainSet P S = true) (hz : S.all (fun t => decide (P.bytesOf t ≤ 4096)) = true) {B : DataW H → Nat} (hB : Bulky B) {t e : TypeId} (ht : t ∈ S) (hu : P.underlying t = some (.slice e))
    {r : Reach} {b0 : Nat} {v : Value} {d : DataW H} {ps : List MemPlace} (hok : Value.okWide P W0 r b0 t v) (hd : DataW.Trod enc P W 0 (fun _ => true) held t v d ps) (hwt : B d ≤ 1048576) :
    ∃ u, Shp P t [u] ∧ RelV flatG W u v ∧ noFlag u ∧ avn u + 1 ≤ B d := by
  obtain ⟨a, len, cap, rfl⟩ := Go.WideShapes.okWide_slice hu hok
  obtain ⟨fuel, hf⟩ := hd
  simp only [Value.cells] at hf
  obtain ⟨us, hs, ⟨hl, hn, hr⟩, hb⟩ := read_plainB hS hz hB fuel t _ _ ht hf hwt
  match us, hl with
  | [u], _ => exact ⟨u, hs, hr 0 u _ rfl rfl, (hn 0 u rfl).2, by simpa [avnL] using hb⟩
end Go.Proofs.YtjbgceogkgpjpaaGreatDoor.Sx
