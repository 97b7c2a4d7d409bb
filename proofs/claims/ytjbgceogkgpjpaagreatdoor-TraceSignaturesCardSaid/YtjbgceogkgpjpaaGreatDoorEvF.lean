/- EV, part F: plain data that is handed (numbers, texts, structs and slices of such), read at every depth. -/
import Derived.Test.YtjbgceogkgpjpaaGreatDoorEvW
import Derived.SizedLaws
set_option linter.unusedVariables false
set_option linter.unusedSimpArgs false
namespace Go.Proofs.YtjbgceogkgpjpaaGreatDoor.Sx
open Go Go.RowKit
inductive Shp (P : Program) : TypeId → List AV → Prop where
  | bool {t : TypeId} (b : Bool) (h : P.underlying t = some .bool) : Shp P t [.bool b]
  | int {t : TypeId} {k : IntKind} (n : Int) (h : P.underlying t = some (.int k)) (hn : IntIn k n) : Shp P t [.int k n]
  | str {t : TypeId} (s : ByteArray) (h : P.underlying t = some .string) (hs : s.size ≤ maxLen) (hb : s.data.toList.length ≤ reachBytes) : Shp P t [.str s.data.toList]
  | nilsl {t e : TypeId} (h : P.underlying t = some (.slice e)) : Shp P t [.nilsl]
  | lst {t e : TypeId} (es : List (List AV)) (h : P.underlying t = some (.slice e)) (hes : ∀ x ∈ es, Shp P e x) (hl : es.length ≤ maxLen) (hb : es.length * P.bytesOf e ≤ reachBytes) : Shp P t [.lst .none (P.cellsOf e) es]
  | struct {t : TypeId} {fs : Array Field} (cs : List AV) (h : P.underlying t = some (.struct fs)) (hl : cs.length = P.cellsOf t) (hf : ∀ f ∈ fs.toList, Shp P f.type ((cs.drop f.offset).take (P.cellsOf f.type))) : Shp P t cs
def tiles (P : Program) : Nat → List Field → Nat → Bool
  | o, [], e => o == e
  | o, f :: fs, e => f.offset == o && tiles P (o + P.cellsOf f.type) fs e
def plainSet (P : Program) (S : List TypeId) : Bool := S.all fun t => match P.underlying t with
  | some .bool => P.cellsOf t == 1
  | some (.int _) => P.cellsOf t == 1
  | some .string => P.cellsOf t == 1
  | some (.slice e) => P.cellsOf t == 1 && S.contains e && decide (0 < P.cellsOf e)
  | some (.struct fs) => fs.toList.all (fun f => S.contains f.type) && tiles P 0 fs.toList (P.cellsOf t)
  | _ => false
def Told1 (W : World) (us : List AV) (cs : List Value) : Prop :=
  us.length = cs.length ∧ (∀ (j : Nat) (u : AV), us[j]? = some u → refFree u = true ∧ noFlag u) ∧ (∀ (j : Nat) (u : AV) (x : Value), us[j]? = some u → cs[j]? = some x → RelV flatG W u x)
theorem Told1.one {W : World} {u : AV} {x : Value} (hf : refFree u = true) (hn : noFlag u) (hr : RelV flatG W u x) : Told1 W [u] [x] := by
  refine ⟨rfl, fun j v hv => ?_, fun j v y hv hy => ?_⟩
  · match j with
    | 0 => simp at hv; subst hv; exact ⟨hf, hn⟩
    | j + 1 => simp at hv
  · match j with
    | 0 => simp at hv hy; subst hv hy; exact hr
    | j + 1 => simp at hv
theorem tile_read {P : Program} {W : World} {cs : List Value} : ∀ (fs : List Field) (o e : Nat), tiles P o fs e = true → e ≤ cs.length →
    (∀ f ∈ fs, ∃ us, Shp P f.type us ∧ Told1 W us ((cs.drop f.offset).take (P.cellsOf f.type))) →
    ∃ us, o ≤ e ∧ Told1 W us ((cs.drop o).take (e - o)) ∧ ∀ f ∈ fs, o ≤ f.offset ∧ Shp P f.type ((us.drop (f.offset - o)).take (P.cellsOf f.type))
  | [], o, e, ht, he, _ => by
    simp only [tiles, beq_iff_eq] at ht
    subst ht
    refine ⟨[], Nat.le_refl _, ⟨by simp, fun j u h => by simp at h, fun j u x h => by simp at h⟩, fun f h => by simp at h⟩
  | f :: fs, o, e, ht, he, hr => by
    simp only [tiles, Bool.and_eq_true, beq_iff_eq] at ht
    obtain ⟨h1, h2⟩ := ht
    obtain ⟨us1, hle, ⟨l1, f1, r1⟩, hs1⟩ := tile_read fs (o + P.cellsOf f.type) e h2 he (fun g hg => hr g (by simp [hg]))
    obtain ⟨us0, hs0, l0, f0, r0⟩ := hr f (by simp)
    rw [h1] at l0 r0
    have k0 : us0.length = P.cellsOf f.type := by rw [l0]; simp; omega
    have k1 : us1.length = e - (o + P.cellsOf f.type) := by rw [l1]; simp; omega
    refine ⟨us0 ++ us1, by omega, ⟨?_, fun j u hj => ?_, fun j u x hj hx => ?_⟩, fun g hg => ?_⟩
    · rw [List.length_append, k0, k1]; simp; omega
    · by_cases hj0 : j < us0.length
      · rw [List.getElem?_append_left hj0] at hj
        exact f0 j u hj
      · rw [List.getElem?_append_right (by omega)] at hj
        exact f1 _ u hj
    · have hxl : cs[o + j]? = some x := by
        rw [List.getElem?_take] at hx
        split at hx
        · rwa [List.getElem?_drop] at hx
        · cases hx
      by_cases hj0 : j < us0.length
      · rw [List.getElem?_append_left hj0] at hj
        refine r0 j u x hj ?_
        rw [List.getElem?_take, if_pos (by omega), List.getElem?_drop]
        exact hxl
      · rw [List.getElem?_append_right (by omega)] at hj
        have hlt := (List.getElem?_eq_some_iff.1 hj).1
        refine r1 _ u x hj ?_
        rw [List.getElem?_take, if_pos (by omega), List.getElem?_drop]
        rw [show o + P.cellsOf f.type + (j - us0.length) = o + j by omega]
        exact hxl
    · rcases List.mem_cons.1 hg with rfl | hg
      · refine ⟨by omega, ?_⟩
        rw [h1, Nat.sub_self, List.drop_zero, List.take_append_of_le_length (by omega), List.take_of_length_le (by omega)]
        exact hs0
      · obtain ⟨g1, g2⟩ := hs1 g hg
        refine ⟨by omega, ?_⟩
        have hd : (us0 ++ us1).drop (g.offset - o) = us1.drop (g.offset - (o + P.cellsOf f.type)) := by
          rw [List.drop_append, List.drop_of_length_le (by omega), List.nil_append]
          congr 1
          omega
        rw [hd]
        exact g2
theorem cell_addr {W : World} {a : Addr} {v : Value} (h : W.cell? a = some v) : a.spot = none ∧ a.block < W.heap.size := by
  unfold World.cell? at h
  split at h
  · rename_i c _ _ hc
    split at h
    · cases h
    · rename_i hs
      refine ⟨by simpa using hs, ?_⟩
      exact (Array.getElem?_eq_some_iff.1 hc).1
  · cases h
theorem weightsAll_mem {H : Type} {P : Program} {e : TypeId} : ∀ {ds : List (DataW H)} {d : DataW H} {n : Nat}, d ∈ ds → n ∈ d.weights P e → n ∈ DataW.weightsAll P e ds
  | d0 :: ds, d, n, hd, hn => by
    simp only [DataW.weightsAll, List.mem_append]
    rcases List.mem_cons.1 hd with rfl | hd
    · exact .inl hn
    · exact .inr (weightsAll_mem hd hn)
theorem read_plain {H : Type} {enc : TypeId × Value → H} {P : Program} {W : World} {held : Bool} {S : List TypeId} (hS : plainSet P S = true) : ∀ (n : Nat) (t : TypeId) (cs : List Value) (y : DataW H × List MemPlace), t ∈ S →
    DataW.trod enc P W 0 (fun _ => true) held n t cs = some y → (∀ m ∈ y.1.weights P t, m ≤ reachBytes) → ∃ us, Shp P t us ∧ Told1 W us cs := by
  intro n
  induction n with
  | zero => intro t cs y _ h; simp [DataW.trod] at h
  | succ n ih =>
    intro t cs y ht h hwt
    have hp := List.all_eq_true.1 hS t ht
    split at hp
    · rename_i hu
      obtain ⟨b, rfl, _⟩ := DataW.trod_bool hu h
      exact ⟨[.bool b], .bool b hu, .one rfl trivial (.bool b)⟩
    · rename_i k hu
      obtain ⟨m, rfl, _, hw⟩ := DataW.trod_int hu h
      exact ⟨[.int k m], .int m hu hw, .one rfl trivial (.int k m)⟩
    · rename_i hu
      obtain ⟨s, rfl, hy, hw⟩ := DataW.trod_string hu h
      refine ⟨[.str s.data.toList], .str s hu hw ?_, .one rfl trivial (.str s)⟩
      rw [hy] at hwt
      simpa [DataW.weights] using hwt
    · rename_i e hu
      simp only [Bool.and_eq_true, decide_eq_true_eq, beq_iff_eq] at hp
      obtain ⟨⟨_, he⟩, hz⟩ := hp
      have he : e ∈ S := by simpa using he
      rcases DataW.trod_slice hu h with ⟨rfl, _⟩ | ⟨a, len, cap, elems, rest, m, hm, rfl, hy, hb, hl, hcm, hel, h1, h2, _⟩
      · exact ⟨[.nilsl], .nilsl hu, .one rfl trivial .nilsl⟩
      · obtain rfl : n = m := by omega
        obtain ⟨h3, h4⟩ := h2 rfl
        rw [hy] at hwt
        simp only [DataW.weights, hu, List.mem_cons, List.mem_append, List.length_map] at hwt
        have hby : len * P.bytesOf e ≤ reachBytes := by
          have h0 := hwt _ (.inl rfl)
          have h00 : len * P.bytesOf e ≤ (elems.length + rest.length) * P.bytesOf e := Nat.mul_le_mul_right _ (by omega)
          exact Nat.le_trans h00 h0
        have hew : ∀ x ∈ elems, ∀ k ∈ x.1.weights P e, k ≤ reachBytes := fun x hx k hk => hwt k (.inr (.inl (weightsAll_mem (List.mem_map.2 ⟨x, hx, rfl⟩) hk)))
        by_cases hc0 : cap = 0
        · obtain rfl : cap = 0 := hc0
          obtain rfl : len = 0 := by omega
          exact ⟨[.lst .none (P.cellsOf e) []], .lst [] hu (fun x hx => by simp at hx) (Nat.zero_le _) (by simp), .one (by simp [refFree]) trivial (.emp _ a)⟩
        · have first : ∃ cs', W.cells? 0 a (P.cellsOf e) = some cs' := by
            by_cases hl0 : 0 < len
            · have := h1 0 hl0
              rw [List.getElem?_eq_getElem (by omega)] at this
              obtain ⟨cs', g1, _⟩ := Option.bind_eq_some_iff.1 this
              rw [Nat.zero_mul] at g1
              exact ⟨cs', by simpa [Addr.add] using g1⟩
            · have := h4 0 (by omega)
              rw [List.getElem?_eq_getElem (by omega)] at this
              obtain ⟨cs', g1, _⟩ := Option.bind_eq_some_iff.1 this
              rw [show len + 0 = 0 by omega, Nat.zero_mul] at g1
              exact ⟨cs', by simpa [Addr.add] using g1⟩
          obtain ⟨cs0, hcs0⟩ := first
          obtain ⟨_, hlen0, hcell0⟩ := World.cells?_some hcs0
          have hc := hcell0 0 hz
          rw [List.getElem?_eq_getElem (by omega)] at hc
          obtain ⟨hspot, hblk⟩ := cell_addr (by simpa [Addr.add] using hc : W.cell? a = some _)
          have each : ∀ i, i < len → ∃ us : List AV, Shp P e us ∧ us.length = P.cellsOf e ∧ (∀ (j : Nat) (u : AV), us[j]? = some u → refFree u = true) ∧
              ∃ X : Nat → Value, (∀ (j : Nat) (u : AV), us[j]? = some u → W.cell? ⟨a.block, a.off + i * P.cellsOf e + j, none⟩ = some (X j)) ∧ (∀ (j : Nat) (u : AV), us[j]? = some u → RelV flatG W u (X j)) := by
            intro i hi
            have := h1 i hi
            rw [List.getElem?_eq_getElem (by omega)] at this
            obtain ⟨cs', g1, g2⟩ := Option.bind_eq_some_iff.1 this
            obtain ⟨_, hlen', hcell⟩ := World.cells?_some g1
            obtain ⟨us, hs, hl', hf, hr⟩ := ih e cs' _ he g2 (hew _ (List.getElem_mem _))
            refine ⟨us, hs, by omega, fun j u hj => (hf j u hj).1, fun j => (cs'[j]?).getD .nilIface, fun j u hj => ?_, fun j u hj => ?_⟩
            · have hjl := (List.getElem?_eq_some_iff.1 hj).1
              have := hcell j (by omega)
              rw [add_flat hspot, add_flat rfl] at this
              have e1 : cs'[j]? = some (cs'[j]'(by omega)) := List.getElem?_eq_getElem _
              simp only [this, e1, Option.getD_some]
            · have hjl := (List.getElem?_eq_some_iff.1 hj).1
              have e1 : cs'[j]? = some (cs'[j]'(by omega)) := List.getElem?_eq_getElem _
              simp only [e1, Option.getD_some]
              exact hr j u _ hj e1
          obtain ⟨F, hF⟩ := Go.Deep.choose_lt (n := len) (α := List AV × (Nat → Value)) (p := fun i x => Shp P e x.1 ∧ x.1.length = P.cellsOf e ∧ (∀ (j : Nat) (u : AV), x.1[j]? = some u → refFree u = true) ∧
              (∀ (j : Nat) (u : AV), x.1[j]? = some u → W.cell? ⟨a.block, a.off + i * P.cellsOf e + j, none⟩ = some (x.2 j)) ∧ (∀ (j : Nat) (u : AV), x.1[j]? = some u → RelV flatG W u (x.2 j))) (fun i hi => by
            obtain ⟨us, q1, q2, q3, X, q4, q5⟩ := each i hi
            exact ⟨(us, X), q1, q2, q3, q4, q5⟩)
          have hL : ((List.range len).map fun i => (F i).1).length = len := by simp
          have key : ∀ (i : Nat) (e' : List AV), ((List.range len).map fun i => (F i).1)[i]? = some e' → i < len ∧ e' = (F i).1 := by
            intro i e' hi
            have hlt : i < len := by
              have := (List.getElem?_eq_some_iff.1 hi).1
              rwa [hL] at this
            simp [hlt] at hi
            exact ⟨hlt, hi.symm⟩
          obtain ⟨ab, ao, as⟩ := a
          simp only at hspot hblk hF
          subst hspot
          have hr := RelV.lst (G := flatG) (w := W) .none (P.cellsOf e) ((List.range len).map fun i => (F i).1) ab ao cap (fun i j => (F i).2 j) (by simp) (by rw [hL]; exact hl) (by simp) ⟨hblk, .inl rfl⟩
            (by intro i e' hi; obtain ⟨hlt, rfl⟩ := key i e' hi; exact (hF i hlt).2.1)
            (by intro i e' j u hi hu; obtain ⟨hlt, rfl⟩ := key i e' hi; exact (hF i hlt).2.2.1 j u hu)
            (by intro i e' j u hi hu; obtain ⟨hlt, rfl⟩ := key i e' hi; exact (hF i hlt).2.2.2.1 j u hu)
            (by intro i e' j u hi hu; obtain ⟨hlt, rfl⟩ := key i e' hi; exact (hF i hlt).2.2.2.2 j u hu)
          rw [hL] at hr
          refine ⟨[.lst .none (P.cellsOf e) ((List.range len).map fun i => (F i).1)], .lst _ hu (fun x hx => ?_) (by rw [hL]; omega) (by rw [hL]; exact hby), .one (by simp [refFree]) trivial hr⟩
          obtain ⟨i, hi, rfl⟩ := List.mem_map.1 hx
          exact (hF i (List.mem_range.1 hi)).1
    · rename_i fs hu
      simp only [Bool.and_eq_true, List.all_eq_true] at hp
      obtain ⟨hfs, htl⟩ := hp
      obtain ⟨xs, m, hm, hy, hl, hxl, hx⟩ := DataW.trod_struct hu h
      rw [hy] at hwt
      simp only [DataW.weights, hu] at hwt
      obtain rfl : n = m := by omega
      obtain ⟨us, _, hT, hF⟩ := tile_read (W := W) (cs := cs) fs.toList 0 (P.cellsOf t) htl (by omega) (fun f hf => by
        obtain ⟨i, hi⟩ := List.mem_iff_getElem?.1 hf
        have hi' : fs[i]? = some f := by simpa using hi
        have hlt : i < xs.length := by
          rw [hxl]
          exact (Array.getElem?_eq_some_iff.1 hi').1
        have := hx i f hi'
        rw [List.getElem?_eq_getElem hlt] at this
        exact ih f.type _ _ (by simpa using hfs f hf) this (fun k hk => hwt k (DataW.weights_mem_each (j := i) (t := f.type) (by simp [hi]) (by simp [hlt]) k hk)))
      have hcs : (cs.drop 0).take (P.cellsOf t - 0) = cs := by rw [List.drop_zero, Nat.sub_zero, List.take_of_length_le (by omega)]
      rw [hcs] at hT
      refine ⟨us, .struct us hu (by rw [hT.1, hl]) (fun f hf => ?_), hT⟩
      have := (hF f hf).2
      simpa using this
    · cases hp
theorem read_slice {H : Type} {enc : TypeId × Value → H} {P : Program} {W W0 : World} {held : Bool} {S : List TypeId} (hS : plainSet P S = true) {t e : TypeId} (ht : t ∈ S) (hu : P.underlying t = some (.slice e))
    {r : Reach} {b0 : Nat} {v : Value} {d : DataW H} {ps : List MemPlace} (hok : Value.okWide P W0 r b0 t v) (hd : DataW.Trod enc P W 0 (fun _ => true) held t v d ps) (hwt : ∀ m ∈ d.weights P t, m ≤ reachBytes) :
    ∃ u, Shp P t [u] ∧ RelV flatG W u v ∧ noFlag u := by
  obtain ⟨a, len, cap, rfl⟩ := Go.WideShapes.okWide_slice hu hok
  obtain ⟨fuel, hf⟩ := hd
  simp only [Value.cells] at hf
  obtain ⟨us, hs, hl, hn, hr⟩ := read_plain hS fuel t _ _ ht hf hwt
  match us, hl with
  | [u], _ => exact ⟨u, hs, hr 0 u _ rfl rfl, (hn 0 u rfl).2⟩
end Go.Proofs.YtjbgceogkgpjpaaGreatDoor.Sx
