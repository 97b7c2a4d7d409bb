/- EV, part E: plain data, the same or not: slices of nothing are alike. -/
import Derived.Test.YtnmaahfipddkmaaGreatEvF
set_option linter.unusedVariables false
set_option linter.unusedSimpArgs false
namespace Go.Proofs.YtnmaahfipddkmaaGreat.Sx
open Go
mutual
def eqV : AV → AV → Bool
  | .int _ n, .int _ m => n == m
  | .bool a, .bool b => a == b
  | .str s, .str t => s == t
  | .nilsl, .nilsl => true
  | .nilsl, .lst _ _ es => es.isEmpty
  | .lst _ _ es, .nilsl => es.isEmpty
  | .lst _ _ es, .lst _ _ fs => eqVss es fs
  | _, _ => false
def eqVs : List AV → List AV → Bool
  | [], [] => true
  | a :: l, b :: m => eqV a b && eqVs l m
  | _, _ => false
def eqVss : List (List AV) → List (List AV) → Bool
  | [], [] => true
  | a :: l, b :: m => eqVs a b && eqVss l m
  | _, _ => false
end
inductive Pl : List AV → Prop where
  | nil : Pl []
  | int (k : IntKind) (n : Int) {l : List AV} (h : Pl l) : Pl (.int k n :: l)
  | bool (b : Bool) {l : List AV} (h : Pl l) : Pl (.bool b :: l)
  | str (s : List UInt8) {l : List AV} (h : Pl l) : Pl (.str s :: l)
  | nilsl {l : List AV} (h : Pl l) : Pl (.nilsl :: l)
  | lst (z : Nat) (es : List (List AV)) (he : ∀ e ∈ es, Pl e) {l : List AV} (h : Pl l) : Pl (.lst .none z es :: l)
theorem eqVss_refl (es : List (List AV)) (h : ∀ e ∈ es, eqVs e e = true) : eqVss es es = true := by
  induction es with
  | nil => simp [eqVss]
  | cons e es ih =>
    simp only [eqVss, Bool.and_eq_true]
    exact ⟨h e (by simp), ih fun x hx => h x (by simp [hx])⟩
theorem Pl.refl {l : List AV} (h : Pl l) : eqVs l l = true := by
  induction h with
  | nil => simp [eqVs]
  | int k n h ih => simp [eqVs, eqV, ih]
  | bool b h ih => simp [eqVs, eqV, ih]
  | str s h ih => simp [eqVs, eqV, ih]
  | nilsl h ih => simp [eqVs, eqV, ih]
  | lst z es he h ihe ih => simp [eqVs, eqV, ih, eqVss_refl es ihe]
theorem eqVss_symm (es : List (List AV)) (h : ∀ e ∈ es, ∀ f, eqVs e f = eqVs f e) : ∀ fs, eqVss es fs = eqVss fs es := by
  induction es with
  | nil => intro fs; cases fs <;> simp [eqVss]
  | cons e es ih =>
    intro fs
    cases fs with
    | nil => simp [eqVss]
    | cons f fs =>
      simp only [eqVss]
      rw [h e (by simp), ih (fun x hx => h x (by simp [hx]))]
theorem Pl.symm {l : List AV} (h : Pl l) : ∀ m, eqVs l m = eqVs m l := by
  induction h with
  | nil => intro m; cases m <;> simp [eqVs]
  | int k n h ih =>
    intro m
    cases m with
    | nil => simp [eqVs]
    | cons b m =>
      simp only [eqVs, ih m]
      congr 1
      cases b <;> simp [eqV]
      exact Bool.beq_comm
  | bool b h ih =>
    intro m
    cases m with
    | nil => simp [eqVs]
    | cons c m =>
      simp only [eqVs, ih m]
      congr 1
      cases c <;> simp [eqV]
      exact Bool.beq_comm
  | str s h ih =>
    intro m
    cases m with
    | nil => simp [eqVs]
    | cons c m =>
      simp only [eqVs, ih m]
      congr 1
      cases c <;> simp [eqV]
      exact Bool.beq_comm
  | nilsl h ih =>
    intro m
    cases m with
    | nil => simp [eqVs]
    | cons c m =>
      simp only [eqVs, ih m]
      congr 1
      cases c <;> simp [eqV]
  | lst z es he h ihe ih =>
    intro m
    cases m with
    | nil => simp [eqVs]
    | cons c m =>
      simp only [eqVs, ih m]
      congr 1
      cases c <;> simp [eqV]
      exact eqVss_symm es ihe _
theorem Pl.append {a b : List AV} (ha : Pl a) (hb : Pl b) : Pl (a ++ b) := by
  induction ha with
  | nil => exact hb
  | int k n _ ih => exact .int k n ih
  | bool b _ ih => exact .bool b ih
  | str s _ ih => exact .str s ih
  | nilsl _ ih => exact .nilsl ih
  | lst z es he _ _ ih => exact .lst z es he ih
theorem tile_pl {P : Program} {us : List AV} : ∀ (fs : List Field) (o e : Nat), tiles P o fs e = true → e ≤ us.length → (∀ f ∈ fs, Pl ((us.drop f.offset).take (P.cellsOf f.type))) → Pl ((us.drop o).take (e - o)) ∧ o ≤ e
  | [], o, e, ht, _, _ => by
    simp only [tiles, beq_iff_eq] at ht
    subst ht
    rw [Nat.sub_self, List.take_zero]
    exact ⟨.nil, Nat.le_refl _⟩
  | f :: fs, o, e, ht, he, hf => by
    simp only [tiles, Bool.and_eq_true, beq_iff_eq] at ht
    obtain ⟨h1, h2⟩ := ht
    obtain ⟨h3, h4⟩ := tile_pl fs (o + P.cellsOf f.type) e h2 he (fun g hg => hf g (by simp [hg]))
    have h0 := hf f (by simp)
    rw [h1] at h0
    refine ⟨?_, by omega⟩
    have e1 : (us.drop o).take (e - o) = (us.drop o).take (P.cellsOf f.type) ++ (us.drop (o + P.cellsOf f.type)).take (e - (o + P.cellsOf f.type)) := by
      rw [← List.drop_drop, show e - o = P.cellsOf f.type + (e - (o + P.cellsOf f.type)) by omega, List.take_add]
    rw [e1]
    exact h0.append h3
theorem Shp.pl {P : Program} {S : List TypeId} (hS : plainSet P S = true) {t : TypeId} {us : List AV} (h : Shp P t us) : t ∈ S → Pl us := by
  induction h with
  | bool b h => exact fun _ => .bool b .nil
  | int n h hn => exact fun _ => .int _ n .nil
  | str s h hs hb => exact fun _ => .str _ .nil
  | nilsl h => exact fun _ => .nilsl .nil
  | lst es h hes hl hb ih =>
    intro ht
    have hp := List.all_eq_true.1 hS _ ht
    rw [h] at hp
    simp only [Bool.and_eq_true] at hp
    exact .lst _ es (fun x hx => ih x hx (by simpa using hp.1.2)) .nil
  | struct cs h hl hf ih =>
    intro ht
    have hp := List.all_eq_true.1 hS _ ht
    rw [h] at hp
    simp only [Bool.and_eq_true, List.all_eq_true] at hp
    have := (tile_pl (us := cs) _ 0 _ hp.2 (by omega) (fun f hf' => ih f hf' (by simpa using hp.1 f hf'))).1
    rw [List.drop_zero, Nat.sub_zero, List.take_of_length_le (by omega)] at this
    exact this
theorem Shp.cell {P : Program} {t : TypeId} {fs : Array Field} {us : List AV} (h : Shp P t us) (hu : P.underlying t = some (.struct fs)) {f : Field} (hf : f ∈ fs.toList) (h1 : P.cellsOf f.type = 1) :
    ∃ u, us[f.offset]? = some u ∧ Shp P f.type [u] := by
  cases h with
  | struct cs h hl hfs =>
    rw [hu] at h
    obtain rfl : fs = _ := by injection h with h; injection h
    have := hfs f hf
    rw [h1] at this
    cases hd : us.drop f.offset with
    | nil =>
      rw [hd] at this
      simp at this
      cases this with
      | struct cs h2 hl2 hf2 => rw [h1] at hl2; cases hl2
    | cons u l =>
      rw [hd] at this
      simp at this
      refine ⟨u, ?_, this⟩
      have := congrArg (·[0]?) hd
      simpa using this
  | _ => simp_all
end Go.Proofs.YtnmaahfipddkmaaGreat.Sx
