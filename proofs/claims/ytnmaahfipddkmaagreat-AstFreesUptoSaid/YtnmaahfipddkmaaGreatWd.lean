/- Layer 6, part 24: names in order, each once. -/
import Derived.Test.YtnmaahfipddkmaaGreatWc
import Derived.Test.YtnmaahfipddkmaaGreatSxZ
import Derived.Test.YtnmaahfipddkmaaGreatTold
set_option linter.unusedVariables false
set_option linter.unusedSimpArgs false
namespace Go.Proofs.YtnmaahfipddkmaaGreat.Sx.T
open Go Go.Proofs.YtnmaahfipddkmaaGreat.Sx
set_option maxRecDepth 100000
set_option maxHeartbeats 4000000
abbrev Nm := List UInt8
def SS (l : List Nm) : Prop := l.Pairwise (fun x y => x < y)
theorem nm_lt_irrefl (x : Nm) : ¬ x < x := List.lt_irrefl x
theorem nm_lt_trans {x y z : Nm} (h : x < y) (h2 : y < z) : x < z := List.lt_trans h h2
theorem nm_tri (x y : Nm) : x < y ∨ x = y ∨ y < x := by
  by_cases h1 : x < y
  · exact .inl h1
  · by_cases h2 : y < x
    · exact .inr (.inr h2)
    · exact .inr (.inl (List.le_antisymm (List.not_lt.1 h2) (List.not_lt.1 h1)))
theorem ss_ext : ∀ (a b : List Nm), SS a → SS b → (∀ x, x ∈ a ↔ x ∈ b) → a = b
  | [], [], _, _, _ => rfl
  | [], y :: b, _, _, h => absurd ((h y).2 (by simp)) (by simp)
  | x :: a, [], _, _, h => absurd ((h x).1 (by simp)) (by simp)
  | x :: a, y :: b, ha, hb, h => by
    obtain ⟨ha1, ha2⟩ := List.pairwise_cons.1 ha
    obtain ⟨hb1, hb2⟩ := List.pairwise_cons.1 hb
    have hxy : x = y := by
      have h1 := (h x).1 (by simp)
      have h2 := (h y).2 (by simp)
      rcases List.mem_cons.1 h1 with e | e
      · exact e
      · rcases List.mem_cons.1 h2 with e2 | e2
        · exact e2.symm
        · exact absurd (nm_lt_trans (hb1 x e) (ha1 y e2)) (nm_lt_irrefl _)
    subst hxy
    have : a = b := by
      refine ss_ext a b ha2 hb2 fun z => ?_
      have hz := h z
      simp only [List.mem_cons] at hz
      constructor
      · intro hza
        rcases hz.1 (.inr hza) with e | e
        · exact absurd (ha1 z hza) (by rw [e]; exact nm_lt_irrefl _)
        · exact e
      · intro hzb
        rcases hz.2 (.inr hzb) with e | e
        · exact absurd (hb1 z hzb) (by rw [e]; exact nm_lt_irrefl _)
        · exact e
    rw [this]
theorem mem_dedupL (x : Nm) : ∀ l : List Nm, x ∈ dedupL l ↔ x ∈ l
  | [] => by simp [dedupL]
  | [y] => by simp [dedupL]
  | y :: z :: l => by
    rw [dedupL]
    by_cases h : y = z
    · subst h
      simp only [beq_self_eq_true, if_true]
      rw [mem_dedupL x (y :: l)]
      simp
    · have : (y == z) = false := by simp [h]
      simp only [this]
      rw [if_neg (by simp), List.mem_cons, mem_dedupL x (z :: l), List.mem_cons (a := x) (b := y)]
theorem dedupL_ss : ∀ l : List Nm, l.Pairwise (· ≤ ·) → SS (dedupL l)
  | [], _ => List.Pairwise.nil
  | [y], _ => by simp [dedupL, SS]
  | y :: z :: l, h => by
    obtain ⟨h1, h2⟩ := List.pairwise_cons.1 h
    rw [dedupL]
    by_cases e : y = z
    · subst e
      simp only [beq_self_eq_true, if_true]
      exact dedupL_ss (y :: l) h2
    · have : (y == z) = false := by simp [e]
      simp only [this]
      rw [if_neg (by simp)]
      refine List.pairwise_cons.2 ⟨fun u hu => ?_, dedupL_ss (z :: l) h2⟩
      rw [mem_dedupL] at hu
      have hzu : z ≤ u := by
        rcases List.mem_cons.1 hu with e2 | hu
        · rw [e2]; exact List.le_refl _
        · exact (List.pairwise_cons.1 h2).1 u hu
      have hyz : y < z := by
        rcases nm_tri y z with h | h | h
        · exact h
        · exact absurd h e
        · exact absurd h (List.not_lt.2 (h1 z (by simp)))
      rcases nm_tri y u with h | h | h
      · exact h
      · subst h; exact absurd hyz (List.not_lt.2 hzu)
      · exact absurd (nm_lt_trans h hyz) (List.not_lt.2 hzu)
theorem riseL_ss (l : List Nm) : SS (riseL l) := dedupL_ss _ (isortL_sorted l)
theorem mem_riseL (x : Nm) (l : List Nm) : x ∈ riseL l ↔ x ∈ l := by
  unfold riseL
  rw [mem_dedupL, (isortL_perm l).mem_iff]
theorem riseL_nil : riseL [] = [] := rfl
theorem riseL_eq {a b : List Nm} (ha : SS a) (h : ∀ x, x ∈ a ↔ x ∈ b) : a = riseL b := ss_ext _ _ ha (riseL_ss b) (fun x => by rw [h, mem_riseL])
def putF (x : Nm) : List Nm → List Nm
  | [] => [x]
  | y :: l => if bless y x then y :: putF x l else if y = x then y :: l else x :: y :: l
def putsF (l : List Nm) (more : List Nm) : List Nm := more.foldl (fun l x => putF x l) l
theorem mem_putF (x z : Nm) : ∀ l, z ∈ putF x l ↔ z = x ∨ z ∈ l
  | [] => by simp [putF]
  | y :: l => by
    rw [putF]
    by_cases h : bless y x = true
    · rw [if_pos h, List.mem_cons, mem_putF x z l, List.mem_cons]
      constructor
      · rintro (h | h | h)
        · exact .inr (.inl h)
        · exact .inl h
        · exact .inr (.inr h)
      · rintro (h | h | h)
        · exact .inr (.inl h)
        · exact .inl h
        · exact .inr (.inr h)
    · rw [if_neg h]
      by_cases e : y = x
      · rw [if_pos e, e]; simp
      · rw [if_neg e, List.mem_cons]
theorem putF_ss (x : Nm) : ∀ l, SS l → SS (putF x l)
  | [], _ => by simp [putF, SS]
  | y :: l, h => by
    obtain ⟨h1, h2⟩ := List.pairwise_cons.1 h
    rw [putF]
    by_cases hb : bless y x = true
    · rw [if_pos hb]
      refine List.pairwise_cons.2 ⟨fun u hu => ?_, putF_ss x l h2⟩
      rcases (mem_putF x u l).1 hu with e | hu
      · rw [e]; exact (bless_lt y x).1 hb
      · exact h1 u hu
    · rw [if_neg hb]
      by_cases e : y = x
      · rw [if_pos e]; exact h
      · rw [if_neg e]
        have hxy : x < y := by
          rcases nm_tri x y with h | h | h
          · exact h
          · exact absurd h.symm e
          · exact absurd ((bless_lt y x).2 h) hb
        refine List.pairwise_cons.2 ⟨fun u hu => ?_, h⟩
        rcases List.mem_cons.1 hu with e | hu
        · rw [e]; exact hxy
        · exact nm_lt_trans hxy (h1 u hu)
theorem putF_len (x : Nm) : ∀ l, (putF x l).length ≤ l.length + 1
  | [] => by simp [putF]
  | y :: l => by
    rw [putF]
    have := putF_len x l
    split
    · simp; omega
    · split <;> simp
theorem putsF_spec (more : List Nm) : ∀ l, SS l → SS (putsF l more) ∧ ∀ z, z ∈ putsF l more ↔ z ∈ l ∨ z ∈ more := by
  induction more with
  | nil => intro l h; exact ⟨h, by simp [putsF]⟩
  | cons x more ih =>
    intro l h
    obtain ⟨h1, h2⟩ := ih (putF x l) (putF_ss x l h)
    refine ⟨h1, fun z => ?_⟩
    rw [show putsF l (x :: more) = putsF (putF x l) more from rfl, h2, mem_putF, List.mem_cons]
    constructor
    · rintro ((h | h) | h)
      · exact .inr (.inl h)
      · exact .inl h
      · exact .inr (.inr h)
    · rintro (h | h | h)
      · exact .inl (.inr h)
      · exact .inl (.inl h)
      · exact .inr h
theorem putsF_len (more : List Nm) : ∀ l, (putsF l more).length ≤ l.length + more.length := by
  induction more with
  | nil => intro l; simp [putsF]
  | cons x more ih =>
    intro l
    have := ih (putF x l)
    have h2 := putF_len x l
    rw [show putsF l (x :: more) = putsF (putF x l) more from rfl, List.length_cons]
    omega
def ahead (x : Nm) : List Nm → Nat
  | [] => 0
  | y :: l => if bless y x then ahead x l + 1 else 0
theorem ahead_le (x : Nm) : ∀ l, ahead x l ≤ l.length
  | [] => Nat.le_refl _
  | y :: l => by
    rw [ahead]
    have := ahead_le x l
    split <;> simp <;> omega
theorem ahead_lt (x : Nm) : ∀ (l : List Nm) (j : Nat), j < ahead x l → bless (l.getD j []) x = true
  | [], j, h => by simp [ahead] at h
  | y :: l, j, h => by
    rw [ahead] at h
    split at h
    · rename_i hb
      cases j with
      | zero => simpa using hb
      | succ j => simpa using ahead_lt x l j (by omega)
    · omega
theorem ahead_at (x : Nm) : ∀ (l : List Nm), ahead x l < l.length → bless (l.getD (ahead x l) []) x = false
  | [], h => by simp at h
  | y :: l, h => by
    rw [ahead] at h ⊢
    by_cases hb : bless y x = true
    · rw [if_pos hb] at h ⊢
      simpa using ahead_at x l (by simpa using h)
    · rw [if_neg hb]
      simpa using hb
theorem putF_eq (x : Nm) : ∀ (l : List Nm), putF x l = if ahead x l < l.length ∧ l.getD (ahead x l) [] = x then l else l.take (ahead x l) ++ x :: l.drop (ahead x l)
  | [] => by simp [putF, ahead]
  | y :: l => by
    rw [putF, ahead]
    by_cases hb : bless y x = true
    · rw [if_pos hb, if_pos hb, putF_eq x l]
      by_cases hc : ahead x l < l.length ∧ l.getD (ahead x l) [] = x
      · rw [if_pos hc, if_pos (by simpa using hc)]
      · rw [if_neg hc, if_neg (by simpa using hc)]
        simp
    · rw [if_neg hb, if_neg hb]
      by_cases e : y = x
      · rw [if_pos e, if_pos (by simpa using e)]
      · rw [if_neg e, if_neg (by simpa using e)]
        simp
set_option maxHeartbeats 8000000
def Ans (P : AV → Prop) (hp : Heap) (o : Option (AV × Heap)) : Prop := ∃ v, P v ∧ o = some (v, hp)
def LV (v : AV) (l : List Nm) : Prop := (v = .nilsl ∧ l = []) ∨ v = .lst .none 1 (tx l) ∨ v = .lst .own 1 (tx l)
theorem LV.uf {v : AV} {l : List Nm} (h : LV v l) : Sl 1 (uf v) (tx l) := by
  rcases h with ⟨rfl, rfl⟩ | rfl | rfl
  · exact .inl ⟨rfl, rfl⟩
  · exact .inr rfl
  · exact .inr rfl
theorem LV.of {v : AV} {l : List Nm} (h : Sl 1 v (tx l)) : LV v l := by
  rcases h.cases1 with ⟨rfl, rfl⟩ | rfl
  · exact .inl ⟨rfl, rfl⟩
  · exact .inr (.inl rfl)
theorem tx_take (l : List Nm) (i : Nat) : (tx l).take i = tx (l.take i) := by simp [tx]
theorem tx_drop (l : List Nm) (i : Nat) : (tx l).drop i = tx (l.drop i) := by simp [tx]
theorem tx_app (a b : List Nm) : tx a ++ tx b = tx (a ++ b) := by simp [tx]
theorem tx_one (x : Nm) : [[AV.str x]] = tx [x] := rfl
theorem tx_nil (l : List Nm) : (tx l = []) = (l = []) := by cases l <;> simp [tx]
theorem tx_free : ∀ l : List Nm, refFreeL (tx l).flatten = true
  | [] => by simp [tx, refFreeL]
  | w :: l => by
    have := tx_free l
    simp only [tx, List.map_cons, List.flatten_cons] at this ⊢
    simp [refFreeL, refFree, this]
theorem tx_plain : ∀ l : List Nm, (tx l).flatten.all plain1 = true
  | [] => by simp [tx]
  | w :: l => by
    have := tx_plain l
    simp only [tx, List.map_cons, List.flatten_cons] at this ⊢
    simp [plain1, this]
theorem fget_drop1K (v : AV) (fr : List AV) (s t : Nat) (h : t ≠ s) : fget (drop1K v fr s) t = fget fr t := by
  unfold drop1K
  split <;> first | rw [fget_fput, if_neg h] | rfl
theorem p_put (l : List Nm) (x : Nm) (v : AV) (hv : Sl 1 v (tx l)) (hm : l.length ≤ 1099511627776) (hp : Heap) : Ans (fun v' => LV v' (putF x l)) hp (CL X (fun _ => []) 45 [v, .str x] hp) := by
  obtain ⟨p1, u1, n1, d1, f1⟩ := hv.one
  rw [tx_len] at n1
  rw [CL_eq (fn := x45) rfl]
  have hle := ahead_le x l
  obtain ⟨I, hI⟩ : ∃ I : Nat → List AV → Heap → Prop, ∀ i fr hp', I i fr hp' ↔ (hp' = [] :: hp ∧ fget fr 0 = v ∧ fget fr 1 = .str x ∧ fget fr 5 = .int .i64 (i : Nat)) := ⟨_, fun _ _ _ => Iff.rfl⟩
  obtain ⟨Q, hQ⟩ : ∃ Q : XExit → List AV → Heap → Prop, ∀ e fr hp', Q e fr hp' ↔ (e = .exit 0 ∧ hp' = [] :: hp ∧ fget fr 0 = v ∧ fget fr 1 = .str x ∧ fget fr 5 = .int .i64 (ahead x l : Nat)) := ⟨_, fun _ _ _ => Iff.rfl⟩
  simp +contextual -implicitDefEqProofs (maxSteps := 10000000) only [x45, go_sem, ↓reduceIte]
  refine LC_upK (ahead x l) I Q (fun r => Ans _ _ (finK _ (seqK (blockK 0 r) _))) ?_ ?_ ?_ ?_
  · rw [hI]
    refine ⟨rfl, ?_, ?_, ?_⟩ <;> simp only [go_sem, ↓reduceIte, reduceCtorEq, Nat.reduceEqDiff, Int.natCast_zero]
  · intro i hi fr hp' h
    obtain ⟨rfl, h0, h1, h5⟩ := (hI _ _ _).1 h
    have hv' : v = .lst .none 1 (tx l) := hv.cases1.resolve_left (fun e => by rw [e.2] at hi; simp [ahead] at hi)
    have k1 : ((i : Int) < (l.length : Int)) = True := by simp; omega
    have k2 : (i < l.length) = True := by simp; omega
    have g1 := tx_get l i (by omega)
    have w1 : wr .i64 ((i : Int) + 1) = ((i + 1 : Nat) : Int) := by rw [wr_i64 _ (by omega)]; omega
    have hb := ahead_lt x l i hi
    obtain ⟨y, hy⟩ : ∃ y, l.getD i [] = y := ⟨_, rfl⟩
    rw [hy] at g1 hb
    subst hv'
    simp +contextual -implicitDefEqProofs (maxSteps := 10000000) only [x45_l0_run, go_sem, ↓reduceIte, reduceCtorEq, Nat.reduceEqDiff, h0, h1, h5, k1, k2, tx_len, g1, w1, hb]
    rw [hI]
    refine ⟨rfl, ?_, ?_, ?_⟩ <;> simp only [go_sem, ↓reduceIte, reduceCtorEq, Nat.reduceEqDiff, h0, h1]
  · intro fr hp' h
    obtain ⟨rfl, h0, h1, h5⟩ := (hI _ _ _).1 h
    by_cases hl : ahead x l < l.length
    · have hv' : v = .lst .none 1 (tx l) := hv.cases1.resolve_left (fun e => by rw [e.2] at hl; simp at hl)
      have k1 : ((ahead x l : Int) < (l.length : Int)) = True := by simp; omega
      have k2 : (ahead x l < l.length) = True := by simp; omega
      have g1 := tx_get l (ahead x l) hl
      have hb := ahead_at x l hl
      obtain ⟨y, hy⟩ : ∃ y, l.getD (ahead x l) [] = y := ⟨_, rfl⟩
      rw [hy] at g1 hb
      subst hv'
      simp +contextual -implicitDefEqProofs (maxSteps := 10000000) only [x45_l0_run, go_sem, ↓reduceIte, reduceCtorEq, Nat.reduceEqDiff, h0, h1, h5, k1, k2, tx_len, g1, hb]
      rw [hQ]
      refine ⟨rfl, rfl, ?_, ?_, ?_⟩ <;> simp only [go_sem, ↓reduceIte, reduceCtorEq, Nat.reduceEqDiff, h0, h1, h5]
    · have k1 : ((ahead x l : Int) < (l.length : Int)) = False := by simp; omega
      simp +contextual -implicitDefEqProofs (maxSteps := 10000000) only [x45_l0_run, go_sem, ↓reduceIte, reduceCtorEq, Nat.reduceEqDiff, h0, h1, h5, k1, u1, n1]
      rw [hQ]
      refine ⟨rfl, rfl, ?_, ?_, ?_⟩ <;> simp only [go_sem, ↓reduceIte, reduceCtorEq, Nat.reduceEqDiff, h0, h1, h5]
  · intro e fr hp' he h
    obtain ⟨rfl, rfl, h0, h1, h5⟩ := (hQ _ _ _).1 h
    rw [putF_eq]
    have room1 : ∀ n : Nat, n ≤ 1099511627777 → (n * 16 ≤ room) = True := fun n h => by simp [room]; omega
    have hx1 : refFreeL (tx [x]).flatten = true := tx_free [x]
    have hx2 : (tx [x]).flatten.all plain1 = true := tx_plain [x]
    by_cases hl : ahead x l < l.length
    · obtain rfl : v = .lst .none 1 (tx l) := hv.cases1.resolve_left (fun e => by rw [e.2] at hl; simp at hl)
      have k1 : ((ahead x l : Int) < (l.length : Int)) = True := by simp; omega
      have k2 : (ahead x l < l.length) = True := by simp; omega
      have k3 : (ahead x l ≤ l.length) = True := by simp; omega
      have g1 := tx_get l (ahead x l) hl
      obtain ⟨y, hy⟩ : ∃ y, l.getD (ahead x l) [] = y := ⟨_, rfl⟩
      rw [hy] at g1
      rw [hy]
      by_cases hyx : y = x
      · rw [if_pos ⟨hl, hyx⟩]
        simp +contextual -implicitDefEqProofs (maxSteps := 10000000) only [go_sem, ↓reduceIte, reduceCtorEq, Nat.reduceEqDiff, h0, h1, h5, k1, k2, tx_len, g1, hyx]
        exact ⟨_, .inr (.inl rfl), rfl⟩
      · rw [if_neg (fun e => hyx e.2)]
        have ha2 : (l.drop (ahead x l) = []) = False := by simp; omega
        by_cases ha : l.take (ahead x l) = []
        · have hr : (1 + (l.drop (ahead x l)).length ≤ 1099511627777) := by simp; omega
          have r1 := room1 _ hr
          have r0 := room1 1 (by omega)
          simp only [Nat.one_mul] at r0
          simp +contextual -implicitDefEqProofs (maxSteps := 10000000) only [go_sem, ↓reduceIte, reduceCtorEq, Nat.reduceEqDiff, Nat.reduceMul, Nat.reduceLT, Nat.reduceDiv, h0, h1, h5, k1, k2, k3, tx_len, g1, hyx, o_ssl, sslK_hi, sslK_lo, tx_take, tx_drop, tx_nil, ha, ha2, tx_free, tx_plain, Nat.reduceDiv, tx_one, tx_app, hx1, hx2, r1, r0]
          exact ⟨_, .inr (.inr rfl), rfl⟩
        · have ha' : (l.take (ahead x l) = []) = False := by simpa using ha
          have hr : ((l.take (ahead x l)).length + 1 ≤ 1099511627777) := by simp; omega
          have r1 := room1 _ hr
          have hr2 : ((l.take (ahead x l) ++ [x]).length + (l.drop (ahead x l)).length ≤ 1099511627777) := by simp; omega
          have r2 := room1 _ hr2
          have hr3 : ((l.take (ahead x l)).length ≤ 1099511627777) := by simp; omega
          have r3 := room1 _ hr3
          simp +contextual -implicitDefEqProofs (maxSteps := 10000000) only [go_sem, ↓reduceIte, reduceCtorEq, Nat.reduceEqDiff, Nat.reduceLT, Nat.reduceDiv, h0, h1, h5, k1, k2, k3, tx_len, g1, hyx, o_ssl, sslK_hi, sslK_lo, tx_take, tx_drop, tx_nil, ha', ha2, tx_free, tx_plain, Nat.reduceDiv, tx_one, tx_app, hx1, hx2, r1, r2, r3]
          refine ⟨_, .inr (.inr ?_), rfl⟩
          simp
    · rw [if_neg (fun e => hl e.1)]
      have hal : ahead x l = l.length := by omega
      rw [hal] at h5 ⊢
      have k1 : ((l.length : Int) < (l.length : Int)) = False := by simp
      rcases hv.cases1 with ⟨rfl, rfl⟩ | rfl
      · have r0 := room1 1 (by omega)
        simp only [Nat.one_mul] at r0
        simp only [List.length_nil, Int.natCast_zero] at h5 k1
        have hne : (([x] : List Nm) = []) = False := by simp
        simp +contextual -implicitDefEqProofs (maxSteps := 10000000) only [go_sem, ↓reduceIte, reduceCtorEq, Nat.reduceEqDiff, Nat.reduceLT, Nat.reduceDiv, h0, h1, h5, k1, o_ssl, sslK_nil_hi, sslK_nil_lo, tx_nil, hne, Nat.reduceDiv, tx_one, hx1, hx2]
        exact ⟨_, .inr (.inr rfl), rfl⟩
      · have k3 : (l.length ≤ l.length) = True := by simp
        have ha2 : (l.drop l.length = []) = True := by simp
        have htk : l.take l.length = l := List.take_length
        have hdr : l.drop l.length = [] := List.drop_length
        by_cases ha : l = []
        · subst ha
          have r0 := room1 1 (by omega)
          simp only [Nat.one_mul] at r0
          have hne : (([x] : List Nm) = []) = False := by simp
          simp only [List.length_nil, Int.natCast_zero] at h5 k1
          have t0 : tx ([] : List Nm) = [] := rfl
          simp +contextual -implicitDefEqProofs (maxSteps := 10000000) only [go_sem, ↓reduceIte, reduceCtorEq, Nat.reduceEqDiff, Int.reduceLE, Int.reduceToNat, Nat.reduceLT, Nat.reduceDiv, h0, h1, h5, o_ssl, sslK_hi0, sslK_lo00, t0, hne, Nat.reduceDiv, tx_one, tx_nil, hx1, hx2]
          exact ⟨_, .inr (.inr rfl), rfl⟩
        · have ha' : (l = []) = False := by simpa using ha
          have hr : (l.length + 1 ≤ 1099511627777) := by omega
          have r1 := room1 _ hr
          have r3 := room1 l.length (by omega)
          simp +contextual -implicitDefEqProofs (maxSteps := 10000000) only [go_sem, ↓reduceIte, reduceCtorEq, Nat.reduceEqDiff, Nat.reduceLT, Nat.reduceDiv, h0, h1, h5, k1, k3, tx_len, o_ssl, sslK_hi, sslK_lo, tx_take, tx_drop, tx_nil, ha', hdr, htk, tx_free, tx_plain, Nat.reduceDiv, tx_one, tx_app, hx1, hx2, r1, r3]
          refine ⟨_, .inr (.inr ?_), rfl⟩
          simp
theorem p_puts (more : List Nm) (w : AV) (hw : Sl 1 w (tx more)) (hmw : more.length ≤ 1073741824) (l : List Nm) (v : AV) (hv : Sl 1 v (tx l)) (hm : l.length ≤ 1073741824) (hp : Heap) : Ans (fun v' => LV v' (putsF l more)) hp (CL X (fun _ => []) 46 [v, w] hp) := by
  obtain ⟨p1, u1, n1, d1, f1⟩ := hv.one
  obtain ⟨p2, u2, n2, d2, f2⟩ := hw.one
  rw [tx_len] at n2
  rw [CL_eq (fn := x46) rfl]
  obtain ⟨I, hI⟩ : ∃ I : Nat → List AV → Heap → Prop, ∀ i fr hp', I i fr hp' ↔ (hp' = [] :: hp ∧ (∃ u, LV u (putsF l (more.take i)) ∧ fget fr 0 = u) ∧ fget fr 1 = w ∧ fget fr 5 = .int .i64 (i : Nat)) := ⟨_, fun _ _ _ => Iff.rfl⟩
  obtain ⟨Q, hQ⟩ : ∃ Q : XExit → List AV → Heap → Prop, ∀ e fr hp', Q e fr hp' ↔ (e = .exit 0 ∧ hp' = [] :: hp ∧ (∃ u, LV u (putsF l more) ∧ fget fr 0 = u)) := ⟨_, fun _ _ _ => Iff.rfl⟩
  simp +contextual -implicitDefEqProofs (maxSteps := 10000000) only [x46, go_sem, ↓reduceIte]
  refine LC_upK more.length I Q (fun r => Ans _ _ (finK _ (seqK (blockK 0 r) _))) ?_ ?_ ?_ ?_
  · rw [hI]
    refine ⟨rfl, ⟨v, .of hv, ?_⟩, ?_, ?_⟩ <;> simp only [go_sem, ↓reduceIte, reduceCtorEq, Nat.reduceEqDiff, Int.natCast_zero]
  · intro i hi fr hp' h
    obtain ⟨rfl, ⟨u, hu, h0⟩, h1, h5⟩ := (hI _ _ _).1 h
    have hw' : w = .lst .none 1 (tx more) := hw.cases1.resolve_left (fun e => by rw [e.2] at hi; simp at hi)
    have k1 : ((i : Int) < (more.length : Int)) = True := by simp; omega
    have k2 : (i < more.length) = True := by simp; omega
    have g1 := tx_get more i (by omega)
    have w1 : wr .i64 ((i : Int) + 1) = ((i + 1 : Nat) : Int) := by rw [wr_i64 _ (by omega)]; omega
    have hlen := putsF_len (more.take i) l
    have hst : putsF l (more.take (i + 1)) = putF (more.getD i []) (putsF l (more.take i)) := by
      unfold putsF
      rw [List.take_succ_eq_append_getElem hi, List.foldl_append]
      simp [List.getD, hi]
    obtain ⟨y, hy⟩ : ∃ y, more.getD i [] = y := ⟨_, rfl⟩
    rw [hy] at g1 hst
    obtain ⟨u', hu', hcall⟩ := p_put (putsF l (more.take i)) y (uf u) hu.uf (by simp at hlen; omega) []
    obtain ⟨_, uu, nn, dd, ff⟩ := hu.uf.one
    subst hw'
    simp +contextual -implicitDefEqProofs (maxSteps := 10000000) only [x46_l0_run, go_sem, ↓reduceIte, reduceCtorEq, Nat.reduceEqDiff, h0, h1, h5, k1, k2, tx_len, g1, w1, hcall, ff, uu, fget_drop1K]
    rw [hI]
    refine ⟨rfl, ⟨u', by rw [hst]; exact hu', ?_⟩, ?_, ?_⟩ <;> simp only [go_sem, ↓reduceIte, reduceCtorEq, Nat.reduceEqDiff, h1, fget_drop1K]
  · intro fr hp' h
    obtain ⟨rfl, ⟨u, hu, h0⟩, h1, h5⟩ := (hI _ _ _).1 h
    simp +contextual -implicitDefEqProofs (maxSteps := 10000000) only [x46_l0_run, go_sem, ↓reduceIte, Nat.reduceEqDiff, h1, h5, u2, n2, Int.lt_irrefl]
    rw [hQ]
    refine ⟨rfl, rfl, u, by rw [List.take_length] at hu; exact hu, ?_⟩
    simp only [go_sem, ↓reduceIte, reduceCtorEq, h0]
  · intro e fr hp' he h
    obtain ⟨rfl, rfl, u, hu, h0⟩ := (hQ _ _ _).1 h
    have hr : retOf ([] :: hp) hp.length [uf u] = some (uf u) := by
      rcases hu with ⟨rfl, _⟩ | rfl | rfl <;> rfl
    have hd : ∀ fr t, drop1K (uf u) fr t = fr := by
      rcases hu with ⟨rfl, _⟩ | rfl | rfl <;> intro fr t <;> rfl
    simp +contextual -implicitDefEqProofs (maxSteps := 10000000) only [go_sem, ↓reduceIte, h0, hr, hd]
    exact ⟨_, .of hu.uf, rfl⟩
mutual
def Tm.tv : Tm → List Nm
  | .mk k n _ _ _ _ _ ss => riseL ((if k = 1 then [n] else []) ++ Tm.tvC ss)
def Tm.tvC : List Tm → List Nm
  | [] => []
  | t :: l => t.tv ++ Tm.tvC l
end
mutual
def Tm.nn : Tm → Nat
  | .mk _ _ _ _ _ _ _ ss => 1 + Tm.nnL ss
def Tm.nnL : List Tm → Nat
  | [] => 0
  | t :: l => t.nn + Tm.nnL l
end
theorem Tm.tvC_append : ∀ a b : List Tm, Tm.tvC (a ++ b) = Tm.tvC a ++ Tm.tvC b
  | [], _ => rfl
  | t :: a, b => by rw [List.cons_append, Tm.tvC, Tm.tvC, Tm.tvC_append a, List.append_assoc]
theorem Tm.tvC_take (l : List Tm) (i : Nat) (h : i < l.length) : Tm.tvC (l.take (i + 1)) = Tm.tvC (l.take i) ++ (l[i]).tv := by
  rw [List.take_succ_eq_append_getElem h, Tm.tvC_append, Tm.tvC, Tm.tvC, List.append_nil]
mutual
theorem Tm.tv_len : ∀ t : Tm, t.tv.length ≤ t.nn
  | .mk k n vk vn vd vs b ss => by
    rw [Tm.tv, Tm.nn]
    have h1 := riseL_length ((if k = 1 then [n] else []) ++ Tm.tvC ss)
    have h2 := Tm.tvC_len ss
    rw [List.length_append] at h1
    have h3 : (if k = 1 then [n] else ([] : List Nm)).length ≤ 1 := by split <;> simp
    omega
theorem Tm.tvC_len : ∀ l : List Tm, (Tm.tvC l).length ≤ Tm.nnL l
  | [] => Nat.le_refl _
  | t :: l => by
    rw [Tm.tvC, Tm.nnL, List.length_append]
    have := Tm.tv_len t
    have := Tm.tvC_len l
    omega
end
theorem Tm.nn_mem : ∀ {l : List Tm} {t : Tm}, t ∈ l → t.nn ≤ Tm.nnL l
  | u :: l, t, h => by
    rw [Tm.nnL]
    rcases List.mem_cons.1 h with rfl | h
    · omega
    · have := Tm.nn_mem h; omega
theorem Tm.nnL_take : ∀ (l : List Tm) (i : Nat), Tm.nnL (l.take i) ≤ Tm.nnL l
  | [], i => by simp
  | t :: l, 0 => by simp [Tm.nnL]
  | t :: l, i + 1 => by
    rw [List.take_succ_cons, Tm.nnL, Tm.nnL]
    have := Tm.nnL_take l i
    omega
def luq (l : List Nm) : AV := if l = [] then .nilsl else .lst .uniq 1 (tx l)
def lvo (l : List Nm) : AV := if l = [] then .nilsl else .lst .own 1 (tx l)
theorem listOf_lvo (hp : Heap) (l : List Nm) : listOf hp 1 (lvo l) = some (tx l) := by
  unfold lvo
  by_cases h : l = []
  · rw [if_pos h, h]; rfl
  · rw [if_neg h]; rfl
theorem appK_luq (a b : List Nm) (h : (a.length + b.length) * 16 ≤ room) : appK true 1 16 (luq a) (some (tx b)) = some (luq (a ++ b)) := by
  unfold luq
  by_cases hb : b = []
  · subst hb
    rw [List.append_nil]
    by_cases ha : a = []
    · rw [if_pos ha]; rfl
    · rw [if_neg ha]; rfl
  · have hb' : ¬ (tx b = []) := by rw [tx_nil]; exact hb
    have hab : ¬ (a ++ b = []) := by simp [hb]
    by_cases ha : a = []
    · subst ha
      rw [if_pos rfl, if_neg hab, appK_nilsl, if_neg hb', if_pos ⟨tx_free b, tx_plain b⟩, tx_len, if_pos (by simpa using h)]
      rfl
    · rw [if_neg ha, if_neg hab, appK_lst, if_neg hb', if_pos ⟨tx_free b, tx_plain b⟩, tx_len, tx_len, if_pos ⟨rfl, rfl, h⟩, tx_app]
      rfl
theorem strsOf_tx : ∀ l : List Nm, strsOf (tx l) = some l
  | [] => rfl
  | w :: l => by
    have := strsOf_tx l
    simp only [tx, List.map_cons] at this ⊢
    simp only [strsOf, this]
theorem riseL_ne {l : List Nm} (h : l ≠ []) : riseL l ≠ [] := by
  obtain ⟨x, hx⟩ := List.exists_mem_of_ne_nil l h
  intro e
  have := (mem_riseL x l).2 hx
  rw [e] at this
  simp at this
theorem primM_tx (l : List Nm) (h : l.length ≤ room) : primM 100 (tx l) = some (tx (riseL l)) := by
  simp only [primM, strsOf_tx, tx_len, if_pos h]
  rfl
theorem puts_rise (a m : List Nm) : putsF (riseL a) m = riseL (a ++ m) := by
  obtain ⟨h1, h2⟩ := putsF_spec m (riseL a) (riseL_ss a)
  exact riseL_eq h1 (fun x => by rw [h2, mem_riseL, List.mem_append])
theorem put_rise (a : List Nm) (x : Nm) : putF x (riseL a) = riseL (a ++ [x]) := puts_rise a [x]
theorem demV_luq (l : List Nm) : demV (luq l) = lvo l := by
  unfold luq lvo
  by_cases h : l = []
  · rw [if_pos h, if_pos h]; rfl
  · rw [if_neg h, if_neg h]; rfl
theorem p_tv_step (k : Int) (n : Nm) (vk vn vd : Int) (vs : Nm) (b : Bool) (ss : List Tm) (hfit : (Tm.mk k n vk vn vd vs b ss).fit) (hsz : (Tm.mk k n vk vn vd vs b ss).nn ≤ 1048576)
    (ih : ∀ t ∈ ss, ∀ hp, CL X (fun _ => []) 14 [.agg t.cells] hp = some (luq t.tv, hp)) (hp : Heap) :
    CL X (fun _ => []) 14 [.agg (Tm.mk k n vk vn vd vs b ss).cells] hp = some (luq (Tm.mk k n vk vn vd vs b ss).tv, hp) := by
  have hcl : ∀ t ∈ ss, refFreeL t.cells = true := fun t ht => by
    simp only [Tm.fit] at hfit
    exact (Tm.tmp t (Tm.fitL_mem hfit.2.2.2 t ht)).free.2
  simp only [Tm.fit] at hfit
  obtain ⟨i1, i2, hlen, hfl⟩ := hfit
  rw [Tm.nn] at hsz
  rw [Tm.cells, Tm.tv]
  have hsl := slv_Sl b 7 (Tm.cellsL ss)
  generalize slv b 7 (Tm.cellsL ss) = v at hsl
  obtain ⟨p1, u1, n1, d1, f1⟩ := hsl.one
  rw [Tm.cellsL_len] at n1
  rw [CL_eq (fn := x14) rfl]
  obtain ⟨A, hA⟩ : ∃ A : List Nm, (if k = 1 then [n] else []) = A := ⟨_, rfl⟩
  have hAl : A.length ≤ 1 := by rw [← hA]; split <;> simp
  rw [hA]
  obtain ⟨I, hI⟩ : ∃ I : Nat → List AV → Heap → Prop, ∀ i fr hp', I i fr hp' ↔ ((∃ L, hp' = L :: hp) ∧ fget fr 3 = luq (A ++ Tm.tvC (ss.take i)) ∧ fget fr 15 = v ∧ fget fr 16 = .int .i64 ss.length ∧ fget fr 17 = .int .i64 (i : Nat)) := ⟨_, fun _ _ _ => Iff.rfl⟩
  obtain ⟨Q, hQ⟩ : ∃ Q : XExit → List AV → Heap → Prop, ∀ e fr hp', Q e fr hp' ↔ (e = .exit 0 ∧ (∃ L, hp' = L :: hp) ∧ fget fr 3 = luq (A ++ Tm.tvC ss)) := ⟨_, fun _ _ _ => Iff.rfl⟩
  have r1 : (1 * 16 ≤ room) = True := by simp [room]
  have st : ∀ i, i < ss.length → ∀ fr hp, I i fr hp → StepOk (I (i + 1)) Q (LC X (fun _ => []) x14_l0 ⟨fr, hp⟩) := by
    intro i hi fr hp' h
    obtain ⟨⟨L, rfl⟩, h3, h15, h16, h17⟩ := (hI _ _ _).1 h
    have hv' : v = .lst .none 7 (Tm.cellsL ss) := by
      rcases hsl with ⟨_, e⟩ | e
      · have := Tm.cellsL_len ss; rw [e] at this; simp at this; omega
      · exact e
    have k1 : ((i : Int) < (ss.length : Int)) = True := by simp; omega
    have k2 : (i < (Tm.cellsL ss).length) = True := by rw [Tm.cellsL_len]; simp; omega
    have w1 : wr .i64 ((i : Int) + 1) = ((i + 1 : Nat) : Int) := by rw [wr_i64 _ (by omega)]; omega
    have g1 : (Tm.cellsL ss).getD i [] = (ss[i]).cells := by simp [Tm.cellsL_eq, List.getD, hi]
    have hmem : ss[i] ∈ ss := List.getElem_mem hi
    obtain ⟨a1, a2, a3, a4, a5⟩ := flatTm (Tm.fitL_mem hfl _ hmem)
    have a6 := hcl _ hmem
    have a1' : (7 ≤ (ss[i]).cells.length) = True := by simp; omega
    have hih := ih _ hmem
    have htk := Tm.tvC_take ss i hi
    have b1 := Tm.tvC_len (ss.take i)
    have b2 := Tm.nnL_take ss i
    have b3 := Tm.tv_len ss[i]
    have b4 := Tm.nn_mem hmem
    have happ := appK_luq (A ++ Tm.tvC (ss.take i)) (ss[i]).tv (by simp [room]; omega)
    subst hv'
    simp +contextual -implicitDefEqProofs (maxSteps := 10000000) only [x14_l0_run, go_sem, ↓reduceIte, Nat.reduceEqDiff, Nat.reduceAdd, h3, h15, h16, h17, k1, k2, w1, g1, a1, a2, a3, a4, a5, a6, hih, stAt_topc, ldAt_topc, happ, listOf_lvo, demV_luq, fget_drop1K]
    rw [hI]
    refine ⟨⟨_, rfl⟩, ?_, ?_, ?_, ?_⟩ <;> simp only [go_sem, ↓reduceIte, Nat.reduceEqDiff, fget_drop1K, h15, h16, htk, List.append_assoc]
  have en : ∀ fr hp, I ss.length fr hp → StepOk (fun _ _ => False) Q (LC X (fun _ => []) x14_l0 ⟨fr, hp⟩) := by
    intro fr hp' h
    obtain ⟨⟨L, rfl⟩, h3, h15, h16, h17⟩ := (hI _ _ _).1 h
    simp +contextual -implicitDefEqProofs (maxSteps := 10000000) only [x14_l0_run, go_sem, ↓reduceIte, h16, h17, Int.lt_irrefl]
    rw [hQ]
    refine ⟨rfl, ⟨L, rfl⟩, ?_⟩
    simp only [go_sem, ↓reduceIte, Nat.reduceEqDiff, h3, List.take_length]
  have bl := Tm.tvC_len ss
  obtain ⟨R, hR⟩ : ∃ R, luq (riseL (A ++ Tm.tvC ss)) = R := ⟨_, rfl⟩
  rw [hR]
  by_cases hk : k = 1
  · rw [if_pos hk] at hA
    subst hA
    simp +contextual -implicitDefEqProofs (maxSteps := 10000000) only [x14, go_sem, ↓reduceIte, reduceCtorEq, Nat.reduceEqDiff, Nat.reduceAdd, Nat.reduceMul, Nat.reduceLT, Nat.reduceDiv, u1, p1, n1, hk, Nat.reduceDiv, r1]
    refine LC_upK ss.length I Q (fun r => finK _ (seqK (blockK 0 r) _) = _) ?_ st en ?_
    · rw [hI]
      refine ⟨⟨_, rfl⟩, ?_, ?_, ?_, ?_⟩ <;> simp only [go_sem, ↓reduceIte, Nat.reduceEqDiff, Int.natCast_zero, List.take_zero, Tm.tvC]
      rfl
    · intro e fr hp' he h
      obtain ⟨rfl, ⟨L, rfl⟩, h3⟩ := (hQ _ _ _).1 h
      have hne : luq ([n] ++ Tm.tvC ss) = .lst .uniq 1 (tx ([n] ++ Tm.tvC ss)) := by unfold luq; rw [if_neg (by simp)]
      have hpm := primM_tx ([n] ++ Tm.tvC ss) (by simp [room]; omega)
      have hlv : luq (riseL ([n] ++ Tm.tvC ss)) = .lst .uniq 1 (tx (riseL ([n] ++ Tm.tvC ss))) := by unfold luq; rw [if_neg (riseL_ne (by simp))]
      rw [hne] at h3
      rw [← hR, hlv]
      generalize [n] ++ Tm.tvC ss = G at *
      simp +contextual -implicitDefEqProofs (maxSteps := 10000000) only [go_sem, ↓reduceIte, h3, o_primm, primmK_uniq, hpm]
  · rw [if_neg hk] at hA
    subst hA
    simp +contextual -implicitDefEqProofs (maxSteps := 10000000) only [x14, go_sem, ↓reduceIte, reduceCtorEq, Nat.reduceEqDiff, Nat.reduceAdd, Nat.reduceMul, Nat.reduceLT, Nat.reduceDiv, u1, p1, n1, hk]
    refine LC_upK ss.length I Q (fun r => finK _ (seqK (blockK 0 r) _) = _) ?_ st en ?_
    · rw [hI]
      refine ⟨⟨_, rfl⟩, ?_, ?_, ?_, ?_⟩ <;> simp only [go_sem, ↓reduceIte, Nat.reduceEqDiff, Int.natCast_zero, List.take_zero, Tm.tvC]
      rfl
    · intro e fr hp' he h
      obtain ⟨rfl, ⟨L, rfl⟩, h3⟩ := (hQ _ _ _).1 h
      generalize hG : [] ++ Tm.tvC ss = G at *
      have hGl : G.length ≤ 1048576 := by rw [← hG]; simp; omega
      by_cases hG0 : G = []
      · subst hG0
        have e1 : luq [] = .nilsl := rfl
        have e2 : luq (riseL []) = .nilsl := rfl
        have e3 : primM 100 [] = some [] := rfl
        rw [e1] at h3
        rw [← hR, e2]
        simp +contextual -implicitDefEqProofs (maxSteps := 10000000) only [go_sem, ↓reduceIte, h3, o_primm, primmK_nil, e3]
      · have hne : luq G = .lst .uniq 1 (tx G) := by unfold luq; rw [if_neg hG0]
        have hpm := primM_tx G (by simp [room]; omega)
        have hlv : luq (riseL G) = .lst .uniq 1 (tx (riseL G)) := by unfold luq; rw [if_neg (riseL_ne hG0)]
        rw [hne] at h3
        rw [← hR, hlv]
        simp +contextual -implicitDefEqProofs (maxSteps := 10000000) only [go_sem, ↓reduceIte, h3, o_primm, primmK_uniq, hpm]
mutual
theorem p_tv : ∀ (t : Tm), t.fit → t.nn ≤ 1048576 → ∀ hp, CL X (fun _ => []) 14 [.agg t.cells] hp = some (luq t.tv, hp)
  | .mk k n vk vn vd vs b ss, hf, hn, hp => p_tv_step k n vk vn vd vs b ss hf hn (fun t ht hp => p_tvL ss (by simp only [Tm.fit] at hf; exact hf.2.2.2) (by rw [Tm.nn] at hn; omega) t ht hp) hp
theorem p_tvL : ∀ (l : List Tm), Tm.fitL l → Tm.nnL l ≤ 1048576 → ∀ t ∈ l, ∀ hp, CL X (fun _ => []) 14 [.agg t.cells] hp = some (luq t.tv, hp)
  | [], _, _, t, ht, _ => by simp at ht
  | u :: l, hf, hn, t, ht, hp => by
    rw [Tm.nnL] at hn
    rcases List.mem_cons.1 ht with e | ht
    · rw [e]; exact p_tv u hf.1 (by omega) hp
    · exact p_tvL l hf.2 (by omega) t ht hp
end
theorem p_rtv_step (k : Int) (n : Nm) (vk vn vd : Int) (vs : Nm) (b : Bool) (ss : List Tm) (hfit : (Tm.mk k n vk vn vd vs b ss).fit) (hsz : (Tm.mk k n vk vn vd vs b ss).nn ≤ 1048576)
    (ih : ∀ t ∈ ss, Ans (fun v => LV v t.tv) [] (CL X (fun _ => []) 15 [.agg t.cells] [])) :
    Ans (fun v => LV v (Tm.mk k n vk vn vd vs b ss).tv) [] (CL X (fun _ => []) 15 [.agg (Tm.mk k n vk vn vd vs b ss).cells] []) := by
  have hcl : ∀ t ∈ ss, refFreeL t.cells = true := fun t ht => by
    simp only [Tm.fit] at hfit
    exact (Tm.tmp t (Tm.fitL_mem hfit.2.2.2 t ht)).free.2
  simp only [Tm.fit] at hfit
  obtain ⟨i1, i2, hlen, hfl⟩ := hfit
  rw [Tm.nn] at hsz
  rw [Tm.cells, Tm.tv]
  have hsl := slv_Sl b 7 (Tm.cellsL ss)
  generalize slv b 7 (Tm.cellsL ss) = v at hsl
  obtain ⟨p1, u1, n1, d1, f1⟩ := hsl.one
  rw [Tm.cellsL_len] at n1
  rw [CL_eq (fn := x15) rfl]
  obtain ⟨A, hA⟩ : ∃ A : List Nm, (if k = 1 then [n] else []) = A := ⟨_, rfl⟩
  have hAl : A.length ≤ 1 := by rw [← hA]; split <;> simp
  rw [hA]
  obtain ⟨L0, hL0⟩ : ∃ L0, lputc [] 1 0 [.int .i64 k, .str n, .int .i64 vk, .int .i64 vn, .int .i64 vd, .str vs, v] = L0 := ⟨_, rfl⟩
  have hL : lcells L0 1 0 = some [.int .i64 k, .str n, .int .i64 vk, .int .i64 vn, .int .i64 vd, .str vs, v] := by rw [← hL0, lcells_put]; simp
  obtain ⟨I, hI⟩ : ∃ I : Nat → List AV → Heap → Prop, ∀ i fr hp', I i fr hp' ↔ (hp' = [L0] ∧ (∃ u, LV u (riseL (A ++ Tm.tvC (ss.take i))) ∧ fget fr 3 = u) ∧ fget fr 1 = .ptr ⟨0, 1, 0⟩ 0 ∧ fget fr 4 = .int .i64 (i : Nat)) := ⟨_, fun _ _ _ => Iff.rfl⟩
  obtain ⟨Q, hQ⟩ : ∃ Q : XExit → List AV → Heap → Prop, ∀ e fr hp', Q e fr hp' ↔ (e = .exit 0 ∧ hp' = [L0] ∧ (∃ u, LV u (riseL (A ++ Tm.tvC ss)) ∧ fget fr 3 = u)) := ⟨_, fun _ _ _ => Iff.rfl⟩
  have ld0 : ∀ gl off n agg, ldAt gl [L0] (.ptr ⟨0, 1, 0⟩ off) n agg = ldK n agg off (lcells L0 1 0) := fun gl off n agg => ldAt_topc rfl
  have st : ∀ i, i < ss.length → ∀ fr hp, I i fr hp → StepOk (I (i + 1)) Q (LC X (fun _ => []) x15_l0 ⟨fr, hp⟩) := by
    intro i hi fr hp' h
    obtain ⟨rfl, ⟨u, hu, h3⟩, h1, h4⟩ := (hI _ _ _).1 h
    have hv' : v = .lst .none 7 (Tm.cellsL ss) := by
      rcases hsl with ⟨_, e⟩ | e
      · have := Tm.cellsL_len ss; rw [e] at this; simp at this; omega
      · exact e
    have k1 : ((i : Int) < ((Tm.cellsL ss).length : Int)) = True := by rw [Tm.cellsL_len]; simp; omega
    have k2 : (i < (Tm.cellsL ss).length) = True := by rw [Tm.cellsL_len]; simp; omega
    have w1 : wr .i64 ((i : Int) + 1) = ((i + 1 : Nat) : Int) := by rw [wr_i64 _ (by omega)]; omega
    have g1 : (Tm.cellsL ss).getD i [] = (ss[i]).cells := by simp [Tm.cellsL_eq, List.getD, hi]
    have hmem : ss[i] ∈ ss := List.getElem_mem hi
    obtain ⟨a1, a2, a3, a4, a5⟩ := flatTm (Tm.fitL_mem hfl _ hmem)
    have a6 := hcl _ hmem
    have a1' : (7 ≤ (ss[i]).cells.length) = True := by simp; omega
    obtain ⟨vi, hvi, hih⟩ := ih _ hmem
    have htk := Tm.tvC_take ss i hi
    have b1 := Tm.tvC_len (ss.take i)
    have b2 := Tm.nnL_take ss i
    have b3 := Tm.tv_len ss[i]
    have b4 := Tm.nn_mem hmem
    have b5 := riseL_length (A ++ Tm.tvC (ss.take i))
    rw [List.length_append] at b5
    obtain ⟨u', hu', hcall⟩ := p_puts (ss[i]).tv (uf vi) hvi.uf (by omega) (riseL (A ++ Tm.tvC (ss.take i))) (uf u) hu.uf (by omega) []
    rw [puts_rise] at hu'
    obtain ⟨_, uu, _, _, ff⟩ := hu.uf.one
    obtain ⟨_, uu2, _, _, ff2⟩ := hvi.uf.one
    subst hv'
    simp +contextual -implicitDefEqProofs (maxSteps := 10000000) only [x15_l0_run, go_sem, ↓reduceIte, Nat.reduceEqDiff, h1, h3, h4, hL, ld0, k1, k2, w1, g1, a1, a3, a4, a6, hih, hcall, uu, ff, uu2, ff2, fget_drop1K]
    rw [hI]
    refine ⟨rfl, ⟨u', by rw [htk, ← List.append_assoc]; exact hu', ?_⟩, ?_, ?_⟩ <;> simp only [go_sem, ↓reduceIte, Nat.reduceEqDiff, fget_drop1K, h1]
  have en : ∀ fr hp, I ss.length fr hp → StepOk (fun _ _ => False) Q (LC X (fun _ => []) x15_l0 ⟨fr, hp⟩) := by
    intro fr hp' h
    obtain ⟨rfl, ⟨u, hu, h3⟩, h1, h4⟩ := (hI _ _ _).1 h
    simp +contextual -implicitDefEqProofs (maxSteps := 10000000) only [x15_l0_run, go_sem, ↓reduceIte, Nat.reduceEqDiff, h1, h4, hL, ld0, u1, n1, Int.lt_irrefl]
    rw [hQ]
    refine ⟨rfl, rfl, u, by rw [List.take_length] at hu; exact hu, ?_⟩
    simp only [go_sem, ↓reduceIte, Nat.reduceEqDiff, h3]
  have K : ∀ e fr hp, e ≠ .normal → Q e fr hp → Ans (fun v => LV v (riseL (A ++ Tm.tvC ss))) [] (finK [.tmp 2] (seqK (blockK 0 (some (e, ⟨fr, hp⟩))) (LC X (fun _ => []) (.seq (.region false [⟨some 29, .mov (.tmp 3), none⟩, ⟨some 2, .own 29, none⟩] []) .ret)))) := by
    intro e fr hp' he h
    obtain ⟨rfl, rfl, u, hu, h3⟩ := (hQ _ _ _).1 h
    have hr : ∀ h lev, retOf h lev [uf u] = some (uf u) := by
      rcases hu with ⟨rfl, _⟩ | rfl | rfl <;> intro h lev <;> rfl
    have hd : ∀ fr t, drop1K (uf u) fr t = fr := by
      rcases hu with ⟨rfl, _⟩ | rfl | rfl <;> intro fr t <;> rfl
    simp +contextual -implicitDefEqProofs (maxSteps := 10000000) only [go_sem, ↓reduceIte, h3, hr, hd]
    exact ⟨_, .of hu.uf, rfl⟩
  by_cases hk : k = 1
  · rw [if_pos hk] at hA
    obtain ⟨u', hu', hcall⟩ := p_put [] n .nilsl (.inl ⟨rfl, rfl⟩) (by simp) []
    subst hk
    simp +contextual -implicitDefEqProofs (maxSteps := 10000000) only [x15, go_sem, ↓reduceIte, Nat.reduceEqDiff, Nat.reduceAdd, u1, p1, hcall, hL0, hL, ld0]
    refine LC_upK ss.length I Q (fun r => Ans _ _ (finK _ (seqK (blockK 0 r) _))) ?_ st en K
    rw [hI]
    refine ⟨rfl, ⟨u', ?_, ?_⟩, ?_, ?_⟩
    · rw [← hA, List.take_zero]; exact hu'
    all_goals simp only [go_sem, ↓reduceIte, Nat.reduceEqDiff, Int.natCast_zero, fget_drop1K]
  · rw [if_neg hk] at hA
    simp +contextual -implicitDefEqProofs (maxSteps := 10000000) only [x15, go_sem, ↓reduceIte, Nat.reduceEqDiff, Nat.reduceAdd, u1, p1, hk, hL0, hL, ld0]
    refine LC_upK ss.length I Q (fun r => Ans _ _ (finK _ (seqK (blockK 0 r) _))) ?_ st en K
    rw [hI]
    refine ⟨rfl, ⟨.nilsl, ?_, ?_⟩, ?_, ?_⟩
    · rw [← hA]; exact .inl ⟨rfl, rfl⟩
    all_goals simp only [go_sem, ↓reduceIte, Nat.reduceEqDiff, Int.natCast_zero]
mutual
theorem p_rtv : ∀ (t : Tm), t.fit → t.nn ≤ 1048576 → Ans (fun v => LV v t.tv) [] (CL X (fun _ => []) 15 [.agg t.cells] [])
  | .mk k n vk vn vd vs b ss, hf, hn => p_rtv_step k n vk vn vd vs b ss hf hn (fun t ht => p_rtvL ss (by simp only [Tm.fit] at hf; exact hf.2.2.2) (by rw [Tm.nn] at hn; omega) t ht)
theorem p_rtvL : ∀ (l : List Tm), Tm.fitL l → Tm.nnL l ≤ 1048576 → ∀ t ∈ l, Ans (fun v => LV v t.tv) [] (CL X (fun _ => []) 15 [.agg t.cells] [])
  | [], _, _, t, ht => by simp at ht
  | u :: l, hf, hn, t, ht => by
    rw [Tm.nnL] at hn
    rcases List.mem_cons.1 ht with e | ht
    · rw [e]; exact p_rtv u hf.1 (by omega)
    · exact p_rtvL l hf.2 (by omega) t ht
end
mutual
def Rx.tests : Rx → List Fm
  | .mk _ _ ts _ ss => ts ++ Rx.testsL ss
def Rx.testsL : List Rx → List Fm
  | [] => []
  | x :: l => x.tests ++ Rx.testsL l
end
def Fm.parts : Fm → List Fm
  | .mk _ _ _ _ _ _ _ _ _ _ _ ss _ rs => match rs with
    | [] => ss
    | x :: _ => x.tests
mutual
def Fm.sz : Fm → Nat
  | .mk _ _ _ _ vs _ ts _ _ _ _ ss _ rs => 1 + vs.length + Tm.nnL ts + Fm.szL ss + Rx.szL rs
def Fm.szL : List Fm → Nat
  | [] => 0
  | t :: l => t.sz + Fm.szL l
def Rx.sz : Rx → Nat
  | .mk _ _ ts _ ss => 1 + Fm.szL ts + Rx.szL ss
def Rx.szL : List Rx → Nat
  | [] => 0
  | t :: l => t.sz + Rx.szL l
end
theorem Fm.szL_append : ∀ a b : List Fm, Fm.szL (a ++ b) = Fm.szL a + Fm.szL b
  | [], _ => by simp [Fm.szL]
  | t :: a, b => by rw [List.cons_append, Fm.szL, Fm.szL, Fm.szL_append a]; omega
theorem Fm.sz_pos : ∀ t : Fm, 1 ≤ t.sz
  | .mk .. => by rw [Fm.sz]; omega
theorem Fm.szL_len : ∀ l : List Fm, l.length ≤ Fm.szL l
  | [] => Nat.le_refl _
  | t :: l => by
    have := Fm.szL_len l
    have := t.sz_pos
    rw [Fm.szL, List.length_cons]; omega
theorem Fm.sz_mem : ∀ {l : List Fm} {t : Fm}, t ∈ l → t.sz ≤ Fm.szL l
  | u :: l, t, h => by
    rw [Fm.szL]
    rcases List.mem_cons.1 h with rfl | h
    · omega
    · have := Fm.sz_mem h; omega
theorem Rx.sz_mem : ∀ {l : List Rx} {t : Rx}, t ∈ l → t.sz ≤ Rx.szL l
  | u :: l, t, h => by
    rw [Rx.szL]
    rcases List.mem_cons.1 h with rfl | h
    · omega
    · have := Rx.sz_mem h; omega
mutual
theorem Rx.tests_sz : ∀ t : Rx, Fm.szL t.tests ≤ t.sz
  | .mk k bt ts bs ss => by
    rw [Rx.tests, Rx.sz, Fm.szL_append]
    have := Rx.testsL_sz ss
    omega
theorem Rx.testsL_sz : ∀ l : List Rx, Fm.szL (Rx.testsL l) ≤ Rx.szL l
  | [] => Nat.le_refl _
  | t :: l => by
    rw [Rx.testsL, Rx.szL, Fm.szL_append]
    have := Rx.tests_sz t
    have := Rx.testsL_sz l
    omega
end
theorem Rx.testsL_append : ∀ a b : List Rx, Rx.testsL (a ++ b) = Rx.testsL a ++ Rx.testsL b
  | [], _ => rfl
  | t :: a, b => by rw [List.cons_append, Rx.testsL, Rx.testsL, Rx.testsL_append a, List.append_assoc]
theorem Rx.testsL_take (l : List Rx) (i : Nat) (h : i < l.length) : Rx.testsL (l.take (i + 1)) = Rx.testsL (l.take i) ++ (l[i]).tests := by
  rw [List.take_succ_eq_append_getElem h, Rx.testsL_append, Rx.testsL, Rx.testsL, List.append_nil]
theorem Rx.szL_take : ∀ (l : List Rx) (i : Nat), Rx.szL (l.take i) ≤ Rx.szL l
  | [], i => by simp
  | t :: l, 0 => by simp [Rx.szL]
  | t :: l, i + 1 => by
    rw [List.take_succ_cons, Rx.szL, Rx.szL]
    have := Rx.szL_take l i
    omega
mutual
theorem Rx.tests_fit : ∀ t : Rx, t.fit → Fm.fitL t.tests
  | .mk k bt ts bs ss, h => by
    simp only [Rx.fit] at h
    rw [Rx.tests]
    refine Fm.fitL_of fun u hu => ?_
    rcases List.mem_append.1 hu with hu | hu
    · exact Fm.fitL_mem h.2.2.1 u hu
    · exact Fm.fitL_mem (Rx.testsL_fit ss h.2.2.2) u hu
theorem Rx.testsL_fit : ∀ l : List Rx, Rx.fitL l → Fm.fitL (Rx.testsL l)
  | [], _ => trivial
  | t :: l, h => by
    rw [Rx.testsL]
    refine Fm.fitL_of fun u hu => ?_
    rcases List.mem_append.1 hu with hu | hu
    · exact Fm.fitL_mem (Rx.tests_fit t h.1) u hu
    · exact Fm.fitL_mem (Rx.testsL_fit l h.2) u hu
end
theorem Fm.cellsL_app (a b : List Fm) : Fm.cellsL a ++ Fm.cellsL b = Fm.cellsL (a ++ b) := by simp [Fm.cellsL_eq]
theorem Fm.cellsL_nil (l : List Fm) : (Fm.cellsL l = []) = (l = []) := by cases l <;> simp [Fm.cellsL]
theorem refFreeL_app : ∀ a b : List AV, refFreeL (a ++ b) = (refFreeL a && refFreeL b)
  | [], b => by simp [refFreeL]
  | x :: a, b => by simp [refFreeL, refFreeL_app a b, Bool.and_assoc]
theorem Fm.flatL : ∀ l : List Fm, Fm.fitL l → refFreeL (Fm.cellsL l).flatten = true ∧ (Fm.cellsL l).flatten.all plain1 = true
  | [], _ => ⟨by simp [Fm.cellsL, refFreeL], by simp [Fm.cellsL]⟩
  | t :: l, h => by
    obtain ⟨h1, h2⟩ := Fm.flatL l h.2
    obtain ⟨⟨_, h3, _⟩, h4⟩ := (Fm.fxp t h.1).free
    rw [Fm.cellsL, List.flatten_cons, refFreeL_app, List.all_append, h1, h2, h3, h4]
    exact ⟨rfl, rfl⟩
def FV (v : AV) (l : List Fm) : Prop := (v = .nilsl ∧ l = []) ∨ v = .lst .none 10 (Fm.cellsL l) ∨ v = .lst .own 10 (Fm.cellsL l) ∨ v = .lst .tight 10 (Fm.cellsL l)
def FA (v : AV) (l : List Fm) : Prop := (v = .nilsl ∧ l = []) ∨ v = .lst .own 10 (Fm.cellsL l) ∨ v = .lst .tight 10 (Fm.cellsL l)
theorem FA.fv {v : AV} {l : List Fm} (h : FA v l) : FV v l := by
  rcases h with h | h | h
  · exact .inl h
  · exact .inr (.inr (.inl h))
  · exact .inr (.inr (.inr h))
theorem FV.of {v : AV} {l : List Fm} (h : Sl 10 v (Fm.cellsL l)) : FV v l := by
  rcases h with ⟨rfl, h⟩ | h
  · exact .inl ⟨rfl, by rwa [Fm.cellsL_nil] at h⟩
  · exact .inr (.inl h)
theorem FV.listOf {v : AV} {l : List Fm} (h : FV v l) (hp : Heap) : listOf hp 10 v = some (Fm.cellsL l) := by
  rcases h with ⟨rfl, rfl⟩ | rfl | rfl | rfl <;> rfl
theorem FV.lens {v : AV} {l : List Fm} (h : FV v l) : lensK false v = some (.int .i64 l.length) := by
  rcases h with ⟨rfl, rfl⟩ | rfl | rfl | rfl
  · rfl
  all_goals simp [lensK_lst, Fm.cellsL_len, lenB_none, lenB_own, lenB_tight]
theorem FV.uf {v : AV} {l : List Fm} (h : FV v l) : FV (uf v) l ∧ Go.Proofs.YtnmaahfipddkmaaGreat.Sx.uf (Go.Proofs.YtnmaahfipddkmaaGreat.Sx.uf v) = Go.Proofs.YtnmaahfipddkmaaGreat.Sx.uf v ∧ (∀ fr t, drop1K (Go.Proofs.YtnmaahfipddkmaaGreat.Sx.uf v) fr t = fr) ∧ refFree (Go.Proofs.YtnmaahfipddkmaaGreat.Sx.uf v) = true ∧ (∀ hp lev, retOf hp lev [Go.Proofs.YtnmaahfipddkmaaGreat.Sx.uf v] = some (Go.Proofs.YtnmaahfipddkmaaGreat.Sx.uf v)) := by
  rcases h with ⟨rfl, rfl⟩ | rfl | rfl | rfl
  · exact ⟨.inl ⟨rfl, rfl⟩, rfl, fun _ _ => rfl, rfl, fun _ _ => rfl⟩
  · exact ⟨.inr (.inl rfl), rfl, fun _ _ => rfl, by simp [refFree, Go.Proofs.YtnmaahfipddkmaaGreat.Sx.uf], fun _ _ => rfl⟩
  · exact ⟨.inr (.inl rfl), rfl, fun _ _ => rfl, by simp [refFree, Go.Proofs.YtnmaahfipddkmaaGreat.Sx.uf], fun _ _ => rfl⟩
  · exact ⟨.inr (.inr (.inr rfl)), rfl, fun _ _ => rfl, by simp [refFree, Go.Proofs.YtnmaahfipddkmaaGreat.Sx.uf], fun _ _ => rfl⟩
theorem FV.iaddr {v : AV} {l : List Fm} (h : FV v l) (i : Nat) (hi : i < l.length) : iaddrK 10 v (some i) = some (.elp (l[i]).cells) := by
  have g : (Fm.cellsL l).getD i [] = (l[i]).cells := by simp [Fm.cellsL_eq, List.getD, hi]
  have k : i < (Fm.cellsL l).length := by rw [Fm.cellsL_len]; exact hi
  rcases h with ⟨_, rfl⟩ | rfl | rfl | rfl
  · simp at hi
  all_goals rw [iaddrK_lst, if_pos ⟨rfl, k⟩, g]
theorem FA.app {v : AV} {a b : List Fm} (h : FA v a) (hb : Fm.fitL b) (hs : (a.length + b.length) * 152 ≤ room) : ∃ v', FA v' (a ++ b) ∧ appK false 10 152 v (some (Fm.cellsL b)) = some v' := by
  by_cases hb0 : b = []
  · subst hb0
    rw [List.append_nil]
    refine ⟨v, h, ?_⟩
    rcases h with ⟨rfl, rfl⟩ | rfl | rfl <;> rfl
  · have hb' : ¬ (Fm.cellsL b = []) := by rw [Fm.cellsL_nil]; exact hb0
    obtain ⟨h1, h2⟩ := Fm.flatL b hb
    refine ⟨.lst .own 10 (Fm.cellsL (a ++ b)), .inr (.inl rfl), ?_⟩
    rcases h with ⟨rfl, rfl⟩ | rfl | rfl
    · rw [appK_nilsl, if_neg hb', if_pos ⟨h1, h2⟩, Fm.cellsL_len, if_pos (by simpa using hs)]
      rfl
    · rw [appK_lst, if_neg hb', if_pos ⟨h1, h2⟩, Fm.cellsL_len, Fm.cellsL_len, if_pos ⟨rfl, rfl, hs⟩, Fm.cellsL_app]
      rfl
    · rw [appK_lst, if_neg hb', if_pos ⟨h1, h2⟩, Fm.cellsL_len, Fm.cellsL_len, if_pos ⟨rfl, rfl, hs⟩, Fm.cellsL_app]
      rfl
theorem FA.ret {v : AV} {l : List Fm} (h : FA v l) : ∀ hp lev, retOf hp lev [v] = some v := by
  rcases h with ⟨rfl, _⟩ | rfl | rfl <;> intro hp lev <;> rfl
theorem p_fclone (l : List Fm) (v : AV) (hv : Sl 10 v (Fm.cellsL l)) (hl : Fm.fitL l) (hs : l.length * 152 ≤ room) : Ans (fun u => FA u l) [] (CL X (fun _ => []) 96 [v] []) := by
  rw [CL_eq (fn := x96) rfl]
  rcases hv with ⟨rfl, h⟩ | rfl
  · rw [Fm.cellsL_nil] at h
    subst h
    simp +contextual -implicitDefEqProofs (maxSteps := 10000000) only [x96, go_sem, ↓reduceIte, reduceCtorEq, o_eqnil, nilK_nilsl]
    exact ⟨_, .inl ⟨rfl, rfl⟩, rfl⟩
  · obtain ⟨u, hu, ha⟩ := FA.app (v := .lst .tight 10 []) (a := []) (b := l) (.inr (.inr rfl)) hl (by simpa using hs)
    have hn : nilK 1 false (.lst .none 10 (Fm.cellsL l)) = some (.bool false) := rfl
    have ht : (0 : Nat) / 10 = 0 := rfl
    simp +contextual -implicitDefEqProofs (maxSteps := 10000000) only [x96, go_sem, ↓reduceIte, reduceCtorEq, Nat.reduceEqDiff, Nat.reduceLT, o_eqnil, hn, ha, ht, hu.ret]
    exact ⟨u, hu, rfl⟩
theorem flatRx' {t : Rx} (h : t.fit) : refFreeL t.cells = true := (Rx.fxp t h).free.2
theorem p_tests_step (k : Int) (bt : Bool) (ts : List Fm) (bs : Bool) (ss : List Rx) (hfit : (Rx.mk k bt ts bs ss).fit) (hsz : (Rx.mk k bt ts bs ss).sz ≤ 1048576) (ih : ∀ t ∈ ss, Ans (fun v => FV v t.tests) [] (CL X (fun _ => []) 73 [.agg t.cells] [])) :
    Ans (fun v => FV v (Rx.mk k bt ts bs ss).tests) [] (CL X (fun _ => []) 73 [.agg (Rx.mk k bt ts bs ss).cells] []) := by
  simp only [Rx.fit] at hfit
  obtain ⟨i1, i2, hft, hfs⟩ := hfit
  rw [Rx.sz] at hsz
  rw [Rx.cells, Rx.tests]
  have hsl := slv_Sl bt 10 (Fm.cellsL ts)
  generalize slv bt 10 (Fm.cellsL ts) = v at hsl
  obtain ⟨p1, u1', n1, d1, f1⟩ := hsl.one
  rw [Fm.cellsL_len] at n1
  have hsl2 := slv_Sl bs 3 (Rx.cellsL ss)
  generalize slv bs 3 (Rx.cellsL ss) = v2 at hsl2
  obtain ⟨p2, u2', n2, d2, f2⟩ := hsl2.one
  rw [Rx.cellsL_len] at n2
  have sl := Fm.szL_len ts
  obtain ⟨uc, huc, hclone⟩ := p_fclone ts v hsl hft (by simp [room]; omega)
  rw [CL_eq (fn := x73) rfl]
  obtain ⟨I, hI⟩ : ∃ I : Nat → List AV → Heap → Prop, ∀ i fr hp', I i fr hp' ↔ ((∃ L, hp' = [L]) ∧ (∃ u, FA u (ts ++ Rx.testsL (ss.take i)) ∧ fget fr 3 = u) ∧ fget fr 10 = v2 ∧ fget fr 11 = .int .i64 ss.length ∧ fget fr 12 = .int .i64 (i : Nat)) := ⟨_, fun _ _ _ => Iff.rfl⟩
  obtain ⟨Q, hQ⟩ : ∃ Q : XExit → List AV → Heap → Prop, ∀ e fr hp', Q e fr hp' ↔ (e = .exit 0 ∧ (∃ L, hp' = [L]) ∧ (∃ u, FA u (ts ++ Rx.testsL ss) ∧ fget fr 3 = u)) := ⟨_, fun _ _ _ => Iff.rfl⟩
  simp +contextual -implicitDefEqProofs (maxSteps := 10000000) only [x73, go_sem, ↓reduceIte, Nat.reduceEqDiff, Nat.reduceAdd, u1', p1, f1, u2', p2, n2, hclone, fget_drop1K, ldAt_topc]
  refine LC_upK ss.length I Q (fun r => Ans _ _ (finK _ (seqK (blockK 0 r) _))) ?_ ?_ ?_ ?_
  · rw [hI]
    refine ⟨⟨_, rfl⟩, ⟨uc, by rw [List.take_zero, Rx.testsL, List.append_nil]; exact huc, ?_⟩, ?_, ?_, ?_⟩ <;> simp only [go_sem, ↓reduceIte, Nat.reduceEqDiff, Int.natCast_zero]
  · intro i hi fr hp' h
    obtain ⟨⟨L, rfl⟩, ⟨u, hu, h3⟩, h10, h11, h12⟩ := (hI _ _ _).1 h
    have hv' : v2 = .lst .none 3 (Rx.cellsL ss) := by
      rcases hsl2 with ⟨_, e⟩ | e
      · have := Rx.cellsL_len ss; rw [e] at this; simp at this; omega
      · exact e
    have k1 : ((i : Int) < (ss.length : Int)) = True := by simp; omega
    have k2 : (i < (Rx.cellsL ss).length) = True := by rw [Rx.cellsL_len]; simp; omega
    have w1 : wr .i64 ((i : Int) + 1) = ((i + 1 : Nat) : Int) := by rw [wr_i64 _ (by omega)]; omega
    have g1 : (Rx.cellsL ss).getD i [] = (ss[i]).cells := by simp [Rx.cellsL_eq, List.getD, hi]
    have hmem : ss[i] ∈ ss := List.getElem_mem hi
    obtain ⟨a1, a2, a3, a4, a5⟩ := flatRx (Rx.fitL_mem hfs _ hmem)
    have a6 := flatRx' (Rx.fitL_mem hfs _ hmem)
    have a1' : (3 ≤ (ss[i]).cells.length) = True := by simp; omega
    obtain ⟨vi, hvi, hih⟩ := ih _ hmem
    have htk := Rx.testsL_take ss i hi
    have b1 := Rx.testsL_sz (ss.take i)
    have b2 := Rx.szL_take ss i
    have b3 := Rx.tests_sz ss[i]
    have b4 := Rx.sz_mem hmem
    have b5 := Fm.szL_len (Rx.testsL (ss.take i))
    have b6 := Fm.szL_len (ss[i]).tests
    obtain ⟨u', hu', happ⟩ := hu.app (Rx.tests_fit _ (Rx.fitL_mem hfs _ hmem)) (by simp [room]; omega)
    have hlo := fun hp => hvi.listOf hp
    subst hv'
    simp +contextual -implicitDefEqProofs (maxSteps := 10000000) only [x73_l0_run, go_sem, ↓reduceIte, Nat.reduceEqDiff, Nat.reduceAdd, h3, h10, h11, h12, k1, k2, w1, g1, a1, a2, a3, a4, a5, a6, hih, stAt_topc, ldAt_topc, hlo, happ, fget_drop1K]
    rw [hI]
    refine ⟨⟨_, rfl⟩, ⟨u', by rw [htk, ← List.append_assoc]; exact hu', ?_⟩, ?_, ?_, ?_⟩ <;> simp only [go_sem, ↓reduceIte, Nat.reduceEqDiff, fget_drop1K, h10, h11]
  · intro fr hp' h
    obtain ⟨⟨L, rfl⟩, ⟨u, hu, h3⟩, h10, h11, h12⟩ := (hI _ _ _).1 h
    simp +contextual -implicitDefEqProofs (maxSteps := 10000000) only [x73_l0_run, go_sem, ↓reduceIte, h11, h12, Int.lt_irrefl]
    rw [hQ]
    refine ⟨rfl, ⟨L, rfl⟩, u, by rw [List.take_length] at hu; exact hu, ?_⟩
    simp only [go_sem, ↓reduceIte, Nat.reduceEqDiff, h3]
  · intro e fr hp' he h
    obtain ⟨rfl, ⟨L, rfl⟩, u, hu, h3⟩ := (hQ _ _ _).1 h
    obtain ⟨q1, q2, q3, q4, q5⟩ := hu.fv.uf
    simp +contextual -implicitDefEqProofs (maxSteps := 10000000) only [go_sem, ↓reduceIte, h3, q3, q5]
    exact ⟨_, q1, rfl⟩
mutual
theorem p_tests : ∀ (t : Rx), t.fit → t.sz ≤ 1048576 → Ans (fun v => FV v t.tests) [] (CL X (fun _ => []) 73 [.agg t.cells] [])
  | .mk k bt ts bs ss, hf, hn => p_tests_step k bt ts bs ss hf hn (fun t ht => p_testsL ss (by simp only [Rx.fit] at hf; exact hf.2.2.2) (by rw [Rx.sz] at hn; omega) t ht)
theorem p_testsL : ∀ (l : List Rx), Rx.fitL l → Rx.szL l ≤ 1048576 → ∀ t ∈ l, Ans (fun v => FV v t.tests) [] (CL X (fun _ => []) 73 [.agg t.cells] [])
  | [], _, _, t, ht => by simp at ht
  | u :: l, hf, hn, t, ht => by
    rw [Rx.szL] at hn
    rcases List.mem_cons.1 ht with e | ht
    · rw [e]; exact p_tests u hf.1 (by omega)
    · exact p_testsL l hf.2 (by omega) t ht
end
theorem p_parts (k : Int) (n : Nm) (op : Int) (bv : Bool) (vs : List Nm) (bt : Bool) (ts : List Tm) (lo hi : Int) (o bs : Bool) (ss : List Fm) (br : Bool) (rs : List Rx) (hfit : (Fm.mk k n op bv vs bt ts lo hi o bs ss br rs).fit) (hsz : (Fm.mk k n op bv vs bt ts lo hi o bs ss br rs).sz ≤ 1048576) :
    Ans (fun v => FV v (Fm.mk k n op bv vs bt ts lo hi o bs ss br rs).parts) [] (CL X (fun _ => []) 47 [.agg (Fm.mk k n op bv vs bt ts lo hi o bs ss br rs).cells] []) := by
  simp only [Fm.fit] at hfit
  obtain ⟨i1, i2, i3, i4, hft, hfs, hfr⟩ := hfit
  rw [Fm.sz] at hsz
  rw [Fm.cells]
  obtain ⟨p1, u1', n1, d1, f1⟩ := (slv_Sl bv 1 (tx vs)).one
  generalize slv bv 1 (tx vs) = v at *
  obtain ⟨p2, u2', n2, d2, f2⟩ := (slv_Sl bt 7 (Tm.cellsL ts)).one
  generalize slv bt 7 (Tm.cellsL ts) = t at *
  have hsl3 := slv_Sl bs 10 (Fm.cellsL ss)
  generalize slv bs 10 (Fm.cellsL ss) = sv at hsl3
  obtain ⟨p3, u3', n3, d3, f3⟩ := hsl3.one
  have hsl4 := slv_Sl br 3 (Rx.cellsL rs)
  generalize slv br 3 (Rx.cellsL rs) = rv at hsl4
  obtain ⟨p4, u4', n4, d4, f4⟩ := hsl4.one
  rw [CL_eq (fn := x47) rfl]
  cases rs with
  | nil =>
    rw [Rx.cellsL_len] at n4
    simp only [List.length_nil, Int.natCast_zero] at n4
    obtain ⟨q1, q2, q3, q4, q5⟩ := (FV.of hsl3).uf
    rw [u3'] at q1 q2 q3 q4 q5
    simp +contextual -implicitDefEqProofs (maxSteps := 10000000) only [x47, go_sem, ↓reduceIte, Nat.reduceEqDiff, Nat.reduceAdd, Int.reduceLE, Int.reduceToNat, u1', p1, u2', p2, u3', p3, d3, u4', p4, n4, q5, Int.lt_irrefl, ldAt_topc]
    exact ⟨_, q1, rfl⟩
  | cons x rs =>
    have hv' : rv = .lst .none 3 (Rx.cellsL (x :: rs)) := by
      rcases hsl4 with ⟨_, e⟩ | e
      · simp [Rx.cellsL] at e
      · exact e
    subst hv'
    have hx : x.fit := hfr.1
    obtain ⟨vi, hvi, hih⟩ := p_tests x hx (by rw [Rx.szL] at hsz; omega)
    obtain ⟨a1, a2, a3, a4, a5⟩ := flatRx hx
    have a6 := flatRx' hx
    have a1' : (3 ≤ x.cells.length) = True := by simp; omega
    have k1 : ((0 : Int) < ((Rx.cellsL (x :: rs)).length : Int)) = True := by simp [Rx.cellsL]
    have k2 : (0 < (Rx.cellsL (x :: rs)).length) = True := by simp [Rx.cellsL]
    have g1 : (Rx.cellsL (x :: rs)).getD 0 [] = x.cells := by simp [Rx.cellsL]
    have ia : iaddrK 3 (.lst .none 3 (Rx.cellsL (x :: rs))) (asNat (.int .i64 0)) = some (.elp x.cells) := by
      rw [show asNat (.int .i64 0) = some 0 from rfl, iaddrK_lst, if_pos ⟨rfl, by simp [Rx.cellsL]⟩, g1]
    have hr : ∀ hp lev, ∃ w, FV w x.tests ∧ retOf hp lev [vi] = some w := by
      rcases hvi with ⟨rfl, h⟩ | rfl | rfl | rfl <;> intro hp lev
      · exact ⟨_, .inl ⟨rfl, h⟩, rfl⟩
      · exact ⟨_, .inr (.inl rfl), rfl⟩
      · exact ⟨_, .inr (.inr (.inl rfl)), rfl⟩
      · exact ⟨_, .inr (.inr (.inr rfl)), rfl⟩
    obtain ⟨w, hw, hr'⟩ := hr [lputc [] 1 0 [.int .i64 k, .str n, .int .i64 op, v, t, .int .i64 lo, .int .i64 hi, .bool o, sv, .lst .none 3 (Rx.cellsL (x :: rs))]] 0
    simp +contextual -implicitDefEqProofs (maxSteps := 10000000) only [x47, go_sem, ↓reduceIte, Nat.reduceEqDiff, Nat.reduceAdd, Int.reduceLE, Int.reduceToNat, u1', p1, u2', p2, u3', p3, u4', p4, n4, k1, k2, g1, a1, a3, a4, a6, hih, hr', ldAt_topc]
    exact ⟨w, hw, rfl⟩
theorem sx_get (ws : List Nm) (i : Nat) (h : i < ws.length) : (ws.map fun w => AV.str w).drop i = .str (ws.getD i []) :: (ws.map fun w => AV.str w).drop (i + 1) := by
  rw [List.drop_eq_getElem_cons (by simpa using h)]
  simp [List.getD, h]
theorem p_indexfS (ws : List Nm) (p : Nm → Bool) (f : Nat) (ds cs : List AV) (r : Ref) (hm : ws.length ≤ 9223372036854775806) (hp : Heap) (hc : cellsAt hp r = some (ws.map fun w => AV.str w))
    (hf : ∀ w ∈ ws, CL X (fun _ => []) f ((ds ++ [AV.str w] ++ cs).map uf) ([] :: hp) = some (.bool (p w), [] :: hp)) :
    CL X (fun _ => []) 92 [.sl r 1 0 ws.length, .fn f ds cs] hp = some (.int .i64 (idxP p ws 0), hp) := by
  have hne := cellsAt_ne hc
  rw [CL_eq (fn := x92) rfl]
  simp +contextual -implicitDefEqProofs (maxSteps := 10000000) only [x92, go_sem, ↓reduceIte, reduceCtorEq, Int.reduceNeg, uf_sl, lensK_sl]
  obtain ⟨I, hI⟩ : ∃ I : Nat → List AV → Heap → Prop, ∀ i fr hp', I i fr hp' ↔ (hp' = [] :: hp ∧ fget fr 0 = .sl r 1 0 ws.length ∧ fget fr 1 = .fn f ds cs ∧ fget fr 7 = .int .i64 ws.length ∧ fget fr 8 = .int .i64 (i : Nat) ∧ idxP p ws 0 = idxP p (ws.drop i) i) := ⟨_, fun _ _ _ => Iff.rfl⟩
  obtain ⟨Q, hQ⟩ : ∃ Q : XExit → List AV → Heap → Prop, ∀ e fr hp', Q e fr hp' ↔ (hp' = [] :: hp ∧ ((e = .exit 0 ∧ idxP p ws 0 = -1) ∨ (e = .ret ∧ fget fr 4 = .int .i64 (idxP p ws 0)))) := ⟨_, fun _ _ _ => Iff.rfl⟩
  refine LC_upK ws.length I Q (fun r => finK _ (seqK (blockK 0 r) _) = _) ?_ ?_ ?_ ?_
  · rw [hI]
    refine ⟨rfl, ?_, ?_, ?_, ?_, by rw [List.drop_zero]⟩ <;> simp only [go_sem, ↓reduceIte, reduceCtorEq, Nat.reduceEqDiff, Int.natCast_zero]
  · intro i hi fr hp' h
    obtain ⟨rfl, h0, h1, h7, h8, hd⟩ := (hI _ _ _).1 h
    have k1 : ((i : Int) < (ws.length : Int)) = True := by simp; omega
    have k2 : (i < ws.length) = True := by simp; omega
    have g1 := sx_get ws i hi
    have w1 : wr .i64 ((i : Int) + 1) = ((i + 1 : Nat) : Int) := by rw [wr_i64 _ (by omega)]; omega
    have hw := hf (ws.getD i []) (by simp [List.getD, hi])
    rw [idxP_drop _ ws i hi] at hd
    obtain ⟨y, hy⟩ : ∃ y, ws.getD i [] = y := ⟨_, rfl⟩
    rw [hy] at hd g1 hw
    have m1 : i * 1 = i := Nat.mul_one i
    by_cases c : p y = true
    · rw [c] at hw
      simp +contextual -implicitDefEqProofs (maxSteps := 10000000) only [x92_l0_run, go_sem, ↓reduceIte, reduceCtorEq, Nat.reduceEqDiff, h0, h1, h7, h8, k1, k2, g1, hw, o_calld, cwK_same, uf_sl, iaddrK_sl, ldAt_cons, hne, hc, m1]
      rw [hQ]
      refine ⟨rfl, .inr ⟨rfl, ?_⟩⟩
      simp only [go_sem, ↓reduceIte, hd, c]
    · have c2 : p y = false := by simpa using c
      rw [c2] at hw
      simp +contextual -implicitDefEqProofs (maxSteps := 10000000) only [x92_l0_run, go_sem, ↓reduceIte, reduceCtorEq, Nat.reduceEqDiff, h0, h1, h7, h8, k1, k2, g1, w1, hw, o_calld, cwK_same, uf_sl, iaddrK_sl, ldAt_cons, hne, hc, m1]
      rw [hI]
      refine ⟨rfl, ?_, ?_, ?_, ?_, by rw [hd, if_neg (by simp [c2])]⟩ <;> simp only [go_sem, ↓reduceIte, reduceCtorEq, Nat.reduceEqDiff, h0, h1, h7]
  · intro fr hp' h
    obtain ⟨rfl, h0, h1, h7, h8, hd⟩ := (hI _ _ _).1 h
    simp +contextual -implicitDefEqProofs (maxSteps := 10000000) only [x92_l0_run, go_sem, ↓reduceIte, h7, h8, Int.lt_irrefl]
    rw [hQ]
    exact ⟨rfl, .inl ⟨rfl, by rw [hd, List.drop_length]; rfl⟩⟩
  · intro e fr hp' he h
    rcases (hQ _ _ _).1 h with ⟨rfl, ⟨rfl, h1⟩ | ⟨rfl, h1⟩⟩
    · simp +contextual -implicitDefEqProofs (maxSteps := 10000000) only [go_sem, ↓reduceIte, Int.reduceNeg, h1]
    · simp +contextual -implicitDefEqProofs (maxSteps := 10000000) only [go_sem, Int.reduceNeg, h1]
theorem idxP_none (p : Nm → Bool) : ∀ (ws : List Nm) (i : Nat), idxP p ws i = -1 → ∀ w ∈ ws, p w = false
  | [], _, _, w, hw => by simp at hw
  | y :: l, i, h, w, hw => by
    rw [idxP] at h
    by_cases c : p y = true
    · rw [if_pos c] at h; omega
    · rw [if_neg c] at h
      rcases List.mem_cons.1 hw with e | hw
      · rw [e]; simpa using c
      · exact idxP_none p l (i + 1) h w hw
theorem idxP_some (p : Nm → Bool) : ∀ (ws : List Nm) (i : Nat), idxP p ws i ≠ -1 → ∃ k, k < ws.length ∧ idxP p ws i = ((i + k : Nat) : Int) ∧ p (ws.getD k []) = true ∧ (ws.take k).filter (fun w => !p w) = ws.take k
  | [], _, h => absurd rfl h
  | y :: l, i, h => by
    rw [idxP] at h ⊢
    by_cases c : p y = true
    · exact ⟨0, by simp, by rw [if_pos c]; rfl, by simpa using c, by simp⟩
    · rw [if_neg c] at h ⊢
      obtain ⟨k, h1, h2, h3, h4⟩ := idxP_some p l (i + 1) h
      refine ⟨k + 1, by simpa using h1, by rw [h2]; congr 1; omega, by simpa using h3, ?_⟩
      rw [List.take_succ_cons, List.filter_cons, h4]
      simp [c]
theorem splice_take : ∀ (l : List AV) (i : Nat) (vs : List AV), i ≤ l.length → (splice l i vs).take i = l.take i
  | l, 0, vs, _ => by simp
  | [], i + 1, vs, h => by simp at h
  | x :: l, i + 1, vs, h => by
    cases vs with
    | nil => rfl
    | cons v vs =>
      rw [splice_succ, List.take_succ_cons, List.take_succ_cons, splice_take l i (v :: vs) (by simpa using h)]
theorem splice_take1 : ∀ (l : List AV) (i : Nat) (v : AV), i < l.length → (splice l i [v]).take (i + 1) = l.take i ++ [v]
  | [], i, v, h => by simp at h
  | x :: l, 0, v, _ => by rw [splice_zero, splice_nil]; rfl
  | x :: l, i + 1, v, h => by
    rw [splice_succ, List.take_succ_cons, splice_take1 l i v (by simpa using h), List.take_succ_cons, List.cons_append]
theorem splice_drop1 : ∀ (l : List AV) (i : Nat) (v : AV) (j : Nat), i < j → (splice l i [v]).drop j = l.drop j
  | [], i, v, j, h => by cases i <;> cases j <;> simp_all [splice]
  | x :: l, 0, v, j, h => by
    rw [splice_zero, splice_nil]
    cases j with
    | zero => omega
    | succ j => rfl
  | x :: l, i + 1, v, j, h => by
    cases j with
    | zero => omega
    | succ j => rw [splice_succ, List.drop_succ_cons, List.drop_succ_cons, splice_drop1 l i v j (by omega)]
theorem splice_len1 : ∀ (l : List AV) (i : Nat) (vs : List AV), (splice l i vs).length = l.length
  | l, i, [] => by rw [splice_nil]
  | [], i, v :: vs => by cases i <;> rfl
  | x :: l, 0, v :: vs => by rw [splice_zero, List.length_cons, List.length_cons, splice_len1 l 0 vs]
  | x :: l, i + 1, v :: vs => by rw [splice_succ, List.length_cons, List.length_cons, splice_len1 l i (v :: vs)]
theorem p_delf (ws : List Nm) (hw0 : ws ≠ []) (p : Nm → Bool) (f : Nat) (ds cs : List AV) (hds : (ds.map uf) = ds) (hcs : cs.map uf = cs) (hm : ws.length ≤ 1099511627776) (hp : Heap)
    (hf : ∀ w ∈ ws, ∀ hx, (∃ L, hx = L :: hp) ∨ (∃ L, hx = [] :: L :: hp) → CL X (fun _ => []) f ((ds ++ [AV.str w] ++ cs).map uf) hx = some (.bool (p w), hx)) :
    CL X (fun _ => []) 68 [.lst .uniq 1 (tx ws), .fn f ds cs] hp = some (.lst .uniq 1 (tx (ws.filter fun w => !p w)), hp) := by
  have hbare : ((tx ws).all fun e => e.all bareV) = true := bare_strs ws
  have hfl : (tx ws).flatten = ws.map fun w => AV.str w := by
    clear hw0 hm hf hbare
    induction ws with
    | nil => rfl
    | cons w l ih => simp only [tx, List.map_cons, List.flatten_cons] at ih ⊢; rw [ih]; rfl
  obtain ⟨C0, hC0⟩ : ∃ C0 : List AV, (ws.map fun w => AV.str w) = C0 := ⟨_, rfl⟩
  rw [hC0] at hfl
  have hC0l : C0.length = ws.length := by rw [← hC0]; simp
  have hlc : ∀ C, lcells (lputc [] 8 0 C) 8 0 = some C := fun C => by rw [lcells_put]; simp
  have hput : ∀ C D, lputc (lputc [] 8 0 C) 8 0 D = lputc [] 8 0 D := fun C D => by unfold lputc; rw [lput_lput]
  have hnv : ∀ C, nextVer (lputc [] 8 0 C) 8 = 1 := fun C => by rw [nextVer_put]; simp
  have hidx := p_indexfS ws p f ds cs ⟨hp.length, 8, 0⟩ (by omega) (lputc [] 8 0 C0 :: hp) (by rw [cellsAt_top, hlc, hC0]) (fun w hw => hf w hw _ (.inr ⟨_, rfl⟩))
  rw [CL_eq (fn := x68) rfl]
  by_cases hn : idxP p ws 0 = -1
  · have hno := idxP_none p ws 0 hn
    have hfil : (ws.filter fun w => !p w) = ws := List.filter_eq_self.2 (fun w hw => by simp [hno w hw])
    rw [hn] at hidx
    rw [hfil]
    have hret := retOf_strs (l := lputc [] 8 0 C0) (h := hp) (s := 8) (u := 0) (off := 0) (len := ws.length) (vs := C0) (ws := ws) (hlc C0) (by rw [List.drop_zero, List.take_of_length_le (by omega), hC0]) rfl (by omega)
    simp +contextual -implicitDefEqProofs (maxSteps := 10000000) only [x68, go_sem, ↓reduceIte, reduceCtorEq, Nat.reduceEqDiff, Int.reduceNeg, Nat.reduceLT, o_thw, thwK_uniq, thwK_sl, hbare, hfl, tx_len, uf_sl, drop1K_sl, hidx, o_callw, cwK_same, hret]
    rfl
  · obtain ⟨k, hk1, hk2, hk3, hk4⟩ := idxP_some p ws 0 hn
    rw [Nat.zero_add] at hk2
    rw [hk2] at hidx
    have hkn : ((k : Int) = -1) = False := by simp <;> omega
    have w0 : wr .i64 ((k : Int) + 1) = ((k + 1 : Nat) : Int) := by rw [wr_i64 _ (by omega)]; omega
    simp +contextual -implicitDefEqProofs (maxSteps := 10000000) only [x68, go_sem, ↓reduceIte, reduceCtorEq, Nat.reduceEqDiff, Int.reduceNeg, Nat.reduceLT, o_thw, thwK_uniq, thwK_sl, hbare, hfl, tx_len, uf_sl, drop1K_sl, hidx, o_callw, cwK_same, hkn, w0]
    obtain ⟨I, hI⟩ : ∃ I : Nat → List AV → Heap → Prop, ∀ i fr hp', I i fr hp' ↔ ((∃ C q, hp' = lputc [] 8 0 C :: hp ∧ C.length = ws.length ∧ C.take q = ((ws.take (k + 1 + i)).filter fun w => !p w).map (fun w => AV.str w) ∧
        ((ws.take (k + 1 + i)).filter fun w => !p w).length = q ∧ C.drop (k + 1 + i) = (ws.map fun w => AV.str w).drop (k + 1 + i) ∧ q < k + 1 + i ∧ fget fr 5 = .int .i64 (q : Nat)) ∧ fget fr 0 = .sl ⟨hp.length, 8, 0⟩ 1 0 ws.length ∧ fget fr 1 = .fn f ds cs ∧ fget fr 6 = .int .i64 ((k + 1 + i : Nat) : Int)) := ⟨_, fun _ _ _ => Iff.rfl⟩
    obtain ⟨Q, hQ⟩ : ∃ Q : XExit → List AV → Heap → Prop, ∀ e fr hp', Q e fr hp' ↔ (e = .exit 0 ∧ (∃ C q, hp' = lputc [] 8 0 C :: hp ∧ C.length = ws.length ∧ C.take q = (ws.filter fun w => !p w).map (fun w => AV.str w) ∧ (ws.filter fun w => !p w).length = q ∧ q < ws.length ∧ fget fr 5 = .int .i64 (q : Nat)) ∧ fget fr 0 = .sl ⟨hp.length, 8, 0⟩ 1 0 ws.length) := ⟨_, fun _ _ _ => Iff.rfl⟩
    refine LC_upK (ws.length - (k + 1)) I Q (fun r => finK _ (seqK (blockK 0 r) _) = _) ?_ ?_ ?_ ?_
    · rw [hI]
      have ht1 : (ws.take (k + 1)).filter (fun w => !p w) = ws.take k := by
        rw [List.take_succ_eq_append_getElem hk1, List.filter_append, hk4]
        have : p ws[k] = true := by simpa [List.getD, hk1] using hk3
        simp [this]
      refine ⟨⟨C0, k, rfl, hC0l, ?_, ?_, by rw [hC0], by omega, ?_⟩, ?_, ?_, ?_⟩
      · rw [Nat.add_zero, ht1, ← hC0, List.map_take]
      · rw [Nat.add_zero, ht1]; simp <;> omega
      all_goals simp only [go_sem, ↓reduceIte, reduceCtorEq, Nat.reduceEqDiff, Int.reduceNeg, Nat.add_zero]
    · intro i hi fr hp' h
      obtain ⟨⟨C, q, rfl, hCl, hCt, hql, hCd, hqj, h5⟩, h0, h1, h6⟩ := (hI _ _ _).1 h
      obtain ⟨j, hj⟩ : ∃ j, k + 1 + i = j := ⟨_, rfl⟩
      have hj1 : k + 1 + (i + 1) = j + 1 := by omega
      rw [hj] at hCt hql hCd hqj h6
      have hjn : j < ws.length := by omega
      have k1 : ((j : Int) < (ws.length : Int)) = True := by simp; omega
      have k2 : (j < ws.length) = True := by simp; omega
      have k3 : (q < ws.length) = True := by simp; omega
      have g1 := sx_get ws j hjn
      rw [g1] at hCd
      have w1 : wr .i64 ((j : Int) + 1) = ((j + 1 : Nat) : Int) := by rw [wr_i64 _ (by omega)]; omega
      have w2 : wr .i64 ((q : Int) + 1) = ((q + 1 : Nat) : Int) := by rw [wr_i64 _ (by omega)]; omega
      have hw := hf (ws.getD j []) (by simp [List.getD, hjn]) (lputc [] 8 0 C :: hp) (.inl ⟨_, rfl⟩)
      have htk : (ws.take (j + 1)).filter (fun w => !p w) = (ws.take j).filter (fun w => !p w) ++ (if p (ws.getD j []) = true then [] else [ws.getD j []]) := by
        rw [List.take_succ_eq_append_getElem hjn, List.filter_append]
        have : ws.getD j [] = ws[j] := by simp [List.getD, hjn]
        rw [this]
        by_cases c : p ws[j] = true <;> simp [c]
      obtain ⟨y, hy⟩ : ∃ y, ws.getD j [] = y := ⟨_, rfl⟩
      rw [hy] at hCd hw htk
      have m1 : j * 1 = j := Nat.mul_one j
      have m2 : q * 1 = q := Nat.mul_one q
      by_cases c : p y = true
      · rw [c] at hw
        rw [if_pos c, List.append_nil] at htk
        simp +contextual -implicitDefEqProofs (maxSteps := 10000000) only [x68_l0_run, go_sem, ↓reduceIte, reduceCtorEq, Nat.reduceEqDiff, o_thw, thwK_sl, h0, h1, h5, h6, k1, k2, w1, hw, o_calld, cwK_same, uf_sl, lensK_sl, iaddrK_sl, hlc, m1, hCd]
        rw [hI]
        refine ⟨⟨C, q, rfl, hCl, by rw [hj1, htk]; exact hCt, by rw [hj1, htk]; exact hql, ?_, by omega, ?_⟩, ?_, ?_, ?_⟩
        · rw [hj1]
          have := congrArg List.tail hCd
          rw [List.tail_drop, List.tail_cons] at this
          exact this
        all_goals simp only [go_sem, ↓reduceIte, reduceCtorEq, Nat.reduceEqDiff, h0, h1, h5, hj1]
      · have c2 : p y = false := by simpa using c
        rw [c2] at hw
        rw [if_neg c] at htk
        have hfit : (q + 1 ≤ C.length) = True := by simp; omega
        simp +contextual -implicitDefEqProofs (maxSteps := 10000000) only [x68_l0_run, go_sem, ↓reduceIte, reduceCtorEq, Nat.reduceEqDiff, o_thw, thwK_sl, h0, h1, h5, h6, k1, k2, k3, w1, w2, hw, o_calld, cwK_same, uf_sl, lensK_sl, iaddrK_sl, hlc, m1, m2, hCd, hfit, hput]
        rw [hI]
        refine ⟨⟨splice C q [.str y], q + 1, rfl, by rw [splice_len1]; exact hCl, ?_, ?_, ?_, by omega, ?_⟩, ?_, ?_, ?_⟩
        · rw [hj1, htk, splice_take1 _ _ _ (by omega), hCt, List.map_append]; rfl
        · rw [hj1, htk, List.length_append, hql]; rfl
        · rw [hj1, splice_drop1 _ _ _ _ (by omega)]
          have := congrArg List.tail hCd
          rw [List.tail_drop, List.tail_cons] at this
          exact this
        all_goals simp only [go_sem, ↓reduceIte, reduceCtorEq, Nat.reduceEqDiff, h0, h1, hj1]
    · intro fr hp' h
      obtain ⟨⟨C, q, rfl, hCl, hCt, hql, hCd, hqj, h5⟩, h0, h1, h6⟩ := (hI _ _ _).1 h
      rw [show k + 1 + (ws.length - (k + 1)) = ws.length by omega] at hCt hql hCd hqj h6
      rw [List.take_length] at hCt hql
      simp +contextual -implicitDefEqProofs (maxSteps := 10000000) only [x68_l0_run, go_sem, ↓reduceIte, reduceCtorEq, Nat.reduceEqDiff, o_thw, thwK_sl, h0, h6, lensK_sl, Int.lt_irrefl]
      rw [hQ]
      refine ⟨rfl, ⟨C, q, rfl, hCl, hCt, hql, hqj, ?_⟩, ?_⟩ <;> simp only [go_sem, ↓reduceIte, reduceCtorEq, Nat.reduceEqDiff, h0, h5]
    · intro e fr hp' he h
      obtain ⟨rfl, ⟨C, q, rfl, hCl, hCt, hql, hqj, h5⟩, h0⟩ := (hQ _ _ _).1 h
      obtain ⟨C2, hC2⟩ : ∃ C2, splice C q (List.replicate (ws.length - q) [AV.str []]).flatten = C2 := ⟨_, rfl⟩
      have hC2l : C2.length = ws.length := by rw [← hC2, splice_len1]; exact hCl
      have hC2t : C2.take q = (ws.filter fun w => !p w).map (fun w => AV.str w) := by rw [← hC2, splice_take _ _ _ (by omega)]; exact hCt
      have hret := retOf_strs (l := lputc [] 8 0 C2) (h := hp) (s := 8) (u := 0) (off := 0) (len := q) (vs := C2) (ws := ws.filter fun w => !p w) (hlc C2) (by rw [List.drop_zero]; exact hC2t) hql (by omega)
      have k1 : (q ≤ ws.length ∧ (q < ws.length ∨ q = 0)) = True := by simp; omega
      have k2 : (q ≤ ws.length) = True := by simp; omega
      have k3 : (q < ws.length) = True := by simp; omega
      have hfl2 : (List.replicate (ws.length - q) [AV.str []]).flatten.length = ws.length - q := by simp
      have k4 : (q + (ws.length - q) ≤ C.length) = True := by simp; omega
      have m2 : q * 1 = q := Nat.mul_one q
      simp +contextual -implicitDefEqProofs (maxSteps := 10000000) only [go_sem, ↓reduceIte, reduceCtorEq, Nat.reduceEqDiff, o_thw, thwK_sl, h0, h5, uf_sl, drop1K_sl, o_ssl, sslK_slo, sslK_shi, k2, k3, true_or, o_clr, clrK_sl, hlc, m2, hfl2, k4, hC2, hput, hret]
      rfl
def pcolA (k : Int) : Nat → List (List Nm × Int) → List Nm
  | _, [] => []
  | i, p :: P => (if k = 19 then [] else if k = 20 ∨ k = 21 then (if i = 1 then p.1 else []) else p.1) ++ pcolA k (i + 1) P
def fcol (k : Int) (n : Nm) (vs : List Nm) (T : List Nm) (P : List (List Nm × Int)) : List Nm :=
  if k = 19 then vs.drop 1 ++ [n] else if k = 10 then (T ++ pcolA k 0 P).filter (fun x => !vs.contains x) else T ++ pcolA k 0 P
def dmax (P : List (List Nm × Int)) : Int := P.foldl (fun d p => if p.2 > d then p.2 else d) 0
def frcomb (k : Int) (n : Nm) (vs : List Nm) (T : List Nm) (P : List (List Nm × Int)) : List Nm × Int :=
  (riseL (fcol k n vs T P), if ((riseL (fcol k n vs T P)).length : Int) > dmax P then ((riseL (fcol k n vs T P)).length : Int) else dmax P)
mutual
def Fm.fr : Fm → List Nm × Int
  | .mk k n _ _ vs _ ts _ _ _ _ ss _ rs => frcomb k n vs (Tm.tvC ts) (match rs with | [] => Fm.frL ss | x :: _ => Rx.frT x)
def Fm.frL : List Fm → List (List Nm × Int)
  | [] => []
  | t :: l => t.fr :: Fm.frL l
def Rx.frT : Rx → List (List Nm × Int)
  | .mk _ _ ts _ ss => Fm.frL ts ++ Rx.frTL ss
def Rx.frTL : List Rx → List (List Nm × Int)
  | [] => []
  | t :: l => t.frT ++ Rx.frTL l
end
theorem Fm.frL_eq : ∀ l : List Fm, Fm.frL l = l.map Fm.fr
  | [] => by rw [Fm.frL]; rfl
  | t :: l => by rw [Fm.frL, Fm.frL_eq l]; rfl
mutual
theorem Rx.frT_eq : ∀ t : Rx, t.frT = t.tests.map Fm.fr
  | .mk k bt ts bs ss => by rw [Rx.frT, Rx.tests, List.map_append, Fm.frL_eq, Rx.frTL_eq ss]
theorem Rx.frTL_eq : ∀ l : List Rx, Rx.frTL l = (Rx.testsL l).map Fm.fr
  | [] => by rw [Rx.frTL, Rx.testsL]; rfl
  | t :: l => by rw [Rx.frTL, Rx.testsL, List.map_append, Rx.frT_eq t, Rx.frTL_eq l]
end
theorem Fm.fr_eq (k : Int) (n : Nm) (op : Int) (bv : Bool) (vs : List Nm) (bt : Bool) (ts : List Tm) (lo hi : Int) (o bs : Bool) (ss : List Fm) (br : Bool) (rs : List Rx) :
    (Fm.mk k n op bv vs bt ts lo hi o bs ss br rs).fr = frcomb k n vs (Tm.tvC ts) ((Fm.mk k n op bv vs bt ts lo hi o bs ss br rs).parts.map Fm.fr) := by
  cases rs with
  | nil => rw [Fm.fr, Fm.parts, Fm.frL_eq]
  | cons x rs => rw [Fm.fr, Fm.parts, Rx.frT_eq]
def psum : List (List Nm × Int) → Nat
  | [] => 0
  | p :: P => p.1.length + psum P
theorem psum_append : ∀ a b, psum (a ++ b) = psum a + psum b
  | [], _ => by simp [psum]
  | p :: a, b => by rw [List.cons_append, psum, psum, psum_append a]; omega
theorem pcolA_len (k : Int) : ∀ (P : List (List Nm × Int)) (i : Nat), (pcolA k i P).length ≤ psum P
  | [], _ => Nat.le_refl _
  | p :: P, i => by
    rw [pcolA, psum, List.length_append]
    have := pcolA_len k P (i + 1)
    split
    · simp; omega
    · split
      · split
        · omega
        · simp; omega
      · omega
theorem pcolA_snoc (k : Int) (p : List Nm × Int) : ∀ (P : List (List Nm × Int)) (i : Nat), pcolA k i (P ++ [p]) = pcolA k i P ++ (if k = 19 then [] else if k = 20 ∨ k = 21 then (if i + P.length = 1 then p.1 else []) else p.1)
  | [], i => by simp [pcolA]
  | q :: P, i => by
    rw [List.cons_append, pcolA, pcolA, pcolA_snoc k p P (i + 1), List.append_assoc, List.length_cons, show i + 1 + P.length = i + (P.length + 1) by omega]
theorem fcol_len (k : Int) (n : Nm) (vs T : List Nm) (P : List (List Nm × Int)) : (fcol k n vs T P).length ≤ 1 + vs.length + T.length + psum P := by
  unfold fcol
  have := pcolA_len k P 0
  split
  · simp; omega
  · split
    · have := List.length_filter_le (fun x => !vs.contains x) (T ++ pcolA k 0 P)
      rw [List.length_append] at this
      omega
    · rw [List.length_append]; omega
mutual
theorem Fm.fr_len : ∀ t : Fm, t.fr.1.length ≤ t.sz
  | .mk k n op bv vs bt ts lo hi o bs ss br rs => by
    rw [Fm.sz]
    have h1 := Tm.tvC_len ts
    cases rs with
    | nil =>
      rw [Fm.fr]
      have h2 := Fm.frL_len ss
      have h3 := riseL_length (fcol k n vs (Tm.tvC ts) (Fm.frL ss))
      have h4 := fcol_len k n vs (Tm.tvC ts) (Fm.frL ss)
      simp only [frcomb]
      omega
    | cons x rs =>
      rw [Fm.fr]
      have h2 := Rx.frT_len x
      have h3 := riseL_length (fcol k n vs (Tm.tvC ts) x.frT)
      have h4 := fcol_len k n vs (Tm.tvC ts) x.frT
      simp only [frcomb, Rx.szL]
      omega
theorem Fm.frL_len : ∀ l : List Fm, psum (Fm.frL l) ≤ Fm.szL l
  | [] => Nat.le_refl _
  | t :: l => by
    rw [Fm.frL, psum, Fm.szL]
    have := Fm.fr_len t
    have := Fm.frL_len l
    omega
theorem Rx.frT_len : ∀ t : Rx, psum t.frT ≤ t.sz
  | .mk k bt ts bs ss => by
    rw [Rx.frT, psum_append, Rx.sz]
    have := Fm.frL_len ts
    have := Rx.frTL_len ss
    omega
theorem Rx.frTL_len : ∀ l : List Rx, psum (Rx.frTL l) ≤ Rx.szL l
  | [] => Nat.le_refl _
  | t :: l => by
    rw [Rx.frTL, psum_append, Rx.szL]
    have := Rx.frT_len t
    have := Rx.frTL_len l
    omega
end
theorem dmax_snoc (P : List (List Nm × Int)) (p : List Nm × Int) : dmax (P ++ [p]) = if p.2 > dmax P then p.2 else dmax P := by
  unfold dmax
  rw [List.foldl_append]
  rfl
def HeldA (l : List Nm) (D : Int) (u : AV) : Prop := (l = [] ∧ u = .tup [.nilsl, .int .i64 D]) ∨ u = .lst .uniq 1001 ([.int .i64 D] :: tx l)
def FrA (t : Fm) : Prop := Ans (HeldA t.fr.1 t.fr.2) [] (CL X (fun _ => []) 42 [.agg t.cells] [])
theorem HeldA.parts {l : List Nm} {D : Int} {u : AV} (h : HeldA l D u) : ∃ c v w, (∀ d s fr hp, extmK d s fr hp u = some (fput (fput fr s (.tup [c, .int .i64 D])) d v, hp)) ∧ owndK v = some w ∧ ∀ hp, listOf hp 1 (uf w) = some (tx l) := by
  rcases h with ⟨rfl, rfl⟩ | rfl
  · exact ⟨.nilsl, .nilsl, .nilsl, fun _ _ _ _ => rfl, rfl, fun _ => rfl⟩
  · exact ⟨.undef, .lst .uniq 1 (tx l), .lst .own 1 (tx l), fun _ _ _ _ => rfl, rfl, fun _ => rfl⟩
def scl (l : List Nm) : AV := if l = [] then .lst .tight 1 [] else .lst .uniq 1 (tx l)
theorem p_sclone (l : List Nm) (hs : l.length * 16 ≤ room) (hp : Heap) : CL X (fun _ => []) 24 [.lst .none 1 (tx l)] hp = some (scl l, hp) := by
  rw [CL_eq (fn := x24) rfl]
  have hn : nilK 1 false (.lst .none 1 (tx l)) = some (.bool false) := rfl
  by_cases h : l = []
  · subst h
    have t0 : tx ([] : List Nm) = [] := rfl
    rw [t0] at hn
    simp +contextual -implicitDefEqProofs (maxSteps := 10000000) only [x24, go_sem, ↓reduceIte, reduceCtorEq, Nat.reduceEqDiff, Nat.reduceLT, Nat.reduceDiv, o_eqnil, hn, t0, Nat.reduceDiv]
    rfl
  · have hne : (tx l = []) = False := by rw [tx_nil]; simp [h]
    have hs' : (l.length * 16 ≤ room) = True := by simp [hs]
    simp +contextual -implicitDefEqProofs (maxSteps := 10000000) only [x24, go_sem, ↓reduceIte, reduceCtorEq, Nat.reduceEqDiff, Nat.reduceLT, Nat.reduceDiv, o_eqnil, hn, hne, tx_len, tx_free, tx_plain, Nat.reduceDiv, hs']
    unfold scl
    rw [if_neg h]
theorem appK_scl (l : List Nm) (n : Nm) (hs : (l.length + 1) * 16 ≤ room) : appK true 1 16 (scl l) (some (tx [n])) = some (.lst .uniq 1 (tx (l ++ [n]))) := by
  unfold scl
  have hn : ¬ (tx [n] = []) := by rw [tx_nil]; simp
  by_cases h : l = []
  · subst h
    rw [if_pos rfl, appK_lst, if_neg hn, if_pos ⟨tx_free [n], tx_plain [n]⟩, if_pos ⟨rfl, rfl, by simpa [tx] using hs⟩]
    rfl
  · rw [if_neg h, appK_lst, if_neg hn, if_pos ⟨tx_free [n], tx_plain [n]⟩, tx_len, tx_len, if_pos ⟨rfl, rfl, hs⟩, tx_app]
    rfl
theorem p_free1 (vs : List Nm) (x : Nm) (v : AV) (hv : Sl 1 v (tx vs)) (hm : vs.length ≤ 9223372036854775806) (r : Ref) (C : List AV) (hC : C.drop 3 = v :: C.drop 4) (hp : Heap) (hc : cellsAt hp r = some C) :
    CL X (fun _ => []) 69 [.str x, .ptr r 0] hp = some (.bool (vs.contains x), hp) := by
  have h1 := fun hp => p_contains vs x v hv hm hp
  obtain ⟨p1, u1, n1, d1, f1⟩ := hv.one
  have hne := cellsAt_ne hc
  rw [CL_eq (fn := x69) rfl]
  simp +contextual -implicitDefEqProofs (maxSteps := 10000000) only [x69, go_sem, ↓reduceIte, reduceCtorEq, Nat.reduceEqDiff, u1, f1, h1, hc, hne, ldAt_cons, hC]
set_option maxHeartbeats 16000000
theorem Sl.listOf {x : AV} {es : List (List AV)} (h : Sl 1 x es) (hp : Heap) : Go.Proofs.YtnmaahfipddkmaaGreat.Sx.listOf hp 1 x = some es := by
  rcases h with ⟨rfl, rfl⟩ | rfl <;> rfl
theorem flatFm' {t : Fm} (h : t.fit) : refFreeL t.cells = true := (Fm.fxp t h).free.2
theorem p_delf_nil (f : Nat) (ds cs : List AV) (hp : Heap) (hf : ∀ w, w ∈ ([] : List Nm) → CL X (fun _ => []) f ((ds ++ [AV.str w] ++ cs).map uf) ([] :: [] :: hp) = some (.bool false, [] :: [] :: hp)) :
    CL X (fun _ => []) 68 [.nilsl, .fn f ds cs] hp = some (.nilsl, hp) := by
  have hidx := p_indexf [] (fun _ => false) f ds cs .nilsl (.inl ⟨rfl, rfl⟩) (by simp) ([] :: hp) hf
  have hi : idxP (fun _ => false) ([] : List Nm) 0 = -1 := rfl
  rw [hi] at hidx
  rw [CL_eq (fn := x68) rfl]
  simp +contextual -implicitDefEqProofs (maxSteps := 10000000) only [x68, go_sem, ↓reduceIte, reduceCtorEq, Nat.reduceEqDiff, Int.reduceNeg, o_thw, thwK_nil, hidx, o_callw, cwK_same]
def FEnd (F : List Nm) (d : Int) (u : AV) : Prop := HeldA (riseL F) (if ((riseL F).length : Int) > d then ((riseL F).length : Int) else d) u
def luF (X : AV) (F : List Nm) : Prop := (X = .nilsl ∧ F = []) ∨ X = .lst .uniq 1 (tx F)
theorem luq_luF (F : List Nm) : luF (luq F) F := by
  unfold luF luq
  by_cases h : F = []
  · exact .inl ⟨if_pos h, h⟩
  · exact .inr (if_neg h)
theorem p_free_step (k : Int) (n : Nm) (op : Int) (bv : Bool) (vs : List Nm) (bt : Bool) (ts : List Tm) (lo hi : Int) (o bs : Bool) (ss : List Fm) (br : Bool) (rs : List Rx) (hfit : (Fm.mk k n op bv vs bt ts lo hi o bs ss br rs).fit)
    (hsz : (Fm.mk k n op bv vs bt ts lo hi o bs ss br rs).sz ≤ 1048576) (hag : k = 19 → vs ≠ []) (ih : ∀ t ∈ (Fm.mk k n op bv vs bt ts lo hi o bs ss br rs).parts, FrA t) :
    FrA (Fm.mk k n op bv vs bt ts lo hi o bs ss br rs) := by
  have hparts := p_parts k n op bv vs bt ts lo hi o bs ss br rs hfit hsz
  have hfrl := Fm.fr_len (Fm.mk k n op bv vs bt ts lo hi o bs ss br rs)
  unfold FrA
  rw [Fm.fr_eq]
  have hpfit : Fm.fitL (Fm.mk k n op bv vs bt ts lo hi o bs ss br rs).parts := by
    simp only [Fm.fit] at hfit
    cases rs with
    | nil => rw [Fm.parts]; exact hfit.2.2.2.2.2.1
    | cons x rs => rw [Fm.parts]; exact Rx.tests_fit x hfit.2.2.2.2.2.2.1
  have hpsz : Fm.szL (Fm.mk k n op bv vs bt ts lo hi o bs ss br rs).parts ≤ Fm.szL ss + Rx.szL rs := by
    cases rs with
    | nil => rw [Fm.parts]; omega
    | cons x rs => rw [Fm.parts, Rx.szL]; have := Rx.tests_sz x; omega
  generalize (Fm.mk k n op bv vs bt ts lo hi o bs ss br rs).parts = G at hparts ih hpfit hpsz
  rw [Fm.cells] at hparts ⊢
  simp only [Fm.fit] at hfit
  obtain ⟨i1, i2, i3, i4, hft, hfs, hfr⟩ := hfit
  rw [Fm.sz] at hsz
  have hsl1 := slv_Sl bv 1 (tx vs)
  generalize slv bv 1 (tx vs) = v at hsl1 hparts
  obtain ⟨p1, u1', n1, d1, f1⟩ := hsl1.one
  have hsl2 := slv_Sl bt 7 (Tm.cellsL ts)
  generalize slv bt 7 (Tm.cellsL ts) = t at hsl2 hparts
  obtain ⟨p2, u2', n2, d2, f2⟩ := hsl2.one
  rw [Tm.cellsL_len] at n2
  obtain ⟨p3, u3', n3, d3, f3⟩ := (slv_Sl bs 10 (Fm.cellsL ss)).one
  generalize slv bs 10 (Fm.cellsL ss) = sv at *
  obtain ⟨p4, u4', n4, d4, f4⟩ := (slv_Sl br 3 (Rx.cellsL rs)).one
  generalize slv br 3 (Rx.cellsL rs) = rv at *
  obtain ⟨pv, hpv, hpcall⟩ := hparts
  obtain ⟨C, hC⟩ : ∃ C : List AV, [.int .i64 k, .str n, .int .i64 op, v, t, .int .i64 lo, .int .i64 hi, .bool o, sv, rv] = C := ⟨_, rfl⟩
  have hC0 : C.drop 0 = .int .i64 k :: C.drop 1 := by rw [← hC]; rfl
  have hC1 : C.drop 1 = .str n :: C.drop 2 := by rw [← hC]; rfl
  have hC3 : C.drop 3 = v :: C.drop 4 := by rw [← hC]; rfl
  have ld1 : ∀ gl L off n agg, ldAt gl [L] (.ptr ⟨0, 1, 0⟩ off) n agg = ldK n agg off (lcells L 1 0) := fun gl L off n agg => ldAt_topc rfl
  have ldC : ldK 10 true 0 (some C) = some (.agg C) := by rw [← hC]; simp only [go_sem, ↓reduceIte, Nat.reduceAdd, u1', u2', u3', u4']
  have ld0 : ldK 1 false 0 (some C) = some (.int .i64 k) := by rw [← hC]; simp only [go_sem]
  have ldn : ldK 1 false 1 (some C) = some (.str n) := by rw [← hC]; simp only [go_sem]
  have ldv : ldK 1 false 3 (some C) = some v := by rw [← hC]; simp only [go_sem, u1']
  have hfree : refFreeL C = true := by rw [← hC]; simp only [go_sem, f1, f2, f3, f4]
  have hTl := Tm.tvC_len ts
  obtain ⟨Pall, hPall⟩ : ∃ Pall, G.map Fm.fr = Pall := ⟨_, rfl⟩
  have hPl : Pall.length = G.length := by rw [← hPall]; simp
  have hGl := Fm.szL_len G
  rw [hPall]
  obtain ⟨T, hT⟩ : ∃ T, Tm.tvC ts = T := ⟨_, rfl⟩
  rw [hT] at hTl ⊢
  have hps : ∀ i, psum (Pall.take i) ≤ Fm.szL G := by
    intro i
    rw [← hPall, ← Fm.frL_eq]
    refine Nat.le_trans ?_ (Fm.frL_len G)
    have : ∀ (P : List (List Nm × Int)) (i : Nat), psum (P.take i) ≤ psum P := by
      intro P
      induction P with
      | nil => intro i; simp
      | cons p P ih =>
        intro i
        cases i with
        | zero => simp [psum]
        | succ i => rw [List.take_succ_cons, psum, psum]; have := ih i; omega
    exact this _ _
  have goalF : ∀ u, FEnd (fcol k n vs T Pall) (dmax Pall) u → HeldA (frcomb k n vs T Pall).1 (frcomb k n vs T Pall).2 u := fun u h => h
  suffices hs : Ans (FEnd (fcol k n vs T Pall) (dmax Pall)) [] (CL X (fun _ => []) 42 [.agg [.int .i64 k, .str n, .int .i64 op, v, t, .int .i64 lo, .int .i64 hi, .bool o, sv, rv]] []) by
    obtain ⟨u, h1, h2⟩ := hs
    exact ⟨u, goalF u h1, h2⟩
  rw [hC] at hpcall
  rw [CL_eq (fn := x42) rfl]
  obtain ⟨I, hI⟩ : ∃ I : Nat → List AV → Heap → Prop, ∀ i fr hp', I i fr hp' ↔ ((∃ L, hp' = [L] ∧ lcells L 1 0 = some C) ∧ fget fr 1 = .ptr ⟨0, 1, 0⟩ 0 ∧ fget fr 2 = luq (Tm.tvC (ts.take i)) ∧ fget fr 3 = .int .i64 0 ∧ fget fr 11 = t ∧ fget fr 12 = .int .i64 ts.length ∧ fget fr 13 = .int .i64 (i : Nat)) := ⟨_, fun _ _ _ => Iff.rfl⟩
  obtain ⟨Q, hQ⟩ : ∃ Q : XExit → List AV → Heap → Prop, ∀ e fr hp', Q e fr hp' ↔ (e = .exit 0 ∧ (∃ L, hp' = [L] ∧ lcells L 1 0 = some C) ∧ fget fr 1 = .ptr ⟨0, 1, 0⟩ 0 ∧ fget fr 2 = luq T ∧ fget fr 3 = .int .i64 0) := ⟨_, fun _ _ _ => Iff.rfl⟩
  obtain ⟨J, hJ⟩ : ∃ I : Nat → List AV → Heap → Prop, ∀ i fr hp', I i fr hp' ↔ ((∃ L, hp' = [L] ∧ lcells L 1 0 = some C) ∧ fget fr 1 = .ptr ⟨0, 1, 0⟩ 0 ∧ fget fr 2 = luq (T ++ pcolA k 0 (Pall.take i)) ∧ fget fr 3 = .int .i64 (dmax (Pall.take i)) ∧ fget fr 23 = pv ∧ fget fr 24 = .int .i64 G.length ∧ fget fr 25 = .int .i64 (i : Nat)) := ⟨_, fun _ _ _ => Iff.rfl⟩
  obtain ⟨R, hR⟩ : ∃ Q : XExit → List AV → Heap → Prop, ∀ e fr hp', Q e fr hp' ↔ (e = .exit 2 ∧ (∃ L, hp' = [L] ∧ lcells L 1 0 = some C) ∧ fget fr 1 = .ptr ⟨0, 1, 0⟩ 0 ∧ fget fr 2 = luq (T ++ pcolA k 0 Pall) ∧ fget fr 3 = .int .i64 (dmax Pall)) := ⟨_, fun _ _ _ => Iff.rfl⟩
  simp +contextual -implicitDefEqProofs (maxSteps := 10000000) only [x42, go_sem, ↓reduceIte, Nat.reduceEqDiff, Nat.reduceAdd, u1', p1, u2', p2, n2, u3', p3, u4', p4, ldAt_topc]
  refine LC_upK ts.length I Q (fun r => Ans _ _ (finK _ (seqK (blockK 0 r) _))) ?_ ?_ ?_ ?_
  · rw [hI]
    refine ⟨⟨_, rfl, ?_⟩, ?_, ?_, ?_, ?_, ?_, ?_⟩
    · rw [lcells_put, ← hC]; simp
    all_goals simp only [go_sem, ↓reduceIte, Nat.reduceEqDiff, Int.natCast_zero, List.take_zero, Tm.tvC]
    rfl
  · intro i hi fr hp' h
    obtain ⟨⟨L, rfl, hL⟩, h1, h2, h3, h11, h12, h13⟩ := (hI _ _ _).1 h
    have hv' : t = .lst .none 7 (Tm.cellsL ts) := by
      rcases hsl2 with ⟨_, e⟩ | e
      · have := Tm.cellsL_len ts; rw [e] at this; simp at this; omega
      · exact e
    have k1 : ((i : Int) < (ts.length : Int)) = True := by simp; omega
    have k2 : (i < (Tm.cellsL ts).length) = True := by rw [Tm.cellsL_len]; simp; omega
    have w1 : wr .i64 ((i : Int) + 1) = ((i + 1 : Nat) : Int) := by rw [wr_i64 _ (by omega)]; omega
    have g1 : (Tm.cellsL ts).getD i [] = (ts[i]).cells := by simp [Tm.cellsL_eq, List.getD, hi]
    have hmem : ts[i] ∈ ts := List.getElem_mem hi
    obtain ⟨a1, a2, a3, a4, a5⟩ := flatTm (Tm.fitL_mem hft _ hmem)
    have a6 := (Tm.tmp _ (Tm.fitL_mem hft _ hmem)).free.2
    have a1' : (7 ≤ (ts[i]).cells.length) = True := by simp; omega
    have hih := fun hp => p_tvL ts hft (by omega) _ hmem hp
    have htk := Tm.tvC_take ts i hi
    have b1 := Tm.tvC_len (ts.take i)
    have b2 := Tm.nnL_take ts i
    have b3 := Tm.tv_len ts[i]
    have b4 := Tm.nn_mem hmem
    have happ := appK_luq (Tm.tvC (ts.take i)) (ts[i]).tv (by simp [room]; omega)
    simp +contextual -implicitDefEqProofs (maxSteps := 10000000) only [x42_l0_run, go_sem, ↓reduceIte, Nat.reduceEqDiff, Nat.reduceAdd, h2, h11, h12, h13, hv', k1, k2, w1, g1, a1, a2, a3, a4, a5, a6, hih, stAt_topc, ldAt_topc, happ, listOf_lvo, demV_luq, fget_drop1K]
    rw [hI]
    refine ⟨⟨_, rfl, ?_⟩, ?_, ?_, ?_, ?_, ?_, ?_⟩ <;> simp only [go_sem, ↓reduceIte, Nat.reduceEqDiff, fget_drop1K, hL, h1, h3, h11, h12, htk, hv']
  · intro fr hp' h
    obtain ⟨⟨L, rfl, hL⟩, h1, h2, h3, h11, h12, h13⟩ := (hI _ _ _).1 h
    simp +contextual -implicitDefEqProofs (maxSteps := 10000000) only [x42_l0_run, go_sem, ↓reduceIte, h12, h13, Int.lt_irrefl]
    rw [hQ]
    refine ⟨rfl, ⟨L, rfl, hL⟩, ?_, ?_, ?_⟩ <;> simp only [go_sem, ↓reduceIte, Nat.reduceEqDiff, h1, h2, h3, List.take_length, hT]
  · intro e fr hp' he h
    obtain ⟨rfl, ⟨L, rfl, hL⟩, h1, h2, h3⟩ := (hQ _ _ _).1 h
    have hlen := hpv.lens
    simp +contextual -implicitDefEqProofs (maxSteps := 10000000) only [go_sem, ↓reduceIte, h1, hL, ld1, ldC, hpcall, hfree, hlen]
    refine LC_upK G.length J R (fun r => Ans _ _ (finK _ (seqK (blockK 2 r) _))) ?_ ?_ ?_ ?_
    · rw [hJ]
      refine ⟨⟨L, rfl, hL⟩, ?_, ?_, ?_, ?_, ?_, ?_⟩
      all_goals simp only [go_sem, ↓reduceIte, Nat.reduceEqDiff, Int.natCast_zero, List.take_zero, pcolA, List.append_nil, h1, h2, h3]
      rfl
    · intro i hi fr hp' h
      obtain ⟨⟨L, rfl, hL⟩, h1, h2, h3, h23, h24, h25⟩ := (hJ _ _ _).1 h
      have hmem : G[i] ∈ G := List.getElem_mem hi
      obtain ⟨u, hu, hcall⟩ := ih _ hmem
      obtain ⟨uc, uv, w, hext, hown, hlo⟩ := hu.parts
      have hia := hpv.uf.1.iaddr i hi
      have htk2 : Pall.take (i + 1) = Pall.take i ++ [G[i].fr] := by
        rw [List.take_succ_eq_append_getElem (by omega)]
        simp [← hPall]
      have hpl : (Pall.take i).length = i := by rw [List.length_take]; omega
      have hcs := pcolA_snoc k G[i].fr (Pall.take i) 0
      rw [← htk2, hpl, Nat.zero_add] at hcs
      have hds := dmax_snoc (Pall.take i) G[i].fr
      rw [← htk2] at hds
      have b1 := Fm.fr_len G[i]
      have b2 := Fm.sz_mem hmem
      have b3 := hps i
      have b4 := pcolA_len k (Pall.take i) 0
      have hGsz := hpsz
      have happ := appK_luq (T ++ pcolA k 0 (Pall.take i)) G[i].fr.1 (by rw [List.length_append]; simp only [room]; omega)
      obtain ⟨D, hD⟩ : ∃ D, G[i].fr.2 = D := ⟨_, rfl⟩
      obtain ⟨W, hW⟩ : ∃ W, G[i].fr.1 = W := ⟨_, rfl⟩
      rw [hD] at hext hds
      rw [hW] at hcs happ hlo
      have k1 : ((i : Int) < (G.length : Int)) = True := by simp; omega
      have w1 : wr .i64 ((i : Int) + 1) = ((i + 1 : Nat) : Int) := by rw [wr_i64 _ (by omega)]; omega
      obtain ⟨a1, a2, a3, a4, a5⟩ := flatFm (Fm.fitL_mem hpfit _ hmem)
      have a6 := flatFm' (Fm.fitL_mem hpfit _ hmem)
      have a1' : (10 ≤ (G[i]).cells.length) = True := by simp; omega
      have fin : ∀ (fr' : List AV) (L' : Level) (X : List Nm), lcells L' 1 0 = some C → fget fr' 1 = .ptr ⟨0, 1, 0⟩ 0 → fget fr' 2 = luq X → X = T ++ pcolA k 0 (Pall.take (i + 1)) → fget fr' 3 = .int .i64 (if D > dmax (Pall.take i) then D else dmax (Pall.take i)) → fget fr' 23 = pv → fget fr' 24 = .int .i64 G.length → fget fr' 25 = .int .i64 ((i + 1 : Nat) : Int) → J (i + 1) fr' [L'] := by
        intro fr' L' X q1 q2 q3 q4 q5 q6 q7 q8
        rw [hJ]
        exact ⟨⟨L', rfl, q1⟩, q2, by rw [q3, q4], by rw [hds]; exact q5, q6, q7, q8⟩
      by_cases c19 : k = 19
      · subst c19
        rw [if_pos rfl, List.append_nil] at hcs
        simp +contextual -implicitDefEqProofs (maxSteps := 10000000) only [x42_l1_run, go_sem, ↓reduceIte, Nat.reduceEqDiff, Nat.reduceAdd, Int.reduceBNe, h1, h2, h3, h23, h24, h25, k1, w1, hia, a1, a2, a3, a4, a5, a6, hcall, o_extm, hext, o_ownd, hown, stAt_topc, ldAt_topc, hL, ld0, happ, hlo, fget_drop1K]
        refine fin _ _ _ ?_ ?_ ?_ (by rw [hcs]) ?_ ?_ ?_ ?_ <;> simp only [go_sem, ↓reduceIte, Nat.reduceEqDiff, fget_drop1K, hL, h1, h2, h23, h24]
      · rw [if_neg c19] at hcs
        by_cases c20 : k = 20
        · subst c20
          rw [if_pos (.inl rfl)] at hcs
          by_cases ci : i = 1
          · have ci' : ((i : Int) = 1) = True := by simp [ci]
            rw [if_pos ci] at hcs
            simp +contextual -implicitDefEqProofs (maxSteps := 10000000) only [x42_l1_run, go_sem, ↓reduceIte, Nat.reduceEqDiff, Nat.reduceAdd, Int.reduceBNe, h1, h2, h3, h23, h24, h25, k1, w1, hia, a1, a2, a3, a4, a5, a6, hcall, o_extm, hext, o_ownd, hown, stAt_topc, ldAt_topc, hL, ld0, happ, hlo, fget_drop1K, ci']
            refine fin _ _ _ ?_ ?_ ?_ (by rw [hcs, ← List.append_assoc]) ?_ ?_ ?_ ?_ <;> simp only [go_sem, ↓reduceIte, Nat.reduceEqDiff, fget_drop1K, hL, h1, h23, h24]
          · have ci' : ((i : Int) = 1) = False := by simp; omega
            rw [if_neg ci, List.append_nil] at hcs
            simp +contextual -implicitDefEqProofs (maxSteps := 10000000) only [x42_l1_run, go_sem, ↓reduceIte, Nat.reduceEqDiff, Nat.reduceAdd, Int.reduceBNe, h1, h2, h3, h23, h24, h25, k1, w1, hia, a1, a2, a3, a4, a5, a6, hcall, o_extm, hext, o_ownd, hown, stAt_topc, ldAt_topc, hL, ld0, happ, hlo, fget_drop1K, ci']
            refine fin _ _ _ ?_ ?_ ?_ (by rw [hcs]) ?_ ?_ ?_ ?_ <;> simp only [go_sem, ↓reduceIte, Nat.reduceEqDiff, fget_drop1K, hL, h1, h2, h23, h24]
        · by_cases c21 : k = 21
          · subst c21
            rw [if_pos (.inr rfl)] at hcs
            by_cases ci : i = 1
            · have ci' : ((i : Int) = 1) = True := by simp [ci]
              rw [if_pos ci] at hcs
              simp +contextual -implicitDefEqProofs (maxSteps := 10000000) only [x42_l1_run, go_sem, ↓reduceIte, Nat.reduceEqDiff, Nat.reduceAdd, Int.reduceBNe, h1, h2, h3, h23, h24, h25, k1, w1, hia, a1, a2, a3, a4, a5, a6, hcall, o_extm, hext, o_ownd, hown, stAt_topc, ldAt_topc, hL, ld0, happ, hlo, fget_drop1K, ci']
              refine fin _ _ _ ?_ ?_ ?_ (by rw [hcs, ← List.append_assoc]) ?_ ?_ ?_ ?_ <;> simp only [go_sem, ↓reduceIte, Nat.reduceEqDiff, fget_drop1K, hL, h1, h23, h24]
            · have ci' : ((i : Int) = 1) = False := by simp; omega
              rw [if_neg ci, List.append_nil] at hcs
              simp +contextual -implicitDefEqProofs (maxSteps := 10000000) only [x42_l1_run, go_sem, ↓reduceIte, Nat.reduceEqDiff, Nat.reduceAdd, Int.reduceBNe, h1, h2, h3, h23, h24, h25, k1, w1, hia, a1, a2, a3, a4, a5, a6, hcall, o_extm, hext, o_ownd, hown, stAt_topc, ldAt_topc, hL, ld0, happ, hlo, fget_drop1K, ci']
              refine fin _ _ _ ?_ ?_ ?_ (by rw [hcs]) ?_ ?_ ?_ ?_ <;> simp only [go_sem, ↓reduceIte, Nat.reduceEqDiff, fget_drop1K, hL, h1, h2, h23, h24]
          · rw [if_neg (by omega)] at hcs
            have b19 : (k != 19) = true := by simp [c19]
            have b20 : (k != 20) = true := by simp [c20]
            have b21 : (k != 21) = true := by simp [c21]
            simp +contextual -implicitDefEqProofs (maxSteps := 10000000) only [x42_l1_run, go_sem, ↓reduceIte, Nat.reduceEqDiff, Nat.reduceAdd, h1, h2, h3, h23, h24, h25, k1, w1, hia, a1, a2, a3, a4, a5, a6, hcall, o_extm, hext, o_ownd, hown, stAt_topc, ldAt_topc, hL, ld0, happ, hlo, fget_drop1K, b19, b20, b21]
            refine fin _ _ _ ?_ ?_ ?_ (by rw [hcs, ← List.append_assoc]) ?_ ?_ ?_ ?_ <;> simp only [go_sem, ↓reduceIte, Nat.reduceEqDiff, fget_drop1K, hL, h1, h23, h24]
    · intro fr hp' h
      obtain ⟨⟨L, rfl, hL⟩, h1, h2, h3, h23, h24, h25⟩ := (hJ _ _ _).1 h
      simp +contextual -implicitDefEqProofs (maxSteps := 10000000) only [x42_l1_run, go_sem, ↓reduceIte, h24, h25, Int.lt_irrefl]
      rw [hR]
      refine ⟨rfl, ⟨L, rfl, hL⟩, ?_, ?_, ?_⟩ <;> simp only [go_sem, ↓reduceIte, Nat.reduceEqDiff, h1, h2, h3, ← hPl, List.take_length]
    · intro e fr hp' he h
      obtain ⟨rfl, ⟨L, rfl, hL⟩, h1, h2, h3⟩ := (hR _ _ _).1 h
      have hFl := fcol_len k n vs T Pall
      have hpsA := hps Pall.length
      rw [List.take_length] at hpsA
      have hpm := primM_tx (fcol k n vs T Pall) (by simp only [room]; omega)
      by_cases c19 : k = 19
      · subst c19
        have hv0 := hag rfl
        have hv1 : 0 < vs.length := List.length_pos_iff.2 hv0
        obtain rfl : v = .lst .none 1 (tx vs) := hsl1.cases1.resolve_left (fun e => hv0 e.2)
        have hv2 : (1 ≤ vs.length) = True := by simp; omega
        have hF : fcol 19 n vs T Pall = vs.drop 1 ++ [n] := by unfold fcol; rw [if_pos rfl]
        have hsc := fun hp => p_sclone (vs.drop 1) (by simp [room]; omega) hp
        have happ := appK_scl (vs.drop 1) n (by simp [room]; omega)
        rw [hF] at hpm ⊢
        generalize hFF : vs.drop 1 ++ [n] = FF at hpm happ ⊢
        simp +contextual -implicitDefEqProofs (maxSteps := 10000000) only [go_sem, ↓reduceIte, Nat.reduceEqDiff, Nat.reduceAdd, Int.reduceBEq, Nat.reduceLT, Nat.reduceDiv, h1, h2, h3, hL, ld1, ld0, ldv, ldn, o_ssl, sslK_lo1, tx_len, hv2, tx_drop, hsc, Nat.reduceDiv, tx_one, happ, fget_drop1K, o_primm, o_ownl, ownlK_uniq, primmK_uniq, hpm, tx_len]
        exact ⟨_, .inr rfl, rfl⟩
      · have e19 : (k = 19) = False := by simp [c19]
        by_cases c10 : k = 10
        · subst c10
          have hF : fcol 10 n vs T Pall = (T ++ pcolA 10 0 Pall).filter (fun x => !vs.contains x) := by unfold fcol; rw [if_neg (by decide), if_pos rfl]
          rw [hF] at hpm ⊢
          have hAl : (T ++ pcolA 10 0 Pall).length ≤ 1048576 := by
            have := pcolA_len 10 Pall 0
            rw [List.length_append]; omega
          generalize T ++ pcolA 10 0 Pall = A at h2 hpm hAl ⊢
          have hcl : ∀ w hx, ((∃ L', hx = L' :: [L]) ∨ (∃ L', hx = [] :: L' :: [L])) → CL X (fun _ => []) 69 [.str w, .ptr ⟨0, 1, 0⟩ 0] hx = some (.bool (vs.contains w), hx) := by
            intro w hx hh
            refine p_free1 vs w v hsl1 (by omega) ⟨0, 1, 0⟩ C hC3 hx ?_
            rcases hh with ⟨L', rfl⟩ | ⟨L', rfl⟩
            · rw [cellsAt_cons (by simp)]; exact (cellsAt_topc (h := []) (m := 0) rfl).trans hL
            · rw [cellsAt_cons (by simp), cellsAt_cons (by simp)]; exact (cellsAt_topc (h := []) (m := 0) rfl).trans hL
          by_cases hA : A = []
          · subst hA
            have hd := p_delf_nil 69 [] [.ptr ⟨0, 1, 0⟩ 0] [L] (by simp)
            have e1 : luq [] = .nilsl := rfl
            rw [e1] at h2
            have e3 : primM 100 [] = some [] := rfl
            simp +contextual -implicitDefEqProofs (maxSteps := 10000000) only [go_sem, ↓reduceIte, Nat.reduceEqDiff, Nat.reduceAdd, Int.reduceBEq, h1, h2, h3, hL, ld1, ld0, hd, o_callm, cwK_same, o_primm, o_ownl, ownlK_nil, primmK_nil, e3]
            exact ⟨_, .inl ⟨rfl, rfl⟩, rfl⟩
          · have hd := p_delf A hA vs.contains 69 [] [.ptr ⟨0, 1, 0⟩ 0] rfl rfl (by omega) [L] (fun w _ hx hh => hcl w hx hh)
            have e1 : luq A = .lst .uniq 1 (tx A) := by unfold luq; rw [if_neg hA]
            rw [e1] at h2
            generalize A.filter (fun x => !vs.contains x) = FF at hpm hd ⊢
            simp +contextual -implicitDefEqProofs (maxSteps := 10000000) only [go_sem, ↓reduceIte, Nat.reduceEqDiff, Nat.reduceAdd, Int.reduceBEq, Nat.reduceLT, h1, h2, h3, hL, ld1, ld0, hd, o_callm, cwK_same, o_primm, o_ownl, ownlK_uniq, primmK_uniq, hpm, tx_len]
            exact ⟨_, .inr rfl, rfl⟩
        · have e10 : (k = 10) = False := by simp [c10]
          have hF : fcol k n vs T Pall = T ++ pcolA k 0 Pall := by unfold fcol; rw [if_neg c19, if_neg c10]
          rw [hF] at hpm ⊢
          generalize T ++ pcolA k 0 Pall = A at h2 hpm ⊢
          by_cases hA : A = []
          · subst hA
            have e1 : luq [] = .nilsl := rfl
            rw [e1] at h2
            have e3 : primM 100 [] = some [] := rfl
            simp +contextual -implicitDefEqProofs (maxSteps := 10000000) only [go_sem, ↓reduceIte, Nat.reduceEqDiff, Nat.reduceAdd, h1, h2, h3, hL, ld1, ld0, e19, e10, o_primm, o_ownl, ownlK_nil, primmK_nil, e3]
            exact ⟨_, .inl ⟨rfl, rfl⟩, rfl⟩
          · have e1 : luq A = .lst .uniq 1 (tx A) := by unfold luq; rw [if_neg hA]
            rw [e1] at h2
            simp +contextual -implicitDefEqProofs (maxSteps := 10000000) only [go_sem, ↓reduceIte, Nat.reduceEqDiff, Nat.reduceAdd, Nat.reduceLT, h1, h2, h3, hL, ld1, ld0, e19, e10, o_primm, o_ownl, ownlK_uniq, primmK_uniq, hpm, tx_len]
            exact ⟨_, .inr rfl, rfl⟩
mutual
def Fm.nn : Fm → Nat
  | .mk _ _ _ _ _ _ ts _ _ _ _ ss _ rs => 1 + Tm.nnL ts + Fm.nnL ss + Rx.nnL rs
def Fm.nnL : List Fm → Nat
  | [] => 0
  | t :: l => t.nn + Fm.nnL l
def Rx.nn : Rx → Nat
  | .mk _ _ ts _ ss => 1 + Fm.nnL ts + Rx.nnL ss
def Rx.nnL : List Rx → Nat
  | [] => 0
  | t :: l => t.nn + Rx.nnL l
end
mutual
def Fm.good : Fm → Prop
  | .mk k n op _ vs _ ts lo hi o _ ss _ rs => fErr k n op vs ts.length lo hi o ss.length rs.length = 0 ∧ Fm.goodL ss ∧ Rx.goodL rs
def Fm.goodL : List Fm → Prop
  | [] => True
  | t :: l => t.good ∧ Fm.goodL l
def Rx.good : Rx → Prop
  | .mk k _ ts _ ss => rErr k ts.length ss.length = 0 ∧ Fm.goodL ts ∧ Rx.goodL ss
def Rx.goodL : List Rx → Prop
  | [] => True
  | t :: l => t.good ∧ Rx.goodL l
end
theorem enterW_ok {d : Int} {s : Wk} (h : (enterW d s).e = 0) (hn : s.n ≤ 256) : s.e = 0 ∧ (enterW d s).n = s.n + 1 ∧ (enterW d s).n ≤ 256 := by
  unfold enterW at h ⊢
  by_cases h1 : s.e ≠ 0
  · rw [if_pos h1] at h; exact absurd h h1
  · rw [if_neg h1] at h ⊢
    have h1' : s.e = 0 := by simpa using h1
    by_cases h2 : 24 < d
    · rw [if_pos h2] at h; simp at h
    · rw [if_neg h2] at h ⊢
      by_cases h3 : 256 ≤ s.n
      · rw [if_pos h3] at h; simp at h
      · rw [if_neg h3]; exact ⟨h1', rfl, by simp only; omega⟩
mutual
theorem Tm.wk_ok : ∀ (t : Tm) (d : Int) (s : Wk), (t.wk d s).e = 0 → s.n ≤ 256 → s.e = 0 ∧ (t.wk d s).n = s.n + t.nn ∧ (t.wk d s).n ≤ 256
  | .mk k n vk vn vd vs b ss, d, s, h, hn => by
    rw [Tm.wk] at h ⊢
    rw [Tm.nn]
    by_cases he : (enterW d s).e ≠ 0
    · rw [if_pos he] at h; exact absurd h he
    · rw [if_neg he] at h ⊢
      obtain ⟨g1, g2, g3⟩ := enterW_ok (by simpa using he) hn
      by_cases ht : tErr k n vk vn vd vs ss.length ≠ 0
      · rw [if_pos ht] at h; exact absurd h ht
      · rw [if_neg ht] at h ⊢
        obtain ⟨_, q2, q3⟩ := Tm.wkL_ok ss (d + 1) _ h g3
        exact ⟨g1, by omega, q3⟩
theorem Tm.wkL_ok : ∀ (l : List Tm) (d : Int) (s : Wk), (Tm.wkL l d s).e = 0 → s.n ≤ 256 → s.e = 0 ∧ (Tm.wkL l d s).n = s.n + Tm.nnL l ∧ (Tm.wkL l d s).n ≤ 256
  | [], _, s, h, hn => ⟨h, rfl, hn⟩
  | t :: l, d, s, h, hn => by
    rw [Tm.wkL] at h ⊢
    rw [Tm.nnL]
    by_cases he : (t.wk d s).e = 0
    · obtain ⟨g1, g2, g3⟩ := Tm.wk_ok t d s he hn
      obtain ⟨_, q2, q3⟩ := Tm.wkL_ok l d _ h g3
      exact ⟨g1, by omega, q3⟩
    · rw [Tm.wkL_err he] at h; exact absurd h he
end
mutual
theorem Fm.wk_ok : ∀ (t : Fm) (d : Int) (s : Wk), (t.wk d s).e = 0 → s.n ≤ 256 → s.e = 0 ∧ t.good ∧ (t.wk d s).n = s.n + t.nn ∧ (t.wk d s).n ≤ 256
  | .mk k n op bv vs bt ts lo hi o bs ss br rs, d, s, h, hn => by
    rw [Fm.wk] at h ⊢
    rw [Fm.nn, Fm.good]
    by_cases he : (enterW d s).e ≠ 0
    · rw [if_pos he] at h; exact absurd h he
    · rw [if_neg he] at h ⊢
      obtain ⟨g1, g2, g3⟩ := enterW_ok (by simpa using he) hn
      by_cases ht : fErr k n op vs ts.length lo hi o ss.length rs.length ≠ 0
      · rw [if_pos ht] at h; exact absurd h ht
      · rw [if_neg ht] at h ⊢
        have ht' : fErr k n op vs ts.length lo hi o ss.length rs.length = 0 := by simpa using ht
        have e2 : (Rx.wkL rs (d + 1) (Tm.wkL ts (d + 1) (enterW d s))).e = 0 := by
          by_cases e : (Rx.wkL rs (d + 1) (Tm.wkL ts (d + 1) (enterW d s))).e = 0
          · exact e
          · rw [Fm.wkL_err e] at h; exact absurd h e
        have e1 : (Tm.wkL ts (d + 1) (enterW d s)).e = 0 := by
          by_cases e : (Tm.wkL ts (d + 1) (enterW d s)).e = 0
          · exact e
          · rw [Rx.wkL_err e] at e2; exact absurd e2 e
        obtain ⟨_, a2, a3⟩ := Tm.wkL_ok ts (d + 1) _ e1 g3
        obtain ⟨_, b1, b2, b3⟩ := Rx.wkL_ok rs (d + 1) _ e2 a3
        obtain ⟨_, c1, c2, c3⟩ := Fm.wkL_ok ss (d + 1) _ h b3
        exact ⟨g1, ⟨ht', c1, b1⟩, by omega, c3⟩
theorem Fm.wkL_ok : ∀ (l : List Fm) (d : Int) (s : Wk), (Fm.wkL l d s).e = 0 → s.n ≤ 256 → s.e = 0 ∧ Fm.goodL l ∧ (Fm.wkL l d s).n = s.n + Fm.nnL l ∧ (Fm.wkL l d s).n ≤ 256
  | [], _, s, h, hn => ⟨h, trivial, rfl, hn⟩
  | t :: l, d, s, h, hn => by
    rw [Fm.wkL] at h ⊢
    rw [Fm.nnL, Fm.goodL]
    by_cases he : (t.wk d s).e = 0
    · obtain ⟨g1, g0, g2, g3⟩ := Fm.wk_ok t d s he hn
      obtain ⟨_, q1, q2, q3⟩ := Fm.wkL_ok l d _ h g3
      exact ⟨g1, ⟨g0, q1⟩, by omega, q3⟩
    · rw [Fm.wkL_err he] at h; exact absurd h he
theorem Rx.wk_ok : ∀ (t : Rx) (d : Int) (s : Wk), (t.wk d s).e = 0 → s.n ≤ 256 → s.e = 0 ∧ t.good ∧ (t.wk d s).n = s.n + t.nn ∧ (t.wk d s).n ≤ 256
  | .mk k bt ts bs ss, d, s, h, hn => by
    rw [Rx.wk] at h ⊢
    rw [Rx.nn, Rx.good]
    by_cases he : (enterW d s).e ≠ 0
    · rw [if_pos he] at h; exact absurd h he
    · rw [if_neg he] at h ⊢
      obtain ⟨g1, g2, g3⟩ := enterW_ok (by simpa using he) hn
      by_cases ht : rErr k ts.length ss.length ≠ 0
      · rw [if_pos ht] at h; exact absurd h ht
      · rw [if_neg ht] at h ⊢
        have ht' : rErr k ts.length ss.length = 0 := by simpa using ht
        have e1 : (Fm.wkL ts (d + 1) (enterW d s)).e = 0 := by
          by_cases e : (Fm.wkL ts (d + 1) (enterW d s)).e = 0
          · exact e
          · rw [Rx.wkL_err e] at h; exact absurd h e
        obtain ⟨_, a1, a2, a3⟩ := Fm.wkL_ok ts (d + 1) _ e1 g3
        obtain ⟨_, b1, b2, b3⟩ := Rx.wkL_ok ss (d + 1) _ h a3
        exact ⟨g1, ⟨ht', a1, b1⟩, by omega, b3⟩
theorem Rx.wkL_ok : ∀ (l : List Rx) (d : Int) (s : Wk), (Rx.wkL l d s).e = 0 → s.n ≤ 256 → s.e = 0 ∧ Rx.goodL l ∧ (Rx.wkL l d s).n = s.n + Rx.nnL l ∧ (Rx.wkL l d s).n ≤ 256
  | [], _, s, h, hn => ⟨h, trivial, rfl, hn⟩
  | t :: l, d, s, h, hn => by
    rw [Rx.wkL] at h ⊢
    rw [Rx.nnL, Rx.goodL]
    by_cases he : (t.wk d s).e = 0
    · obtain ⟨g1, g0, g2, g3⟩ := Rx.wk_ok t d s he hn
      obtain ⟨_, q1, q2, q3⟩ := Rx.wkL_ok l d _ h g3
      exact ⟨g1, ⟨g0, q1⟩, by omega, q3⟩
    · rw [Rx.wkL_err he] at h; exact absurd h he
end
theorem fErr_zero {k : Int} {n : Nm} {op : Int} {vs : List Nm} {nt : Nat} {lo hi : Int} {o : Bool} {ns nr : Nat} (h : fErr k n op vs nt lo hi o ns nr = 0) : vs.length ≤ 8 ∧ (k = 19 → vs ≠ []) ∧ ((k = 20 ∨ k = 21) → ns = 2) ∧ (nr = 0 ∨ (nr = 1 ∧ ns = 0)) := by
  unfold fErr at h
  by_cases hk : 1 ≤ k ∧ k ≤ 22
  · rw [if_neg (by simpa using hk)] at h
    by_cases hm : manyB k nt vs.length = true
    · rw [if_pos hm] at h; simp at h
    · rw [if_neg hm] at h
      by_cases hc : (cntB k vs.length nt ns nr && vs.all nameB && fldB k n op lo hi o) = false
      · rw [if_pos hc] at h; simp at h
      · have hc' : cntB k vs.length nt ns nr = true := by
          have : (cntB k vs.length nt ns nr && vs.all nameB && fldB k n op lo hi o) = true := by rw [Bool.not_eq_false] at hc; exact hc
          simp only [Bool.and_eq_true] at this
          exact this.1.1
        simp only [cntB, Bool.and_eq_true] at hc'
        obtain ⟨⟨⟨q1, q2⟩, q3⟩, q4⟩ := hc'
        have hm' : manyB k nt vs.length = false := by simpa using hm
        have hr : nr = 0 ∨ (nr = 1 ∧ ns = 0) := by
          by_cases h17 : k = 17 ∨ k = 18
          · right
            rcases h17 with rfl | rfl <;> simp [cnt, u4, u5] at q3 q4 <;> omega
          · left
            simp [cnt, u5, h17] at q4
            omega
        by_cases h19 : k = 19
        · subst h19
          simp [manyB, cnt, u2] at q1 hm'
          exact ⟨by omega, fun _ e => q1 (by simp [e]), fun e => by omega, hr⟩
        by_cases h10 : k = 10
        · subst h10
          simp [manyB] at hm'
          exact ⟨by omega, fun e => by omega, fun e => by omega, hr⟩
        by_cases h20 : k = 20
        · subst h20
          simp [manyB, cnt, u4] at q3 hm'
          exact ⟨by omega, fun e => by omega, fun _ => by omega, hr⟩
        by_cases h21 : k = 21
        · subst h21
          simp [manyB, cnt, u4] at q3 hm'
          exact ⟨by omega, fun e => by omega, fun _ => by omega, hr⟩
        simp [cnt, u2, h19, h10, h20, h21] at q1
        exact ⟨by rw [q1]; simp, fun e => absurd e h19, fun e => by omega, hr⟩
  · rw [if_pos (by simpa using hk)] at h; simp at h
mutual
theorem Fm.sz_nn : ∀ t : Fm, t.good → t.sz ≤ 9 * t.nn
  | .mk k n op bv vs bt ts lo hi o bs ss br rs, h => by
    rw [Fm.good] at h
    obtain ⟨h1, h2, h3⟩ := h
    have := (fErr_zero h1).1
    have := Fm.szL_nn ss h2
    have := Rx.szL_nn rs h3
    rw [Fm.sz, Fm.nn]
    omega
theorem Fm.szL_nn : ∀ l : List Fm, Fm.goodL l → Fm.szL l ≤ 9 * Fm.nnL l
  | [], _ => by simp [Fm.szL]
  | t :: l, h => by
    have := Fm.sz_nn t h.1
    have := Fm.szL_nn l h.2
    rw [Fm.szL, Fm.nnL]; omega
theorem Rx.sz_nn : ∀ t : Rx, t.good → t.sz ≤ 9 * t.nn
  | .mk k bt ts bs ss, h => by
    rw [Rx.good] at h
    have := Fm.szL_nn ts h.2.1
    have := Rx.szL_nn ss h.2.2
    rw [Rx.sz, Rx.nn]; omega
theorem Rx.szL_nn : ∀ l : List Rx, Rx.goodL l → Rx.szL l ≤ 9 * Rx.nnL l
  | [], _ => by simp [Rx.szL]
  | t :: l, h => by
    have := Rx.sz_nn t h.1
    have := Rx.szL_nn l h.2
    rw [Rx.szL, Rx.nnL]; omega
end
mutual
theorem p_free : ∀ (t : Fm), t.fit → t.good → t.sz ≤ 1048576 → FrA t
  | .mk k n op bv vs bt ts lo hi o bs ss br rs, hf, hg, hn => p_free_step k n op bv vs bt ts lo hi o bs ss br rs hf hn (fErr_zero (by rw [Fm.good] at hg; exact hg.1)).2.1 (by
      rw [Fm.good] at hg
      simp only [Fm.fit] at hf
      rw [Fm.sz] at hn
      cases rs with
      | nil => rw [Fm.parts]; exact p_freeL ss hf.2.2.2.2.2.1 hg.2.1 (by omega)
      | cons x rs => rw [Fm.parts]; exact p_freeR x hf.2.2.2.2.2.2.1 hg.2.2.1 (by rw [Rx.szL] at hn; omega))
theorem p_freeL : ∀ (l : List Fm), Fm.fitL l → Fm.goodL l → Fm.szL l ≤ 1048576 → ∀ t ∈ l, FrA t
  | [], _, _, _, t, ht => by simp at ht
  | u :: l, hf, hg, hn, t, ht => by
    rw [Fm.szL] at hn
    rcases List.mem_cons.1 ht with e | ht
    · rw [e]; exact p_free u hf.1 hg.1 (by omega)
    · exact p_freeL l hf.2 hg.2 (by omega) t ht
theorem p_freeR : ∀ (x : Rx), x.fit → x.good → x.sz ≤ 1048576 → ∀ t ∈ x.tests, FrA t
  | .mk k bt ts bs ss, hf, hg, hn, t, ht => by
    rw [Rx.good] at hg
    simp only [Rx.fit] at hf
    rw [Rx.sz] at hn
    rw [Rx.tests] at ht
    rcases List.mem_append.1 ht with ht | ht
    · exact p_freeL ts hf.2.2.1 hg.2.1 (by omega) t ht
    · exact p_freeRL ss hf.2.2.2 hg.2.2 (by omega) t ht
theorem p_freeRL : ∀ (l : List Rx), Rx.fitL l → Rx.goodL l → Rx.szL l ≤ 1048576 → ∀ t ∈ Rx.testsL l, FrA t
  | [], _, _, _, t, ht => by simp [Rx.testsL] at ht
  | x :: l, hf, hg, hn, t, ht => by
    rw [Rx.szL] at hn
    rw [Rx.testsL] at ht
    rcases List.mem_append.1 ht with ht | ht
    · exact p_freeR x hf.1 hg.1 (by omega) t ht
    · exact p_freeRL l hf.2 hg.2 (by omega) t ht
end
theorem p_rtests_step (k : Int) (bt : Bool) (ts : List Fm) (bs : Bool) (ss : List Rx) (hfit : (Rx.mk k bt ts bs ss).fit) (hsz : (Rx.mk k bt ts bs ss).sz ≤ 1048576) (ih : ∀ t ∈ ss, Ans (fun v => FV v t.tests) [] (CL X (fun _ => []) 74 [.agg t.cells] [])) :
    Ans (fun v => FV v (Rx.mk k bt ts bs ss).tests) [] (CL X (fun _ => []) 74 [.agg (Rx.mk k bt ts bs ss).cells] []) := by
  simp only [Rx.fit] at hfit
  obtain ⟨i1, i2, hft, hfs⟩ := hfit
  rw [Rx.sz] at hsz
  rw [Rx.cells, Rx.tests]
  have hsl := slv_Sl bt 10 (Fm.cellsL ts)
  generalize slv bt 10 (Fm.cellsL ts) = v at hsl
  obtain ⟨p1, u1', n1, d1, f1⟩ := hsl.one
  rw [Fm.cellsL_len] at n1
  have hsl2 := slv_Sl bs 3 (Rx.cellsL ss)
  generalize slv bs 3 (Rx.cellsL ss) = v2 at hsl2
  obtain ⟨p2, u2', n2, d2, f2⟩ := hsl2.one
  have hlo0 := fun hp => (FV.of hsl).listOf hp
  have sl := Fm.szL_len ts
  obtain ⟨uc, huc, happ0⟩ := FA.app (v := .nilsl) (a := []) (b := ts) (.inl ⟨rfl, rfl⟩) hft (by simp [room]; omega)
  rw [List.nil_append] at huc
  rw [CL_eq (fn := x74) rfl]
  obtain ⟨L0, hL0⟩ : ∃ L0, lputc [] 1 0 [.int .i64 k, v, v2] = L0 := ⟨_, rfl⟩
  have hL : lcells L0 1 0 = some [.int .i64 k, v, v2] := by rw [← hL0, lcells_put]; simp
  have ld1 : ∀ gl off n agg, ldAt gl [L0] (.ptr ⟨0, 1, 0⟩ off) n agg = ldK n agg off (lcells L0 1 0) := fun gl off n agg => ldAt_topc rfl
  obtain ⟨I, hI⟩ : ∃ I : Nat → List AV → Heap → Prop, ∀ i fr hp', I i fr hp' ↔ (hp' = [L0] ∧ (∃ u, FA u (ts ++ Rx.testsL (ss.take i)) ∧ fget fr 3 = u) ∧ fget fr 1 = .ptr ⟨0, 1, 0⟩ 0 ∧ fget fr 4 = .int .i64 (i : Nat)) := ⟨_, fun _ _ _ => Iff.rfl⟩
  obtain ⟨Q, hQ⟩ : ∃ Q : XExit → List AV → Heap → Prop, ∀ e fr hp', Q e fr hp' ↔ (e = .exit 0 ∧ hp' = [L0] ∧ (∃ u, FA u (ts ++ Rx.testsL ss) ∧ fget fr 3 = u)) := ⟨_, fun _ _ _ => Iff.rfl⟩
  simp +contextual -implicitDefEqProofs (maxSteps := 10000000) only [x74, go_sem, ↓reduceIte, Nat.reduceEqDiff, Nat.reduceAdd, u1', p1, u2', p2, hlo0, happ0, hL0, hL, ld1]
  refine LC_upK ss.length I Q (fun r => Ans _ _ (finK _ (seqK (blockK 0 r) _))) ?_ ?_ ?_ ?_
  · rw [hI]
    refine ⟨rfl, ⟨uc, by rw [List.take_zero, Rx.testsL, List.append_nil]; exact huc, ?_⟩, ?_, ?_⟩ <;> simp only [go_sem, ↓reduceIte, Nat.reduceEqDiff, Int.natCast_zero, fget_drop1K]
  · intro i hi fr hp' h
    obtain ⟨rfl, ⟨u, hu, h3⟩, h1, h4⟩ := (hI _ _ _).1 h
    have hv' : v2 = .lst .none 3 (Rx.cellsL ss) := by
      rcases hsl2 with ⟨_, e⟩ | e
      · have := Rx.cellsL_len ss; rw [e] at this; simp at this; omega
      · exact e
    have k1 : ((i : Int) < ((Rx.cellsL ss).length : Int)) = True := by rw [Rx.cellsL_len]; simp; omega
    have k2 : (i < (Rx.cellsL ss).length) = True := by rw [Rx.cellsL_len]; simp; omega
    have w1 : wr .i64 ((i : Int) + 1) = ((i + 1 : Nat) : Int) := by rw [wr_i64 _ (by omega)]; omega
    have g1 : (Rx.cellsL ss).getD i [] = (ss[i]).cells := by simp [Rx.cellsL_eq, List.getD, hi]
    have hmem : ss[i] ∈ ss := List.getElem_mem hi
    obtain ⟨a1, a2, a3, a4, a5⟩ := flatRx (Rx.fitL_mem hfs _ hmem)
    have a6 := flatRx' (Rx.fitL_mem hfs _ hmem)
    have a1' : (3 ≤ (ss[i]).cells.length) = True := by simp; omega
    obtain ⟨vi, hvi, hih⟩ := ih _ hmem
    have htk := Rx.testsL_take ss i hi
    have b1 := Rx.testsL_sz (ss.take i)
    have b2 := Rx.szL_take ss i
    have b3 := Rx.tests_sz ss[i]
    have b4 := Rx.sz_mem hmem
    have b5 := Fm.szL_len (Rx.testsL (ss.take i))
    have b6 := Fm.szL_len (ss[i]).tests
    obtain ⟨u', hu', happ⟩ := hu.app (Rx.tests_fit _ (Rx.fitL_mem hfs _ hmem)) (by simp [room]; omega)
    have hlo := fun hp => hvi.uf.1.listOf hp
    obtain ⟨_, q2, _, _, _⟩ := hvi.uf
    subst hv'
    simp +contextual -implicitDefEqProofs (maxSteps := 10000000) only [x74_l0_run, go_sem, ↓reduceIte, Nat.reduceEqDiff, h1, h3, h4, hL, ld1, k1, k2, w1, g1, a1, a3, a4, a6, hih, hlo, happ, fget_drop1K]
    rw [hI]
    refine ⟨rfl, ⟨u', by rw [htk, ← List.append_assoc]; exact hu', ?_⟩, ?_, ?_⟩ <;> simp only [go_sem, ↓reduceIte, Nat.reduceEqDiff, fget_drop1K, h1]
  · intro fr hp' h
    obtain ⟨rfl, ⟨u, hu, h3⟩, h1, h4⟩ := (hI _ _ _).1 h
    rw [Rx.cellsL_len] at n2
    simp +contextual -implicitDefEqProofs (maxSteps := 10000000) only [x74_l0_run, go_sem, ↓reduceIte, Nat.reduceEqDiff, h1, h4, hL, ld1, u2', n2, Int.lt_irrefl]
    rw [hQ]
    refine ⟨rfl, rfl, u, by rw [List.take_length] at hu; exact hu, ?_⟩
    simp only [go_sem, ↓reduceIte, Nat.reduceEqDiff, h3]
  · intro e fr hp' he h
    obtain ⟨rfl, rfl, u, hu, h3⟩ := (hQ _ _ _).1 h
    obtain ⟨q1, q2, q3, q4, q5⟩ := hu.fv.uf
    simp +contextual -implicitDefEqProofs (maxSteps := 10000000) only [go_sem, ↓reduceIte, h3, q3, q5]
    exact ⟨_, q1, rfl⟩
mutual
theorem p_rtests : ∀ (t : Rx), t.fit → t.sz ≤ 1048576 → Ans (fun v => FV v t.tests) [] (CL X (fun _ => []) 74 [.agg t.cells] [])
  | .mk k bt ts bs ss, hf, hn => p_rtests_step k bt ts bs ss hf hn (fun t ht => p_rtestsL ss (by simp only [Rx.fit] at hf; exact hf.2.2.2) (by rw [Rx.sz] at hn; omega) t ht)
theorem p_rtestsL : ∀ (l : List Rx), Rx.fitL l → Rx.szL l ≤ 1048576 → ∀ t ∈ l, Ans (fun v => FV v t.tests) [] (CL X (fun _ => []) 74 [.agg t.cells] [])
  | [], _, _, t, ht => by simp at ht
  | u :: l, hf, hn, t, ht => by
    rw [Rx.szL] at hn
    rcases List.mem_cons.1 ht with e | ht
    · rw [e]; exact p_rtests u hf.1 (by omega)
    · exact p_rtestsL l hf.2 (by omega) t ht
end
theorem p_rparts (k : Int) (n : Nm) (op : Int) (bv : Bool) (vs : List Nm) (bt : Bool) (ts : List Tm) (lo hi : Int) (o bs : Bool) (ss : List Fm) (br : Bool) (rs : List Rx) (hfit : (Fm.mk k n op bv vs bt ts lo hi o bs ss br rs).fit) (hsz : (Fm.mk k n op bv vs bt ts lo hi o bs ss br rs).sz ≤ 1048576)
    (hr : rs.length = 0 ∨ (rs.length = 1 ∧ ss.length = 0)) :
    Ans (fun v => FV v (Fm.mk k n op bv vs bt ts lo hi o bs ss br rs).parts) [] (CL X (fun _ => []) 48 [.agg (Fm.mk k n op bv vs bt ts lo hi o bs ss br rs).cells] []) := by
  have hP : (Fm.mk k n op bv vs bt ts lo hi o bs ss br rs).parts = Rx.testsL rs ++ ss := by
    cases rs with
    | nil => rw [Fm.parts, Rx.testsL]; rfl
    | cons x rs =>
      rcases hr with e | ⟨e, e2⟩
      · simp at e
      · have h1 : rs = [] := by simpa using e
        have h2 : ss = [] := List.eq_nil_of_length_eq_zero e2
        subst h1 h2
        rw [Fm.parts, Rx.testsL, Rx.testsL]; simp
  rw [hP]
  simp only [Fm.fit] at hfit
  obtain ⟨i1, i2, i3, i4, hft, hfs, hfr⟩ := hfit
  rw [Fm.sz] at hsz
  rw [Fm.cells]
  obtain ⟨p1, u1', n1, d1, f1⟩ := (slv_Sl bv 1 (tx vs)).one
  generalize slv bv 1 (tx vs) = v at *
  obtain ⟨p2, u2', n2, d2, f2⟩ := (slv_Sl bt 7 (Tm.cellsL ts)).one
  generalize slv bt 7 (Tm.cellsL ts) = t at *
  have hsl3 := slv_Sl bs 10 (Fm.cellsL ss)
  generalize slv bs 10 (Fm.cellsL ss) = sv at hsl3
  obtain ⟨p3, u3', n3, d3, f3⟩ := hsl3.one
  have hsl4 := slv_Sl br 3 (Rx.cellsL rs)
  generalize slv br 3 (Rx.cellsL rs) = rv at hsl4
  obtain ⟨p4, u4', n4, d4, f4⟩ := hsl4.one
  rw [CL_eq (fn := x48) rfl]
  obtain ⟨C, hC⟩ : ∃ C : List AV, [.int .i64 k, .str n, .int .i64 op, v, t, .int .i64 lo, .int .i64 hi, .bool o, sv, rv] = C := ⟨_, rfl⟩
  have ldr : ldK 1 false 9 (some C) = some rv := by rw [← hC]; simp only [go_sem, u4']
  have lds : ldK 1 false 8 (some C) = some sv := by rw [← hC]; simp only [go_sem, u3']
  have hCm : C.map uf = C := by rw [← hC]; simp only [go_sem, u1', u2', u3', u4']
  have hCl : C.length = 10 := by rw [← hC]; rfl
  have hCp : C.all plain1 = true := by rw [← hC]; simp only [go_sem, p1, p2, p3, p4]
  obtain ⟨L0, hL0⟩ : ∃ L0, lputc [] 1 0 C = L0 := ⟨_, rfl⟩
  have hL : lcells L0 1 0 = some C := by rw [← hL0, lcells_put]; simp
  have ld1 : ∀ gl off n agg, ldAt gl [L0] (.ptr ⟨0, 1, 0⟩ off) n agg = ldK n agg off (lcells L0 1 0) := fun gl off n agg => ldAt_topc rfl
  obtain ⟨I, hI⟩ : ∃ I : Nat → List AV → Heap → Prop, ∀ i fr hp', I i fr hp' ↔ (hp' = [L0] ∧ (∃ u, FA u (Rx.testsL (rs.take i)) ∧ fget fr 3 = u) ∧ fget fr 1 = .ptr ⟨0, 1, 0⟩ 0 ∧ fget fr 4 = .int .i64 (i : Nat)) := ⟨_, fun _ _ _ => Iff.rfl⟩
  obtain ⟨Q, hQ⟩ : ∃ Q : XExit → List AV → Heap → Prop, ∀ e fr hp', Q e fr hp' ↔ (e = .exit 0 ∧ hp' = [L0] ∧ (∃ u, FA u (Rx.testsL rs) ∧ fget fr 3 = u) ∧ fget fr 1 = .ptr ⟨0, 1, 0⟩ 0) := ⟨_, fun _ _ _ => Iff.rfl⟩
  simp +contextual -implicitDefEqProofs (maxSteps := 10000000) only [x48, go_sem, ↓reduceIte, hC, hCm, hCl, hCp, hL0]
  refine LC_upK rs.length I Q (fun r => Ans _ _ (finK _ (seqK (blockK 0 r) _))) ?_ ?_ ?_ ?_
  · rw [hI]
    refine ⟨rfl, ⟨.nilsl, .inl ⟨rfl, by rw [List.take_zero]; rfl⟩, ?_⟩, ?_, ?_⟩ <;> simp only [go_sem, ↓reduceIte, Nat.reduceEqDiff, Int.natCast_zero]
  · intro i hi fr hp' h
    obtain ⟨rfl, ⟨u, hu, h3⟩, h1, h4⟩ := (hI _ _ _).1 h
    have hv' : rv = .lst .none 3 (Rx.cellsL rs) := by
      rcases hsl4 with ⟨_, e⟩ | e
      · have := Rx.cellsL_len rs; rw [e] at this; simp at this; omega
      · exact e
    have k1 : ((i : Int) < ((Rx.cellsL rs).length : Int)) = True := by rw [Rx.cellsL_len]; simp; omega
    have k2 : (i < (Rx.cellsL rs).length) = True := by rw [Rx.cellsL_len]; simp; omega
    have w1 : wr .i64 ((i : Int) + 1) = ((i + 1 : Nat) : Int) := by rw [wr_i64 _ (by omega)]; omega
    have g1 : (Rx.cellsL rs).getD i [] = (rs[i]).cells := by simp [Rx.cellsL_eq, List.getD, hi]
    have hmem : rs[i] ∈ rs := List.getElem_mem hi
    obtain ⟨a1, a2, a3, a4, a5⟩ := flatRx (Rx.fitL_mem hfr _ hmem)
    have a6 := flatRx' (Rx.fitL_mem hfr _ hmem)
    have a1' : (3 ≤ (rs[i]).cells.length) = True := by simp; omega
    obtain ⟨vi, hvi, hih⟩ := p_rtestsL rs hfr (by omega) _ hmem
    have htk := Rx.testsL_take rs i hi
    have b1 := Rx.testsL_sz (rs.take i)
    have b2 := Rx.szL_take rs i
    have b3 := Rx.tests_sz rs[i]
    have b4 := Rx.sz_mem hmem
    have b5 := Fm.szL_len (Rx.testsL (rs.take i))
    have b6 := Fm.szL_len (rs[i]).tests
    obtain ⟨u', hu', happ⟩ := hu.app (Rx.tests_fit _ (Rx.fitL_mem hfr _ hmem)) (by simp [room]; omega)
    have hlo := fun hp => hvi.uf.1.listOf hp
    obtain ⟨_, q2, _, _, _⟩ := hvi.uf
    subst hv'
    simp +contextual -implicitDefEqProofs (maxSteps := 10000000) only [x48_l0_run, go_sem, ↓reduceIte, Nat.reduceEqDiff, h1, h3, h4, hL, ld1, ldr, k1, k2, w1, g1, a1, a3, a4, a6, hih, hlo, happ, fget_drop1K]
    rw [hI]
    refine ⟨rfl, ⟨u', by rw [htk]; exact hu', ?_⟩, ?_, ?_⟩ <;> simp only [go_sem, ↓reduceIte, Nat.reduceEqDiff, fget_drop1K, h1]
  · intro fr hp' h
    obtain ⟨rfl, ⟨u, hu, h3⟩, h1, h4⟩ := (hI _ _ _).1 h
    rw [Rx.cellsL_len] at n4
    simp +contextual -implicitDefEqProofs (maxSteps := 10000000) only [x48_l0_run, go_sem, ↓reduceIte, Nat.reduceEqDiff, h1, h4, hL, ld1, ldr, n4, Int.lt_irrefl]
    rw [hQ]
    refine ⟨rfl, rfl, ⟨u, by rw [List.take_length] at hu; exact hu, ?_⟩, ?_⟩ <;> simp only [go_sem, ↓reduceIte, Nat.reduceEqDiff, h1, h3]
  · intro e fr hp' he h
    obtain ⟨rfl, rfl, ⟨u, hu, h3⟩, h1⟩ := (hQ _ _ _).1 h
    have b1 := Rx.testsL_sz rs
    have b5 := Fm.szL_len (Rx.testsL rs)
    have b6 := Fm.szL_len ss
    obtain ⟨u', hu', happ⟩ := hu.app hfs (by simp [room]; omega)
    have hlo := fun hp => (FV.of hsl3).listOf hp
    simp +contextual -implicitDefEqProofs (maxSteps := 10000000) only [go_sem, ↓reduceIte, Nat.reduceEqDiff, h1, h3, hL, ld1, lds, hlo, happ, fget_drop1K, hu'.ret]
    exact ⟨_, hu'.fv, rfl⟩
theorem fErr_zero2 {k : Int} {n : Nm} {op : Int} {vs : List Nm} {nt : Nat} {lo hi : Int} {o : Bool} {ns nr : Nat} (h : fErr k n op vs nt lo hi o ns nr = 0) : (k = 19 ∨ k = 20 ∨ k = 21) → nt = 0 := by
  intro hk3
  unfold fErr at h
  rw [if_neg (by omega)] at h
  by_cases hm : manyB k nt vs.length = true
  · rw [if_pos hm] at h; simp at h
  · rw [if_neg hm] at h
    by_cases hc : (cntB k vs.length nt ns nr && vs.all nameB && fldB k n op lo hi o) = false
    · rw [if_pos hc] at h; simp at h
    · have : (cntB k vs.length nt ns nr && vs.all nameB && fldB k n op lo hi o) = true := by rw [Bool.not_eq_false] at hc; exact hc
      simp only [Bool.and_eq_true, cntB] at this
      have q := this.1.1.1.1.2
      rcases hk3 with rfl | rfl | rfl <;> simp [cnt, u3] at q <;> omega
theorem riseL_congr {a b : List Nm} (h : ∀ x, x ∈ a ↔ x ∈ b) : riseL a = riseL b := ss_ext _ _ (riseL_ss a) (riseL_ss b) (fun x => by rw [mem_riseL, mem_riseL, h])
theorem riseL_self {a : List Nm} (h : SS a) : riseL a = a := (riseL_eq h (fun _ => Iff.rfl)).symm
theorem riseL_filter (a : List Nm) (p : Nm → Bool) : (riseL a).filter p = riseL (a.filter p) := by
  refine riseL_eq ((riseL_ss a).filter p) (fun x => ?_)
  rw [List.mem_filter, List.mem_filter, mem_riseL]
def LA (v : AV) (l : List Nm) : Prop := (v = .nilsl ∧ l = []) ∨ v = .lst .own 1 (tx l)
theorem LA.lv {v : AV} {l : List Nm} (h : LA v l) : LV v l := by
  rcases h with h | h
  · exact .inl h
  · exact .inr (.inr h)
theorem LA.app {v : AV} {a : List Nm} (h : LA v a) (x : Nm) (hs : (a.length + 1) * 16 ≤ room) : appK false 1 16 v (some (tx [x])) = some (.lst .own 1 (tx (a ++ [x]))) := by
  have hn : ¬ (tx [x] = []) := by rw [tx_nil]; simp
  rcases h with ⟨rfl, rfl⟩ | rfl
  · rw [appK_nilsl, if_neg hn, if_pos ⟨tx_free [x], tx_plain [x]⟩, if_pos (by simpa [tx] using hs)]
    rfl
  · rw [appK_lst, if_neg hn, if_pos ⟨tx_free [x], tx_plain [x]⟩, tx_len, tx_len, if_pos ⟨rfl, rfl, hs⟩, tx_app]
    rfl
theorem LV.full {v : AV} {l : List Nm} (h : LV v l) : Sl 1 (Go.Proofs.YtnmaahfipddkmaaGreat.Sx.uf v) (tx l) ∧ lensK false v = some (.int .i64 l.length) ∧ Go.Proofs.YtnmaahfipddkmaaGreat.Sx.uf (Go.Proofs.YtnmaahfipddkmaaGreat.Sx.uf v) = Go.Proofs.YtnmaahfipddkmaaGreat.Sx.uf v ∧ (∀ fr t, drop1K (Go.Proofs.YtnmaahfipddkmaaGreat.Sx.uf v) fr t = fr) ∧ refFree (Go.Proofs.YtnmaahfipddkmaaGreat.Sx.uf v) = true ∧ (∀ h lev, retOf h lev [Go.Proofs.YtnmaahfipddkmaaGreat.Sx.uf v] = some (Go.Proofs.YtnmaahfipddkmaaGreat.Sx.uf v)) ∧ (∀ h lev, retOf h lev [v] = some v) := by
  refine ⟨h.uf, ?_⟩
  rcases h with ⟨rfl, rfl⟩ | rfl | rfl
  · exact ⟨rfl, rfl, fun _ _ => rfl, rfl, fun _ _ => rfl, fun _ _ => rfl⟩
  · exact ⟨by simp [lensK_lst, tx_len, lenB_none], rfl, fun _ _ => rfl, by simp [Go.Proofs.YtnmaahfipddkmaaGreat.Sx.uf, refFree], fun _ _ => rfl, fun _ _ => rfl⟩
  · exact ⟨by simp [lensK_lst, tx_len, lenB_own], rfl, fun _ _ => rfl, by simp [Go.Proofs.YtnmaahfipddkmaaGreat.Sx.uf, refFree], fun _ _ => rfl, fun _ _ => rfl⟩
def RvA (t : Fm) : Prop := Ans (fun v => LV v t.fr.1) [] (CL X (fun _ => []) 43 [.agg t.cells] [])
theorem p_rvars_step (k : Int) (n : Nm) (op : Int) (bv : Bool) (vs : List Nm) (bt : Bool) (ts : List Tm) (lo hi : Int) (o bs : Bool) (ss : List Fm) (br : Bool) (rs : List Rx) (hfit : (Fm.mk k n op bv vs bt ts lo hi o bs ss br rs).fit)
    (hsz : (Fm.mk k n op bv vs bt ts lo hi o bs ss br rs).sz ≤ 1048576) (hgood : fErr k n op vs ts.length lo hi o ss.length rs.length = 0) (ih : ∀ t ∈ (Fm.mk k n op bv vs bt ts lo hi o bs ss br rs).parts, RvA t) :
    RvA (Fm.mk k n op bv vs bt ts lo hi o bs ss br rs) := by
  obtain ⟨e1, e2, e3, e4⟩ := fErr_zero hgood
  have e5 := fErr_zero2 hgood
  have hparts := p_rparts k n op bv vs bt ts lo hi o bs ss br rs hfit hsz e4
  unfold RvA
  rw [Fm.fr_eq]
  have hPss : rs.length = 0 → (Fm.mk k n op bv vs bt ts lo hi o bs ss br rs).parts = ss := by
    intro h
    cases rs with
    | nil => rw [Fm.parts]
    | cons x rs => simp at h
  have hpsz : Fm.szL (Fm.mk k n op bv vs bt ts lo hi o bs ss br rs).parts ≤ Fm.szL ss + Rx.szL rs := by
    cases rs with
    | nil => rw [Fm.parts]; omega
    | cons x rs => rw [Fm.parts, Rx.szL]; have := Rx.tests_sz x; omega
  have hpfit : Fm.fitL (Fm.mk k n op bv vs bt ts lo hi o bs ss br rs).parts := by
    simp only [Fm.fit] at hfit
    cases rs with
    | nil => rw [Fm.parts]; exact hfit.2.2.2.2.2.1
    | cons x rs => rw [Fm.parts]; exact Rx.tests_fit x hfit.2.2.2.2.2.2.1
  generalize (Fm.mk k n op bv vs bt ts lo hi o bs ss br rs).parts = G at hparts ih hPss hpsz hpfit
  rw [Fm.cells] at hparts ⊢
  simp only [Fm.fit] at hfit
  obtain ⟨i1, i2, i3, i4, hft, hfs, hfr⟩ := hfit
  rw [Fm.sz] at hsz
  have hsl1 := slv_Sl bv 1 (tx vs)
  generalize slv bv 1 (tx vs) = v at hsl1 hparts
  obtain ⟨p1, u1', n1, d1, f1⟩ := hsl1.one
  have hsl2 := slv_Sl bt 7 (Tm.cellsL ts)
  generalize slv bt 7 (Tm.cellsL ts) = t at hsl2 hparts
  obtain ⟨p2, u2', n2, d2, f2⟩ := hsl2.one
  rw [Tm.cellsL_len] at n2
  have hsl3 := slv_Sl bs 10 (Fm.cellsL ss)
  generalize slv bs 10 (Fm.cellsL ss) = sv at hsl3 hparts
  obtain ⟨p3, u3', n3, d3, f3⟩ := hsl3.one
  obtain ⟨p4, u4', n4, d4, f4⟩ := (slv_Sl br 3 (Rx.cellsL rs)).one
  generalize slv br 3 (Rx.cellsL rs) = rv at *
  obtain ⟨pv, hpv, hpcall⟩ := hparts
  obtain ⟨C, hC⟩ : ∃ C : List AV, [.int .i64 k, .str n, .int .i64 op, v, t, .int .i64 lo, .int .i64 hi, .bool o, sv, rv] = C := ⟨_, rfl⟩
  have ldC : ldK 10 true 0 (some C) = some (.agg C) := by rw [← hC]; simp only [go_sem, ↓reduceIte, Nat.reduceAdd, u1', u2', u3', u4']
  have ld0 : ldK 1 false 0 (some C) = some (.int .i64 k) := by rw [← hC]; simp only [go_sem]
  have ldn : ldK 1 false 1 (some C) = some (.str n) := by rw [← hC]; simp only [go_sem]
  have ldv : ldK 1 false 3 (some C) = some v := by rw [← hC]; simp only [go_sem, u1']
  have ldt : ldK 1 false 4 (some C) = some t := by rw [← hC]; simp only [go_sem, u2']
  have lds : ldK 1 false 8 (some C) = some sv := by rw [← hC]; simp only [go_sem, u3']
  have hfree : refFreeL C = true := by rw [← hC]; simp only [go_sem, f1, f2, f3, f4]
  have hCm : C.map uf = C := by rw [← hC]; simp only [go_sem, u1', u2', u3', u4']
  have hCl : C.length = 10 := by rw [← hC]; rfl
  have hCp : C.all plain1 = true := by rw [← hC]; simp only [go_sem, p1, p2, p3, p4]
  obtain ⟨L0, hL0⟩ : ∃ L0, lputc [] 1 0 C = L0 := ⟨_, rfl⟩
  have hL : lcells L0 1 0 = some C := by rw [← hL0, lcells_put]; simp
  have ld1 : ∀ gl off n agg, ldAt gl [L0] (.ptr ⟨0, 1, 0⟩ off) n agg = ldK n agg off (lcells L0 1 0) := fun gl off n agg => ldAt_topc rfl
  rw [hC] at hpcall ⊢
  have hTl := Tm.tvC_len ts
  obtain ⟨Pall, hPall⟩ : ∃ Pall, G.map Fm.fr = Pall := ⟨_, rfl⟩
  have hPl : Pall.length = G.length := by rw [← hPall]; simp
  rw [hPall]
  obtain ⟨T, hT⟩ : ∃ T, Tm.tvC ts = T := ⟨_, rfl⟩
  rw [hT] at hTl ⊢
  have hGl := Fm.szL_len G
  have hps : ∀ i, psum (Pall.take i) ≤ Fm.szL G := by
    intro i
    rw [← hPall, ← Fm.frL_eq]
    refine Nat.le_trans ?_ (Fm.frL_len G)
    have : ∀ (P : List (List Nm × Int)) (i : Nat), psum (P.take i) ≤ psum P := by
      intro P
      induction P with
      | nil => intro i; simp
      | cons p P ih =>
        intro i
        cases i with
        | zero => simp [psum]
        | succ i => rw [List.take_succ_cons, psum, psum]; have := ih i; omega
    exact this _ _
  rw [CL_eq (fn := x43) rfl]
  obtain ⟨I, hI⟩ : ∃ I : Nat → List AV → Heap → Prop, ∀ i fr hp', I i fr hp' ↔ (hp' = [L0] ∧ (∃ u, LV u (riseL (Tm.tvC (ts.take i))) ∧ fget fr 3 = u) ∧ fget fr 1 = .ptr ⟨0, 1, 0⟩ 0 ∧ fget fr 4 = .int .i64 (i : Nat)) := ⟨_, fun _ _ _ => Iff.rfl⟩
  obtain ⟨Q, hQ⟩ : ∃ Q : XExit → List AV → Heap → Prop, ∀ e fr hp', Q e fr hp' ↔ (e = .exit 0 ∧ hp' = [L0] ∧ (∃ u, LV u (riseL T) ∧ fget fr 3 = u) ∧ fget fr 1 = .ptr ⟨0, 1, 0⟩ 0) := ⟨_, fun _ _ _ => Iff.rfl⟩
  show Ans (fun v => LV v (riseL (fcol k n vs T Pall))) [] _
  simp +contextual -implicitDefEqProofs (maxSteps := 10000000) only [x43, go_sem, ↓reduceIte, hCm, hCl, hCp, hL0]
  refine LC_upK ts.length I Q (fun r => Ans _ _ (finK _ (seqK (blockK 0 r) _))) ?_ ?_ ?_ ?_
  · rw [hI]
    refine ⟨rfl, ⟨.nilsl, .inl ⟨rfl, by rw [List.take_zero]; rfl⟩, ?_⟩, ?_, ?_⟩ <;> simp only [go_sem, ↓reduceIte, Nat.reduceEqDiff, Int.natCast_zero]
  · intro i hi fr hp' h
    obtain ⟨rfl, ⟨u, hu, h3⟩, h1, h4⟩ := (hI _ _ _).1 h
    have hv' : t = .lst .none 7 (Tm.cellsL ts) := by
      rcases hsl2 with ⟨_, e⟩ | e
      · have := Tm.cellsL_len ts; rw [e] at this; simp at this; omega
      · exact e
    have k1 : ((i : Int) < ((Tm.cellsL ts).length : Int)) = True := by rw [Tm.cellsL_len]; simp; omega
    have k2 : (i < (Tm.cellsL ts).length) = True := by rw [Tm.cellsL_len]; simp; omega
    have w1 : wr .i64 ((i : Int) + 1) = ((i + 1 : Nat) : Int) := by rw [wr_i64 _ (by omega)]; omega
    have g1 : (Tm.cellsL ts).getD i [] = (ts[i]).cells := by simp [Tm.cellsL_eq, List.getD, hi]
    have hmem : ts[i] ∈ ts := List.getElem_mem hi
    obtain ⟨a1, a2, a3, a4, a5⟩ := flatTm (Tm.fitL_mem hft _ hmem)
    have a6 := (Tm.tmp _ (Tm.fitL_mem hft _ hmem)).free.2
    have a1' : (7 ≤ (ts[i]).cells.length) = True := by simp; omega
    obtain ⟨vi, hvi, hih⟩ := p_rtvL ts hft (by omega) _ hmem
    have htk := Tm.tvC_take ts i hi
    have b1 := Tm.tvC_len (ts.take i)
    have b2 := Tm.nnL_take ts i
    have b3 := Tm.tv_len ts[i]
    have b4 := Tm.nn_mem hmem
    have b5 := riseL_length (Tm.tvC (ts.take i))
    obtain ⟨u', hu', hcall⟩ := p_puts (ts[i]).tv (uf vi) hvi.uf (by omega) (riseL (Tm.tvC (ts.take i))) (uf u) hu.uf (by omega) []
    rw [puts_rise] at hu'
    obtain ⟨_, uu, _, _, ff⟩ := hu.uf.one
    obtain ⟨_, uu2, _, _, ff2⟩ := hvi.uf.one
    subst hv'
    simp +contextual -implicitDefEqProofs (maxSteps := 10000000) only [x43_l0_run, go_sem, ↓reduceIte, Nat.reduceEqDiff, h1, h3, h4, hL, ld1, ldt, k1, k2, w1, g1, a1, a3, a4, a6, hih, hcall, uu, ff, uu2, ff2, fget_drop1K]
    rw [hI]
    refine ⟨rfl, ⟨u', by rw [htk]; exact hu', ?_⟩, ?_, ?_⟩ <;> simp only [go_sem, ↓reduceIte, Nat.reduceEqDiff, fget_drop1K, h1]
  · intro fr hp' h
    obtain ⟨rfl, ⟨u, hu, h3⟩, h1, h4⟩ := (hI _ _ _).1 h
    simp +contextual -implicitDefEqProofs (maxSteps := 10000000) only [x43_l0_run, go_sem, ↓reduceIte, Nat.reduceEqDiff, h1, h4, hL, ld1, ldt, n2, Int.lt_irrefl]
    rw [hQ]
    refine ⟨rfl, rfl, ⟨u, by rw [List.take_length, hT] at hu; exact hu, ?_⟩, ?_⟩ <;> simp only [go_sem, ↓reduceIte, Nat.reduceEqDiff, h1, h3]
  · intro e fr hp' he h
    obtain ⟨rfl, rfl, ⟨u, hu, h3⟩, h1⟩ := (hQ _ _ _).1 h
    have hlen := hpv.lens
    have bT := riseL_length T
    by_cases c19 : k = 19
    · subst c19
      have hts : ts.length = 0 := e5 (.inl rfl)
      have hT0 : T = [] := by rw [← hT, List.eq_nil_of_length_eq_zero hts]; rfl
      subst hT0
      have hv0 := e2 rfl
      have hv1 : 0 < vs.length := List.length_pos_iff.2 hv0
      obtain rfl : v = .lst .none 1 (tx vs) := hsl1.cases1.resolve_left (fun e => hv0 e.2)
      have hv2 : (1 ≤ vs.length) = True := by simp; omega
      obtain ⟨w1, hw1, hc1⟩ := p_put (riseL []) n (uf u) hu.uf (by simp [riseL_nil]) []
      rw [put_rise] at hw1
      have bl := riseL_length ([] ++ [n])
      have bl1 : (([] : List Nm) ++ [n]).length = 1 := rfl
      obtain ⟨w2, hw2, hc2⟩ := p_puts (vs.drop 1) (.lst .none 1 (tx (vs.drop 1))) (.inr rfl) (by simp; omega) (riseL ([] ++ [n])) (uf w1) hw1.uf (by omega) []
      rw [puts_rise] at hw2
      obtain ⟨_, _, x2, x3, x4, _, _⟩ := hu.full
      obtain ⟨_, _, y2, y3, y4, _, _⟩ := hw1.full
      obtain ⟨_, _, z2, z3, z4, _, z6⟩ := hw2.full
      simp +contextual -implicitDefEqProofs (maxSteps := 10000000) only [go_sem, ↓reduceIte, Nat.reduceEqDiff, Int.reduceBEq, h1, h3, hL, ld1, ldC, ld0, ldn, ldv, hpcall, hfree, fget_drop1K, hc1, x2, x4, y2, y4, hc2, o_ssl, sslK_lo1, tx_len, hv2, tx_drop, z6]
      refine ⟨w2, ?_, rfl⟩
      have : fcol 19 n vs [] Pall = vs.drop 1 ++ [n] := by unfold fcol; rw [if_pos rfl]
      rw [this, riseL_congr (b := [] ++ [n] ++ vs.drop 1) (fun x => by simp only [List.mem_append]; exact ⟨fun h => h.elim .inr (fun h => .inl (.inr h)), fun h => h.elim (fun h => h.elim (fun h => absurd h (by simp)) .inr) .inl⟩)]
      exact hw2
    · have e19 : (k = 19) = False := by simp [c19]
      by_cases c20 : k = 20 ∨ k = 21
      · have hns := e3 c20
        have hnr : rs.length = 0 := by omega
        have hGs := hPss hnr
        subst hGs
        have hts : ts.length = 0 := e5 (.inr c20)
        have hT0 : T = [] := by rw [← hT, List.eq_nil_of_length_eq_zero hts]; rfl
        subst hT0
        match G, hns with
        | [ga, gb], _ =>
          obtain ⟨w1, hw1, hc1⟩ := ih gb (by simp)
          obtain ⟨_, _, z2, z3, z4, _, z6⟩ := hw1.full
          have hsv : sv = .lst .none 10 (Fm.cellsL [ga, gb]) := by
            rcases hsl3 with ⟨_, e⟩ | e
            · simp [Fm.cellsL] at e
            · exact e
          have ia : iaddrK 10 sv (some 1) = some (.elp gb.cells) := by
            rw [hsv, iaddrK_lst, if_pos ⟨rfl, by simp [Fm.cellsL]⟩]
            rfl
          obtain ⟨a1, a2, a3, a4, a5⟩ := flatFm hfs.2.1
          have a6 := flatFm' hfs.2.1
          have a1' : (10 ≤ gb.cells.length) = True := by simp; omega
          have hF : riseL (fcol k n vs [] Pall) = gb.fr.1 := by
            have c10 : k ≠ 10 := by omega
            unfold fcol
            rw [if_neg c19, if_neg c10, ← hPall]
            simp only [List.map_cons, List.map_nil, pcolA, if_neg c19, if_pos c20]
            simp
            exact riseL_self (by cases gb; rw [Fm.fr_eq]; exact riseL_ss _)
          rw [hF]
          rcases c20 with rfl | rfl
          · simp +contextual -implicitDefEqProofs (maxSteps := 10000000) only [go_sem, ↓reduceIte, Nat.reduceEqDiff, Int.reduceLE, Int.reduceToNat, Int.reduceBEq, h1, h3, hL, ld1, ldC, ld0, lds, hpcall, hfree, fget_drop1K, ia, a1, a3, a4, a6, hc1, u3', z6]
            exact ⟨w1, hw1, rfl⟩
          · simp +contextual -implicitDefEqProofs (maxSteps := 10000000) only [go_sem, ↓reduceIte, Nat.reduceEqDiff, Int.reduceLE, Int.reduceToNat, Int.reduceBEq, h1, h3, hL, ld1, ldC, ld0, lds, hpcall, hfree, fget_drop1K, ia, a1, a3, a4, a6, hc1, u3', z6]
            exact ⟨w1, hw1, rfl⟩
      · have e20 : (k = 20) = False := by simp; omega
        have e21 : (k = 21) = False := by simp; omega
        obtain ⟨_, _, x2, x3, x4, _, x6⟩ := hu.full
        simp +contextual -implicitDefEqProofs (maxSteps := 10000000) only [go_sem, ↓reduceIte, Nat.reduceEqDiff, h1, h3, hL, ld1, ldC, ld0, hpcall, hfree, fget_drop1K, e19, e20, e21]
        obtain ⟨J, hJ⟩ : ∃ I : Nat → List AV → Heap → Prop, ∀ i fr hp', I i fr hp' ↔ (hp' = [L0] ∧ (∃ u, LV u (riseL (T ++ pcolA k 0 (Pall.take i))) ∧ fget fr 3 = u) ∧ fget fr 1 = .ptr ⟨0, 1, 0⟩ 0 ∧ fget fr 6 = pv ∧ fget fr 7 = .int .i64 (i : Nat)) := ⟨_, fun _ _ _ => Iff.rfl⟩
        obtain ⟨R, hR⟩ : ∃ Q : XExit → List AV → Heap → Prop, ∀ e fr hp', Q e fr hp' ↔ (e = .exit 3 ∧ hp' = [L0] ∧ (∃ u, LV u (riseL (T ++ pcolA k 0 Pall)) ∧ fget fr 3 = u) ∧ fget fr 1 = .ptr ⟨0, 1, 0⟩ 0) := ⟨_, fun _ _ _ => Iff.rfl⟩
        have c20' : ¬ (k = 20 ∨ k = 21) := c20
        refine LC_upK G.length J R (fun r => Ans _ _ (finK _ (seqK (blockK 3 r) _))) ?_ ?_ ?_ ?_
        · rw [hJ]
          refine ⟨rfl, ⟨u, by rw [List.take_zero, pcolA, List.append_nil]; exact hu, ?_⟩, ?_, ?_, ?_⟩ <;> simp only [go_sem, ↓reduceIte, Nat.reduceEqDiff, Int.natCast_zero, fget_drop1K, h1, h3]
        · intro i hi fr hp' h
          obtain ⟨rfl, ⟨u, hu, h3⟩, h1, h6, h7⟩ := (hJ _ _ _).1 h
          have hmem : G[i] ∈ G := List.getElem_mem hi
          obtain ⟨vi, hvi, hcall⟩ := ih _ hmem
          have hia := hpv.uf.1.iaddr i hi
          obtain ⟨_, y2, y3, _, _⟩ := hpv.uf
          have htk2 : Pall.take (i + 1) = Pall.take i ++ [G[i].fr] := by
            rw [List.take_succ_eq_append_getElem (by omega)]
            simp [← hPall]
          have hcs := pcolA_snoc k G[i].fr (Pall.take i) 0
          rw [← htk2, if_neg c19, if_neg c20'] at hcs
          have b1 := Fm.fr_len G[i]
          have b2 := Fm.sz_mem hmem
          have b3 := hps i
          have b4 := pcolA_len k (Pall.take i) 0
          have b5 := riseL_length (T ++ pcolA k 0 (Pall.take i))
          rw [List.length_append] at b5
          obtain ⟨u', hu', hc2⟩ := p_puts G[i].fr.1 (uf vi) hvi.uf (by omega) (riseL (T ++ pcolA k 0 (Pall.take i))) (uf u) hu.uf (by omega) []
          rw [puts_rise] at hu'
          have k1 : ((i : Int) < (G.length : Int)) = True := by simp; omega
          have w1 : wr .i64 ((i : Int) + 1) = ((i + 1 : Nat) : Int) := by rw [wr_i64 _ (by omega)]; omega
          obtain ⟨a1, a2, a3, a4, a5⟩ := flatFm (Fm.fitL_mem hpfit _ hmem)
          have a6 := flatFm' (Fm.fitL_mem hpfit _ hmem)
          have a1' : (10 ≤ (G[i]).cells.length) = True := by simp; omega
          obtain ⟨_, uu, _, _, ff⟩ := hu.uf.one
          obtain ⟨_, uu2, _, _, ff2⟩ := hvi.uf.one
          have hlu := hpv.uf.1.lens
          simp +contextual -implicitDefEqProofs (maxSteps := 10000000) only [x43_l1_run, go_sem, ↓reduceIte, Nat.reduceEqDiff, h3, h6, h7, k1, w1, hia, hlu, y2, a1, a3, a4, a6, hcall, hc2, uu, ff, uu2, ff2, fget_drop1K]
          rw [hJ]
          refine ⟨rfl, ⟨u', by rw [hcs, ← List.append_assoc]; exact hu', ?_⟩, ?_, ?_, ?_⟩ <;> simp only [go_sem, ↓reduceIte, Nat.reduceEqDiff, fget_drop1K, h1, h6]
        · intro fr hp' h
          obtain ⟨rfl, ⟨u, hu, h3⟩, h1, h6, h7⟩ := (hJ _ _ _).1 h
          have hlu := hpv.uf.1.lens
          obtain ⟨_, y2, y3, _, _⟩ := hpv.uf
          simp +contextual -implicitDefEqProofs (maxSteps := 10000000) only [x43_l1_run, go_sem, ↓reduceIte, Nat.reduceEqDiff, h6, h7, hlu, Int.lt_irrefl]
          rw [hR]
          refine ⟨rfl, rfl, ⟨u, by rw [← hPl, List.take_length] at hu; exact hu, ?_⟩, ?_⟩ <;> simp only [go_sem, ↓reduceIte, Nat.reduceEqDiff, h1, h3]
        · intro e fr hp' he h
          obtain ⟨rfl, rfl, ⟨u, hu, h3⟩, h1⟩ := (hR _ _ _).1 h
          obtain ⟨z1, _, z2, z3, z4, z5, _⟩ := hu.full
          by_cases c10 : k = 10
          · subst c10
            have hF : fcol 10 n vs T Pall = (T ++ pcolA 10 0 Pall).filter (fun x => !vs.contains x) := by unfold fcol; rw [if_neg (by decide), if_pos rfl]
            rw [hF, ← riseL_filter]
            have b3 := hps Pall.length
            rw [List.take_length] at b3
            have b4 := pcolA_len 10 Pall 0
            have b5 := riseL_length (T ++ pcolA 10 0 Pall)
            rw [List.length_append] at b5
            generalize riseL (T ++ pcolA 10 0 Pall) = A at hu b5 z1 ⊢
            obtain ⟨M, hM⟩ : ∃ I : Nat → List AV → Heap → Prop, ∀ i fr hp', I i fr hp' ↔ (hp' = [L0] ∧ (∃ w, LA w ((A.take i).filter fun x => !vs.contains x) ∧ fget fr 9 = w) ∧ fget fr 1 = .ptr ⟨0, 1, 0⟩ 0 ∧ fget fr 3 = u ∧ fget fr 10 = .int .i64 (i : Nat)) := ⟨_, fun _ _ _ => Iff.rfl⟩
            obtain ⟨N, hN⟩ : ∃ Q : XExit → List AV → Heap → Prop, ∀ e fr hp', Q e fr hp' ↔ (e = .exit 5 ∧ hp' = [L0] ∧ (∃ w, LA w (A.filter fun x => !vs.contains x) ∧ fget fr 9 = w)) := ⟨_, fun _ _ _ => Iff.rfl⟩
            have r16 : (1 * 16 ≤ room) = True := by simp [room]
            simp +contextual -implicitDefEqProofs (maxSteps := 10000000) only [go_sem, ↓reduceIte, Nat.reduceEqDiff, Int.reduceBNe, h1, h3, hL, ld1, ld0]
            refine LC_upK A.length M N (fun r => Ans _ _ (finK _ (seqK (blockK 5 r) _))) ?_ ?_ ?_ ?_
            · rw [hM]
              refine ⟨rfl, ⟨.nilsl, .inl ⟨rfl, by simp⟩, ?_⟩, ?_, ?_, ?_⟩ <;> simp only [go_sem, ↓reduceIte, Nat.reduceEqDiff, Int.natCast_zero, h1, h3]
            · intro i hi fr hp' h
              obtain ⟨rfl, ⟨w, hw, h9⟩, h1, h3, h10⟩ := (hM _ _ _).1 h
              have hue : uf u = .lst .none 1 (tx A) := z1.cases1.resolve_left (fun e => by rw [e.2] at hi; simp at hi)
              have k1 : ((i : Int) < (A.length : Int)) = True := by simp; omega
              have k2 : (i < A.length) = True := by simp; omega
              have g1 := tx_get A i hi
              have w1 : wr .i64 ((i : Int) + 1) = ((i + 1 : Nat) : Int) := by rw [wr_i64 _ (by omega)]; omega
              have htk : (A.take (i + 1)).filter (fun x => !vs.contains x) = (A.take i).filter (fun x => !vs.contains x) ++ (if vs.contains (A.getD i []) = true then [] else [A.getD i []]) := by
                rw [List.take_succ_eq_append_getElem hi, List.filter_append]
                have : A.getD i [] = A[i] := by simp [List.getD, hi]
                rw [this]
                by_cases c : vs.contains A[i] = true
                · rw [if_pos c]; simp only [List.filter_cons, c]; rfl
                · rw [if_neg c]; simp only [List.filter_cons, c]; rfl
              obtain ⟨y, hy⟩ : ∃ y, A.getD i [] = y := ⟨_, rfl⟩
              rw [hy] at g1 htk
              have hhas := fun hp => p_has vs y v hsl1 (by omega) hp
              have hfl := List.length_filter_le (fun x => !vs.contains x) (A.take i)
              have htl : (A.take i).length ≤ A.length := by rw [List.length_take]; omega
              have happ := hw.app y (by simp only [room]; omega)
              by_cases c : vs.contains y = true
              · rw [if_pos c, List.append_nil] at htk
                simp only [c] at hhas
                simp +contextual -implicitDefEqProofs (maxSteps := 10000000) only [x43_l2_run, go_sem, ↓reduceIte, Nat.reduceEqDiff, h1, h3, h9, h10, hL, ld1, ldv, hue, k1, k2, tx_len, g1, w1, hhas, u1', f1]
                rw [hM]
                refine ⟨rfl, ⟨w, by rw [htk]; exact hw, ?_⟩, ?_, ?_, ?_⟩ <;> simp only [go_sem, ↓reduceIte, Nat.reduceEqDiff, h1, h3, h9]
              · have c2 : vs.contains y = false := by simpa using c
                rw [if_neg c] at htk
                simp only [c2] at hhas
                simp +contextual -implicitDefEqProofs (maxSteps := 10000000) only [x43_l2_run, go_sem, ↓reduceIte, Nat.reduceEqDiff, Nat.reduceLT, Nat.reduceDiv, h1, h3, h9, h10, hL, ld1, ldv, hue, k1, k2, tx_len, g1, w1, hhas, u1', f1, Nat.reduceDiv, tx_one, happ, fget_drop1K]
                rw [hM]
                refine ⟨rfl, ⟨_, by rw [htk]; exact .inr rfl, ?_⟩, ?_, ?_, ?_⟩ <;> simp only [go_sem, ↓reduceIte, Nat.reduceEqDiff, h1, h3, fget_drop1K]
            · intro fr hp' h
              obtain ⟨rfl, ⟨w, hw, h9⟩, h1, h3, h10⟩ := (hM _ _ _).1 h
              obtain ⟨_, zu, zn, zd, _⟩ := z1.one
              rw [tx_len] at zn
              simp +contextual -implicitDefEqProofs (maxSteps := 10000000) only [x43_l2_run, go_sem, ↓reduceIte, Nat.reduceEqDiff, h3, h10, zn, Int.lt_irrefl]
              rw [hN]
              refine ⟨rfl, rfl, w, by rw [List.take_length] at hw; exact hw, ?_⟩
              simp only [go_sem, ↓reduceIte, Nat.reduceEqDiff, h9]
            · intro e fr hp' he h
              obtain ⟨rfl, rfl, w, hw, h9⟩ := (hN _ _ _).1 h
              obtain ⟨q1, _, q2, q3, q4, q5, _⟩ := hw.lv.full
              simp +contextual -implicitDefEqProofs (maxSteps := 10000000) only [go_sem, ↓reduceIte, h9, q3, q5]
              exact ⟨_, .of q1, rfl⟩
          · have e10 : (k != 10) = true := by simp [c10]
            have hF : fcol k n vs T Pall = T ++ pcolA k 0 Pall := by unfold fcol; rw [if_neg c19, if_neg c10]
            rw [hF]
            simp +contextual -implicitDefEqProofs (maxSteps := 10000000) only [go_sem, ↓reduceIte, Nat.reduceEqDiff, h1, h3, hL, ld1, ld0, e10, z3, z5]
            exact ⟨_, .of z1, rfl⟩
mutual
theorem p_rvars : ∀ (t : Fm), t.fit → t.good → t.sz ≤ 1048576 → RvA t
  | .mk k n op bv vs bt ts lo hi o bs ss br rs, hf, hg, hn => p_rvars_step k n op bv vs bt ts lo hi o bs ss br rs hf hn (by rw [Fm.good] at hg; exact hg.1) (by
      rw [Fm.good] at hg
      simp only [Fm.fit] at hf
      rw [Fm.sz] at hn
      cases rs with
      | nil => rw [Fm.parts]; exact p_rvarsL ss hf.2.2.2.2.2.1 hg.2.1 (by omega)
      | cons x rs => rw [Fm.parts]; exact p_rvarsR x hf.2.2.2.2.2.2.1 hg.2.2.1 (by rw [Rx.szL] at hn; omega))
theorem p_rvarsL : ∀ (l : List Fm), Fm.fitL l → Fm.goodL l → Fm.szL l ≤ 1048576 → ∀ t ∈ l, RvA t
  | [], _, _, _, t, ht => by simp at ht
  | u :: l, hf, hg, hn, t, ht => by
    rw [Fm.szL] at hn
    rcases List.mem_cons.1 ht with e | ht
    · rw [e]; exact p_rvars u hf.1 hg.1 (by omega)
    · exact p_rvarsL l hf.2 hg.2 (by omega) t ht
theorem p_rvarsR : ∀ (x : Rx), x.fit → x.good → x.sz ≤ 1048576 → ∀ t ∈ x.tests, RvA t
  | .mk k bt ts bs ss, hf, hg, hn, t, ht => by
    rw [Rx.good] at hg
    simp only [Rx.fit] at hf
    rw [Rx.sz] at hn
    rw [Rx.tests] at ht
    rcases List.mem_append.1 ht with ht | ht
    · exact p_rvarsL ts hf.2.2.1 hg.2.1 (by omega) t ht
    · exact p_rvarsRL ss hf.2.2.2 hg.2.2 (by omega) t ht
theorem p_rvarsRL : ∀ (l : List Rx), Rx.fitL l → Rx.goodL l → Rx.szL l ≤ 1048576 → ∀ t ∈ Rx.testsL l, RvA t
  | [], _, _, _, t, ht => by simp [Rx.testsL] at ht
  | x :: l, hf, hg, hn, t, ht => by
    rw [Rx.szL] at hn
    rw [Rx.testsL] at ht
    rcases List.mem_append.1 ht with ht | ht
    · exact p_rvarsR x hf.1 hg.1 (by omega) t ht
    · exact p_rvarsRL l hf.2 hg.2 (by omega) t ht
end
theorem dmax_mem : ∀ (P : List (List Nm × Int)) (d : Int), d ≤ P.foldl (fun d p => if p.2 > d then p.2 else d) d ∧ ∀ p ∈ P, p.2 ≤ P.foldl (fun d p => if p.2 > d then p.2 else d) d
  | [], d => ⟨Int.le_refl _, fun p hp => by simp at hp⟩
  | q :: P, d => by
    obtain ⟨h1, h2⟩ := dmax_mem P (if q.2 > d then q.2 else d)
    rw [List.foldl_cons]
    have h3 : d ≤ (if q.2 > d then q.2 else d) ∧ q.2 ≤ (if q.2 > d then q.2 else d) := by split <;> omega
    refine ⟨by omega, fun p hp => ?_⟩
    rcases List.mem_cons.1 hp with rfl | hp
    · omega
    · exact h2 p hp
def FwA (t : Fm) : Prop := CL X (fun _ => []) 32 [.agg t.cells] [] = some (.bool (decide (t.fr.2 ≤ 8)), [])
theorem p_few_step (k : Int) (n : Nm) (op : Int) (bv : Bool) (vs : List Nm) (bt : Bool) (ts : List Tm) (lo hi : Int) (o bs : Bool) (ss : List Fm) (br : Bool) (rs : List Rx) (hfit : (Fm.mk k n op bv vs bt ts lo hi o bs ss br rs).fit)
    (hsz : (Fm.mk k n op bv vs bt ts lo hi o bs ss br rs).sz ≤ 1048576) (hg : (Fm.mk k n op bv vs bt ts lo hi o bs ss br rs).good) (ih : ∀ t ∈ (Fm.mk k n op bv vs bt ts lo hi o bs ss br rs).parts, FwA t) :
    FwA (Fm.mk k n op bv vs bt ts lo hi o bs ss br rs) := by
  have hv := p_rvars _ hfit hg hsz
  have e4 := (fErr_zero (by rw [Fm.good] at hg; exact hg.1)).2.2.2
  have hparts := p_rparts k n op bv vs bt ts lo hi o bs ss br rs hfit hsz e4
  have hfx := (Fm.fxp _ hfit).flat
  have hfree := flatFm' hfit
  unfold FwA
  have hfr2 : (Fm.mk k n op bv vs bt ts lo hi o bs ss br rs).fr.2 = if ((Fm.mk k n op bv vs bt ts lo hi o bs ss br rs).fr.1.length : Int) > dmax ((Fm.mk k n op bv vs bt ts lo hi o bs ss br rs).parts.map Fm.fr) then ((Fm.mk k n op bv vs bt ts lo hi o bs ss br rs).fr.1.length : Int) else dmax ((Fm.mk k n op bv vs bt ts lo hi o bs ss br rs).parts.map Fm.fr) := by
    rw [Fm.fr_eq]; rfl
  have hpfit : Fm.fitL (Fm.mk k n op bv vs bt ts lo hi o bs ss br rs).parts := by
    simp only [Fm.fit] at hfit
    cases rs with
    | nil => rw [Fm.parts]; exact hfit.2.2.2.2.2.1
    | cons x rs => rw [Fm.parts]; exact Rx.tests_fit x hfit.2.2.2.2.2.2.1
  have hpsz : Fm.szL (Fm.mk k n op bv vs bt ts lo hi o bs ss br rs).parts ≤ 1048576 := by
    rw [Fm.sz] at hsz
    cases rs with
    | nil => rw [Fm.parts]; omega
    | cons x rs => rw [Fm.parts]; rw [Rx.szL] at hsz; have := Rx.tests_sz x; omega
  generalize (Fm.mk k n op bv vs bt ts lo hi o bs ss br rs).parts = G at hparts ih hfr2 hpfit hpsz
  unfold RvA at hv
  generalize (Fm.mk k n op bv vs bt ts lo hi o bs ss br rs).fr = F at hv hfr2 ⊢
  generalize (Fm.mk k n op bv vs bt ts lo hi o bs ss br rs).cells = C at hv hparts hfx hfree ⊢
  obtain ⟨hCl, hCp, hCm⟩ := hfx
  have hCl' : C.length = 10 := hCl
  have hCt : C.take 10 = C := List.take_of_length_le (by omega)
  have ldC : ldK 10 true 0 (some C) = some (.agg C) := by
    rw [ldK_some, ldCells_agg, List.drop_zero, if_pos (by omega), hCt, hCm]
  obtain ⟨L0, hL0⟩ : ∃ L0, lputc [] 1 0 C = L0 := ⟨_, rfl⟩
  have hL : lcells L0 1 0 = some C := by rw [← hL0, lcells_put]; simp
  have ld1 : ∀ gl off n agg, ldAt gl [L0] (.ptr ⟨0, 1, 0⟩ off) n agg = ldK n agg off (lcells L0 1 0) := fun gl off n agg => ldAt_topc rfl
  obtain ⟨u, hu, hvc⟩ := hv
  obtain ⟨_, ul, uu, ud, uf1, _, _⟩ := hu.full
  have ul2 : lensK false (uf u) = some (.int .i64 F.1.length) := by rw [hu.uf.one.2.2.1, tx_len]
  obtain ⟨pv, hpv, hpcall⟩ := hparts
  obtain ⟨Pall, hPall⟩ : ∃ Pall, G.map Fm.fr = Pall := ⟨_, rfl⟩
  have hPl : Pall.length = G.length := by rw [← hPall]; simp
  rw [hPall] at hfr2
  have hGl := Fm.szL_len G
  rw [CL_eq (fn := x32) rfl]
  by_cases h8 : 8 < F.1.length
  · have h8' : ((8 : Int) < (F.1.length : Int)) = True := by simp; omega
    have hd : decide (F.2 ≤ 8) = false := by
      rw [hfr2]; simp only [decide_eq_false_iff_not]; split <;> omega
    rw [hd]
    simp +contextual -implicitDefEqProofs (maxSteps := 10000000) only [x32, go_sem, ↓reduceIte, Nat.reduceEqDiff, hCm, hCl', hCp, hL0, hL, ld1, ldC, hfree, hvc, ul2, h8']
  · have h8' : ((8 : Int) < (F.1.length : Int)) = False := by simp; omega
    have hd : decide (F.2 ≤ 8) = decide (dmax Pall ≤ 8) := by
      rw [hfr2, Bool.eq_iff_iff]; simp only [decide_eq_true_eq]; split <;> omega
    rw [hd]
    simp +contextual -implicitDefEqProofs (maxSteps := 10000000) only [x32, go_sem, ↓reduceIte, Nat.reduceEqDiff, hCm, hCl', hCp, hL0, hL, ld1, ldC, hfree, hvc, fget_drop1K, ul2, h8', hpcall]
    obtain ⟨J, hJ⟩ : ∃ I : Nat → List AV → Heap → Prop, ∀ i fr hp', I i fr hp' ↔ (hp' = [L0] ∧ dmax (Pall.take i) ≤ 8 ∧ fget fr 4 = pv ∧ fget fr 5 = .int .i64 (i : Nat)) := ⟨_, fun _ _ _ => Iff.rfl⟩
    obtain ⟨R, hR⟩ : ∃ Q : XExit → List AV → Heap → Prop, ∀ e fr hp', Q e fr hp' ↔ (hp' = [L0] ∧ ((e = .exit 0 ∧ dmax Pall ≤ 8) ∨ (e = .ret ∧ ¬ dmax Pall ≤ 8 ∧ fget fr 2 = .bool false))) := ⟨_, fun _ _ _ => Iff.rfl⟩
    refine LC_upK G.length J R (fun r => finK _ (seqK (blockK 0 r) _) = _) ?_ ?_ ?_ ?_
    · rw [hJ]
      refine ⟨rfl, by rw [List.take_zero]; decide, ?_, ?_⟩ <;> simp only [go_sem, ↓reduceIte, Nat.reduceEqDiff, Int.natCast_zero]
    · intro i hi fr hp' h
      obtain ⟨rfl, hm, h4, h5⟩ := (hJ _ _ _).1 h
      have hmem : G[i] ∈ G := List.getElem_mem hi
      have hcall := ih _ hmem
      unfold FwA at hcall
      have hia := hpv.uf.1.iaddr i hi
      obtain ⟨_, y2, y3, _, _⟩ := hpv.uf
      have hlu := hpv.uf.1.lens
      have htk2 : Pall.take (i + 1) = Pall.take i ++ [G[i].fr] := by
        rw [List.take_succ_eq_append_getElem (by omega)]
        simp [← hPall]
      have hds := dmax_snoc (Pall.take i) G[i].fr
      rw [← htk2] at hds
      have hin : G[i].fr ∈ Pall := by rw [← hPall]; exact List.mem_map.2 ⟨_, hmem, rfl⟩
      have hge : G[i].fr.2 ≤ dmax Pall := (dmax_mem Pall 0).2 _ hin
      obtain ⟨D, hD⟩ : ∃ D, G[i].fr.2 = D := ⟨_, rfl⟩
      rw [hD] at hcall hds hge
      have k1 : ((i : Int) < (G.length : Int)) = True := by simp; omega
      have w1 : wr .i64 ((i : Int) + 1) = ((i + 1 : Nat) : Int) := by rw [wr_i64 _ (by omega)]; omega
      obtain ⟨a1, a2, a3, a4, a5⟩ := flatFm (Fm.fitL_mem hpfit _ hmem)
      have a6 := flatFm' (Fm.fitL_mem hpfit _ hmem)
      have a1' : (10 ≤ (G[i]).cells.length) = True := by simp; omega
      by_cases c : D ≤ 8
      · have c' : decide (D ≤ 8) = true := by simp [c]
        rw [c'] at hcall
        simp +contextual -implicitDefEqProofs (maxSteps := 10000000) only [x32_l0_run, go_sem, ↓reduceIte, Nat.reduceEqDiff, h4, h5, k1, w1, hia, hlu, y2, a1, a3, a4, a6, hcall]
        rw [hJ]
        refine ⟨rfl, by rw [hds]; split <;> omega, ?_, ?_⟩ <;> simp only [go_sem, ↓reduceIte, Nat.reduceEqDiff, h4]
      · have c' : decide (D ≤ 8) = false := by simp [c]
        rw [c'] at hcall
        simp +contextual -implicitDefEqProofs (maxSteps := 10000000) only [x32_l0_run, go_sem, ↓reduceIte, Nat.reduceEqDiff, h4, h5, k1, hia, hlu, y2, a1, a3, a4, a6, hcall]
        rw [hR]
        refine ⟨rfl, .inr ⟨rfl, by omega, ?_⟩⟩
        simp only [go_sem, ↓reduceIte]
    · intro fr hp' h
      obtain ⟨rfl, hm, h4, h5⟩ := (hJ _ _ _).1 h
      have hlu := hpv.uf.1.lens
      obtain ⟨_, y2, y3, _, _⟩ := hpv.uf
      simp +contextual -implicitDefEqProofs (maxSteps := 10000000) only [x32_l0_run, go_sem, ↓reduceIte, Nat.reduceEqDiff, h4, h5, hlu, Int.lt_irrefl]
      rw [hR]
      exact ⟨rfl, .inl ⟨rfl, by rw [← hPl, List.take_length] at hm; exact hm⟩⟩
    · intro e fr hp' he h
      rcases (hR _ _ _).1 h with ⟨rfl, ⟨rfl, h1⟩ | ⟨rfl, h1, h2⟩⟩
      · have hd1 : decide (dmax Pall ≤ 8) = true := by simp [h1]
        rw [hd1]
        simp +contextual -implicitDefEqProofs (maxSteps := 10000000) only [go_sem, ↓reduceIte]
      · have hd1 : decide (dmax Pall ≤ 8) = false := by simp [h1]
        rw [hd1]
        simp +contextual -implicitDefEqProofs (maxSteps := 10000000) only [go_sem, h2]
mutual
theorem p_few : ∀ (t : Fm), t.fit → t.good → t.sz ≤ 1048576 → FwA t
  | .mk k n op bv vs bt ts lo hi o bs ss br rs, hf, hg, hn => p_few_step k n op bv vs bt ts lo hi o bs ss br rs hf hn hg (by
      rw [Fm.good] at hg
      simp only [Fm.fit] at hf
      rw [Fm.sz] at hn
      cases rs with
      | nil => rw [Fm.parts]; exact p_fewL ss hf.2.2.2.2.2.1 hg.2.1 (by omega)
      | cons x rs => rw [Fm.parts]; exact p_fewR x hf.2.2.2.2.2.2.1 hg.2.2.1 (by rw [Rx.szL] at hn; omega))
theorem p_fewL : ∀ (l : List Fm), Fm.fitL l → Fm.goodL l → Fm.szL l ≤ 1048576 → ∀ t ∈ l, FwA t
  | [], _, _, _, t, ht => by simp at ht
  | u :: l, hf, hg, hn, t, ht => by
    rw [Fm.szL] at hn
    rcases List.mem_cons.1 ht with e | ht
    · rw [e]; exact p_few u hf.1 hg.1 (by omega)
    · exact p_fewL l hf.2 hg.2 (by omega) t ht
theorem p_fewR : ∀ (x : Rx), x.fit → x.good → x.sz ≤ 1048576 → ∀ t ∈ x.tests, FwA t
  | .mk k bt ts bs ss, hf, hg, hn, t, ht => by
    rw [Rx.good] at hg
    simp only [Rx.fit] at hf
    rw [Rx.sz] at hn
    rw [Rx.tests] at ht
    rcases List.mem_append.1 ht with ht | ht
    · exact p_fewL ts hf.2.2.1 hg.2.1 (by omega) t ht
    · exact p_fewRL ss hf.2.2.2 hg.2.2 (by omega) t ht
theorem p_fewRL : ∀ (l : List Rx), Rx.fitL l → Rx.goodL l → Rx.szL l ≤ 1048576 → ∀ t ∈ Rx.testsL l, FwA t
  | [], _, _, _, t, ht => by simp [Rx.testsL] at ht
  | x :: l, hf, hg, hn, t, ht => by
    rw [Rx.szL] at hn
    rw [Rx.testsL] at ht
    rcases List.mem_append.1 ht with ht | ht
    · exact p_fewR x hf.1 hg.1 (by omega) t ht
    · exact p_fewRL l hf.2 hg.2 (by omega) t ht
end
/-! ### the whole -/
noncomputable def lookW (t : Fm) : Wk := if (t.wk 1 ⟨0, 0, 0⟩).e = 0 then mustW (decide (t.fr.2 ≤ 8)) 30 (t.wk 1 ⟨0, 0, 0⟩) else t.wk 1 ⟨0, 0, 0⟩
theorem look_ok {t : Fm} (h : (t.wk 1 ⟨0, 0, 0⟩).e = 0) : t.good ∧ t.sz ≤ 1048576 := by
  obtain ⟨_, h1, h2, h3⟩ := Fm.wk_ok t 1 ⟨0, 0, 0⟩ h (by simp)
  refine ⟨h1, ?_⟩
  have := Fm.sz_nn t h1
  simp only [Nat.zero_add] at h2
  omega
theorem ldK_wk2 (s : Wk) : ldK 1 false 2 (some (wkC s)) = some (.int .i64 s.e) := rfl
theorem ldK_wk2' (s : Wk) : ldCells ((wkC s).drop 2) 1 false = some (.int .i64 s.e) := rfl
theorem retOf_wk {l : Level} {s u : Nat} {w : Wk} (hl : lcells l s u = some (wkC w)) : retOf [l] 0 [.ptr ⟨0, s, u⟩ 0] = some (.elp (wkC w)) := by
  have hc : cellsAt [l] ⟨0, s, u⟩ = some (wkC w) := (cellsAt_topc (h := []) (m := 0) rfl).trans hl
  show shut [l] 0 shutDepth (.ptr ⟨0, s, u⟩ 0) = _
  rw [shut6]
  show (if (0 : Nat) = 0 then (match cellsAt [l] ⟨0, s, u⟩ with | some vs => (match mapO (shut [l] 0 5) (vs.drop 0) with | some cs => if refFreeL cs = true then some (AV.elp cs) else none | none => none) | none => none) else some (AV.ptr ⟨0, s, u⟩ 0)) = _
  rw [hc]
  rfl
theorem p_look (t : Fm) (hf : t.fit) : CL X (fun _ => []) 30 [.agg t.cells] [] = some (.elp (wkC (lookW t)), []) := by
  have hform := p_formula t hf
  have hfx := (Fm.fxp _ hf).flat
  have hfree := flatFm' hf
  have hfreeP : (t.wk 1 ⟨0, 0, 0⟩).e = 0 → FrA t := fun h => p_free t hf (look_ok h).1 (look_ok h).2
  unfold lookW
  obtain ⟨s, hs⟩ : ∃ s, t.wk 1 ⟨0, 0, 0⟩ = s := ⟨_, rfl⟩
  rw [hs] at hfreeP ⊢
  have hfc : ∀ r hp, isWk (cellsAt hp r) = true → CL X (fun _ => []) 49 [.ptr r 0, .agg t.cells, .int .i64 1] hp = some (.tup [], bput hp r (wkC (t.wk 1 (wkOf (cellsAt hp r))))) := fun r hp h => hform r 1 (by decide) (by decide) hp h
  have hmust := fun r ok c hp h => p_must r ok c hp h
  obtain ⟨D, hD⟩ : ∃ D, t.fr.2 = D := ⟨_, rfl⟩
  unfold FrA at hfreeP
  rw [hD] at hfreeP ⊢
  have hwk : ∀ s0, t.wk 1 s0 = t.wk 1 s0 := fun _ => rfl
  generalize t.cells = C at hfc hfx hfree hfreeP ⊢
  obtain ⟨hCl, hCp, hCm⟩ := hfx
  have hCl' : C.length = 10 := hCl
  have hCt : C.take 10 = C := List.take_of_length_le (by omega)
  have ldC : ldK 10 true 0 (some C) = some (.agg C) := by
    rw [ldK_some, ldCells_agg, List.drop_zero, if_pos (by omega), hCt, hCm]
  have iw0 : isWk (some [.int .i64 0, .int .i64 0, .int .i64 0]) = true := rfl
  have ow0 : wkOf (some [.int .i64 0, .int .i64 0, .int .i64 0]) = ⟨0, 0, 0⟩ := rfl
  have hput : ∀ l D E, lputc (lputc l 7 0 D) 7 0 E = lputc l 7 0 E := fun l D E => by unfold lputc; rw [lput_lput]
  have hret : ∀ w, retOf [lputc (lputc [] 1 0 C) 7 0 (wkC w)] 0 [.ptr ⟨0, 7, 0⟩ 0] = some (.elp (wkC w)) := fun w => retOf_wk (by rw [lcells_put]; simp)
  have hcw : ∀ d fr v (D E : List AV), cwK [lputc (lputc [] 1 0 C) 7 0 D] d fr (some (v, [lputc (lputc [] 1 0 C) 7 0 E])) = some (fput fr d v, [lputc (lputc [] 1 0 C) 7 0 E]) := by
    intro d fr v D E
    have := cwK_put (l := lputc (lputc [] 1 0 C) 7 0 D) (h := []) (s := 7) (u := 0) (cs0 := D) (by rw [lcells_put]; simp) d fr v E
    rwa [hput] at this
  rw [CL_eq (fn := x30) rfl]
  by_cases he : s.e = 0
  · obtain ⟨u, hu, hcall⟩ := hfreeP he
    obtain ⟨uc, uv, w, hext, hown, _⟩ := hu.parts
    rw [if_pos he]
    simp +contextual -implicitDefEqProofs (maxSteps := 10000000) only [x30, go_sem, ↓reduceIte, Nat.reduceEqDiff, Nat.reduceAdd, hCm, hCl', hCp, ldAt_topc, cellsAt_topc, bput_topc, ldC, hfc, iw0, ow0, hs, o_callw, hput, hcw, ldK_wk2, he, hcall, hfree, o_extm, hext, fget_drop1K, hmust, isWk_C, wkOf_C, hret]
  · rw [if_neg he]
    simp +contextual -implicitDefEqProofs (maxSteps := 10000000) only [x30, go_sem, ↓reduceIte, Nat.reduceEqDiff, Nat.reduceAdd, hCm, hCl', hCp, ldAt_topc, cellsAt_topc, bput_topc, ldC, hfc, iw0, ow0, hs, o_callw, hput, hcw, ldK_wk2, he, hret]
theorem p_check (t : Fm) (hf : t.fit) : CL X (fun _ => []) 8 [.agg t.cells] [] = some (.int .i64 (lookW t).e, []) := by
  have hl := p_look t hf
  obtain ⟨hCl, hCp, hCm⟩ := (Fm.fxp _ hf).flat
  have hfree := flatFm' hf
  generalize t.cells = C at hl hCl hCp hCm hfree ⊢
  have hCl' : C.length = 10 := hCl
  have hCt : C.take 10 = C := List.take_of_length_le (by omega)
  have ldC : ldK 10 true 0 (some C) = some (.agg C) := by
    rw [ldK_some, ldCells_agg, List.drop_zero, if_pos (by omega), hCt, hCm]
  have hle : (2 ≤ (wkC (lookW t)).length) = True := by simp [wkC]
  rw [CL_eq (fn := x8) rfl]
  simp +contextual -implicitDefEqProofs (maxSteps := 10000000) only [x8, go_sem, ↓reduceIte, Nat.reduceEqDiff, hCm, hCl', hCp, ldAt_topc, ldC, hfree, hl, hle, ldK_wk2']
theorem lput2 (L : Level) (q : Nat) (D E : List AV) : lputc (lputc L q 0 D) q 0 E = lputc L q 0 E := by unfold lputc; rw [lput_lput]
theorem cwS (q : Nat) (hq : q ≠ 1) (C : List AV) (d : Nat) (fr : List AV) (v : AV) (D E : List AV) :
    cwK [lputc (lputc [] 1 0 C) q 0 D] d fr (some (v, [lputc (lputc [] 1 0 C) q 0 E])) = some (fput fr d v, [lputc (lputc [] 1 0 C) q 0 E]) := by
  have := cwK_put (l := lputc (lputc [] 1 0 C) q 0 D) (h := []) (s := q) (u := 0) (cs0 := D) (by rw [lcells_put]; simp) d fr v E
  rwa [lput2] at this
theorem look_rel (t : Fm) : RW (t.rw 1 ⟨0, 0, 0⟩) (t.wk 1 ⟨0, 0, 0⟩) := (Fm.rw_rel t 1 ⟨0, 0, 0⟩ ⟨0, 0, 0⟩ ⟨rfl, fun _ => ⟨rfl, rfl⟩⟩ (by simp)).1
theorem look_of {t : Fm} (h : (lookW t).e = 0) : (t.wk 1 ⟨0, 0, 0⟩).e = 0 ∧ lookW t = t.wk 1 ⟨0, 0, 0⟩ := by
  unfold lookW at h ⊢
  by_cases he : (t.wk 1 ⟨0, 0, 0⟩).e = 0
  · rw [if_pos he] at h ⊢
    refine ⟨he, ?_⟩
    unfold mustW at h ⊢
    split
    · rename_i hc
      rw [if_pos hc] at h
      simp at h
    · rfl
  · rw [if_neg he] at h
    exact absurd h he
theorem p_rcheck (t : Fm) (hf : t.fit) : CL X (fun _ => []) 9 [.agg t.cells] [] = some (.int .i64 (lookW t).e, []) := by
  have hfx := (Fm.fxp _ hf).flat
  have hfree := flatFm' hf
  have hfc : ∀ r hp, isWr (cellsAt hp r) = true → CL X (fun _ => []) 31 [.ptr r 0, .agg t.cells, .int .i64 1] hp = some (.tup [], bput hp r (wrC (t.rw 1 (wrOf (cellsAt hp r))))) := fun r hp h => p_rformula t hf r 1 (by decide) (by decide) hp h
  have hfew : (t.wk 1 ⟨0, 0, 0⟩).e = 0 → FwA t := fun h => p_few t hf (look_ok h).1 (look_ok h).2
  have hrel := look_rel t
  unfold lookW
  obtain ⟨s, hs⟩ : ∃ s, t.wk 1 ⟨0, 0, 0⟩ = s := ⟨_, rfl⟩
  obtain ⟨a, ha⟩ : ∃ a, t.rw 1 ⟨0, 0, 0⟩ = a := ⟨_, rfl⟩
  obtain ⟨D, hD⟩ : ∃ D, decide (t.fr.2 ≤ 8) = D := ⟨_, rfl⟩
  unfold FwA at hfew
  rw [hs] at hfew hrel ⊢
  rw [ha] at hrel
  rw [hD] at hfew ⊢
  have hae := hrel.1
  generalize t.cells = C at hfc hfx hfree hfew ⊢
  obtain ⟨hCl, hCp, hCm⟩ := hfx
  have hCl' : C.length = 10 := hCl
  have hCt : C.take 10 = C := List.take_of_length_le (by omega)
  have ldC : ldK 10 true 0 (some C) = some (.agg C) := by
    rw [ldK_some, ldCells_agg, List.drop_zero, if_pos (by omega), hCt, hCm]
  have iw0 : isWr (some [.int .i64 0, .int .i64 0, .int .i64 0]) = true := rfl
  have ow0 : wrOf (some [.int .i64 0, .int .i64 0, .int .i64 0]) = ⟨0, 0, 0⟩ := rfl
  have hput := fun D E => lput2 (lputc [] 1 0 C) 6 D E
  have hcw := cwS 6 (by decide) C
  rw [CL_eq (fn := x9) rfl]
  by_cases he : s.e = 0
  · have hc := hfew he
    have ha0 : a.e = 0 := hae.trans he
    rw [if_pos he]
    cases D
    · have hr : (mustW false 30 s).e = 30 := by simp [mustW, he]
      rw [hr]
      simp +contextual -implicitDefEqProofs (maxSteps := 10000000) only [x9, go_sem, ↓reduceIte, Nat.reduceEqDiff, Nat.reduceAdd, Int.reduceBNe, hCm, hCl', hCp, ldAt_topc, cellsAt_topc, bput_topc, ldC, hfc, iw0, ow0, ha, o_callw, hput, hcw, ldK_wr, ha0, hc, hfree]
    · have hr : (mustW true 30 s).e = 0 := by simp [mustW, he]
      rw [hr]
      simp +contextual -implicitDefEqProofs (maxSteps := 10000000) only [x9, go_sem, ↓reduceIte, Nat.reduceEqDiff, Nat.reduceAdd, Int.reduceBNe, hCm, hCl', hCp, ldAt_topc, cellsAt_topc, bput_topc, ldC, hfc, iw0, ow0, ha, o_callw, hput, hcw, ldK_wr, ha0, hc, hfree]
  · rw [if_neg he]
    have ha1 : ¬ a.e = 0 := by rw [hae]; exact he
    rw [← hae]
    simp +contextual -implicitDefEqProofs (maxSteps := 10000000) only [x9, go_sem, ↓reduceIte, Nat.reduceEqDiff, Nat.reduceAdd, hCm, hCl', hCp, ldAt_topc, cellsAt_topc, bput_topc, ldC, hfc, iw0, ow0, ha, o_callw, hput, hcw, ldK_wr, ha1]
end Go.Proofs.YtnmaahfipddkmaaGreat.Sx.T
