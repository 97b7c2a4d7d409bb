/- Layer 8, part 17: printed pieces are cut into tokens. -/
import Derived.Test.YtjbgceogkgpjpaaGreatDoorU
import Derived.Test.YtjbgceogkgpjpaaGreatDoorV
import Derived.Test.YtjbgceogkgpjpaaGreatDoorA
import Derived.Test.YtjbgceogkgpjpaaGreatDoorEvA
import Derived.Test.YtjbgceogkgpjpaaGreatDoorTold
set_option linter.unusedVariables false
set_option linter.unusedSimpArgs false
namespace Go.Proofs.YtjbgceogkgpjpaaGreatDoor.Sx.T
open Go Go.Proofs.YtjbgceogkgpjpaaGreatDoor.Sx
set_option maxRecDepth 100000
set_option maxHeartbeats 1000000
def OneT (t : List UInt8) (k : Nat) (v : Val) : Prop := kl t = (k, t.length) ∧ valOf k t = (v, true) ∧ k ≠ 0 ∧ ∃ c r, t = c :: r ∧ blk c = false
def SepT (t rest : List UInt8) : Prop := HB rest ∨ t = [40] ∨ t = [41]
theorem kl_open (r : List UInt8) : kl (40 :: r) = (1, 1) := by rw [kl, if_pos rfl]
theorem kl_shut (r : List UInt8) : kl (41 :: r) = (2, 1) := by rw [kl, if_neg (by decide), if_pos rfl]
theorem kl_sep {t rest : List UInt8} {k : Nat} {v : Val} (h : OneT t k v) (hs : SepT t rest) : kl (t ++ rest) = (k, t.length) := by
  rcases hs with hs | rfl | rfl
  · rw [kl_app t rest hs (by rw [h.1]; exact h.2.2.1), h.1]
  · have h1 := h.1
    rw [kl_open] at h1
    rw [← h1]
    exact kl_open rest
  · have h1 := h.1
    rw [kl_shut] at h1
    rw [← h1]
    exact kl_shut rest
theorem toks_cut {t rest : List UInt8} {k : Nat} {v : Val} (h : OneT t k v) (hs : SepT t rest) (n a : Nat) : toks (n + 1) a (t ++ rest) = ((toks n (a + t.length) rest).1, ⟨k, a, t, v⟩ :: (toks n (a + t.length) rest).2) := by
  have hkl := kl_sep h hs
  obtain ⟨h1, h2, h3, c, r, rfl, hb⟩ := h
  have htk : ((c :: r) ++ rest).take (c :: r).length = c :: r := List.take_left
  have hok : okOf ((c :: r) ++ rest) = true := by
    unfold okOf; rw [hkl]; simp only; rw [htk, h2]
  have htf : tkOf a ((c :: r) ++ rest) = ⟨k, a, c :: r, v⟩ := by
    unfold tkOf; rw [hkl]; simp only; rw [htk, h2]
  have hd : ((c :: r) ++ rest).drop (c :: r).length = rest := List.drop_left
  rw [List.cons_append] at hkl hok htf hd ⊢
  rw [toks_ok _ _ _ _ hb hok, hkl, htf]
  simp only
  rw [hd]
theorem one_open : OneT [40] 1 zV := ⟨rfl, rfl, by decide, _, _, rfl, by decide⟩
theorem one_shut : OneT [41] 2 zV := ⟨rfl, rfl, by decide, _, _, rfl, by decide⟩
theorem runL_full (p : UInt8 → Bool) (rest : List UInt8) (hr : runL p rest = 0) : ∀ r : List UInt8, (∀ c ∈ r, p c = true) → runL p (r ++ rest) = r.length
  | [], _ => hr
  | c :: r, h => by
    rw [List.cons_append, runL, if_pos (h c (by simp)), runL_full p rest hr r (fun x hx => h x (by simp [hx]))]
    simp
theorem runL_full0 (p : UInt8 → Bool) (r : List UInt8) (h : ∀ c ∈ r, p c = true) : runL p r = r.length := by
  have := runL_full p [] rfl r h
  rwa [List.append_nil] at this
theorem one_word {w : List UInt8} (hne : w ≠ []) (hl : w.length ≤ 16) (h0 : smB (w.getD 0 0) = true) (hw : ∀ c ∈ w, wcB c = true) : OneT w 3 zV := by
  cases w with
  | nil => exact absurd rfl hne
  | cons c r =>
    have hc : smB c = true := h0
    have hc2 := hc
    unfold smB at hc2
    simp only [decide_eq_true_eq] at hc2
    have n1 : c ≠ 40 := fun e => by rw [e] at hc2; simp at hc2
    have n2 : c ≠ 41 := fun e => by rw [e] at hc2; simp at hc2
    refine ⟨?_, ?_, by decide, c, r, rfl, ?_⟩
    · rw [kl, if_neg n1, if_neg n2, if_pos hc, runL_full0 wcB r (fun x hx => hw x (by simp [hx]))]
      simp [Nat.add_comm]
    · unfold valOf
      rw [if_pos rfl, decide_eq_true hl]
    · unfold blk
      rw [decide_eq_false]
      rintro (e | e) <;> (rw [e] at hc2; simp at hc2)
theorem one_name {w : List UInt8} (h : nameP w) : OneT w 3 zV := by
  obtain ⟨h1, h2, _, h4⟩ := h
  have key : ∀ j, j < w.length → smB (w.getD j 0) = true ∨ (j ≠ 0 ∧ wcB (w.getD j 0) = true) := fun j hj => by
    have := h4 j (Nat.zero_le _) hj
    unfold chA chB at this
    unfold smB wcB
    simp only [decide_eq_true_eq]
    rcases this with h | ⟨h, g⟩
    · exact .inl h
    · exact .inr ⟨h, by omega⟩
  refine one_word h1 h2 ?_ ?_
  · rcases key 0 (List.length_pos_iff.2 h1) with h | h
    · exact h
    · exact absurd rfl h.1
  · intro c hc
    obtain ⟨j, hj, rfl⟩ := List.mem_iff_getElem.1 hc
    have e : w.getD j 0 = w[j] := by simp [List.getD, hj]
    have := key j hj
    rw [e] at this
    rcases this with h | h
    · unfold smB at h
      unfold wcB
      simp only [decide_eq_true_eq] at h ⊢
      exact .inl h
    · exact h.2
theorem dig_dgB {c : UInt8} (h : isDig c) : dgB c = true := (dgB_iff c).2 h
theorem decN_dig (n : Int) (h : 0 ≤ n) : ∀ c ∈ decI n, dgB c = true := by
  intro c hc
  unfold decI at hc
  rw [if_neg (by omega)] at hc
  exact dig_dgB (decF_dig 20 _ c hc)
theorem dec_shape (n : Int) : ∃ c r, decI n = c :: r ∧ (∀ x ∈ r, dgB x = true) ∧ (dgB c = true ∨ (c = 45 ∧ dgB (r.getD 0 0) = true)) ∧ c ≠ 40 ∧ c ≠ 41 ∧ smB c = false ∧ blk c = false := by
  unfold decI
  by_cases h : n < 0
  · rw [if_pos h]
    have hd := decF_dig 20 n.natAbs
    have hne := decF_ne 20 n.natAbs (by omega)
    refine ⟨45, _, rfl, fun x hx => dig_dgB (hd x hx), .inr ⟨rfl, ?_⟩, by decide, by decide, by decide, by decide⟩
    cases hl : decF 20 n.natAbs with
    | nil => exact absurd hl hne
    | cons c r => exact dig_dgB (hd c (by rw [hl]; simp))
  · rw [if_neg h]
    have hd := decF_dig 20 n.toNat
    have hne := decF_ne 20 n.toNat (by omega)
    cases hl : decF 20 n.toNat with
    | nil => exact absurd hl hne
    | cons c r =>
      rw [hl] at hd
      have hc := hd c (by simp)
      have hc2 := hc
      unfold isDig at hc2
      refine ⟨c, r, rfl, fun x hx => dig_dgB (hd x (by simp [hx])), .inl (dig_dgB hc), ?_, ?_, ?_, ?_⟩
      · rintro rfl; simp at hc2
      · rintro rfl; simp at hc2
      · unfold smB; rw [decide_eq_false]; omega
      · unfold blk; rw [decide_eq_false]; rintro (rfl | rfl) <;> simp at hc2
theorem numL_dec (c : UInt8) (r : List UInt8) (h : ∀ x ∈ r, dgB x = true) : numL (c :: r) = (c :: r).length := by
  have hr : runL dgB ((c :: r).drop 1) = r.length := runL_full0 dgB r h
  unfold numL
  rw [hr, if_neg]
  · simp [Nat.add_comm]
  · unfold fracL
    rw [getD_ge (c :: r) (1 + r.length) (by simp; omega)]
    simp
theorem numL_frac (c : UInt8) (r : List UInt8) (e : UInt8) (D : List UInt8) (h : ∀ x ∈ r, dgB x = true) (h2 : ∀ x ∈ e :: D, dgB x = true) : numL (c :: (r ++ 47 :: e :: D)) = (c :: (r ++ 47 :: e :: D)).length := by
  have hr : runL dgB ((c :: (r ++ 47 :: e :: D)).drop 1) = r.length := runL_full dgB _ (by rw [runL, if_neg (by decide)]) r h
  have e1 : (c :: (r ++ 47 :: e :: D)).getD (1 + r.length) 0 = 47 := by
    rw [show 1 + r.length = r.length + 1 by omega]
    simp only [List.getD, List.getElem?_cons_succ]
    rw [List.getElem?_append_right (Nat.le_refl _), Nat.sub_self]
    rfl
  have e2 : (c :: (r ++ 47 :: e :: D)).getD (1 + r.length + 1) 0 = e := by
    rw [show 1 + r.length + 1 = (r.length + 1) + 1 by omega]
    simp only [List.getD, List.getElem?_cons_succ]
    rw [List.getElem?_append_right (by omega), show r.length + 1 - r.length = 1 by omega]
    rfl
  have e3 : (c :: (r ++ 47 :: e :: D)).drop (1 + r.length + 1) = e :: D := by
    rw [show 1 + r.length + 1 = (r.length + 1) + 1 by omega, List.drop_succ_cons, ← List.drop_drop, List.drop_left]
    rfl
  unfold numL
  rw [hr, if_pos]
  · rw [e3, runL_full0 dgB (e :: D) h2]
    simp only [List.length_cons, List.length_append]
    omega
  · unfold fracL
    rw [e1, e2, h2 e (by simp)]
    rfl
theorem kl_num {c : UInt8} {r : List UInt8} (n1 : c ≠ 40) (n2 : c ≠ 41) (n3 : smB c = false) (h : dgB c = true ∨ (c = 45 ∧ dgB (r.getD 0 0) = true)) : kl (c :: r) = (6, numL (c :: r)) := by
  rw [kl, if_neg n1, if_neg n2, if_neg (by simp [n3]), if_pos h]
theorem hx_in : ∀ a : Fin 16, hx a.val ≠ 34 ∧ hx a.val ≠ 92 := by decide
theorem quoL_qc (c : UInt8) (w : List UInt8) (m : Nat) (h : quoL w = some m) : quoL (qc c ++ w) = some ((qc c).length + m) := by
  unfold qc
  by_cases p : c.toNat = 34 ∨ c.toNat = 92
  · rw [if_pos p]
    rw [List.cons_append, quoL_cons, if_neg (by decide), if_pos rfl]
    show Option.map _ (quoL w) = _
    rw [h]
    simp [Nat.add_comm]
  · rw [if_neg p]
    by_cases g : 32 ≤ c.toNat ∧ c.toNat ≤ 126
    · rw [if_pos g, List.cons_append, quoL_cons, if_neg (fun e => p (.inl (by rw [e]; rfl))), if_neg (fun e => p (.inr (by rw [e]; rfl))), List.nil_append, h]
      simp [Nat.add_comm]
    · rw [if_neg g]
      have b1 := c.toNat_lt
      obtain ⟨a1, a2⟩ := hx_in ⟨c.toNat / 16, by omega⟩
      obtain ⟨a3, a4⟩ := hx_in ⟨c.toNat % 16, by omega⟩
      simp only at a1 a2 a3 a4
      have e : ([92, 120, hx (c.toNat / 16), hx (c.toNat % 16)] ++ w : List UInt8) = 92 :: 120 :: hx (c.toNat / 16) :: hx (c.toNat % 16) :: w := rfl
      have e2 : ((120 :: hx (c.toNat / 16) :: hx (c.toNat % 16) :: w : List UInt8).drop 1) = hx (c.toNat / 16) :: hx (c.toNat % 16) :: w := rfl
      rw [e, quoL_cons, if_neg (by decide), if_pos rfl, e2, quoL_cons, if_neg a1, if_neg a2, quoL_cons, if_neg a3, if_neg a4, h]
      simp
      omega
theorem quoL_flat : ∀ (t w : List UInt8) (m : Nat), quoL w = some m → quoL (t.flatMap qc ++ w) = some ((t.flatMap qc).length + m)
  | [], w, m, h => by simpa using h
  | c :: t, w, m, h => by
    rw [List.flatMap_cons, List.append_assoc, quoL_qc c _ _ (quoL_flat t w m h), List.length_append, Nat.add_assoc]
theorem one_val {v : Val} (hv : v.ok ∧ chkV v = 0) : OneT (prt v) 6 v := by
  have hval : valOf 6 (prt v) = (v, true) := by
    unfold valOf
    rw [if_neg (by decide), if_neg (by decide), if_pos rfl, par_prt v hv.1 hv.2]
    rfl
  have hp : prt v = if v.k = 1 then decI v.n else if v.k = 2 then decI v.n ++ 47 :: decI v.d else qt v.s := by
    unfold prt
    rw [if_neg (by simp [hv.2])]
  rcases chk_kind v hv.2 with k1 | k2 | k3
  · rw [if_pos k1] at hp
    obtain ⟨c, r, e, h1, h2, h3, h4, h5, h6⟩ := dec_shape v.n
    rw [e] at hp
    refine ⟨?_, hval, by decide, c, r, hp, h6⟩
    rw [hp, kl_num h3 h4 h5 h2, numL_dec c r h1]
  · rw [if_neg (by omega), if_pos k2] at hp
    have hd : 0 < v.d := by
      have h := hv.2
      unfold chkV chk at h
      rw [if_neg (by omega), if_pos k2] at h
      split at h
      · rename_i g
        have := g.2
        exact may_pos this
      · simp at h
    obtain ⟨c, r, e, h1, h2, h3, h4, h5, h6⟩ := dec_shape v.n
    obtain ⟨c2, r2, e2, g1, g2, _⟩ := dec_shape v.d
    have hdd := decN_dig v.d (by omega)
    rw [e2] at hdd
    rw [e, e2, List.cons_append] at hp
    refine ⟨?_, hval, by decide, c, r ++ 47 :: c2 :: r2, hp, h6⟩
    have h2' : dgB c = true ∨ (c = 45 ∧ dgB ((r ++ 47 :: c2 :: r2).getD 0 0) = true) := by
      rcases h2 with h | ⟨h, g⟩
      · exact .inl h
      · refine .inr ⟨h, ?_⟩
        cases r with
        | nil => simp [dgB] at g
        | cons x r => exact g
    rw [hp, kl_num h3 h4 h5 h2', numL_frac c r c2 r2 h1 hdd]
  · rw [if_neg (by omega), if_neg (by omega)] at hp
    unfold qt at hp
    refine ⟨?_, hval, by decide, _, _, hp, by decide⟩
    have hq := quoL_flat v.s [34] 1 (by rw [quoL_cons, if_pos rfl])
    rw [hp, kl, if_neg (by decide), if_neg (by decide), if_neg (by decide), if_neg (by simp [dgB]), if_neg (by simp), if_neg (by decide), if_neg (by decide), if_pos rfl, hq]
    simp
theorem one_time (t : Int) (h0 : 0 ≤ t) (h1 : t ≤ 1099511627776) : OneT (64 :: decI t) 7 ⟨1, t, 0, []⟩ := by
  have hI : I64 t := by unfold I64; omega
  have hok : okN (decI t) = true := by
    unfold okN okPar
    rw [parB_dec t hI, parI_dec t hI]
    simp
    omega
  refine ⟨?_, ?_, by decide, _, _, rfl, by decide⟩
  · rw [kl, if_neg (by decide), if_neg (by decide), if_neg (by decide), if_neg (by simp [dgB]), if_neg (by simp), if_neg (by decide), if_neg (by decide), if_neg (by decide), if_pos rfl, runL_full0 dgB _ (decN_dig t h0)]
    simp [Nat.add_comm]
  · unfold valOf
    rw [if_neg (by decide), if_neg (by decide), if_neg (by decide), if_pos rfl]
    show (_, _) = _
    rw [show (64 :: decI t : List UInt8).drop 1 = decI t from rfl, parI_dec t hI, hok]
def Tk.p (x : Tk) : Nat × List UInt8 × Val := (x.k, x.t, x.v)
def evP (e : Et) : List (Nat × List UInt8 × Val) := (1, [40], zV) :: (3, e.n, zV) :: (e.vl.map (fun v => (6, prt v, v)) ++ [(2, [41], zV)])
def goodE (e : Et) : Prop := nameP e.n ∧ ∀ v ∈ e.vl, v.ok ∧ chkV v = 0
theorem HB_sp (r : List UInt8) : HB (32 :: r) := .inr ⟨32, r, rfl, .inl rfl⟩
theorem HB_shut (r : List UInt8) : HB (41 :: r) := .inr ⟨41, r, rfl, .inr (.inr rfl)⟩
theorem toks_vals (rest : List UInt8) (P : List (Nat × List UInt8 × Val)) (N : Nat) (hrest : ∀ n a, N ≤ n → (toks n a rest).1 = none ∧ (toks n a rest).2.map Tk.p = P) (hHB : HB rest) : ∀ (vl : List Val) (n a : Nat), (∀ v ∈ vl, v.ok ∧ chkV v = 0) → N + (prVs vl).length ≤ n →
    (toks n a (prVs vl ++ rest)).1 = none ∧ (toks n a (prVs vl ++ rest)).2.map Tk.p = vl.map (fun v => (6, prt v, v)) ++ P
  | [], n, a, _, hn => hrest n a (by simpa [prVs] using hn)
  | v :: vl, n, a, h, hn => by
    have e : prVs (v :: vl) ++ rest = 32 :: (prt v ++ (prVs vl ++ rest)) := by simp [prVs]
    have hln : (prVs (v :: vl)).length = 1 + (prt v).length + (prVs vl).length := by simp [prVs]; omega
    have hone := one_val (h v (by simp))
    have hpos : 1 ≤ (prt v).length := by obtain ⟨_, _, _, c, r, hc, _⟩ := hone; rw [hc]; simp
    have hB : HB (prVs vl ++ rest) := by
      cases vl with
      | nil => exact hHB
      | cons w vl => simp only [prVs, List.flatMap_cons, List.cons_append]; exact HB_sp _
    obtain ⟨m, rfl⟩ : ∃ m, n = m + 2 := ⟨n - 2, by omega⟩
    obtain ⟨i1, i2⟩ := toks_vals rest P N hrest hHB vl m (a + 1 + (prt v).length) (fun w hw => h w (by simp [hw])) (by omega)
    rw [e, toks_blk _ _ _ _ (by decide), toks_cut hone (.inl hB)]
    refine ⟨i1, ?_⟩
    rw [List.map_cons, i2]
    rfl
theorem toks_evs : ∀ (l : List Et) (n a : Nat), (∀ e ∈ l, goodE e) → (prEs l).length ≤ n → (toks n a (prEs l)).1 = none ∧ (toks n a (prEs l)).2.map Tk.p = l.flatMap evP
  | [], n, a, _, _ => by
    show (toks n a []).1 = none ∧ _
    rw [show prEs [] = [] from rfl, toks_nil]
    exact ⟨rfl, rfl⟩
  | e :: l, n, a, h, hn => by
    obtain ⟨h1, h2⟩ := h e (by simp)
    have ee : prEs (e :: l) = 32 :: ([40] ++ (e.n ++ (prVs e.vl ++ (41 :: prEs l)))) := by simp [prEs, prE]
    have hln : (prEs (e :: l)).length = 3 + e.n.length + (prVs e.vl).length + (prEs l).length := by rw [ee]; simp; omega
    have hn1 : 1 ≤ e.n.length := List.length_pos_iff.2 h1.1
    have ih := fun n a hn => toks_evs l n a (fun x hx => h x (by simp [hx])) hn
    have hrest : ∀ n a, (prEs l).length + 1 ≤ n → (toks n a (41 :: prEs l)).1 = none ∧ (toks n a (41 :: prEs l)).2.map Tk.p = (2, [41], zV) :: l.flatMap evP := fun n a hn => by
      obtain ⟨m, rfl⟩ : ∃ m, n = m + 1 := ⟨n - 1, by omega⟩
      obtain ⟨i1, i2⟩ := ih m (a + 1) (by omega)
      have := toks_cut one_shut (rest := prEs l) (.inr (.inr rfl)) m a
      rw [show ([41] ++ prEs l : List UInt8) = 41 :: prEs l from rfl, show ([41] : List UInt8).length = 1 from rfl] at this
      rw [this]
      refine ⟨i1, ?_⟩
      rw [List.map_cons, i2]
      rfl
    obtain ⟨m, rfl⟩ : ∃ m, n = m + 3 := ⟨n - 3, by omega⟩
    have hB : HB (prVs e.vl ++ (41 :: prEs l)) := by
      cases e.vl with
      | nil => exact HB_shut _
      | cons w vl => simp only [prVs, List.flatMap_cons, List.cons_append]; exact HB_sp _
    obtain ⟨i1, i2⟩ := toks_vals (41 :: prEs l) _ _ hrest (HB_shut _) e.vl m (a + 1 + ([40] : List UInt8).length + e.n.length) h2 (by omega)
    rw [ee, toks_blk _ _ _ _ (by decide), toks_cut one_open (.inr (.inl rfl)), toks_cut (one_name h1) (.inl hB)]
    refine ⟨i1, ?_⟩
    rw [List.map_cons, List.map_cons, i2, List.flatMap_cons]
    simp [evP, Tk.p]
theorem toks_pt (t : Int) (h0 : 0 ≤ t) (h1 : t ≤ 1099511627776) (l : List Et) (h : ∀ e ∈ l, goodE e) (n a : Nat) (hn : (64 :: (decI t ++ prEs l)).length ≤ n) : (toks n a (64 :: (decI t ++ prEs l))).1 = none ∧ (toks n a (64 :: (decI t ++ prEs l))).2.map Tk.p = (7, 64 :: decI t, ⟨1, t, 0, []⟩) :: l.flatMap evP := by
  have hB : HB (prEs l) := by
    cases l with
    | nil => exact .inl rfl
    | cons e l => simp only [prEs, List.flatMap_cons, prE, List.cons_append]; exact HB_sp _
  obtain ⟨m, rfl⟩ : ∃ m, n = m + 1 := ⟨n - 1, by simp at hn; omega⟩
  rw [← List.cons_append, toks_cut (one_time t h0 h1) (.inl hB)]
  obtain ⟨i1, i2⟩ := toks_evs l m (a + (64 :: decI t).length) h (by simp at hn; omega)
  refine ⟨i1, ?_⟩
  rw [List.map_cons, i2]
  rfl
end Go.Proofs.YtjbgceogkgpjpaaGreatDoor.Sx.T
namespace Go.Proofs.YtjbgceogkgpjpaaGreatDoor.Sx.T
open Go Go.Proofs.YtjbgceogkgpjpaaGreatDoor.Sx
set_option maxRecDepth 100000
set_option maxHeartbeats 1000000
abbrev PT := Nat × List UInt8 × Val
abbrev EvM := List UInt8 × List Val
def argsM : List PT → List Val × List PT
  | [] => ([], [])
  | t :: l => if t.1 = 6 then (t.2.2 :: (argsM l).1, (argsM l).2) else ([], t :: l)
open Classical in noncomputable def evsM : Nat → List PT → Option (List EvM)
  | 0, _ => none
  | n + 1, l => match l with
    | [] => some []
    | [_] => none
    | t0 :: t1 :: r => if r ≠ [] ∧ t0.1 = 1 ∧ t1.1 = 3 ∧ nameP t1.2.1 then (match (argsM r).2 with
        | [] => none
        | c :: r3 => if c.1 = 2 then (match evsM n r3 with | some evs => some ((t1.2.1, (argsM r).1) :: evs) | none => none) else none) else none
noncomputable def ptM (l : List PT) : Int × Int × List EvM := match l with
  | [] => (70, 0, [])
  | t :: r => if t.1 = 7 then (match evsM (r.length + 1) r with
    | some evs => if 64 < evs.length then (3, 0, []) else (0, t.2.2.n, evs)
    | none => (70, 0, [])) else (70, 0, [])
theorem argsM_len : ∀ l : List PT, (argsM l).1.length + (argsM l).2.length = l.length
  | [] => rfl
  | t :: l => by
    have ih := argsM_len l
    rw [argsM]
    split
    · simp only [List.length_cons]; omega
    · simp
theorem argsM_vals (rest : List PT) (x : List UInt8 × Val) : ∀ vl : List Val, argsM (vl.map (fun v => (6, prt v, v)) ++ (2, x) :: rest) = (vl, (2, x) :: rest)
  | [] => by rw [List.map_nil, List.nil_append, argsM, if_neg (by simp)]
  | v :: vl => by
    rw [List.map_cons, List.cons_append, argsM, if_pos rfl, argsM_vals rest x vl]
theorem evsM_evP : ∀ (l : List Et) (n : Nat), (∀ e ∈ l, goodE e) → l.length < n → evsM n (l.flatMap evP) = some (l.map fun e => (e.n, e.vl))
  | [], n, _, hn => by
    obtain ⟨m, rfl⟩ : ∃ m, n = m + 1 := ⟨n - 1, by omega⟩
    rfl
  | e :: l, n, h, hn => by
    obtain ⟨m, rfl⟩ : ∃ m, n = m + 1 := ⟨n - 1, by omega⟩
    obtain ⟨h1, h2⟩ := h e (by simp)
    have ih := evsM_evP l m (fun x hx => h x (by simp [hx])) (by simpa using hn)
    have ee : (e :: l).flatMap evP = (1, [40], zV) :: (3, e.n, zV) :: (e.vl.map (fun v => (6, prt v, v)) ++ (2, [41], zV) :: l.flatMap evP) := by simp [evP]
    rw [ee, evsM]
    simp only
    rw [if_pos ⟨by simp, rfl, rfl, h1⟩, argsM_vals]
    simp only
    rw [if_pos trivial, ih]
    rfl
theorem argsM_mem : ∀ (l : List PT), (∀ v ∈ (argsM l).1, ∃ t ∈ l, t.1 = 6 ∧ t.2.2 = v) ∧ (∀ t ∈ (argsM l).2, t ∈ l)
  | [] => by simp [argsM]
  | t :: l => by
    obtain ⟨i1, i2⟩ := argsM_mem l
    rw [argsM]
    split
    · rename_i h6
      refine ⟨fun v hv => ?_, fun x hx => List.mem_cons_of_mem _ (i2 x hx)⟩
      rcases List.mem_cons.1 hv with rfl | hv
      · exact ⟨t, by simp, h6, rfl⟩
      · obtain ⟨x, hx, g⟩ := i1 v hv
        exact ⟨x, List.mem_cons_of_mem _ hx, g⟩
    · exact ⟨by simp, fun x hx => hx⟩
theorem evsM_ok (G : Val → Prop) : ∀ (n : Nat) (P : List PT) (evs : List EvM), evsM n P = some evs → (∀ t ∈ P, t.1 = 6 → G t.2.2) → (∀ e ∈ evs, nameP e.1 ∧ ∀ v ∈ e.2, G v) ∧ (evs.map fun e => e.2.length + 1).sum ≤ P.length := by
  intro n
  induction n with
  | zero => intro P evs h; simp [evsM] at h
  | succ n ih =>
    intro P evs h hG
    match P, h, hG with
    | [], h, _ =>
      simp only [evsM, Option.some.injEq] at h
      subst h
      simp
    | [_], h, _ => simp [evsM] at h
    | t0 :: t1 :: r, h, hG =>
      rw [evsM] at h
      split at h
      · rename_i hc
        obtain ⟨a1, a2⟩ := argsM_mem r
        have al := argsM_len r
        split at h
        · cases h
        · rename_i c r3 hr
          rw [hr] at a2 al
          split at h
          · split at h
            · rename_i evs2 he
              simp only [Option.some.injEq] at h
              subst h
              obtain ⟨i1, i2⟩ := ih r3 evs2 he (fun t ht h6 => hG t (List.mem_cons_of_mem _ (List.mem_cons_of_mem _ (a2 t (List.mem_cons_of_mem _ ht)))) h6)
              refine ⟨fun e he => ?_, ?_⟩
              · rcases List.mem_cons.1 he with rfl | he
                · refine ⟨hc.2.2.2, fun v hv => ?_⟩
                  obtain ⟨t, ht, h6, rfl⟩ := a1 v hv
                  exact hG t (List.mem_cons_of_mem _ (List.mem_cons_of_mem _ ht)) h6
                · exact i1 e he
              · simp only [List.map_cons, List.sum_cons, List.length_cons] at al ⊢
                omega
            · cases h
          · cases h
      · cases h
noncomputable def ppM (s : List UInt8) : Int × Int × List EvM := if 4096 < s.length then (2, 0, []) else if (toks s.length 0 s).1 = none then ptM ((toks s.length 0 s).2.map Tk.p) else (50, 0, [])
theorem flat_lenP : ∀ l : List Et, l.length ≤ (l.flatMap evP).length
  | [] => by simp
  | e :: l => by
    have := flat_lenP l
    simp only [List.flatMap_cons, List.length_append, evP, List.length_cons] at this ⊢
    omega
theorem ppM_print {t : Int} {l : List Et} (h0 : 0 ≤ t) (h1 : t ≤ 1099511627776) (h : ∀ e ∈ l, goodE e) (hn : l.length ≤ 64) (hl : (64 :: (decI t ++ prEs l)).length ≤ 4096) : ppM (64 :: (decI t ++ prEs l)) = (0, t, l.map fun e => (e.n, e.vl)) := by
  obtain ⟨a1, a2⟩ := toks_pt t h0 h1 l h _ 0 (Nat.le_refl _)
  have hf := flat_lenP l
  rw [ppM, if_neg (by omega), if_pos a1, a2, ptM]
  simp only
  rw [if_pos trivial, evsM_evP l _ h (by omega)]
  simp only
  rw [if_neg (by simp; omega)]
theorem own_val {x : Tk} (h : Own1 x) : (x.k = 6 → x.v.ok ∧ chkV x.v = 0) ∧ (x.k = 7 → 0 ≤ x.v.n ∧ x.v.n ≤ 1099511627776) := by
  obtain ⟨h1, h2, h3, _⟩ := h
  have h4 : (valOf x.k x.t).2 = true := by
    unfold okOf at h2
    rw [h1] at h2
    simpa using h2
  constructor
  · intro h6
    rw [h6] at h3 h4
    unfold valOf at h3 h4
    rw [if_neg (by decide), if_neg (by decide), if_pos rfl] at h3 h4
    simp only [decide_eq_true_eq] at h3 h4
    rw [← h3]
    exact ⟨par_ok _, (prt_par _ h4).1⟩
  · intro h7
    rw [h7] at h3 h4
    unfold valOf at h3 h4
    rw [if_neg (by decide), if_neg (by decide), if_neg (by decide), if_pos rfl] at h3 h4
    simp only at h3 h4
    rw [← h3]
    unfold okN at h4
    simp only [Bool.and_eq_true, decide_eq_true_eq] at h4
    exact ⟨h4.2, h4.1.1.2⟩
theorem ppM_ok {s : List UInt8} {t : Int} {evs : List EvM} (h : ppM s = (0, t, evs)) : 0 ≤ t ∧ t ≤ 1099511627776 ∧ evs.length ≤ 64 ∧ (∀ e ∈ evs, nameP e.1 ∧ ∀ v ∈ e.2, v.ok ∧ chkV v = 0) ∧ (evs.map fun e => e.2.length + 1).sum ≤ 4096 := by
  unfold ppM at h
  by_cases hs : 4096 < s.length
  · rw [if_pos hs] at h; simp at h
  rw [if_neg hs] at h
  by_cases hk : (toks s.length 0 s).1 = none
  case neg => rw [if_neg hk] at h; simp at h
  rw [if_pos hk] at h
  have hown := toks_own s.length 0 s _ _ rfl
  have hlen := toks_len s.length 0 s _ _ rfl
  generalize (toks s.length 0 s).2 = l at h hown hlen
  cases l with
  | nil => simp [ptM] at h
  | cons x l =>
    rw [List.map_cons, ptM] at h
    by_cases h7 : x.p.1 = 7
    case neg => rw [if_neg h7] at h; simp at h
    rw [if_pos h7] at h
    cases he : evsM ((l.map Tk.p).length + 1) (l.map Tk.p) with
    | none => rw [he] at h; simp at h
    | some evs2 =>
      rw [he] at h
      simp only at h
      by_cases h64 : 64 < evs2.length
      · rw [if_pos h64] at h; simp at h
      rw [if_neg h64] at h
      simp only [Prod.mk.injEq, true_and] at h
      obtain ⟨rfl, rfl⟩ := h
      obtain ⟨i1, i2⟩ := evsM_ok (fun v => v.ok ∧ chkV v = 0) _ _ _ he (fun y hy h6 => by
        obtain ⟨z, hz, rfl⟩ := List.mem_map.1 hy
        exact (own_val (hown z (by simp [hz]))).1 h6)
      obtain ⟨g1, g2⟩ := (own_val (hown x (by simp))).2 h7
      simp only [List.length_cons, List.length_map] at hlen i2
      exact ⟨g1, g2, by omega, i1, by omega⟩
theorem ppM_bad (s : List UInt8) : (ppM s).1 = 0 ∨ ((ppM s).1 = 2 ∨ (ppM s).1 = 3 ∨ (ppM s).1 = 50 ∨ (ppM s).1 = 70) ∧ (ppM s).2 = (0, []) := by
  unfold ppM ptM
  split
  · exact .inr ⟨.inl rfl, rfl⟩
  split
  · split
    · exact .inr ⟨.inr (.inr (.inr rfl)), rfl⟩
    · split
      · split
        · split
          · exact .inr ⟨.inr (.inl rfl), rfl⟩
          · exact .inl rfl
        · exact .inr ⟨.inr (.inr (.inr rfl)), rfl⟩
      · exact .inr ⟨.inr (.inr (.inr rfl)), rfl⟩
  · exact .inr ⟨.inr (.inr (.inl rfl)), rfl⟩
end Go.Proofs.YtjbgceogkgpjpaaGreatDoor.Sx.T
namespace Go.Proofs.YtjbgceogkgpjpaaGreatDoor.Sx.T
open Go Go.Proofs.YtjbgceogkgpjpaaGreatDoor.Sx
set_option maxRecDepth 100000
set_option maxHeartbeats 1000000
def lineD (d : Dc) : List UInt8 := d.n ++ ksT d.ks
theorem dcT_line (d : Dc) : dcT d = lineD d ++ [10] := by simp [dcT, lineD]
def goodD (d : Dc) : Prop := nameP d.n ∧ d.ks.length ≤ 6 ∧ ∀ k ∈ d.ks, 1 ≤ k ∧ k ≤ 3
theorem one_kind {k : Int} (h : 1 ≤ k ∧ k ≤ 3) : OneT (kindS k) 3 zV := by
  obtain rfl | rfl | rfl : k = 1 ∨ k = 2 ∨ k = 3 := by omega
  all_goals exact ⟨by decide, by decide, by decide, _, _, rfl, by decide⟩
theorem ksT_cons (k : Int) (ks : List Int) : ksT (k :: ks) = 32 :: (kindS k ++ ksT ks) := by simp [ksT]
theorem ksT_HB (ks : List Int) : HB (ksT ks) := by
  cases ks with
  | nil => exact .inl rfl
  | cons k ks => rw [ksT_cons]; exact HB_sp _
theorem toks_ks : ∀ (ks : List Int) (n a : Nat), (∀ k ∈ ks, 1 ≤ k ∧ k ≤ 3) → (ksT ks).length ≤ n → (toks n a (ksT ks)).1 = none ∧ (toks n a (ksT ks)).2.map Tk.p = ks.map fun k => (3, kindS k, zV)
  | [], n, a, _, _ => by
    rw [show ksT [] = [] from rfl, toks_nil]
    exact ⟨rfl, rfl⟩
  | k :: ks, n, a, h, hn => by
    have hone := one_kind (h k (by simp))
    have hpos : 1 ≤ (kindS k).length := by obtain ⟨_, _, _, c, r, hc, _⟩ := hone; rw [hc]; simp
    rw [ksT_cons] at hn ⊢
    simp only [List.length_cons, List.length_append] at hn
    obtain ⟨m, rfl⟩ : ∃ m, n = m + 2 := ⟨n - 2, by omega⟩
    obtain ⟨i1, i2⟩ := toks_ks ks m (a + 1 + (kindS k).length) (fun x hx => h x (by simp [hx])) (by omega)
    rw [toks_blk _ _ _ _ (by decide), toks_cut hone (.inl (ksT_HB ks))]
    refine ⟨i1, ?_⟩
    rw [List.map_cons, i2]
    rfl
theorem toks_line {d : Dc} (h : goodD d) (n a : Nat) (hn : (lineD d).length ≤ n) : (toks n a (lineD d)).1 = none ∧ (toks n a (lineD d)).2.map Tk.p = (3, d.n, zV) :: d.ks.map fun k => (3, kindS k, zV) := by
  have hpos : 1 ≤ d.n.length := List.length_pos_iff.2 h.1.1
  unfold lineD at hn ⊢
  rw [List.length_append] at hn
  obtain ⟨m, rfl⟩ : ∃ m, n = m + 1 := ⟨n - 1, by omega⟩
  obtain ⟨i1, i2⟩ := toks_ks d.ks m (a + d.n.length) h.2.2 (by omega)
  rw [toks_cut (one_name h.1) (.inl (ksT_HB d.ks))]
  refine ⟨i1, ?_⟩
  rw [List.map_cons, i2]
  rfl
theorem name_no10 {w : List UInt8} (h : nameP w) : ∀ c ∈ w, c ≠ 10 := by
  intro c hc
  obtain ⟨i, hi, rfl⟩ := List.mem_iff_getElem.1 hc
  have hr := h.2.2.2 i (Nat.zero_le _) hi
  have e : w.getD i 0 = w[i] := by simp [List.getD, hi]
  rw [e] at hr
  generalize w[i] = c at hr
  unfold chA chB at hr
  rintro rfl
  simp at hr
theorem ksT_no10 : ∀ ks : List Int, ∀ c ∈ ksT ks, c ≠ 10
  | [], c, hc => by simp [ksT] at hc
  | k :: ks, c, hc => by
    rw [ksT_cons] at hc
    rcases List.mem_cons.1 hc with rfl | hc
    · decide
    rcases List.mem_append.1 hc with hc | hc
    · unfold kindS at hc
      split at hc
      · simp at hc; rcases hc with rfl | rfl | rfl <;> decide
      · split at hc
        · simp at hc; rcases hc with rfl | rfl | rfl <;> decide
        · split at hc
          · simp at hc; rcases hc with rfl | rfl | rfl <;> decide
          · simp at hc
    · exact ksT_no10 ks c hc
theorem cutL_line (r : List UInt8) : ∀ w : List UInt8, (∀ c ∈ w, c ≠ 10) → cutL 10 (w ++ 10 :: r) = w :: cutL 10 r
  | [], _ => by rw [List.nil_append, cutL, if_pos (by decide)]
  | c :: w, h => by
    rw [List.cons_append, cutL, if_neg (by simpa using h c (by simp)), cutL_line r w (fun x hx => h x (by simp [hx]))]
theorem cut_sig : ∀ sig : List Dc, (∀ d ∈ sig, goodD d) → cutL 10 (sigT sig) = sig.map lineD ++ [[]]
  | [], _ => rfl
  | d :: sig, h => by
    have e : sigT (d :: sig) = lineD d ++ 10 :: sigT sig := by simp [sigT, dcT_line]
    have hd := h d (by simp)
    rw [e, cutL_line _ _ (fun c hc => ?_), cut_sig sig (fun x hx => h x (by simp [hx]))]
    · rfl
    · unfold lineD at hc
      rcases List.mem_append.1 hc with hc | hc
      · exact name_no10 hd.1 c hc
      · exact ksT_no10 _ c hc
theorem idxG_map {α β : Type} (f : α → β) (p : β → Bool) : ∀ (l : List α) (i : Nat), idxG p (l.map f) i = idxG (fun x => p (f x)) l i
  | [], i => rfl
  | x :: l, i => by rw [List.map_cons, idxG, idxG, idxG_map f p l]
def owL (z : Nat) : List (List AV) → AV
  | [] => .nilsl
  | e :: l => .lst .own z (e :: l)
def rdD (d : Dc) : Dc := ⟨d.n, d.ks, uf (owL 1 (nums d.ks))⟩
theorem findD_rd (l : List Dc) (n : List UInt8) : findD (l.map rdD) n = findD l n := by
  unfold findD
  rw [idxG_map]
  rfl
theorem csig_uniq {sig : List Dc} (h : csig sig = 0) (i : Nat) (hi : i < sig.length) : findD (sig.take i) (sig.getD i default).n < 0 := by
  have h2 := h
  unfold csig at h2
  rw [if_neg (by have := (csig_zero h).1; omega)] at h2
  have h3 := firstE_zero _ _ h2 i (Nat.zero_le _) (by omega)
  unfold sigE at h3
  split at h3
  · simp at h3
  · rename_i h1
    have h4 : ¬ findD sig (sig.getD i default).n < (i : Int) := fun hh => h1 (.inr hh)
    have ha := idxG_ahead (fun d : Dc => d.n == (sig.getD i default).n) sig i hi (by simp)
    unfold findD at h4 ⊢
    rw [decide_eq_false h4] at ha
    have := of_decide_eq_false ha.symm
    omega
theorem csig_good {sig : List Dc} (h : csig sig = 0) : ∀ d ∈ sig, goodD d := by
  intro d hd
  obtain ⟨i, hi, rfl⟩ := List.mem_iff_getElem.1 hd
  have := (csig_zero h).2 i hi
  simpa [List.getD, hi, goodD] using this
theorem lo_cons (z : Nat) (l : List (List AV)) (e : List AV) : owL z (l ++ [e]) = .lst .own z (l ++ [e]) := by
  cases l <;> rfl
theorem lo_ls (z : Nat) (l : List (List AV)) : Ls z (uf (owL z l)) l := by
  cases l with
  | nil => exact .inl ⟨rfl, rfl⟩
  | cons e l => exact .inr ⟨.none, .inl rfl, rfl⟩
theorem lo_drop (y : Nat) (W : List (List AV)) (fr : List AV) (t z : Nat) (h : t ≠ z) : fget (drop1K (owL y W) fr t) z = fget fr z := by
  cases W with
  | nil => rfl
  | cons e W =>
    show fget (drop1K (.lst .own y (e :: W)) fr t) z = _
    rw [drop1K_own, fget_fput, if_neg (fun e => h e.symm)]
theorem lo_cells (z : Nat) (W : List (List AV)) : cellsOf (owL z W) = [owL z W] ∧ plain1 (owL z W) = true := by
  cases W <;> exact ⟨rfl, rfl⟩
theorem lo_app (z b : Nat) (W : List (List AV)) (cs : List AV) (hz : cs.length = z) (hp : cs.all plain1 = true) (hr : refFreeL cs = true) (h : (W.length + 1) * b ≤ 140737488355328) : appK false z b (owL z W) (some [cs]) = some (owL z (W ++ [cs])) := by
  rw [lo_cons]
  cases W with
  | nil =>
    show appK false z b .nilsl _ = _
    rw [appK_nilsl, if_neg (by simp), if_pos (by simp [hp, hr]), if_pos (by simpa [room] using h)]
    rfl
  | cons e W =>
    show appK false z b (.lst .own z (e :: W)) _ = _
    rw [appK_lst, if_neg (by simp), if_pos (by simp [hp, hr]), if_pos ⟨rfl, rfl, by simpa [room] using h⟩]
    rfl
theorem ls_shut8 {z : Nat} {x : AV} {es : List (List AV)} (h : Ls z x es) (hp : Heap) (n k : Nat) : shut hp n (k + 1) x = some x := by
  rcases h with ⟨rfl, _⟩ | ⟨o, rfl | rfl, rfl⟩ <;> rfl
end Go.Proofs.YtjbgceogkgpjpaaGreatDoor.Sx.T
namespace Go.Proofs.YtjbgceogkgpjpaaGreatDoor.Sx.T
open Go Go.Proofs.YtjbgceogkgpjpaaGreatDoor.Sx
set_option maxRecDepth 100000
set_option maxHeartbeats 8000000
def erV (e : Int) : AV := if e = 0 then .nilif else .ifc 96 (.agg [.int .i64 e])
theorem erV_ne {e : Int} (h : e ≠ 0) : erV e = .ifc 96 (.agg [.int .i64 e]) := if_neg h
theorem number_er (e : Int) : primX 2096 [erV e] = some (.int .i64 e) := by
  unfold erV
  by_cases h : e = 0
  · rw [if_pos h, h]; rfl
  · rw [if_neg h]; rfl
theorem listA_ls (l : List Tk) : Ls 7 (listA l) (l.map Tk.cells) := by
  unfold listA
  split
  · rename_i h; subst h; exact .inl ⟨rfl, rfl⟩
  · exact .inr ⟨.none, .inl rfl, rfl⟩
theorem p_tokens (s : List UInt8) : CL X GV 32 [.str s] [] = some (if 4096 < s.length then .tup [.nilsl, erV 2] else if (toks s.length 0 s).1 = none then .tup [listA (toks s.length 0 s).2, .nilif] else .tup [.nilsl, erV 50], []) := by
  have e2 : erV 2 = .ifc 96 (.agg [.int .i64 2]) := rfl
  have e50 : erV 50 = .ifc 96 (.agg [.int .i64 50]) := rfl
  rw [CL_eq (fn := x32) rfl]
  by_cases h : 4096 < s.length
  · have k0 : ((4096 : Int) < (s.length : Int)) = True := by simp; omega
    rw [if_pos h, e2]
    simp +contextual -implicitDefEqProofs (maxSteps := 10000000) only [x32, go_sem, ↓reduceIte, reduceCtorEq, Nat.reduceEqDiff, Nat.reduceAdd, k0, o_mkif, drop1K_ifc]
    rfl
  rw [if_neg h]
  have k0 : ((4096 : Int) < (s.length : Int)) = False := by simp; omega
  obtain ⟨o, l, hk⟩ : ∃ o l, toks s.length 0 s = (o, l) := ⟨_, _, rfl⟩
  rw [hk]
  cases o with
  | none =>
    have ht := p_toksOk s (by omega) l hk
    rw [if_pos rfl]
    obtain ⟨p1, u1, n1, d1, f1⟩ := (listA_ls l).one
    have sx := fun hp => (show shut hp 0 6 (listA l) = some (listA l) from ls_shut8 (listA_ls l) hp 0 5)
    have i1 : isU (listA l) = false := by
      rcases listA_ls l with ⟨h, _⟩ | ⟨o, rfl | rfl, h⟩ <;> rw [h] <;> rfl
    generalize listA l = x at *
    simp +contextual -implicitDefEqProofs (maxSteps := 10000000) only [x32, go_sem, ↓reduceIte, reduceCtorEq, Nat.reduceEqDiff, Nat.reduceAdd, Int.reduceBNe, k0, ht, u1, d1, sx, i1]
    rfl
  | some p =>
    have ht := p_toksBad s (by omega) p l hk
    rw [if_neg (by simp), e50]
    simp +contextual -implicitDefEqProofs (maxSteps := 10000000) only [x32, go_sem, ↓reduceIte, reduceCtorEq, Nat.reduceEqDiff, Nat.reduceAdd, Int.reduceBNe, k0, ht, o_mkif, drop1K_ifc]
    rfl
def lownK (d : Nat) (fr : List AV) (l : Level) (h : Heap) (s v off : Nat) (o : Option (List AV)) : Option (List AV × Heap) := match o with
  | none => none
  | some cs => match cs.drop off with
    | .lst .own z es :: _ => some (fput fr d (.lst .own z es), lputc l s v (splice cs off [.lst .none z es]) :: h)
    | u :: _ => some (fput fr d (uf u), l :: h)
    | [] => none
def lownA (d : Nat) (fr : List AV) (l : Level) (h : Heap) (v : AV) : Option (List AV × Heap) := match v with
  | .ptr r off => match cellsAt (l :: h) r with
    | some cs => match cs.drop off with
      | .lst .own z es :: _ => some (fput fr d (.lst .own z es), hput (l :: h) r (.cells (splice cs off [.lst .none z es])))
      | u :: _ => some (fput fr d (uf u), l :: h)
      | [] => none
    | none => none
  | _ => none
theorem o_lown {C : CallT} {gl : Nat → List AV} (d : Nat) (a : XArg) (fr : List AV) (l : Level) (h : Heap) : evO1 C gl (some d) (.lown a) fr (l :: h) = lownA d fr l h (earg fr a) := by
  simp only [evO1, evOp, lownA]
  cases earg fr a with
  | ptr r off =>
    simp only
    cases cellsAt (l :: h) r with
    | none => rfl
    | some cs =>
      simp only
      cases cs.drop off with
      | nil => rfl
      | cons u q =>
        cases u with
        | lst o z es => cases o <;> rfl
        | _ => rfl
  | _ => rfl
theorem lownA_top (d : Nat) (fr : List AV) (l : Level) (h : Heap) (n s v off : Nat) (hn : n = h.length) : lownA d fr l h (.ptr ⟨n, s, v⟩ off) = lownK d fr l h s v off (lcells l s v) := by
  subst hn
  simp only [lownA, cellsAt_top, lownK]
  cases hc : lcells l s v with
  | none => rfl
  | some cs =>
    simp only
    cases hd : cs.drop off with
    | nil => rfl
    | cons u r =>
      have hp : ∀ x, hput (l :: h) ⟨h.length, s, v⟩ (.cells x) = lputc l s v x :: h := fun x => bput_top l h s v x
      cases u with
      | lst o z es =>
        cases o <;> simp only [hp]
      | _ => rfl
theorem lown_lo (L : Level) (s v z : Nat) (a : AV) (W : List (List AV)) (hl : lcells L s v = some [a, owL z W]) : ∃ l2, (∀ d fr, lownK d fr L [] s v 1 (some [a, owL z W]) = some (fput fr d (owL z W), [l2])) ∧ lcells l2 s v = some [a, uf (owL z W)] ∧ ∀ s' v', s' ≠ s → lcells l2 s' v' = lcells L s' v' := by
  cases W with
  | nil => exact ⟨L, fun _ _ => rfl, hl, fun _ _ _ => rfl⟩
  | cons e W => exact ⟨lputc L s v [a, uf (owL z (e :: W))], fun _ _ => rfl, by simp [lcells_put], fun s' v' h => by rw [lcells_put, if_neg h]⟩
def TL (x : AV) (l : List Tk) : Prop := (x = .nilsl ∧ l = []) ∨ x = .lst .none 7 (l.map Tk.cells)
theorem TL.ls {x : AV} {l : List Tk} (h : TL x l) : Ls 7 x (l.map Tk.cells) := by
  rcases h with ⟨rfl, rfl⟩ | rfl
  · exact .inl ⟨rfl, rfl⟩
  · exact .inr ⟨.none, .inl rfl, rfl⟩
theorem TL.cut {x : AV} {l : List Tk} (h : TL x l) (k : Nat) (hk : k ≤ l.length) (h0 : l ≠ []) : ∃ x', sslK 7 x (some (.int .i64 (k : Nat))) none none = some x' ∧ TL x' (l.drop k) := by
  rcases h with ⟨rfl, rfl⟩ | rfl
  · exact absurd rfl h0
  · refine ⟨_, (sslK_lo 7 7 _ .i64 k).trans (if_pos ⟨rfl, by simpa using hk⟩), .inr ?_⟩
    rw [List.map_drop]
theorem TL_listA (l : List Tk) : TL (listA l) l := by
  unfold listA
  split
  · rename_i h; exact .inl ⟨rfl, h⟩
  · exact .inr rfl
def argsT : List Tk → List Val × List Tk
  | [] => ([], [])
  | t :: l => if t.k = 6 then (t.v :: (argsT l).1, (argsT l).2) else ([], t :: l)
theorem argsM_map : ∀ l : List Tk, argsM (l.map Tk.p) = ((argsT l).1, (argsT l).2.map Tk.p)
  | [] => rfl
  | t :: l => by
    rw [List.map_cons, argsM, argsT, argsM_map l]
    show (if t.k = 6 then _ else _) = _
    by_cases h : t.k = 6
    · rw [if_pos h, if_pos h]; rfl
    · rw [if_neg h, if_neg h]; rfl
theorem argsT_len : ∀ l : List Tk, (argsT l).1.length + (argsT l).2.length = l.length
  | [] => rfl
  | t :: l => by
    have ih := argsT_len l
    rw [argsT]
    split
    · simp only [List.length_cons]; omega
    · simp
theorem l_pArgs (v : Nat) (nm : List UInt8) (c5 : List AV) (K : Option (XExit × St) → Prop) : ∀ (l : List Tk) (x : AV) (acc : List Val) (fr : List AV) (L : Level), TL x l → acc.length + l.length ≤ 1000000 →
    fget fr 0 = x → fget fr 2 = .ptr ⟨0, 2, 0⟩ 0 → fget fr 4 = .ptr ⟨0, 4, 0⟩ 0 → fget fr 5 = .ptr ⟨0, 5, 0⟩ 0 → fget fr 6 = .ptr ⟨0, 6, v⟩ 0 →
    lcells L 2 0 = some [.int .i64 0, .nilsl] → lcells L 4 0 = some [.int .i64 70] → lcells L 5 0 = some c5 → lcells L 6 v = some [.str nm, owL 4 (vals acc)] →
    (∀ fr' L' x', TL x' (argsT l).2 → fget fr' 0 = x' → fget fr' 2 = .ptr ⟨0, 2, 0⟩ 0 → fget fr' 4 = .ptr ⟨0, 4, 0⟩ 0 → fget fr' 5 = .ptr ⟨0, 5, 0⟩ 0 → fget fr' 6 = .ptr ⟨0, 6, v⟩ 0 →
      lcells L' 2 0 = some [.int .i64 0, .nilsl] → lcells L' 4 0 = some [.int .i64 70] → lcells L' 5 0 = some c5 → lcells L' 6 v = some [.str nm, owL 4 (vals (acc ++ (argsT l).1))] → K (some (.exit 2, ⟨fr', [L']⟩))) →
    K (LC X GV (.loop x33_l0) ⟨fr, [L]⟩) := by
  intro l
  induction l with
  | nil =>
    intro x acc fr L hx hb g0 g2 g4 g5 g6 c2 c4 hc5 c6 hk
    obtain ⟨p1, u1, n1, d1, f1⟩ := hx.ls.one
    rw [LC_loop]
    simp +contextual -implicitDefEqProofs (maxSteps := 10000000) only [x33_l0_run, go_sem, ↓reduceIte, reduceCtorEq, Nat.reduceEqDiff, Int.reduceLE, Int.reduceToNat, g0, n1, u1]
    refine hk _ _ x hx ?_ ?_ ?_ ?_ ?_ c2 c4 hc5 (by simpa [argsT] using c6) <;> simp only [go_sem, ↓reduceIte, reduceCtorEq, Nat.reduceEqDiff, g0, g2, g4, g5, g6]
  | cons t l ih =>
    intro x acc fr L hx hb g0 g2 g4 g5 g6 c2 c4 hc5 c6 hk
    obtain ⟨p1, u1, n1, d1, f1⟩ := hx.ls.one
    have a0 := hx.ls.at (k := 0) (by simp)
    have e0 : ((t :: l).map Tk.cells).getD 0 [] = t.cells := rfl
    rw [e0] at a0
    rw [LC_loop]
    rw [List.length_map] at n1
    obtain ⟨m, hm⟩ : ∃ m, (t :: l).length = m := ⟨_, rfl⟩
    rw [hm] at n1
    have k0 : ((0 : Int) < (m : Int)) = True := by rw [List.length_cons] at hm; simp; omega
    obtain ⟨x1, s1, h1⟩ := hx.cut 1 (by simp) (List.cons_ne_nil _ _)
    have s1 : sslK 7 x (some (.int .i64 1)) none none = some x1 := s1
    rw [List.drop_succ_cons, List.drop_zero] at h1
    by_cases h6 : t.k = 6
    · have e6 : ((t.k : Int) = 6) = True := by simp; omega
      obtain ⟨l2, q1, q2, q3⟩ := lown_lo L 6 v 4 _ _ c6
      have hap := lo_app 4 40 (vals acc) t.v.cells rfl rfl rfl (by rw [vals_len]; simp only [List.length_cons] at hb; omega)
      have hnew : vals acc ++ [t.v.cells] = vals (acc ++ [t.v]) := by simp [vals]
      rw [hnew] at hap
      have hdr := lo_drop 4 (vals (acc ++ [t.v]))
      have hod := lo_drop 4 (vals acc)
      obtain ⟨hc1, hc2⟩ := lo_cells 4 (vals (acc ++ [t.v]))
      have hA : argsT (t :: l) = (t.v :: (argsT l).1, (argsT l).2) := by rw [argsT, if_pos h6]
      rw [hA] at hk
      simp only at hk
      have q32 := q3 2 0 (by decide)
      have q34 := q3 4 0 (by decide)
      have q35 := q3 5 0 (by decide)
      rw [c2] at q32
      rw [c4] at q34
      rw [hc5] at q35
      have hbl : (acc ++ [t.v]).length = acc.length + 1 := by simp
      have ih := ih x1 (acc ++ [t.v])
      have happ : acc ++ [t.v] ++ (argsT l).1 = acc ++ (t.v :: (argsT l).1) := by simp
      rw [happ] at ih
      generalize acc ++ [t.v] = acc2 at *
      obtain ⟨tk, ta, tt, ⟨vk, vn, vd, vs⟩⟩ := t
      simp only [Tk.cells, Val.cells] at a0 hap
      simp only at e6
      have hae : ∀ r o cs, apartV (.ptr r o) (.elp cs) = true := fun _ _ _ => rfl
      obtain ⟨p2, u2, n2, d2, f2⟩ := h1.ls.one
      simp +contextual -implicitDefEqProofs (maxSteps := 10000000) only [x33_l0_run, go_sem, ↓reduceIte, reduceCtorEq, Nat.reduceEqDiff, Nat.reduceAdd, Nat.reduceLeDiff, Int.reduceLE, Int.reduceToNat, Nat.reduceLT, Nat.reduceDiv, g0, g6, n1, k0, u1, a0, e6, c6, o_lown, lownA_top, q1, q2, hap, hdr, hod, hc1, hc2, s1, o_ssl, hae, d2, stAt_topc]
      refine ih _ _ h1 (by simp only [List.length_cons] at hb; omega) ?_ ?_ ?_ ?_ ?_ ?_ ?_ ?_ ?_ hk
      · simp only [go_sem, ↓reduceIte]
      · simp only [go_sem, ↓reduceIte, reduceCtorEq, Nat.reduceEqDiff, hdr, hod, g2]
      · simp only [go_sem, ↓reduceIte, reduceCtorEq, Nat.reduceEqDiff, hdr, hod, g4]
      · simp only [go_sem, ↓reduceIte, reduceCtorEq, Nat.reduceEqDiff, hdr, hod, g5]
      · simp only [go_sem, ↓reduceIte, reduceCtorEq, Nat.reduceEqDiff, hdr, hod, g6]
      · rw [lcells_put, if_neg (by decide)]; exact q32
      · rw [lcells_put, if_neg (by decide)]; exact q34
      · rw [lcells_put, if_neg (by decide)]; exact q35
      · rw [lcells_put, if_pos rfl, if_pos rfl]
    · have e6 : ((t.k : Int) = 6) = False := by simp; omega
      have hA : argsT (t :: l) = ([], t :: l) := by rw [argsT, if_neg h6]
      rw [hA] at hk
      simp only at hk
      obtain ⟨tk, ta, tt, ⟨vk, vn, vd, vs⟩⟩ := t
      simp only [Tk.cells] at a0
      simp only at e6
      simp +contextual -implicitDefEqProofs (maxSteps := 10000000) only [x33_l0_run, go_sem, ↓reduceIte, reduceCtorEq, Nat.reduceEqDiff, Nat.reduceAdd, Nat.reduceLeDiff, Int.reduceLE, Int.reduceToNat, g0, n1, k0, u1, a0, e6]
      refine hk _ _ x hx ?_ ?_ ?_ ?_ ?_ c2 c4 hc5 (by simpa using c6) <;> simp only [go_sem, ↓reduceIte, reduceCtorEq, Nat.reduceEqDiff, g0, g2, g4, g5, g6]
end Go.Proofs.YtjbgceogkgpjpaaGreatDoor.Sx.T
namespace Go.Proofs.YtjbgceogkgpjpaaGreatDoor.Sx.T
open Go Go.Proofs.YtjbgceogkgpjpaaGreatDoor.Sx
set_option maxRecDepth 100000
set_option maxHeartbeats 8000000
def mkE (e : EvM) : Et := ⟨e.1, e.2, uf (owL 4 (vals e.2))⟩
def OE (t : Int) (acc : List EvM) (o : Option (List EvM)) (r : Option (XExit × St)) : Prop := match o with
  | some evs => ∃ fr' L, r = some (.exit 0, ⟨fr', [L]⟩) ∧ fget fr' 2 = .ptr ⟨0, 2, 0⟩ 0 ∧ fget fr' 5 = .ptr ⟨0, 5, 0⟩ 0 ∧ lcells L 2 0 = some [.int .i64 0, .nilsl] ∧ lcells L 5 0 = some [.int .i64 t, owL 2 (ets ((acc ++ evs).map mkE))]
  | none => ∃ fr' L, r = some (.ret, ⟨fr', [L]⟩) ∧ fget fr' 2 = .ptr ⟨0, 2, 0⟩ 0 ∧ fget fr' 3 = erV 70 ∧ lcells L 2 0 = some [.int .i64 0, .nilsl]
open Classical in
theorem evsM_step (n : Nat) (t0 t1 t2 : Tk) (r : List Tk) : evsM (n + 1) ((t0 :: t1 :: t2 :: r).map Tk.p) = if t0.k = 1 ∧ t1.k = 3 ∧ nameP t1.t then (match (argsT (t2 :: r)).2 with
    | [] => none
    | c :: r3 => if c.k = 2 then (match evsM n (r3.map Tk.p) with | some evs => some ((t1.t, (argsT (t2 :: r)).1) :: evs) | none => none) else none) else none := by
  rw [List.map_cons, List.map_cons, evsM, argsM_map (t2 :: r)]
  by_cases c : t0.k = 1 ∧ t1.k = 3 ∧ nameP t1.t
  · rw [if_pos ⟨by simp, c⟩, if_pos c]
    cases (argsT (t2 :: r)).2 <;> rfl
  · rw [if_neg (fun h => c h.2), if_neg c]
open Classical in
theorem l_evs (t : Int) : ∀ (n : Nat) (l : List Tk) (x : AV) (acc : List EvM) (fr : List AV) (L : Level), l.length < n → TL x l → acc.length + l.length ≤ 1000000 →
    fget fr 0 = x → fget fr 2 = .ptr ⟨0, 2, 0⟩ 0 → fget fr 4 = .ptr ⟨0, 4, 0⟩ 0 → fget fr 5 = .ptr ⟨0, 5, 0⟩ 0 →
    lcells L 2 0 = some [.int .i64 0, .nilsl] → lcells L 4 0 = some [.int .i64 70] → lcells L 5 0 = some [.int .i64 t, owL 2 (ets (acc.map mkE))] →
    OE t acc (evsM n (l.map Tk.p)) (LC X GV (.loop x33_l1) ⟨fr, [L]⟩) := by
  have e70 : erV 70 = .ifc 96 (.agg [.int .i64 70]) := rfl
  intro n
  induction n with
  | zero => intro l x acc fr L h; omega
  | succ n ih =>
    intro l x acc fr L hln hx hb g0 g2 g4 g5 c2 c4 c5
    obtain ⟨p1, u1, n1, d1, f1⟩ := hx.ls.one
    rw [List.length_map] at n1
    rw [LC_loop]
    match l, hln, hx, hb, n1 with
    | [], _, hx, _, n1 =>
      simp +contextual -implicitDefEqProofs (maxSteps := 10000000) only [x33_l1_run, go_sem, ↓reduceIte, reduceCtorEq, Nat.reduceEqDiff, Int.reduceLE, Int.reduceToNat, g0, n1, u1]
      refine ⟨_, _, rfl, by simp only [go_sem, ↓reduceIte, Nat.reduceEqDiff, g2], by simp only [go_sem, ↓reduceIte, Nat.reduceEqDiff, g5], c2, by simpa using c5⟩
    | [t0], _, hx, _, n1 =>
      have k0 : ((0 : Int) < (([t0].length : Nat) : Int)) = True := by simp
      have k3 : ((([t0].length : Nat) : Int) < 3) = True := by simp
      generalize (([t0].length : Nat) : Int) = m at *
      simp +contextual -implicitDefEqProofs (maxSteps := 10000000) only [x33_l1_run, go_sem, ↓reduceIte, reduceCtorEq, Nat.reduceEqDiff, Nat.reduceAdd, Int.reduceLE, Int.reduceToNat, g0, g2, g4, n1, u1, k0, k3, c2, c4, o_mkif, drop1K_ifc, stAt_topc, ldAt_topc]
      exact ⟨_, _, rfl, by simp only [go_sem, ↓reduceIte, Nat.reduceEqDiff, g2], by simp only [go_sem, ↓reduceIte, e70], by simp [lcells_put]⟩
    | [t0, t1], _, hx, _, n1 =>
      have k0 : ((0 : Int) < (([t0, t1].length : Nat) : Int)) = True := by simp
      have k3 : ((([t0, t1].length : Nat) : Int) < 3) = True := by simp
      have hE : evsM (n + 1) ([t0, t1].map Tk.p) = none := by
        rw [List.map_cons, List.map_cons, evsM, if_neg (by simp)]
      rw [hE]
      generalize (([t0, t1].length : Nat) : Int) = m at *
      simp +contextual -implicitDefEqProofs (maxSteps := 10000000) only [x33_l1_run, go_sem, ↓reduceIte, reduceCtorEq, Nat.reduceEqDiff, Nat.reduceAdd, Int.reduceLE, Int.reduceToNat, g0, g2, g4, n1, u1, k0, k3, c2, c4, o_mkif, drop1K_ifc, stAt_topc, ldAt_topc]
      exact ⟨_, _, rfl, by simp only [go_sem, ↓reduceIte, Nat.reduceEqDiff, g2], by simp only [go_sem, ↓reduceIte, e70], by simp [lcells_put]⟩
    | t0 :: t1 :: t2 :: r, hln, hx, hb, n1 =>
      rw [evsM_step]
      have a0 := hx.ls.at (k := 0) (by simp)
      have a1 := hx.ls.at (k := 1) (by simp)
      have b0 : ((t0 :: t1 :: t2 :: r).map Tk.cells).getD 0 [] = t0.cells := rfl
      have b1 : ((t0 :: t1 :: t2 :: r).map Tk.cells).getD 1 [] = t1.cells := rfl
      rw [b0] at a0
      rw [b1] at a1
      obtain ⟨x2, s2, h2⟩ := hx.cut 2 (by simp) (List.cons_ne_nil _ _)
      have s2 : sslK 7 x (some (.int .i64 2)) none none = some x2 := s2
      have h2 : TL x2 (t2 :: r) := h2
      obtain ⟨m, hm⟩ : ∃ m, (t0 :: t1 :: t2 :: r).length = m := ⟨_, rfl⟩
      rw [hm] at n1 hln hb
      have hm2 : (t2 :: r).length + 2 = m := by rw [← hm]; rfl
      have k0 : ((0 : Int) < (m : Int)) = True := by rw [List.length_cons] at hm2; simp; omega
      have k3 : ((m : Int) < 3) = False := by rw [List.length_cons] at hm2; simp; omega
      have hnm := v_name t1.t
      clear b0 b1
      have h1e : ((t0.k : Int) = 1) = (t0.k = 1) := by rw [eq_iff_iff]; omega
      have h3e : ((t1.k : Int) = 3) = (t1.k = 3) := by rw [eq_iff_iff]; omega
      obtain ⟨w0, ta0, tt0, ⟨vk0, vn0, vd0, vs0⟩⟩ := t0
      obtain ⟨w1, ta1, nm, ⟨vk1, vn1, vd1, vs1⟩⟩ := t1
      simp only [Tk.cells] at a0 a1
      simp only at hnm h1e h3e ⊢
      by_cases q1 : w0 = 1
      case neg =>
        have e1 : ((w0 : Int) = 1) = False := by rw [h1e]; simp [q1]
        rw [if_neg (fun h => q1 h.1)]
        simp +contextual -implicitDefEqProofs (maxSteps := 10000000) only [x33_l1_run, go_sem, ↓reduceIte, reduceCtorEq, Nat.reduceEqDiff, Nat.reduceAdd, Nat.reduceLeDiff, Int.reduceLE, Int.reduceToNat, g0, g2, g4, n1, u1, k0, k3, a0, e1, c2, c4, o_mkif, drop1K_ifc, stAt_topc, ldAt_topc]
        exact ⟨_, _, rfl, by simp only [go_sem, ↓reduceIte, Nat.reduceEqDiff, g2], by simp only [go_sem, ↓reduceIte, e70], by simp [lcells_put]⟩
      have e1 : ((w0 : Int) = 1) = True := by rw [h1e]; simp [q1]
      by_cases q3 : w1 = 3
      case neg =>
        have e3 : ((w1 : Int) = 3) = False := by rw [h3e]; simp [q3]
        rw [if_neg (fun h => q3 h.2.1)]
        simp +contextual -implicitDefEqProofs (maxSteps := 10000000) only [x33_l1_run, go_sem, ↓reduceIte, reduceCtorEq, Nat.reduceEqDiff, Nat.reduceAdd, Nat.reduceLeDiff, Int.reduceLE, Int.reduceToNat, g0, g2, g4, n1, u1, k0, k3, a0, a1, e1, e3, c2, c4, o_mkif, drop1K_ifc, stAt_topc, ldAt_topc]
        exact ⟨_, _, rfl, by simp only [go_sem, ↓reduceIte, Nat.reduceEqDiff, g2], by simp only [go_sem, ↓reduceIte, e70], by simp [lcells_put]⟩
      have e3 : ((w1 : Int) = 3) = True := by rw [h3e]; simp [q3]
      by_cases qn : nameP nm
      case neg =>
        rw [decide_eq_false qn] at hnm
        rw [if_neg (fun h => qn h.2.2)]
        simp +contextual -implicitDefEqProofs (maxSteps := 10000000) only [x33_l1_run, go_sem, ↓reduceIte, reduceCtorEq, Nat.reduceEqDiff, Nat.reduceAdd, Nat.reduceLeDiff, Int.reduceLE, Int.reduceToNat, g0, g2, g4, n1, u1, k0, k3, a0, a1, e1, e3, hnm, c2, c4, o_mkif, drop1K_ifc, stAt_topc, ldAt_topc]
        exact ⟨_, _, rfl, by simp only [go_sem, ↓reduceIte, Nat.reduceEqDiff, g2], by simp only [go_sem, ↓reduceIte, e70], by simp [lcells_put]⟩
      rw [decide_eq_true qn] at hnm
      rw [if_pos ⟨q1, q3, qn⟩]
      obtain ⟨p2, u2, n2, d2, f2⟩ := h2.ls.one
      simp +contextual -implicitDefEqProofs (maxSteps := 10000000) only [x33_l1_run, go_sem, ↓reduceIte, reduceCtorEq, Nat.reduceEqDiff, Nat.reduceAdd, Nat.reduceLeDiff, Int.reduceLE, Int.reduceToNat, g0, g4, n1, u1, k0, k3, a0, a1, e1, e3, hnm, s2, o_ssl, d2, stAt_topc, ldAt_topc]
      have hal := argsT_len (t2 :: r)
      refine l_pArgs (nextVer L 6) nm [.int .i64 t, owL 2 (ets (acc.map mkE))] (fun q => OE t acc _ (seqK (blockK 1 (seqK (blockK 2 q) _)) _)) (t2 :: r) x2 [] _ _ h2 (by simp only [List.length_nil]; omega) ?_ ?_ ?_ ?_ ?_ ?_ ?_ ?_ ?_ ?_
      · simp only [go_sem, ↓reduceIte]
      · simp only [go_sem, ↓reduceIte, reduceCtorEq, Nat.reduceEqDiff, g2]
      · simp only [go_sem, ↓reduceIte, reduceCtorEq, Nat.reduceEqDiff, g4]
      · simp only [go_sem, ↓reduceIte, reduceCtorEq, Nat.reduceEqDiff, g5]
      · simp only [go_sem, ↓reduceIte, reduceCtorEq, Nat.reduceEqDiff]
      · simpa [lcells_put] using c2
      · simpa [lcells_put] using c4
      · simpa [lcells_put] using c5
      · simp only [lcells_put, if_true]; rfl
      intro fr' L' x' hx' b0 b2 b4 b5 b6 bc2 bc4 bc5 bc6
      rw [List.nil_append] at bc6
      generalize (argsT (t2 :: r)).1 = A at *
      generalize (argsT (t2 :: r)).2 = R at *
      obtain ⟨p3, u3, n3, d3, f3⟩ := hx'.ls.one
      rw [List.length_map] at n3
      cases R with
      | nil =>
        simp only
        simp +contextual -implicitDefEqProofs (maxSteps := 10000000) only [go_sem, ↓reduceIte, reduceCtorEq, Nat.reduceEqDiff, Nat.reduceAdd, Int.reduceLE, Int.reduceToNat, b0, b2, b4, n3, u3, bc2, bc4, o_mkif, drop1K_ifc, stAt_topc, ldAt_topc]
        exact ⟨_, _, rfl, by simp only [go_sem, ↓reduceIte, Nat.reduceEqDiff, b2], by simp only [go_sem, ↓reduceIte, e70], by simp [lcells_put]⟩
      | cons c r3 =>
        simp only
        have a3 := hx'.ls.at (k := 0) (by simp)
        have b3 : ((c :: r3).map Tk.cells).getD 0 [] = c.cells := rfl
        rw [b3] at a3
        obtain ⟨x3, s3, h3⟩ := hx'.cut 1 (by simp) (List.cons_ne_nil _ _)
        have s3 : sslK 7 x' (some (.int .i64 1)) none none = some x3 := s3
        have h3 : TL x3 r3 := h3
        obtain ⟨m3, hm3⟩ : ∃ m3, (c :: r3).length = m3 := ⟨_, rfl⟩
        rw [hm3] at n3 hal
        have z3 : ((m3 : Int) = 0) = False := by rw [List.length_cons] at hm3; simp; omega
        have h2e : ((c.k : Int) = 2) = (c.k = 2) := by rw [eq_iff_iff]; omega
        obtain ⟨wc, tac, ttc, ⟨vkc, vnc, vdc, vsc⟩⟩ := c
        simp only [Tk.cells] at a3
        simp only at h2e ⊢
        clear b3
        by_cases q2 : wc = 2
        case neg =>
          have e2 : ((wc : Int) = 2) = False := by rw [h2e]; simp [q2]
          rw [if_neg q2]
          simp +contextual -implicitDefEqProofs (maxSteps := 10000000) only [go_sem, ↓reduceIte, reduceCtorEq, Nat.reduceEqDiff, Nat.reduceAdd, Nat.reduceLeDiff, Int.reduceLE, Int.reduceToNat, b0, b2, b4, n3, z3, a3, e2, u3, bc2, bc4, o_mkif, drop1K_ifc, stAt_topc, ldAt_topc]
          exact ⟨_, _, rfl, by simp only [go_sem, ↓reduceIte, Nat.reduceEqDiff, b2], by simp only [go_sem, ↓reduceIte, e70], by simp [lcells_put]⟩
        have e2 : ((wc : Int) = 2) = True := by rw [h2e]; simp [q2]
        rw [if_pos q2]
        obtain ⟨l2, y1, y2, y3⟩ := lown_lo L' 5 0 2 _ _ bc5
        have y32 := y3 2 0 (by decide)
        have y34 := y3 4 0 (by decide)
        have y36 := y3 6 (nextVer L 6) (by decide)
        rw [bc2] at y32
        rw [bc4] at y34
        rw [bc6] at y36
        have hAl := lo_ls 4 (vals A)
        obtain ⟨pA, uA, nA, dA, fA⟩ := hAl.one
        have hcells : (mkE (nm, A)).cells = [.str nm, uf (owL 4 (vals A))] := rfl
        have hap := lo_app 2 40 (ets (acc.map mkE)) (mkE (nm, A)).cells rfl (by rw [hcells]; simp only [List.all_cons, List.all_nil, pA, Bool.and_true]; rfl) (by rw [hcells]; simp [refFreeL, fA, refFree]) (by rw [ets_len, List.length_map]; omega)
        have hnew : ets (acc.map mkE) ++ [(mkE (nm, A)).cells] = ets ((acc ++ [(nm, A)]).map mkE) := by simp [ets]
        rw [hnew, hcells] at hap
        have hdr := lo_drop 2 (ets ((acc ++ [(nm, A)]).map mkE))
        have hod := lo_drop 2 (ets (acc.map mkE))
        obtain ⟨hc1, hc2⟩ := lo_cells 2 (ets ((acc ++ [(nm, A)]).map mkE))
        have hlen : (acc ++ [(nm, A)]).length = acc.length + 1 := by simp
        have ih := ih r3 x3 (acc ++ [(nm, A)])
        have hOE : ∀ z, OE t (acc ++ [(nm, A)]) (evsM n (r3.map Tk.p)) z → OE t acc (match evsM n (r3.map Tk.p) with | some evs => some ((nm, A) :: evs) | none => none) z := fun z hz => by
          unfold OE at hz ⊢
          cases he : evsM n (r3.map Tk.p) with
          | none => rw [he] at hz; exact hz
          | some evs =>
            rw [he] at hz
            simp only at hz ⊢
            rw [show acc ++ (nm, A) :: evs = acc ++ [(nm, A)] ++ evs by simp]
            exact hz
        generalize ets ((acc ++ [(nm, A)]).map mkE) = E2 at *
        generalize acc ++ [(nm, A)] = acc2 at *
        obtain ⟨p4, u4, n4, d4, f4⟩ := h3.ls.one
        simp +contextual -implicitDefEqProofs (maxSteps := 10000000) only [go_sem, ↓reduceIte, reduceCtorEq, Nat.reduceEqDiff, Nat.reduceAdd, Nat.reduceLeDiff, Int.reduceLE, Int.reduceToNat, Nat.reduceLT, Nat.reduceDiv, b0, b4, b5, b6, n3, z3, a3, e2, u3, s3, o_ssl, d4, bc5, o_lown, lownA_top, y1, y2, y36, uA, fA, hap, hod, hc1, hc2, stAt_topc, ldAt_topc]
        refine hOE _ (ih _ _ (by rw [List.length_cons] at hm3; omega) h3 (by rw [List.length_cons] at hm3; omega) ?_ ?_ ?_ ?_ ?_ ?_ ?_)
        · simp only [go_sem, ↓reduceIte, reduceCtorEq, hdr, hod]
        · simp only [go_sem, ↓reduceIte, reduceCtorEq, Nat.reduceEqDiff, hdr, hod, b2]
        · simp only [go_sem, ↓reduceIte, reduceCtorEq, Nat.reduceEqDiff, hdr, hod, b4]
        · simp only [go_sem, ↓reduceIte, reduceCtorEq, Nat.reduceEqDiff, hdr, hod, b5]
        · rw [lcells_put, if_neg (by decide)]; exact y32
        · rw [lcells_put, if_neg (by decide)]; exact y34
        · rw [lcells_put, if_pos rfl, if_pos rfl]
theorem p_points (l : List Tk) (x : AV) (hx : TL x l) (hl : l.length ≤ 1000000) : CL X GV 33 [x] [] = some (.tup [.agg [.int .i64 (ptM (l.map Tk.p)).2.1, uf (owL 2 (ets ((ptM (l.map Tk.p)).2.2.map mkE)))], erV (ptM (l.map Tk.p)).1], []) := by
  have e70 : erV 70 = .ifc 96 (.agg [.int .i64 70]) := rfl
  have e3 : erV 3 = .ifc 96 (.agg [.int .i64 3]) := rfl
  have e0 : erV 0 = .nilif := rfl
  obtain ⟨p1, u1, n1, d1, f1⟩ := hx.ls.one
  rw [List.length_map] at n1
  rw [CL_eq (fn := x33) rfl]
  cases l with
  | nil =>
    show _ = some (AV.tup [.agg [.int .i64 0, .nilsl], erV 70], [])
    simp +contextual -implicitDefEqProofs (maxSteps := 10000000) only [x33, go_sem, ↓reduceIte, reduceCtorEq, Nat.reduceEqDiff, Nat.reduceAdd, Int.reduceLE, Int.reduceToNat, n1, u1, o_mkif, drop1K_ifc, stAt_topc, ldAt_topc, ecellK_topc]
    rfl
  | cons t0 r =>
    have a0 := hx.ls.at (k := 0) (by simp)
    have b0 : ((t0 :: r).map Tk.cells).getD 0 [] = t0.cells := rfl
    rw [b0] at a0
    obtain ⟨x1, s1, h1⟩ := hx.cut 1 (by simp) (List.cons_ne_nil _ _)
    have s1 : sslK 7 x (some (.int .i64 1)) none none = some x1 := s1
    have h1 : TL x1 r := h1
    obtain ⟨p2, u2, n2, d2, f2⟩ := h1.ls.one
    obtain ⟨m, hm⟩ : ∃ m, (t0 :: r).length = m := ⟨_, rfl⟩
    rw [hm] at n1
    have z1 : ((m : Int) = 0) = False := by rw [List.length_cons] at hm; simp; omega
    have hP : ptM ((t0 :: r).map Tk.p) = if t0.k = 7 then (match evsM (r.length + 1) (r.map Tk.p) with
      | some evs => if 64 < evs.length then ((3 : Int), (0 : Int), ([] : List EvM)) else (0, t0.v.n, evs)
      | none => (70, 0, [])) else (70, 0, []) := by
      rw [List.map_cons, ptM, List.length_map]
      rfl
    rw [hP]
    have h7e : ((t0.k : Int) = 7) = (t0.k = 7) := by rw [eq_iff_iff]; omega
    obtain ⟨w0, ta0, tt0, ⟨vk0, vn0, vd0, vs0⟩⟩ := t0
    simp only [Tk.cells] at a0
    simp only at h7e ⊢
    clear b0 hP
    by_cases q7 : w0 = 7
    case neg =>
      have e7 : ((w0 : Int) = 7) = False := by rw [h7e]; simp [q7]
      rw [if_neg q7]
      show _ = some (AV.tup [.agg [.int .i64 0, .nilsl], erV 70], [])
      simp +contextual -implicitDefEqProofs (maxSteps := 10000000) only [x33, go_sem, ↓reduceIte, reduceCtorEq, Nat.reduceEqDiff, Nat.reduceAdd, Nat.reduceLeDiff, Int.reduceLE, Int.reduceToNat, n1, u1, z1, a0, e7, o_mkif, drop1K_ifc, stAt_topc, ldAt_topc, ecellK_topc]
      rfl
    have e7 : ((w0 : Int) = 7) = True := by rw [h7e]; simp [q7]
    rw [if_pos q7]
    have hR := fun fr L => l_evs vn0 (r.length + 1) r x1 [] fr L (by omega) h1 (by rw [List.length_cons] at hl; simp only [List.length_nil]; omega)
    generalize evsM (r.length + 1) (r.map Tk.p) = o at *
    simp +contextual -implicitDefEqProofs (maxSteps := 10000000) only [x33, go_sem, ↓reduceIte, reduceCtorEq, Nat.reduceEqDiff, Nat.reduceAdd, Nat.reduceLeDiff, Int.reduceLE, Int.reduceToNat, n1, u1, z1, a0, e7, s1, o_ssl, d2, stAt_topc, ldAt_topc]
    refine (fun key => key _ (hR _ _ ?_ ?_ ?_ ?_ ?_ ?_ ?_)) (?_ : ∀ z, OE vn0 [] o z → finK _ (seqK (blockK 0 z) _) = _)
    · intro z hz
      unfold OE at hz
      cases o with
      | none =>
        obtain ⟨fr', L, rfl, b2, b3, c2⟩ := hz
        simp only
        show _ = some (AV.tup [.agg [.int .i64 0, .nilsl], erV 70], [])
        rw [e70] at b3 ⊢
        simp +contextual -implicitDefEqProofs (maxSteps := 10000000) only [go_sem, ↓reduceIte, Nat.reduceAdd, b2, b3, c2, ecellK_topc]
        rfl
      | some evs =>
        obtain ⟨fr', L, rfl, b2, b5, c2, c5⟩ := hz
        rw [List.nil_append] at c5
        simp only
        have hX := lo_ls 2 (ets (evs.map mkE))
        obtain ⟨pX, uX, nX, dX, fX⟩ := hX.one
        have sX := fun hp => ls_shut8 hX hp 0 4
        rw [ets_len, List.length_map] at nX
        by_cases c64 : 64 < evs.length
        · rw [if_pos c64]
          have k64 : ((64 : Int) < (evs.length : Int)) = True := by simp; omega
          show _ = some (AV.tup [.agg [.int .i64 0, .nilsl], erV 3], [])
          generalize owL 2 (ets (evs.map mkE)) = E at *
          simp +contextual -implicitDefEqProofs (maxSteps := 10000000) only [go_sem, ↓reduceIte, Nat.reduceEqDiff, Nat.reduceAdd, b2, b5, c2, c5, nX, k64, o_mkif, drop1K_ifc, stAt_topc, ldAt_topc, ecellK_topc]
          rfl
        · rw [if_neg c64]
          have k64 : ((64 : Int) < (evs.length : Int)) = False := by simp; omega
          simp only
          rw [e0]
          generalize owL 2 (ets (evs.map mkE)) = E at *
          simp +contextual -implicitDefEqProofs (maxSteps := 10000000) only [go_sem, ↓reduceIte, Nat.reduceEqDiff, Nat.reduceAdd, b2, b5, c2, c5, uX, nX, pX, sX, k64, o_mkif, stAt_topc, ldAt_topc, ecellK_topc]
          rfl
    all_goals first | (simp only [go_sem, ↓reduceIte, reduceCtorEq, Nat.reduceEqDiff]; done) | (simp only [go_sem, ↓reduceIte]; rfl) | rfl | skip
theorem p_parsePt (s : List UInt8) : CL X GV 13 [.str s] [] = some (.tup [.agg [.int .i64 (ppM s).2.1, uf (owL 2 (ets ((ppM s).2.2.map mkE)))], .int .i64 (ppM s).1], []) := by
  have ht := p_tokens s
  rw [CL_eq (fn := x13) rfl, ppM]
  have n2 := number_er 2
  have n50 := number_er 50
  rw [erV_ne (by decide)] at n2 n50
  by_cases h : 4096 < s.length
  · rw [if_pos h, erV_ne (by decide)] at ht
    rw [if_pos h]
    show _ = some (AV.tup [.agg [.int .i64 0, .nilsl], .int .i64 2], [])
    simp +contextual -implicitDefEqProofs (maxSteps := 10000000) only [x13, go_sem, ↓reduceIte, reduceCtorEq, Nat.reduceEqDiff, Nat.reduceAdd, ht, n2, o_eqnil, nilK_ifc, uf_ifc, drop1K_ifc, stAt_topc, ldAt_topc, ecellK_topc]
  rw [if_neg h] at ht ⊢
  by_cases hk : (toks s.length 0 s).1 = none
  case neg =>
    rw [if_neg hk, erV_ne (by decide)] at ht
    rw [if_neg hk]
    show _ = some (AV.tup [.agg [.int .i64 0, .nilsl], .int .i64 50], [])
    simp +contextual -implicitDefEqProofs (maxSteps := 10000000) only [x13, go_sem, ↓reduceIte, reduceCtorEq, Nat.reduceEqDiff, Nat.reduceAdd, ht, n50, o_eqnil, nilK_ifc, uf_ifc, drop1K_ifc, stAt_topc, ldAt_topc, ecellK_topc]
  rw [if_pos hk] at ht ⊢
  have hlen := toks_len s.length 0 s _ _ rfl
  have hp := p_points _ _ (TL_listA (toks s.length 0 s).2) (by omega)
  obtain ⟨p1, u1, n1, d1, f1⟩ := (TL_listA (toks s.length 0 s).2).ls.one
  generalize listA (toks s.length 0 s).2 = x at *
  generalize ptM ((toks s.length 0 s).2.map Tk.p) = q at *
  obtain ⟨e, t, evs⟩ := q
  simp only at hp ⊢
  have hX := lo_ls 2 (ets (evs.map mkE))
  obtain ⟨pX, uX, nX, dX, fX⟩ := hX.one
  have sX := fun hp => ls_shut8 hX hp 0 4
  have ne := number_er e
  generalize uf (owL 2 (ets (evs.map mkE))) = E at *
  by_cases he : e = 0
  · subst he
    rw [show erV 0 = .nilif from rfl] at hp ne
    simp +contextual -implicitDefEqProofs (maxSteps := 10000000) only [x13, go_sem, ↓reduceIte, reduceCtorEq, Nat.reduceEqDiff, Nat.reduceAdd, ht, hp, ne, u1, d1, f1, pX, uX, sX, o_eqnil, nilK_nil, uf_nilif, drop1K_nilif, stAt_topc, ldAt_topc, ecellK_topc]
  · rw [erV_ne he] at hp ne
    simp +contextual -implicitDefEqProofs (maxSteps := 10000000) only [x13, go_sem, ↓reduceIte, reduceCtorEq, Nat.reduceEqDiff, Nat.reduceAdd, ht, hp, ne, u1, d1, f1, pX, uX, sX, o_eqnil, nilK_nil, uf_nilif, drop1K_nilif, uf_ifc, drop1K_ifc, stAt_topc, ldAt_topc, ecellK_topc]
end Go.Proofs.YtjbgceogkgpjpaaGreatDoor.Sx.T
namespace Go.Proofs.YtjbgceogkgpjpaaGreatDoor.Sx.T
open Go Go.Proofs.YtjbgceogkgpjpaaGreatDoor.Sx
set_option maxRecDepth 100000
set_option maxHeartbeats 8000000
theorem kidx (k : Int) (h : 1 ≤ k ∧ k ≤ 3) : CL X GV 68 [.lst .tight 1 kindL, .str (kindS k)] [] = some (.int .i64 k, []) := by
  obtain rfl | rfl | rfl : k = 1 ∨ k = 2 ∨ k = 3 := by omega
  · exact CL_told (T := []) trivial 20 (by kernel_rfl)
  · exact CL_told (T := []) trivial 20 (by kernel_rfl)
  · exact CL_told (T := []) trivial 20 (by kernel_rfl)
theorem rdD_ok {d : Dc} (h : goodD d) : (rdD d).ok := by
  refine ⟨lo_ls 1 _, ?_, ?_⟩
  · have := h.2.1; show d.ks.length ≤ _; omega
  · have := h.1.2.1; show d.n.length ≤ _; omega
theorem lineD_len {d : Dc} (h : goodD d) : (lineD d).length ≤ 40 := by
  have h1 := ksT_len d.ks
  have h2 := h.2.1
  have h3 := h.1.2.1
  unfold lineD
  rw [List.length_append]
  omega
def lownL (L : Level) (s v : Nat) (a : AV) (z : Nat) : List (List AV) → Level
  | [] => L
  | e :: W => lputc L s v [a, uf (owL z (e :: W))]
theorem lownK_L (L : Level) (s v z : Nat) (a : AV) (W : List (List AV)) (d : Nat) (fr : List AV) : lownK d fr L [] s v 1 (some [a, owL z W]) = some (fput fr d (owL z W), [lownL L s v a z W]) := by
  cases W <;> rfl
theorem lownL_at {L : Level} {s v z : Nat} {a : AV} {W : List (List AV)} (h : lcells L s v = some [a, owL z W]) : lcells (lownL L s v a z W) s v = some [a, uf (owL z W)] := by
  cases W with
  | nil => exact h
  | cons e W => simp [lownL, lcells_put]
theorem lownL_ne {L : Level} {s v z s' v' : Nat} {a : AV} {W : List (List AV)} (h : s' ≠ s) : lcells (lownL L s v a z W) s' v' = lcells L s' v' := by
  cases W with
  | nil => rfl
  | cons e W => rw [lownL, lcells_put, if_neg h]
theorem l_dKinds (n : List UInt8) (ks : List Int) (hks : ∀ k ∈ ks, 1 ≤ k ∧ k ≤ 3) (r : List Tk) (hr : r.map Tk.p = ks.map fun k => (3, kindS k, zV)) (hl : ks.length ≤ 6) (x v : AV) (hx : TL x r) {fr : List AV} {L : Level} (K : Option (XExit × St) → Prop)
    (h0 : fget fr 0 = v) (h4 : fget fr 4 = .ptr ⟨0, 4, 0⟩ 0) (h9 : fget fr 9 = .ptr ⟨0, 9, 0⟩ 0) (h47 : fget fr 47 = x) (h48 : fget fr 48 = .int .i64 ks.length) (h49 : fget fr 49 = .int .i64 0)
    (hL4 : lcells L 4 0 = some [.str [], .nilsl]) (hL9 : lcells L 9 0 = some [.str n, .nilsl])
    (hk : ∀ fr' L', fget fr' 0 = v → fget fr' 4 = .ptr ⟨0, 4, 0⟩ 0 → fget fr' 9 = .ptr ⟨0, 9, 0⟩ 0 → lcells L' 4 0 = some [.str [], .nilsl] → lcells L' 9 0 = some [.str n, owL 1 (nums ks)] → K (some (.exit 0, ⟨fr', [L']⟩))) :
    K (LC X GV (.loop x51_l0) ⟨fr, [L]⟩) := by
  obtain ⟨p1, u1, n1, d1, f1⟩ := hx.ls.one
  have hlen : r.length = ks.length := by
    have := congrArg List.length hr
    simpa using this
  have hat : ∀ j, j < ks.length → ∃ t : Tk, iaddrK 7 x (some j) = some (.elp t.cells) ∧ t.k = 3 ∧ t.t = kindS (ks.getD j 0) := fun j hj => by
    have hj' : j < r.length := by omega
    refine ⟨r[j], ?_, ?_⟩
    · rw [hx.ls.at (k := j) (by simpa using hj')]
      simp [List.getD, hj']
    · have e := congrArg (fun l : List PT => l[j]?) hr
      simp only [List.getElem?_map, List.getElem?_eq_getElem hj', List.getElem?_eq_getElem hj, Option.map_some, Option.some.injEq] at e
      have e2 : ks.getD j 0 = ks[j] := by simp [List.getD, hj]
      rw [e2]
      unfold Tk.p at e
      simp only [Prod.mk.injEq] at e
      exact ⟨e.1, e.2.1⟩
  obtain ⟨I, hI⟩ : ∃ I : Nat → List AV → Heap → Prop, ∀ j fr hp', I j fr hp' ↔ ((∃ L, hp' = [L] ∧ lcells L 4 0 = some [.str [], .nilsl] ∧ lcells L 9 0 = some [.str n, owL 1 (nums (ks.take j))]) ∧ fget fr 0 = v ∧ fget fr 4 = .ptr ⟨0, 4, 0⟩ 0 ∧ fget fr 9 = .ptr ⟨0, 9, 0⟩ 0 ∧ fget fr 47 = x ∧ fget fr 48 = .int .i64 ks.length ∧ fget fr 49 = .int .i64 (j : Nat)) := ⟨_, fun _ _ _ => Iff.rfl⟩
  obtain ⟨Q, hQ⟩ : ∃ Q : XExit → List AV → Heap → Prop, ∀ e fr hp', Q e fr hp' ↔ (e = .exit 0 ∧ (∃ L, hp' = [L] ∧ lcells L 4 0 = some [.str [], .nilsl] ∧ lcells L 9 0 = some [.str n, owL 1 (nums ks)]) ∧ fget fr 0 = v ∧ fget fr 4 = .ptr ⟨0, 4, 0⟩ 0 ∧ fget fr 9 = .ptr ⟨0, 9, 0⟩ 0) := ⟨_, fun _ _ _ => Iff.rfl⟩
  refine LC_upK ks.length I Q K ?_ ?_ ?_ ?_
  · rw [hI]
    exact ⟨⟨L, rfl, hL4, hL9⟩, h0, h4, h9, h47, h48, h49⟩
  · intro j hj fr hp' hh
    obtain ⟨⟨L, rfl, hL4, hL9⟩, h0, h4, h9, h47, h48, h49⟩ := (hI _ _ _).1 hh
    have k1 : ((j : Int) < (ks.length : Int)) = True := by simp; omega
    have w1 : wr .i64 ((j : Int) + 1) = ((j + 1 : Nat) : Int) := by rw [wr_i64 _ (by omega)]; omega
    obtain ⟨t, ha, t3, tt⟩ := hat j hj
    have hkj : 1 ≤ ks.getD j 0 ∧ ks.getD j 0 ≤ 3 := hks _ (by simp [List.getD, hj])
    have hki := kidx _ hkj
    have htk : ks.take (j + 1) = ks.take j ++ [ks.getD j 0] := by
      rw [List.take_succ_eq_append_getElem hj]
      simp [List.getD, hj]
    have hnew : nums (ks.take (j + 1)) = nums (ks.take j) ++ [[.int .i64 (ks.getD j 0)]] := by rw [htk]; simp [nums]
    obtain ⟨w, a0, s0, ⟨vk, vn, vd, vs⟩⟩ := t
    simp only at t3 tt
    subst t3 tt
    have hkn := p_kinds
    generalize ks.getD j 0 = k at *
    have e1 : (k < 1) = False := by simp; omega
    have q1 := fun M d fr => lownK_L M 9 0 1 (.str n) (nums (ks.take j)) d fr
    have q2 := fun (M : Level) (h : lcells M 9 0 = some [.str n, owL 1 (nums (ks.take j))]) => lownL_at h
    have hap := lo_app 1 8 (nums (ks.take j)) [.int .i64 k] rfl rfl rfl (by rw [nums_len, List.length_take]; omega)
    rw [← hnew] at hap
    have hdr := lo_drop 1 (nums (ks.take (j + 1)))
    have hod := lo_drop 1 (nums (ks.take j))
    obtain ⟨hc1, hc2⟩ := lo_cells 1 (nums (ks.take (j + 1)))
    obtain ⟨W2, hW2⟩ : ∃ W2, nums (ks.take (j + 1)) = W2 := ⟨_, rfl⟩
    rw [hW2] at hap hdr hc1 hc2
    simp only [Tk.cells] at ha
    have i3 : (((3 : Nat) : Int) = 3) = True := by simp
    simp +contextual -implicitDefEqProofs (maxSteps := 10000000) only [x51_l0_run, go_sem, ↓reduceIte, Nat.reduceEqDiff, Nat.reduceAdd, Nat.reduceLT, Nat.reduceDiv, h9, h47, h48, h49, k1, w1, ha, u1, hkn, hki, e1, i3, hL9, o_lown, lownA_top, q1, q2, hap, hdr, hod, hc1, hc2, stAt_topc, ldAt_topc]
    rw [hI]
    refine ⟨⟨_, rfl, ?_, ?_⟩, ?_, ?_, ?_, ?_, ?_, ?_⟩
    · simp [lcells_put, lownL_ne, hL4]
    · rw [lcells_put, if_pos rfl, if_pos rfl, hW2]
    all_goals simp only [go_sem, ↓reduceIte, reduceCtorEq, Nat.reduceEqDiff, hdr, hod, h0, h4, h9, h47, h48]
  · intro fr hp' hh
    obtain ⟨⟨L, rfl, hL4, hL9⟩, h0, h4, h9, h47, h48, h49⟩ := (hI _ _ _).1 hh
    simp +contextual -implicitDefEqProofs (maxSteps := 10000000) only [x51_l0_run, go_sem, ↓reduceIte, h48, h49, Int.lt_irrefl]
    rw [hQ]
    rw [List.take_length] at hL9
    refine ⟨rfl, ⟨L, rfl, hL4, hL9⟩, ?_, ?_, ?_⟩ <;> simp only [go_sem, ↓reduceIte, reduceCtorEq, Nat.reduceEqDiff, h0, h4, h9]
  · intro e fr hp' he hh
    obtain ⟨rfl, ⟨L, rfl, hL4, hL9⟩, a0, a4, a9⟩ := (hQ _ _ _).1 hh
    exact hk fr L a0 a4 a9 hL4 hL9
end Go.Proofs.YtjbgceogkgpjpaaGreatDoor.Sx.T
namespace Go.Proofs.YtjbgceogkgpjpaaGreatDoor.Sx.T
open Go Go.Proofs.YtjbgceogkgpjpaaGreatDoor.Sx
set_option maxRecDepth 100000
set_option maxHeartbeats 8000000
open Classical in
theorem p_declares (sig : List Dc) (v : AV) (hv : SigV v sig) (d : Dc) (hd : goodD d) (h32 : sig.length < 32) (hf : findD sig d.n < 0) : CL X GV 51 [v, .str (lineD d)] [] = some (.tup [.agg (rdD d).cells, .bool true, .nilif], []) := by
  have ht := p_tokens (lineD d)
  have hln := lineD_len hd
  obtain ⟨t1, t2⟩ := toks_line hd (lineD d).length 0 (Nat.le_refl _)
  rw [if_neg (by omega), if_pos t1] at ht
  have hx := TL_listA (toks (lineD d).length 0 (lineD d)).2
  have hnm := v_name d.n
  rw [decide_eq_true hd.1] at hnm
  have hdc := fun hp => p_declared sig v hv d.n hp
  obtain ⟨pv, uv, nv, dv, fv⟩ := hv.1.one
  rw [dcs_len] at nv
  generalize listA (toks (lineD d).length 0 (lineD d)).2 = x at *
  generalize (toks (lineD d).length 0 (lineD d)).2 = l at *
  cases l with
  | nil => simp at t2
  | cons t0 r =>
    rw [List.map_cons] at t2
    injection t2 with t2 t3
    have e0 := t2
    unfold Tk.p at e0
    simp only [Prod.mk.injEq] at e0
    obtain ⟨b1, b2, _⟩ := e0
    obtain ⟨p1, u1, n1, d1, f1⟩ := hx.ls.one
    rw [List.length_map] at n1
    have a0 := hx.ls.at (k := 0) (by simp)
    have b0 : ((t0 :: r).map Tk.cells).getD 0 [] = t0.cells := rfl
    rw [b0] at a0
    obtain ⟨x1, s1, h1⟩ := hx.cut 1 (by simp) (List.cons_ne_nil _ _)
    have s1 : sslK 7 x (some (.int .i64 1)) none none = some x1 := s1
    have h1 : TL x1 r := h1
    obtain ⟨p2, u2, n2, d2, f2⟩ := h1.ls.one
    have hrl : r.length = d.ks.length := by
      have := congrArg List.length t3
      simpa using this
    rw [List.length_map, hrl] at n2
    obtain ⟨m, hm⟩ : ∃ m, (t0 :: r).length = m := ⟨_, rfl⟩
    rw [hm] at n1
    have z1 : ((m : Int) = 0) = False := by rw [List.length_cons] at hm; simp; omega
    have i3 : (((3 : Nat) : Int) = 3) = True := by simp
    obtain ⟨w0, ta0, tt0, ⟨vk0, vn0, vd0, vs0⟩⟩ := t0
    simp only at b1 b2
    subst b1 b2
    simp only [Tk.cells] at a0
    have k6 : ((6 : Int) < (d.ks.length : Int)) = False := by have := hd.2.1; simp; omega
    have k32 : ((32 : Int) ≤ (sig.length : Int)) = False := by simp; omega
    have kf : ((0 : Int) ≤ findD sig d.n) = False := by simp; omega
    have hK := lo_ls 1 (nums d.ks)
    obtain ⟨pK, uK, nK, dK, fK⟩ := hK.one
    rw [nums_len] at nK
    have sK := fun hp => ls_shut8 hK hp 0 4
    rw [CL_eq (fn := x51) rfl]
    simp only [rdD, Dc.cells] at *
    generalize findD sig d.n = z at *
    simp +contextual -implicitDefEqProofs (maxSteps := 10000000) only [x51, go_sem, ↓reduceIte, Nat.reduceEqDiff, Nat.reduceAdd, Nat.reduceLeDiff, Int.reduceLE, Int.reduceToNat, ht, n1, u1, d1, z1, a0, i3, hnm, s1, o_ssl, n2, o_eqnil, nilK_nil, uf_nilif, drop1K_nilif, stAt_topc, ldAt_topc]
    refine l_dKinds d.n d.ks hd.2.2 r t3 hd.2.1 x1 v h1 (fun q => finK _ (seqK (blockK 0 q) _) = _) ?_ ?_ ?_ ?_ ?_ ?_ ?_ ?_ ?_
    all_goals first | (simp only [go_sem, ↓reduceIte, reduceCtorEq, Nat.reduceEqDiff]; done) | (simp only [go_sem, ↓reduceIte]; rfl) | rfl | skip
    intro fr' L' c0 c4 c9 cL4 cL9
    generalize owL 1 (nums d.ks) = KV at *
    simp +contextual -implicitDefEqProofs (maxSteps := 10000000) only [go_sem, ↓reduceIte, reduceCtorEq, Nat.reduceEqDiff, Nat.reduceAdd, c0, c4, c9, cL4, cL9, uK, nK, pK, sK, uv, nv, fv, k6, k32, hdc, kf, stAt_topc, ldAt_topc, ecellK_topc]
    rfl
theorem p_declares0 (v : AV) (x0 : ∀ fr t, drop1K v fr t = fr) (x1 : uf v = v) : CL X GV 51 [v, .str []] [] = some (.tup [.agg [.str [], .nilsl], .bool false, .nilif], []) := by
  have ht := p_tokens []
  rw [if_neg (by simp), show toks ([] : List UInt8).length 0 [] = (none, []) from rfl] at ht
  rw [if_pos rfl, show listA [] = .nilsl from rfl] at ht
  rw [CL_eq (fn := x51) rfl]
  simp +contextual -implicitDefEqProofs (maxSteps := 10000000) only [x51, go_sem, ↓reduceIte, Nat.reduceEqDiff, Nat.reduceAdd, ht, o_eqnil, nilK_nil, uf_nilif, drop1K_nilif, stAt_topc, ecellK_topc]
  rfl
theorem dcs_snoc (l : List Dc) (d : Dc) : dcs (l ++ [d]) = dcs l ++ [d.cells] := by simp [dcs]
theorem pSpl (s : List UInt8) (h : s.length ≤ 16384) : primX 7 [.str s, .str [10]] = some (.lst .tight 1 ((cutL 10 s).map fun x => [.str x])) := if_pos (by omega)
theorem p_parseSig (sig : List Dc) (hc : csig sig = 0) (hl : (sigT sig).length ≤ 16384) : CL X GV 22 [.str (sigT sig)] [] = some (.tup [uf (owL 2 (dcs (sig.map rdD))), .agg [.int .i64 0, .int .i64 0]], []) := by
  have hgood := csig_good hc
  obtain ⟨h32, _⟩ := csig_zero hc
  have hsp := pSpl (sigT sig) hl
  rw [cut_sig sig hgood] at hsp
  obtain ⟨ls, hls⟩ : ∃ ls, sig.map lineD ++ [[]] = ls := ⟨_, rfl⟩
  rw [hls] at hsp
  have hlen : ls.length = sig.length + 1 := by rw [← hls]; simp
  have hY : Ls 1 (.lst .tight 1 (ls.map fun x => [AV.str x])) (ls.map fun x => [AV.str x]) := .inr ⟨.tight, .inr rfl, rfl⟩
  generalize hYe : (AV.lst .tight 1 (ls.map fun x => [AV.str x])) = Y at *
  obtain ⟨py, uy, ny, dy, fy⟩ := hY.one
  rw [List.length_map, hlen] at ny
  have k0 : ((16384 : Int) < ((sigT sig).length : Int)) = False := by simp; omega
  have hatY : ∀ j, j < ls.length → iaddrK 1 Y (some j) = some (.elp [.str (ls.getD j [])]) := fun j hj => by
    rw [hY.at (k := j) (by simpa using hj)]
    simp [List.getD, hj]
  have hgj : ∀ j, j < sig.length → ls.getD j [] = lineD (sig.getD j default) := fun j hj => by
    rw [← hls]
    simp [List.getD, List.getElem?_append, hj]
  have hgn : ls.getD sig.length [] = [] := by
    rw [← hls]
    simp [List.getD]
  rw [CL_eq (fn := x22) rfl]
  simp +contextual -implicitDefEqProofs (maxSteps := 10000000) only [x22, go_sem, ↓reduceIte, reduceCtorEq, Nat.reduceEqDiff, Nat.reduceAdd, Nat.reduceLeDiff, k0, hsp, ny, stAt_topc]
  obtain ⟨I, hI⟩ : ∃ I : Nat → List AV → Heap → Prop, ∀ j fr hp', I j fr hp' ↔ ((∃ L, hp' = [L] ∧ lcells L 3 0 = some [.int .i64 0, .int .i64 0]) ∧ fget fr 3 = .ptr ⟨0, 3, 0⟩ 0 ∧ fget fr 4 = owL 2 (dcs ((sig.take j).map rdD)) ∧ fget fr 15 = Y ∧ fget fr 16 = .int .i64 ((sig.length + 1 : Nat) : Int) ∧ fget fr 17 = .int .i64 (j : Nat)) := ⟨_, fun _ _ _ => Iff.rfl⟩
  obtain ⟨Q, hQ⟩ : ∃ Q : XExit → List AV → Heap → Prop, ∀ e fr hp', Q e fr hp' ↔ (e = .exit 0 ∧ (∃ L, hp' = [L] ∧ lcells L 3 0 = some [.int .i64 0, .int .i64 0]) ∧ fget fr 3 = .ptr ⟨0, 3, 0⟩ 0 ∧ fget fr 4 = owL 2 (dcs (sig.map rdD))) := ⟨_, fun _ _ _ => Iff.rfl⟩
  refine LC_upK (sig.length + 1) I Q (fun r => finK _ (seqK (blockK 0 r) _) = _) ?_ ?_ ?_ ?_
  · rw [hI]
    refine ⟨⟨_, rfl, ?_⟩, ?_, ?_, ?_, ?_, ?_⟩
    · simp [lcells_put]
    all_goals first | (simp only [go_sem, ↓reduceIte, Nat.reduceEqDiff, Int.natCast_zero]; done) | (simp only [go_sem, ↓reduceIte, Nat.reduceEqDiff]; rfl)
  · intro j hj fr hp' hh
    obtain ⟨⟨L, rfl, hL3⟩, h3, h4, h15, h16, h17⟩ := (hI _ _ _).1 hh
    have k1 : ((j : Int) < ((sig.length + 1 : Nat) : Int)) = True := by simp; omega
    have w1 : wr .i64 ((j : Int) + 1) = ((j + 1 : Nat) : Int) := by rw [wr_i64 _ (by omega)]; omega
    have g1 := hatY j (by omega)
    have hA := lo_ls 2 (dcs ((sig.take j).map rdD))
    obtain ⟨pA, uA, nA, dA, fA⟩ := hA.one
    by_cases hjl : j < sig.length
    · rw [hgj j hjl] at g1
      have hd := hgood _ (mem_getD sig j hjl)
      have hsv : SigV (uf (owL 2 (dcs ((sig.take j).map rdD)))) ((sig.take j).map rdD) := by
        refine ⟨hA, fun x hx => ?_, by rw [List.length_map, List.length_take]; omega⟩
        obtain ⟨y, hy, rfl⟩ := List.mem_map.1 hx
        exact rdD_ok (hgood y (List.mem_of_mem_take hy))
      have hdc := p_declares _ _ hsv (sig.getD j default) hd (by rw [List.length_map, List.length_take]; omega) (by rw [findD_rd]; exact csig_uniq hc j hjl)
      have htk : sig.take (j + 1) = sig.take j ++ [sig.getD j default] := by
        rw [List.take_succ_eq_append_getElem hjl]
        simp [List.getD, hjl]
      have hnew : dcs ((sig.take (j + 1)).map rdD) = dcs ((sig.take j).map rdD) ++ [(rdD (sig.getD j default)).cells] := by
        rw [htk, List.map_append, List.map_cons, List.map_nil, dcs_snoc]
      have hrok := rdD_ok hd
      obtain ⟨f1, f2, f3, f4⟩ := Dc.flat hrok
      have hap := lo_app 2 40 (dcs ((sig.take j).map rdD)) (rdD (sig.getD j default)).cells rfl f2 f4 (by rw [dcs_len, List.length_map, List.length_take]; omega)
      rw [← hnew] at hap
      have hdr := lo_drop 2 (dcs ((sig.take (j + 1)).map rdD))
      have hod := lo_drop 2 (dcs ((sig.take j).map rdD))
      obtain ⟨hc1, hc2⟩ := lo_cells 2 (dcs ((sig.take (j + 1)).map rdD))
      generalize lineD (sig.getD j default) = ln at *
      have hrc : (rdD (sig.getD j default)).cells = [.str (rdD (sig.getD j default)).n, (rdD (sig.getD j default)).kv] := rfl
      rw [hrc] at hap hdc f2 f3 f4
      generalize (rdD (sig.getD j default)).n = nn at *
      generalize (rdD (sig.getD j default)).kv = kv at *
      simp only [List.all_cons, List.all_nil, Bool.and_true, Bool.and_eq_true, List.map_cons, List.map_nil, List.cons.injEq, and_true, refFreeL] at f2 f3 f4
      obtain ⟨q1, q2⟩ := f2
      obtain ⟨q3, q4⟩ := f3
      obtain ⟨q5, q6⟩ := f4
      obtain ⟨W2, hW2⟩ : ∃ W2, dcs ((sig.take (j + 1)).map rdD) = W2 := ⟨_, rfl⟩
      rw [hW2] at hap hdr hc1 hc2
      simp +contextual -implicitDefEqProofs (maxSteps := 10000000) only [x22_l0_run, go_sem, ↓reduceIte, Nat.reduceEqDiff, Nat.reduceAdd, Nat.reduceLT, Nat.reduceDiv, h4, h15, h16, h17, k1, w1, g1, uy, hdc, uA, fA, q2, q4, q6, hap, hdr, hod, o_eqnil, nilK_nil, uf_nilif, drop1K_nilif, stAt_topc, ldAt_topc]
      rw [hI]
      refine ⟨⟨_, rfl, by simp [lcells_put, hL3]⟩, ?_, ?_, ?_, ?_, ?_⟩ <;> simp only [go_sem, ↓reduceIte, Nat.reduceEqDiff, hdr, hod, h3, h15, h16, hW2]
    · obtain rfl : j = sig.length := by omega
      rw [hgn] at g1
      have hd0 := p_declares0 (uf (owL 2 (dcs ((sig.take sig.length).map rdD)))) dA uA
      simp +contextual -implicitDefEqProofs (maxSteps := 10000000) only [x22_l0_run, go_sem, ↓reduceIte, Nat.reduceEqDiff, Nat.reduceAdd, h4, h15, h16, h17, k1, w1, g1, uy, hd0, uA, fA, o_eqnil, nilK_nil, uf_nilif, drop1K_nilif, stAt_topc]
      rw [hI]
      rw [List.take_of_length_le (show sig.length ≤ sig.length + 1 by omega)]
      rw [List.take_of_length_le (Nat.le_refl _)] at h4
      refine ⟨⟨_, rfl, by simp [lcells_put, hL3]⟩, ?_, ?_, ?_, ?_, ?_⟩ <;> simp only [go_sem, ↓reduceIte, Nat.reduceEqDiff, h3, h4, h15, h16]
  · intro fr hp' hh
    obtain ⟨⟨L, rfl, hL3⟩, h3, h4, h15, h16, h17⟩ := (hI _ _ _).1 hh
    simp +contextual -implicitDefEqProofs (maxSteps := 10000000) only [x22_l0_run, go_sem, ↓reduceIte, h16, h17, Int.lt_irrefl]
    rw [hQ]
    rw [List.take_of_length_le (by omega)] at h4
    refine ⟨rfl, ⟨L, rfl, hL3⟩, ?_, ?_⟩ <;> simp only [go_sem, ↓reduceIte, Nat.reduceEqDiff, h3, h4]
  · intro e fr hp' he hh
    obtain ⟨rfl, ⟨L, rfl, hL3⟩, h3, h4⟩ := (hQ _ _ _).1 hh
    have hA := lo_ls 2 (dcs (sig.map rdD))
    obtain ⟨pA, uA, nA, dA, fA⟩ := hA.one
    have sA := fun hp => ls_shut8 hA hp 0 5
    have i1 : isU (uf (owL 2 (dcs (sig.map rdD)))) = false := by cases sig <;> rfl
    generalize owL 2 (dcs (sig.map rdD)) = E at *
    simp +contextual -implicitDefEqProofs (maxSteps := 10000000) only [go_sem, ↓reduceIte, Nat.reduceEqDiff, Nat.reduceAdd, h3, h4, hL3, dA, sA, i1, stAt_topc, ecellK_topc]
end Go.Proofs.YtjbgceogkgpjpaaGreatDoor.Sx.T
namespace Go.Proofs.YtjbgceogkgpjpaaGreatDoor.Sx.T
open Go Go.Proofs.YtjbgceogkgpjpaaGreatDoor.Sx
set_option maxRecDepth 100000
set_option maxHeartbeats 8000000
theorem p_vsame (v : Val) (hp : Heap) : CL X GV 37 [v.av, v.av] hp = some (.bool true, hp) := by
  obtain ⟨k, n, d, s⟩ := v
  rw [CL_eq (fn := x37) rfl]
  simp only [Val.av, vA]
  simp +contextual -implicitDefEqProofs (maxSteps := 10000000) only [x37, go_sem, ↓reduceIte, Nat.reduceEqDiff, Nat.reduceAdd]
theorem l_kSame (a b : Dc) (hka : Ls 1 a.kv (nums a.ks)) (hkb : Ls 1 b.kv (nums b.ks)) (hks : a.ks = b.ks) (hl : a.ks.length ≤ 1000000000) (x y : AV) (i m : Nat) (hux : uf x = x) (hdx : ∀ fr t, drop1K x fr t = fr) (huy : uf y = y) (hdy : ∀ fr t, drop1K y fr t = fr)
    (ga : iaddrK 2 x (some i) = some (.elp a.cells)) (gb : iaddrK 2 y (some i) = some (.elp b.cells)) {fr : List AV} {L : Level} (K : Option (XExit × St) → Prop)
    (h0 : fget fr 0 = x) (h1 : fget fr 1 = y) (h5 : fget fr 5 = .int .i64 (i : Nat)) (h6 : fget fr 6 = .int .i64 0)
    (hk : ∀ fr', fget fr' 0 = x → fget fr' 1 = y → fget fr' 5 = .int .i64 (i : Nat) → K (some (.exit 2, ⟨fr', [L]⟩))) :
    K (LC X GV (.loop x23_l0) ⟨fr, [L]⟩) := by
  obtain ⟨pa, ua, na, da, fa⟩ := hka.one
  obtain ⟨pb, ub, nb, db, fb⟩ := hkb.one
  rw [nums_len] at na nb
  obtain ⟨an, ka, va⟩ := a
  obtain ⟨bn, kb, vb⟩ := b
  simp only [Dc.cells] at *
  subst hks
  obtain ⟨I, hI⟩ : ∃ I : Nat → List AV → Heap → Prop, ∀ j fr hp', I j fr hp' ↔ (hp' = [L] ∧ fget fr 0 = x ∧ fget fr 1 = y ∧ fget fr 5 = .int .i64 (i : Nat) ∧ fget fr 6 = .int .i64 (j : Nat)) := ⟨_, fun _ _ _ => Iff.rfl⟩
  obtain ⟨Q, hQ⟩ : ∃ Q : XExit → List AV → Heap → Prop, ∀ e fr hp', Q e fr hp' ↔ (e = .exit 2 ∧ hp' = [L] ∧ fget fr 0 = x ∧ fget fr 1 = y ∧ fget fr 5 = .int .i64 (i : Nat)) := ⟨_, fun _ _ _ => Iff.rfl⟩
  refine LC_upK ka.length I Q K ?_ ?_ ?_ ?_
  · rw [hI]
    exact ⟨rfl, h0, h1, h5, h6⟩
  · intro j hj fr hp' hh
    obtain ⟨rfl, h0, h1, h5, h6⟩ := (hI _ _ _).1 hh
    have k1 : ((j : Int) < (ka.length : Int)) = True := by simp; omega
    have w1 : wr .i64 ((j : Int) + 1) = ((j + 1 : Nat) : Int) := by rw [wr_i64 _ (by omega)]; omega
    have g1 := hka.at (k := j) (by rw [nums_len]; exact hj)
    have g2 := hkb.at (k := j) (by rw [nums_len]; exact hj)
    rw [nums_get ka j hj] at g1 g2
    generalize ka.getD j 0 = k at g1 g2
    simp +contextual -implicitDefEqProofs (maxSteps := 10000000) only [x23_l0_run, go_sem, ↓reduceIte, reduceCtorEq, Nat.reduceEqDiff, Nat.reduceAdd, Nat.reduceLeDiff, h0, h1, h5, h6, k1, w1, ga, gb, g1, g2, hux, huy, ua, na, ub]
    rw [hI]
    refine ⟨rfl, ?_, ?_, ?_, ?_⟩ <;> simp only [go_sem, ↓reduceIte, reduceCtorEq, Nat.reduceEqDiff, h0, h1, h5]
  · intro fr hp' hh
    obtain ⟨rfl, h0, h1, h5, h6⟩ := (hI _ _ _).1 hh
    simp +contextual -implicitDefEqProofs (maxSteps := 10000000) only [x23_l0_run, go_sem, ↓reduceIte, reduceCtorEq, Nat.reduceEqDiff, Nat.reduceAdd, Nat.reduceLeDiff, h0, h5, h6, ga, hux, ua, na, Int.lt_irrefl]
    rw [hQ]
    refine ⟨rfl, rfl, ?_, ?_, ?_⟩ <;> simp only [go_sem, ↓reduceIte, reduceCtorEq, Nat.reduceEqDiff, h0, h1, h5]
  · intro e fr hp' he hh
    obtain ⟨rfl, rfl, a0, a1, a5⟩ := (hQ _ _ _).1 hh
    exact hk fr a0 a1 a5
theorem p_sameSig (l m : List Dc) (x y : AV) (hx : Ls 2 x (dcs l)) (hy : Ls 2 y (dcs m)) (ho : ∀ s ∈ l, s.ok) (ho2 : ∀ s ∈ m, s.ok) (hn : l.length = m.length) (hl : l.length ≤ 1000000000) (hkl : ∀ s ∈ l, s.ks.length ≤ 1000000000) (hs : ∀ i, i < l.length → (l.getD i default).n = (m.getD i default).n ∧ (l.getD i default).ks = (m.getD i default).ks) :
    CL X GV 23 [x, y] [] = some (.bool true, []) := by
  obtain ⟨px, ux, nx, dx, fx⟩ := hx.one
  obtain ⟨py, uy, ny, dy, fy⟩ := hy.one
  rw [dcs_len] at nx ny
  rw [CL_eq (fn := x23) rfl]
  have b1 : (((l.length : Nat) : Int) != ((m.length : Nat) : Int)) = false := by rw [hn]; simp
  simp +contextual -implicitDefEqProofs (maxSteps := 10000000) only [x23, go_sem, ↓reduceIte, reduceCtorEq, Nat.reduceEqDiff, ux, nx, uy, ny, b1]
  obtain ⟨I, hI⟩ : ∃ I : Nat → List AV → Heap → Prop, ∀ i fr hp', I i fr hp' ↔ ((∃ L, hp' = [L]) ∧ fget fr 0 = x ∧ fget fr 1 = y ∧ fget fr 5 = .int .i64 (i : Nat)) := ⟨_, fun _ _ _ => Iff.rfl⟩
  obtain ⟨Q, hQ⟩ : ∃ Q : XExit → List AV → Heap → Prop, ∀ e fr hp', Q e fr hp' ↔ (e = .exit 0 ∧ ∃ L, hp' = [L]) := ⟨_, fun _ _ _ => Iff.rfl⟩
  refine LC_upK l.length I Q (fun r => finK _ (seqK (blockK 0 r) _) = _) ?_ ?_ ?_ ?_
  · rw [hI]
    refine ⟨⟨_, rfl⟩, ?_, ?_, ?_⟩ <;> simp only [go_sem, ↓reduceIte, reduceCtorEq, Nat.reduceEqDiff, Int.natCast_zero]
  · intro i hi fr hp' hh
    obtain ⟨⟨L, rfl⟩, h0, h1, h5⟩ := (hI _ _ _).1 hh
    have k1 : ((i : Int) < (l.length : Int)) = True := by simp; omega
    have w1 : wr .i64 ((i : Int) + 1) = ((i + 1 : Nat) : Int) := by rw [wr_i64 _ (by omega)]; omega
    have ga := hx.at (k := i) (by rw [dcs_len]; exact hi)
    have gb := hy.at (k := i) (by rw [dcs_len]; omega)
    rw [dcs_get l i hi] at ga
    rw [dcs_get m i (by omega)] at gb
    have o1 := ho _ (mem_getD l i hi)
    have o2 := ho2 _ (mem_getD m i (by omega))
    have o3 := hkl _ (mem_getD l i hi)
    obtain ⟨s1, s2⟩ := hs i hi
    generalize l.getD i default = a at *
    generalize m.getD i default = b at *
    have hps := fun (fr : List AV) => @l_kSame a b o1.1 o2.1 s2 o3 x y i l.length ux dx uy dy ga gb fr L
    obtain ⟨pa, ua, na, da, fa⟩ := o1.1.one
    obtain ⟨pb, ub, nb, db, fb⟩ := o2.1.one
    rw [nums_len] at na nb
    have b2 : (((a.ks.length : Nat) : Int) != ((b.ks.length : Nat) : Int)) = false := by rw [s2]; simp
    simp only [Dc.cells, s1] at ga gb hps
    simp +contextual -implicitDefEqProofs (maxSteps := 10000000) only [x23_l1_run, go_sem, ↓reduceIte, reduceCtorEq, Nat.reduceEqDiff, Nat.reduceAdd, Nat.reduceLeDiff, h0, h1, h5, k1, ga, gb, ux, nx, uy, ua, na, ub, nb, b2]
    refine hps _ (fun r => StepOk (I (i + 1)) Q (seqK (blockK 1 (blockK 2 r)) _)) ?_ ?_ ?_ ?_ ?_
    all_goals first | (simp only [go_sem, ↓reduceIte, reduceCtorEq, Nat.reduceEqDiff, h0, h1, h5]; done) | skip
    intro fr' q0 q1 q5
    simp +contextual -implicitDefEqProofs (maxSteps := 10000000) only [go_sem, ↓reduceIte, q5, w1]
    rw [hI]
    refine ⟨⟨_, rfl⟩, ?_, ?_, ?_⟩ <;> simp only [go_sem, ↓reduceIte, reduceCtorEq, Nat.reduceEqDiff, q0, q1]
  · intro fr hp' hh
    obtain ⟨⟨L, rfl⟩, h0, h1, h5⟩ := (hI _ _ _).1 hh
    simp +contextual -implicitDefEqProofs (maxSteps := 10000000) only [x23_l1_run, go_sem, ↓reduceIte, reduceCtorEq, Nat.reduceEqDiff, h0, h5, ux, nx, Int.lt_irrefl]
    rw [hQ]
    exact ⟨rfl, _, rfl⟩
  · intro e fr hp' he hh
    obtain ⟨rfl, L, rfl⟩ := (hQ _ _ _).1 hh
    simp +contextual -implicitDefEqProofs (maxSteps := 10000000) only [go_sem, ↓reduceIte]
end Go.Proofs.YtjbgceogkgpjpaaGreatDoor.Sx.T
namespace Go.Proofs.YtjbgceogkgpjpaaGreatDoor.Sx.T
open Go Go.Proofs.YtjbgceogkgpjpaaGreatDoor.Sx
set_option maxRecDepth 100000
set_option maxHeartbeats 8000000
theorem l_aSame (vl : List Val) (n : List UInt8) (xa xb : AV) (hxa : Ls 4 xa (vals vl)) (hxb : Ls 4 xb (vals vl)) (hl : vl.length ≤ 9000000000000) (va vb : Nat) (i : Nat) {fr : List AV} {L : Level} (K : Option (XExit × St) → Prop)
    (h2 : fget fr 2 = .ptr ⟨0, 2, 0⟩ 0) (h3 : fget fr 3 = .ptr ⟨0, 3, 0⟩ 0) (h5 : fget fr 5 = .int .i64 (i : Nat)) (h6 : fget fr 6 = .ptr ⟨0, 6, va⟩ 0) (h7 : fget fr 7 = .ptr ⟨0, 7, vb⟩ 0) (h8 : fget fr 8 = .int .i64 0)
    (hL6 : lcells L 6 va = some [.str n, xa]) (hL7 : lcells L 7 vb = some [.str n, xb])
    (hk : ∀ fr', fget fr' 2 = .ptr ⟨0, 2, 0⟩ 0 → fget fr' 3 = .ptr ⟨0, 3, 0⟩ 0 → fget fr' 5 = .int .i64 (i : Nat) → K (some (.exit 2, ⟨fr', [L]⟩))) :
    K (LC X GV (.loop x15_l0) ⟨fr, [L]⟩) := by
  obtain ⟨pa, ua, na, da, fa⟩ := hxa.one
  obtain ⟨pb, ub, nb, db, fb⟩ := hxb.one
  rw [vals_len] at na nb
  obtain ⟨I, hI⟩ : ∃ I : Nat → List AV → Heap → Prop, ∀ j fr hp', I j fr hp' ↔ (hp' = [L] ∧ fget fr 2 = .ptr ⟨0, 2, 0⟩ 0 ∧ fget fr 3 = .ptr ⟨0, 3, 0⟩ 0 ∧ fget fr 5 = .int .i64 (i : Nat) ∧ fget fr 6 = .ptr ⟨0, 6, va⟩ 0 ∧ fget fr 7 = .ptr ⟨0, 7, vb⟩ 0 ∧ fget fr 8 = .int .i64 (j : Nat)) := ⟨_, fun _ _ _ => Iff.rfl⟩
  obtain ⟨Q, hQ⟩ : ∃ Q : XExit → List AV → Heap → Prop, ∀ e fr hp', Q e fr hp' ↔ (e = .exit 2 ∧ hp' = [L] ∧ fget fr 2 = .ptr ⟨0, 2, 0⟩ 0 ∧ fget fr 3 = .ptr ⟨0, 3, 0⟩ 0 ∧ fget fr 5 = .int .i64 (i : Nat)) := ⟨_, fun _ _ _ => Iff.rfl⟩
  refine LC_upK vl.length I Q K ?_ ?_ ?_ ?_
  · rw [hI]
    exact ⟨rfl, h2, h3, h5, h6, h7, h8⟩
  · intro j hj fr hp' hh
    obtain ⟨rfl, h2, h3, h5, h6, h7, h8⟩ := (hI _ _ _).1 hh
    have k1 : ((j : Int) < (vl.length : Int)) = True := by simp; omega
    have w1 : wr .i64 ((j : Int) + 1) = ((j + 1 : Nat) : Int) := by rw [wr_i64 _ (by omega)]; omega
    have g1 := hxa.at (k := j) (by rw [vals_len]; exact hj)
    have g2 := hxb.at (k := j) (by rw [vals_len]; exact hj)
    rw [vals_get vl j hj] at g1 g2
    have hsm := p_vsame (vl.getD j default)
    generalize vl.getD j default = w at g1 g2 hsm
    obtain ⟨k, n, d, s⟩ := w
    simp only [Val.av, vA, Val.cells] at g1 g2 hsm
    simp +contextual -implicitDefEqProofs (maxSteps := 10000000) only [x15_l0_run, go_sem, ↓reduceIte, Nat.reduceEqDiff, Nat.reduceAdd, h6, h7, h8, hL6, hL7, k1, w1, g1, g2, hsm, ua, na, ub, ldAt_topc]
    rw [hI]
    refine ⟨rfl, ?_, ?_, ?_, ?_, ?_, ?_⟩ <;> simp only [go_sem, ↓reduceIte, Nat.reduceEqDiff, h2, h3, h5, h6, h7]
  · intro fr hp' hh
    obtain ⟨rfl, h2, h3, h5, h6, h7, h8⟩ := (hI _ _ _).1 hh
    simp +contextual -implicitDefEqProofs (maxSteps := 10000000) only [x15_l0_run, go_sem, ↓reduceIte, Nat.reduceEqDiff, h6, h8, hL6, ua, na, Int.lt_irrefl, ldAt_topc]
    rw [hQ]
    refine ⟨rfl, rfl, ?_, ?_, ?_⟩ <;> simp only [go_sem, ↓reduceIte, Nat.reduceEqDiff, h2, h3, h5]
  · intro e fr hp' he hh
    obtain ⟨rfl, rfl, a2, a3, a5⟩ := (hQ _ _ _).1 hh
    exact hk fr a2 a3 a5
theorem p_samePt (t : Int) (l m : List Et) (x y : AV) (hx : Ls 2 x (ets l)) (hy : Ls 2 y (ets m)) (ho : ∀ s ∈ l, s.ok) (ho2 : ∀ s ∈ m, s.ok) (hn : l.length = m.length) (hl : l.length ≤ 1000000000) (hkl : ∀ s ∈ l, s.vl.length ≤ 9000000000000) (hs : ∀ i, i < l.length → (l.getD i default).n = (m.getD i default).n ∧ (l.getD i default).vl = (m.getD i default).vl) :
    CL X GV 15 [.agg [.int .i64 t, x], .agg [.int .i64 t, y]] [] = some (.bool true, []) := by
  obtain ⟨px, ux, nx, dx, fx⟩ := hx.one
  obtain ⟨py, uy, ny, dy, fy⟩ := hy.one
  rw [ets_len] at nx ny
  rw [CL_eq (fn := x15) rfl]
  have b1 : (((l.length : Nat) : Int) != ((m.length : Nat) : Int)) = false := by rw [hn]; simp
  obtain ⟨C, hC⟩ : ∃ C, [AV.int .i64 t, x] = C := ⟨_, rfl⟩
  obtain ⟨D, hD⟩ : ∃ D, [AV.int .i64 t, y] = D := ⟨_, rfl⟩
  simp +contextual -implicitDefEqProofs (maxSteps := 10000000) only [x15, go_sem, ↓reduceIte, Nat.reduceEqDiff, Nat.reduceAdd, px, ux, nx, py, uy, ny, b1, bne_self_eq_false, ldAt_topc]
  obtain ⟨I, hI⟩ : ∃ I : Nat → List AV → Heap → Prop, ∀ i fr hp', I i fr hp' ↔ ((∃ L, hp' = [L] ∧ lcells L 2 0 = some C ∧ lcells L 3 0 = some D) ∧ fget fr 2 = .ptr ⟨0, 2, 0⟩ 0 ∧ fget fr 3 = .ptr ⟨0, 3, 0⟩ 0 ∧ fget fr 5 = .int .i64 (i : Nat)) := ⟨_, fun _ _ _ => Iff.rfl⟩
  obtain ⟨Q, hQ⟩ : ∃ Q : XExit → List AV → Heap → Prop, ∀ e fr hp', Q e fr hp' ↔ (e = .exit 0 ∧ ∃ L, hp' = [L]) := ⟨_, fun _ _ _ => Iff.rfl⟩
  refine LC_upK l.length I Q (fun r => finK _ (seqK (blockK 0 r) _) = _) ?_ ?_ ?_ ?_
  · rw [hI]
    refine ⟨⟨_, rfl, ?_, ?_⟩, ?_, ?_, ?_⟩
    · simp [lcells_put, ← hC]
    · simp [lcells_put, ← hD]
    all_goals simp only [go_sem, ↓reduceIte, Nat.reduceEqDiff, Int.natCast_zero]
  · intro i hi fr hp' hh
    obtain ⟨⟨L, rfl, hL, hM⟩, h2, h3, h5⟩ := (hI _ _ _).1 hh
    rw [← hC] at hL
    rw [← hD] at hM
    have k1 : ((i : Int) < (l.length : Int)) = True := by simp; omega
    have w1 : wr .i64 ((i : Int) + 1) = ((i + 1 : Nat) : Int) := by rw [wr_i64 _ (by omega)]; omega
    have ga := hx.at (k := i) (by rw [ets_len]; exact hi)
    have gb := hy.at (k := i) (by rw [ets_len]; omega)
    rw [ets_get l i hi] at ga
    rw [ets_get m i (by omega)] at gb
    have o1 := ho _ (mem_getD l i hi)
    have o2 := ho2 _ (mem_getD m i (by omega))
    have o3 := hkl _ (mem_getD l i hi)
    obtain ⟨s1, s2⟩ := hs i hi
    generalize l.getD i default = a at *
    generalize m.getD i default = b at *
    obtain ⟨an, avl, aav⟩ := a
    obtain ⟨bn, bvl, bav⟩ := b
    simp only at s1 s2 o3
    subst s1 s2
    have o1 := o1.1
    have o2 := o2.1
    simp only at o1 o2
    have hps := fun (fr : List AV) (L : Level) => @l_aSame avl an aav bav o1 o2 o3 (nextVer L 6) (nextVer L 7) i fr
    obtain ⟨pa, ua, na, da, fa⟩ := o1.one
    obtain ⟨pb, ub, nb, db, fb⟩ := o2.one
    rw [vals_len] at na nb
    simp only [Et.cells] at ga gb
    simp +contextual -implicitDefEqProofs (maxSteps := 10000000) only [x15_l1_run, go_sem, ↓reduceIte, Nat.reduceEqDiff, Nat.reduceAdd, h2, h3, h5, hL, hM, k1, ga, gb, ux, nx, uy, pa, ua, na, pb, ub, nb, bne_self_eq_false, stAt_topc, ldAt_topc]
    refine hps _ L (fun r => StepOk (I (i + 1)) Q (seqK (blockK 1 (blockK 2 r)) _)) ?_ ?_ ?_ ?_ ?_ ?_ ?_ ?_ ?_
    all_goals first | (simp only [go_sem, ↓reduceIte, Nat.reduceEqDiff, h2, h3, h5]; done) | skip
    intro fr' q2 q3 q5
    simp +contextual -implicitDefEqProofs (maxSteps := 10000000) only [go_sem, ↓reduceIte, q5, w1]
    rw [hI]
    refine ⟨⟨_, rfl, by simp [lcells_put, hL, ← hC], by simp [lcells_put, hM, ← hD]⟩, ?_, ?_, ?_⟩ <;> simp only [go_sem, ↓reduceIte, Nat.reduceEqDiff, q2, q3]
  · intro fr hp' hh
    obtain ⟨⟨L, rfl, hL, hM⟩, h2, h3, h5⟩ := (hI _ _ _).1 hh
    rw [← hC] at hL
    simp +contextual -implicitDefEqProofs (maxSteps := 10000000) only [x15_l1_run, go_sem, ↓reduceIte, Nat.reduceEqDiff, h2, h5, hL, ux, nx, Int.lt_irrefl, ldAt_topc]
    rw [hQ]
    exact ⟨rfl, _, rfl⟩
  · intro e fr hp' he hh
    obtain ⟨rfl, L, rfl⟩ := (hQ _ _ _).1 hh
    simp +contextual -implicitDefEqProofs (maxSteps := 10000000) only [go_sem, ↓reduceIte]
theorem vals8_zero {l : List Val} (h : vals8 l = 0) : ∀ v ∈ l, chkV v = 0 := by
  intro v hv
  obtain ⟨i, hi, rfl⟩ := List.mem_iff_getElem.1 hv
  have := firstE_zero _ _ h i (Nat.zero_le _) (by omega)
  simpa [List.getD, hi] using this
theorem firstE_all (e : Nat → Int) : ∀ (m i : Nat), (∀ j, i ≤ j → j < i + m → e j = 0) → firstE e m i = 0
  | 0, i, _ => rfl
  | m + 1, i, h => by
    rw [firstE, if_neg (by simp [h i (by omega) (by omega)])]
    exact firstE_all e m (i + 1) fun j h1 h2 => h j (by omega) (by omega)
theorem szP_zero {t : Int} {n : Nat} (h : szP t n = 0) : 0 ≤ t ∧ t ≤ 1099511627776 ∧ n ≤ 64 := by
  unfold szP at h
  split at h
  · simp at h
  · split at h
    · simp at h
    · omega
theorem ptE_zero {t : Int} {evs : List Et} (ho : ∀ e ∈ evs, e.ok) (h : ptE t evs = 0) : 0 ≤ t ∧ t ≤ 1099511627776 ∧ evs.length ≤ 64 ∧ (∀ e ∈ evs, goodE e) ∧ (64 :: (decI t ++ prEs evs)).length ≤ 4096 ∧ ptS t evs = 64 :: (decI t ++ prEs evs) := by
  have hS : ptS t evs = 64 :: (decI t ++ prEs evs) := by rw [ptS, if_neg (by simp [h])]
  unfold ptE at h
  by_cases h1 : errP t evs = 0
  case neg => rw [if_pos h1] at h; exact absurd h h1
  rw [if_neg (by simp [h1])] at h
  by_cases h2 : 4096 < (64 :: (decI t ++ prEs evs)).length
  · rw [if_pos h2] at h; simp at h
  unfold errP at h1
  by_cases h3 : szP t evs.length = 0
  case neg => rw [if_pos h3] at h1; exact absurd h1 h3
  rw [if_neg (by simp [h3])] at h1
  obtain ⟨a1, a2, a3⟩ := szP_zero h3
  refine ⟨a1, a2, a3, fun e he => ?_, by omega, hS⟩
  obtain ⟨i, hi, rfl⟩ := List.mem_iff_getElem.1 he
  have h4 := firstE_zero _ _ h1 i (Nat.zero_le _) (by omega)
  have e1 : evs.getD i default = evs[i] := by simp [List.getD, hi]
  rw [e1] at h4
  unfold errE at h4
  by_cases hn : nameP evs[i].n
  case neg => rw [if_pos hn] at h4; simp at h4
  rw [if_neg (by simp [hn])] at h4
  exact ⟨hn, fun v hv => ⟨(ho _ he).2.2.1 v hv, vals8_zero h4 v hv⟩⟩
theorem ptE_read {t : Int} {evs : List EvM} (h0 : 0 ≤ t) (h1 : t ≤ 1099511627776) (hn : evs.length ≤ 64) (hg : ∀ e ∈ evs, nameP e.1 ∧ ∀ v ∈ e.2, v.ok ∧ chkV v = 0) : ptE t (evs.map mkE) = 2 ∨ ptE t (evs.map mkE) = 0 := by
  have hP : errP t (evs.map mkE) = 0 := by
    have hz : szP t (evs.map mkE).length = 0 := by
      unfold szP
      rw [if_neg (by omega), List.length_map, if_neg (by omega)]
    unfold errP
    rw [if_neg (fun h => h hz)]
    refine firstE_all _ _ _ fun j _ hj => ?_
    have hj' : j < evs.length := by simpa using hj
    have e1 : (evs.map mkE).getD j default = mkE evs[j] := by simp [List.getD, hj']
    rw [e1]
    obtain ⟨g1, g2⟩ := hg evs[j] (List.getElem_mem hj')
    unfold errE
    rw [if_neg (by simpa [mkE] using g1)]
    refine firstE_all _ _ _ fun i _ hi => ?_
    have hi' : i < evs[j].2.length := by simpa [mkE] using hi
    have e2 : (mkE evs[j]).vl.getD i default = evs[j].2[i] := by simp [mkE, List.getD, hi']
    rw [e2]
    exact (g2 _ (List.getElem_mem hi')).2
  unfold ptE
  rw [if_neg (by simp [hP])]
  split
  · exact .inl rfl
  · exact .inr rfl
theorem bnd_mem : ∀ (l : List Et) (e : Et), e ∈ l → 259 * e.vl.length ≤ bnd l
  | [], e, h => by cases h
  | x :: l, e, h => by
    rw [bnd]
    rcases List.mem_cons.1 h with rfl | h
    · omega
    · have := bnd_mem l e h
      omega
theorem bnd_read : ∀ evs : List EvM, (∀ e ∈ evs, nameP e.1 ∧ ∀ v ∈ e.2, v.ok ∧ chkV v = 0) → bnd (evs.map mkE) ≤ 259 * (evs.map fun e => e.2.length + 1).sum
  | [], _ => by simp [bnd]
  | e :: evs, h => by
    have ih := bnd_read evs (fun x hx => h x (by simp [hx]))
    have h1 := (h e (by simp)).1.2.1
    rw [List.map_cons, bnd, List.map_cons, List.sum_cons]
    show 3 + e.1.length + 259 * e.2.length + _ ≤ _
    omega
theorem mkE_ok {e : EvM} (h : nameP e.1 ∧ ∀ v ∈ e.2, v.ok ∧ chkV v = 0) (hl : e.2.length ≤ 4096) : (mkE e).ok := by
  refine ⟨lo_ls 4 _, ?_, fun v hv => (h.2 v hv).1, ?_⟩
  · show e.2.length ≤ _; omega
  · show e.1.length ≤ _; have := h.1.2.1; omega
theorem sum_mem {l : List EvM} {e : EvM} (h : e ∈ l) : e.2.length + 1 ≤ (l.map fun e => e.2.length + 1).sum := by
  induction l with
  | nil => cases h
  | cons x l ih =>
    rw [List.map_cons, List.sum_cons]
    rcases List.mem_cons.1 h with rfl | h
    · omega
    · have := ih h; omega
theorem back_pt (t : Int) (evs : List Et) (u : AV) (hu : Ls 2 u (ets evs)) (ho : ∀ e ∈ evs, e.ok) (hb : bnd evs ≤ 900000000) (h : ptE t evs = 0) : ∃ w : AV, plain1 w = true ∧ uf w = w ∧ (∀ fr t, drop1K w fr t = fr) ∧ refFree w = true ∧ CL X GV 13 [.str (ptS t evs)] [] = some (.tup [.agg [.int .i64 t, w], .int .i64 0], []) ∧ CL X GV 15 [.agg [.int .i64 t, u], .agg [.int .i64 t, w]] [] = some (.bool true, []) := by
  obtain ⟨h0, h1, h2, h3, h4, h5⟩ := ptE_zero ho h
  have hp := p_parsePt (ptS t evs)
  rw [h5, ppM_print h0 h1 h3 h2 h4] at hp
  simp only at hp
  have hW := lo_ls 2 (ets ((evs.map fun e => (e.n, e.vl)).map mkE))
  obtain ⟨a1, a2, a3, a4, a5⟩ := hW.one
  refine ⟨_, a1, a2, a4, a5, by rw [h5]; exact hp, p_samePt t evs _ u _ hu hW ho (fun e he => ?_) (by simp) (by omega) (fun e he => by have := bnd_mem evs e he; omega) (fun i hi => ?_)⟩
  · rw [List.map_map] at he
    obtain ⟨y, hy, rfl⟩ := List.mem_map.1 he
    have := bnd_mem evs y hy
    obtain ⟨g1, g2⟩ := h3 y hy
    refine ⟨lo_ls 4 _, ?_, fun v hv => (g2 v hv).1, ?_⟩
    · show y.vl.length ≤ _; omega
    · show y.n.length ≤ _; have := g1.2.1; omega
  · have e1 : ((evs.map fun e => (e.n, e.vl)).map mkE).getD i default = mkE (evs[i].n, evs[i].vl) := by simp [List.getD, hi]
    have e2 : evs.getD i default = evs[i] := by simp [List.getD, hi]
    rw [e1, e2]
    exact ⟨rfl, rfl⟩
theorem v_TraceBack (sig : List Dc) (v : AV) (t : Int) (evs : List Et) (u : AV) (s : List UInt8) (hv : SigV v sig) (hu : EvV u evs) (ht : I64 t) (hb : avnE (ets evs) ≤ 1048576) (hs : s.length ≤ 1048576) : CL X GV 9 [v, .agg [.int .i64 t, u], .str s] [] = some (.bool true, []) := by
  have hl : CL X GV 11 [] [] = some (.bool true, []) := liveTold
  obtain ⟨pv, uv, nv, dv, fv⟩ := hv.1.one
  obtain ⟨pu, uu, nu, du, fu⟩ := hu.1.one
  have hbn : bnd evs ≤ 900000000 := by have := bnd_avn evs hu.2.1; omega
  -- the signature
  obtain ⟨S1, e1, hPS, hA⟩ : ∃ (S1 : List UInt8) (e1 : Int), CL X GV 20 [v] [] = some (.tup [.str S1, .int .i64 e1], []) ∧ ((e1 = 0) = False ∨ (e1 = 0 ∧ ((S1.length : Int) ≤ 16384) = False) ∨ (e1 = 0 ∧ ((S1.length : Int) ≤ 16384) = True ∧ ∃ N : AV, plain1 N = true ∧ uf N = N ∧ (∀ fr t, drop1K N fr t = fr) ∧ refFree N = true ∧ isU N = false ∧ CL X GV 22 [.str S1] [] = some (.tup [N, .agg [.int .i64 0, .int .i64 0]], []) ∧ CL X GV 23 [v, N] [] = some (.bool true, []))) := by
    refine ⟨_, _, p_prSig sig v hv, ?_⟩
    by_cases h0 : csig sig = 0
    · rw [if_pos h0]
      by_cases h1 : (sigT sig).length ≤ 16384
      · right; right
        have hgood := csig_good h0
        have h32 := (csig_zero h0).1
        have hW := lo_ls 2 (dcs (sig.map rdD))
        obtain ⟨a1, a2, a3, a4, a5⟩ := hW.one
        refine ⟨h0, by simp; omega, _, a1, a2, a4, a5, by cases sig <;> rfl, p_parseSig sig h0 h1, p_sameSig sig _ v _ hv.1 hW hv.2.1 (fun d hd => ?_) (by simp) (by omega) (fun d hd => by have := (hgood d hd).2.1; omega) (fun i hi => ?_)⟩
        · obtain ⟨y, hy, rfl⟩ := List.mem_map.1 hd
          exact rdD_ok (hgood y hy)
        · have g1 : (sig.map rdD).getD i default = rdD sig[i] := by simp [List.getD, hi]
          have g2 : sig.getD i default = sig[i] := by simp [List.getD, hi]
          rw [g1, g2]
          exact ⟨rfl, rfl⟩
      · right; left
        exact ⟨h0, by simp; omega⟩
    · left; simp [h0]
  -- the point
  obtain ⟨S2, e2, hPP, hB⟩ : ∃ (S2 : List UInt8) (e2 : Int), CL X GV 16 [.agg [.int .i64 t, u]] [] = some (.tup [.str S2, .int .i64 e2], []) ∧ ((e2 = 0) = False ∨ (e2 = 0 ∧ ∃ w : AV, plain1 w = true ∧ uf w = w ∧ (∀ fr t, drop1K w fr t = fr) ∧ refFree w = true ∧ CL X GV 13 [.str S2] [] = some (.tup [.agg [.int .i64 t, w], .int .i64 0], []) ∧ CL X GV 15 [.agg [.int .i64 t, u], .agg [.int .i64 t, w]] [] = some (.bool true, []))) := by
    refine ⟨_, _, p_print8 t ht evs u hu hbn, ?_⟩
    by_cases h0 : ptE t evs = 0
    · exact .inr ⟨h0, back_pt t evs u hu.1 hu.2.1 hbn h0⟩
    · left; simp [h0]
  -- the text
  obtain ⟨e3, t3, W, hQ, pW, uW, dW, fW, hC⟩ : ∃ (e3 t3 : Int) (W : AV), CL X GV 13 [.str s] [] = some (.tup [.agg [.int .i64 t3, W], .int .i64 e3], []) ∧ plain1 W = true ∧ uf W = W ∧ (∀ fr t, drop1K W fr t = fr) ∧ refFree W = true ∧ (((e3 = 0) = False ∧ t3 = 0 ∧ W = .nilsl) ∨ (e3 = 0 ∧ ∃ (S3 : List UInt8) (e4 : Int), CL X GV 16 [.agg [.int .i64 t3, W]] [] = some (.tup [.str S3, .int .i64 e4], []) ∧ (e4 = 2 ∨ (e4 = 0 ∧ ∃ w : AV, plain1 w = true ∧ uf w = w ∧ (∀ fr t, drop1K w fr t = fr) ∧ refFree w = true ∧ CL X GV 13 [.str S3] [] = some (.tup [.agg [.int .i64 t3, w], .int .i64 0], []) ∧ CL X GV 15 [.agg [.int .i64 t3, W], .agg [.int .i64 t3, w]] [] = some (.bool true, []))))) := by
    have hp := p_parsePt s
    have hok := @ppM_ok s
    have hbad := ppM_bad s
    generalize ppM s = q at hp hok hbad
    obtain ⟨e3, t3, l⟩ := q
    simp only at hp hbad
    have hW := lo_ls 2 (ets (l.map mkE))
    obtain ⟨a1, a2, a3, a4, a5⟩ := hW.one
    refine ⟨e3, t3, _, hp, a1, a2, a4, a5, ?_⟩
    by_cases h0 : e3 = 0
    · right
      subst h0
      obtain ⟨b1, b2, b3, b4, b5⟩ := hok rfl
      have hokE : ∀ e ∈ l.map mkE, e.ok := fun e he => by
        obtain ⟨y, hy, rfl⟩ := List.mem_map.1 he
        exact mkE_ok (b4 y hy) (by have := sum_mem hy; omega)
      have hbd := bnd_read l b4
      have hEv : EvV (uf (owL 2 (ets (l.map mkE)))) (l.map mkE) := ⟨hW, hokE, by rw [List.length_map]; omega⟩
      refine ⟨rfl, _, _, p_print8 t3 (by unfold I64; omega) (l.map mkE) _ hEv (by omega), ?_⟩
      rcases ptE_read b1 b2 b3 b4 with h2 | h2
      · exact .inl h2
      · exact .inr ⟨h2, back_pt t3 _ _ hW hokE (by omega) h2⟩
    · left
      rcases hbad with h | ⟨_, h⟩
      · exact absurd h h0
      · simp only [Prod.mk.injEq] at h
        obtain ⟨rfl, rfl⟩ := h
        exact ⟨by simp [h0], rfl, rfl⟩
  rw [CL_eq (fn := x9) rfl]
  have n0 : lensK false AV.nilsl = some (.int .i64 0) := rfl
  rcases hA with c1 | ⟨rfl, c1⟩ | ⟨rfl, c1, N, pN, uN, dN, fN, iN, hN1, hN2⟩
  · rcases hB with c2 | ⟨rfl, w, pw, uw, dw, fw, hB1, hB2⟩
    · rcases hC with ⟨c3, rfl, rfl⟩ | ⟨rfl, S3, e4, hPQ, rfl | ⟨rfl, y, py, uy, dy, fy, hC1, hC2⟩⟩
      · simp +contextual -implicitDefEqProofs (maxSteps := 10000000) only [x9, go_sem, ↓reduceIte, reduceCtorEq, Nat.reduceEqDiff, Nat.reduceAdd, c1, c2, c3, n0, hl, uv, fv, pu, uu, fu, hPS, hPP, hQ, stAt_topc, ldAt_topc]
      · simp +contextual -implicitDefEqProofs (maxSteps := 10000000) only [x9, go_sem, ↓reduceIte, reduceCtorEq, Nat.reduceEqDiff, Nat.reduceAdd, Int.reduceBNe, c1, c2, pW, uW, fW, hPQ, hl, uv, fv, pu, uu, fu, hPS, hPP, hQ, stAt_topc, ldAt_topc]
      · simp +contextual -implicitDefEqProofs (maxSteps := 10000000) only [x9, go_sem, ↓reduceIte, reduceCtorEq, Nat.reduceEqDiff, Nat.reduceAdd, Int.reduceBEq, Int.reduceBNe, c1, c2, pW, uW, fW, hPQ, py, uy, fy, hC1, hC2, hl, uv, fv, pu, uu, fu, hPS, hPP, hQ, stAt_topc, ldAt_topc]
    · rcases hC with ⟨c3, rfl, rfl⟩ | ⟨rfl, S3, e4, hPQ, rfl | ⟨rfl, y, py, uy, dy, fy, hC1, hC2⟩⟩
      · simp +contextual -implicitDefEqProofs (maxSteps := 10000000) only [x9, go_sem, ↓reduceIte, reduceCtorEq, Nat.reduceEqDiff, Nat.reduceAdd, Int.reduceBNe, c1, pw, uw, fw, hB1, hB2, c3, n0, hl, uv, fv, pu, uu, fu, hPS, hPP, hQ, stAt_topc, ldAt_topc]
      · simp +contextual -implicitDefEqProofs (maxSteps := 10000000) only [x9, go_sem, ↓reduceIte, reduceCtorEq, Nat.reduceEqDiff, Nat.reduceAdd, Int.reduceBNe, c1, pw, uw, fw, hB1, hB2, pW, uW, fW, hPQ, hl, uv, fv, pu, uu, fu, hPS, hPP, hQ, stAt_topc, ldAt_topc]
      · simp +contextual -implicitDefEqProofs (maxSteps := 10000000) only [x9, go_sem, ↓reduceIte, reduceCtorEq, Nat.reduceEqDiff, Nat.reduceAdd, Int.reduceBEq, Int.reduceBNe, c1, pw, uw, fw, hB1, hB2, pW, uW, fW, hPQ, py, uy, fy, hC1, hC2, hl, uv, fv, pu, uu, fu, hPS, hPP, hQ, stAt_topc, ldAt_topc]
  · rcases hB with c2 | ⟨rfl, w, pw, uw, dw, fw, hB1, hB2⟩
    · rcases hC with ⟨c3, rfl, rfl⟩ | ⟨rfl, S3, e4, hPQ, rfl | ⟨rfl, y, py, uy, dy, fy, hC1, hC2⟩⟩
      · simp +contextual -implicitDefEqProofs (maxSteps := 10000000) only [x9, go_sem, ↓reduceIte, reduceCtorEq, Nat.reduceEqDiff, Nat.reduceAdd, c1, c2, c3, n0, hl, uv, fv, pu, uu, fu, hPS, hPP, hQ, stAt_topc, ldAt_topc]
      · simp +contextual -implicitDefEqProofs (maxSteps := 10000000) only [x9, go_sem, ↓reduceIte, reduceCtorEq, Nat.reduceEqDiff, Nat.reduceAdd, Int.reduceBNe, c1, c2, pW, uW, fW, hPQ, hl, uv, fv, pu, uu, fu, hPS, hPP, hQ, stAt_topc, ldAt_topc]
      · simp +contextual -implicitDefEqProofs (maxSteps := 10000000) only [x9, go_sem, ↓reduceIte, reduceCtorEq, Nat.reduceEqDiff, Nat.reduceAdd, Int.reduceBEq, Int.reduceBNe, c1, c2, pW, uW, fW, hPQ, py, uy, fy, hC1, hC2, hl, uv, fv, pu, uu, fu, hPS, hPP, hQ, stAt_topc, ldAt_topc]
    · rcases hC with ⟨c3, rfl, rfl⟩ | ⟨rfl, S3, e4, hPQ, rfl | ⟨rfl, y, py, uy, dy, fy, hC1, hC2⟩⟩
      · simp +contextual -implicitDefEqProofs (maxSteps := 10000000) only [x9, go_sem, ↓reduceIte, reduceCtorEq, Nat.reduceEqDiff, Nat.reduceAdd, Int.reduceBNe, c1, pw, uw, fw, hB1, hB2, c3, n0, hl, uv, fv, pu, uu, fu, hPS, hPP, hQ, stAt_topc, ldAt_topc]
      · simp +contextual -implicitDefEqProofs (maxSteps := 10000000) only [x9, go_sem, ↓reduceIte, reduceCtorEq, Nat.reduceEqDiff, Nat.reduceAdd, Int.reduceBNe, c1, pw, uw, fw, hB1, hB2, pW, uW, fW, hPQ, hl, uv, fv, pu, uu, fu, hPS, hPP, hQ, stAt_topc, ldAt_topc]
      · simp +contextual -implicitDefEqProofs (maxSteps := 10000000) only [x9, go_sem, ↓reduceIte, reduceCtorEq, Nat.reduceEqDiff, Nat.reduceAdd, Int.reduceBEq, Int.reduceBNe, c1, pw, uw, fw, hB1, hB2, pW, uW, fW, hPQ, py, uy, fy, hC1, hC2, hl, uv, fv, pu, uu, fu, hPS, hPP, hQ, stAt_topc, ldAt_topc]
  · rcases hB with c2 | ⟨rfl, w, pw, uw, dw, fw, hB1, hB2⟩
    · rcases hC with ⟨c3, rfl, rfl⟩ | ⟨rfl, S3, e4, hPQ, rfl | ⟨rfl, y, py, uy, dy, fy, hC1, hC2⟩⟩
      · simp +contextual -implicitDefEqProofs (maxSteps := 10000000) only [x9, go_sem, ↓reduceIte, reduceCtorEq, Nat.reduceEqDiff, Nat.reduceAdd, c1, uN, dN, fN, hN1, hN2, c2, c3, n0, hl, uv, fv, pu, uu, fu, hPS, hPP, hQ, stAt_topc, ldAt_topc]
      · simp +contextual -implicitDefEqProofs (maxSteps := 10000000) only [x9, go_sem, ↓reduceIte, reduceCtorEq, Nat.reduceEqDiff, Nat.reduceAdd, Int.reduceBNe, c1, uN, dN, fN, hN1, hN2, c2, pW, uW, fW, hPQ, hl, uv, fv, pu, uu, fu, hPS, hPP, hQ, stAt_topc, ldAt_topc]
      · simp +contextual -implicitDefEqProofs (maxSteps := 10000000) only [x9, go_sem, ↓reduceIte, reduceCtorEq, Nat.reduceEqDiff, Nat.reduceAdd, Int.reduceBEq, Int.reduceBNe, c1, uN, dN, fN, hN1, hN2, c2, pW, uW, fW, hPQ, py, uy, fy, hC1, hC2, hl, uv, fv, pu, uu, fu, hPS, hPP, hQ, stAt_topc, ldAt_topc]
    · rcases hC with ⟨c3, rfl, rfl⟩ | ⟨rfl, S3, e4, hPQ, rfl | ⟨rfl, y, py, uy, dy, fy, hC1, hC2⟩⟩
      · simp +contextual -implicitDefEqProofs (maxSteps := 10000000) only [x9, go_sem, ↓reduceIte, reduceCtorEq, Nat.reduceEqDiff, Nat.reduceAdd, Int.reduceBNe, c1, uN, dN, fN, hN1, hN2, pw, uw, fw, hB1, hB2, c3, n0, hl, uv, fv, pu, uu, fu, hPS, hPP, hQ, stAt_topc, ldAt_topc]
      · simp +contextual -implicitDefEqProofs (maxSteps := 10000000) only [x9, go_sem, ↓reduceIte, reduceCtorEq, Nat.reduceEqDiff, Nat.reduceAdd, Int.reduceBNe, c1, uN, dN, fN, hN1, hN2, pw, uw, fw, hB1, hB2, pW, uW, fW, hPQ, hl, uv, fv, pu, uu, fu, hPS, hPP, hQ, stAt_topc, ldAt_topc]
      · simp +contextual -implicitDefEqProofs (maxSteps := 10000000) only [x9, go_sem, ↓reduceIte, reduceCtorEq, Nat.reduceEqDiff, Nat.reduceAdd, Int.reduceBEq, Int.reduceBNe, c1, uN, dN, fN, hN1, hN2, pw, uw, fw, hB1, hB2, pW, uW, fW, hPQ, py, uy, fy, hC1, hC2, hl, uv, fv, pu, uu, fu, hPS, hPP, hQ, stAt_topc, ldAt_topc]
end Go.Proofs.YtjbgceogkgpjpaaGreatDoor.Sx.T
