/- SX, part V: code. -/
import Derived.Test.YtpfollpbkpgglaaSxU
import Derived.Control
set_option linter.unusedVariables false
set_option linter.unusedSimpArgs false
namespace Go.Proofs.Ytpfollpbkpgglaa.Sx
open Go
def supOps (xs : List XO) : Bool := xs.all fun x => supOp x.op
def supCode : XCode → Bool
  | .skip | .exit _ | .ret => true
  | .region _ xs _ => supOps xs
  | .seq a b => supCode a && supCode b
  | .cond _ a b => supCode a && supCode b
  | .block _ a => supCode a
  | .loop a => supCode a
  | _ => false
def exitOf : XExit → Exit
  | .normal => .normal
  | .exit id => .exit id
  | .goto l => .goto l
  | .ret => .ret
section
variable {P : Program} {C : CallT} {gl : Nat → List AV} {prims : List (Nat × Nat)} {nt N : Nat} {G0 G : Gh} {w0 w : World} {sz : Nat} {df : List Deferred} {act : Act}
theorem FInv.drew {fr : List AV} {hp : Heap} (h : FInv N G0 w0 sz df fr hp G act w) : FInv N G0 w0 sz df fr hp G act { w with drawn := w.drawn + 1 } := by
  have hE : ∀ A, Ext A G w G { w with drawn := w.drawn + 1 } := fun A => .of_same rfl rfl rfl (Nat.le_refl _) (fun _ _ => rfl) (fun _ _ => rfl) (fun _ _ h => h)
  exact {
    valid := ⟨h.valid.lev, h.valid.inj, h.valid.mkk, h.valid.oinj, h.valid.ok⟩
    size := h.size
    defers := h.defers
    slot := fun t => (h.slot t).ext h.valid (hE fun _ => False) rfl (fun _ _ h => h)
    heap := fun r b base blk hm hb => (h.heap r b base blk hm hb).ext h.valid (hE fun _ => False) rfl (fun _ => rfl) (fun _ _ _ h => h)
    names := h.names
    ext := h.ext.trans (hE fun _ => False) (fun _ _ h => h.elim)
    own := h.own
    fresh := h.fresh
    low := h.low
    hN := h.hN }
theorem wp_region_x (hC : CallOk P gl C) (hP : PrimOk P prims) (hg : GlOk G0 w0 gl) (hv0 : Valid G0 w0 N) (hmix : P.follows .mixedOrders = true) (hnt : nt ≤ sz) {xs : List XO} {aps : List (Nat × Nat)} {id : Nat} {ops : Array Oper} {dr : Bool}
    (hsup : supOps xs = true) (hchk : chkOps P prims nt ops.toList xs ops.toList = true) (hdraw : dr = true → drawOk xs ops.toList aps = true) {fr fr' : List AV} {hp hp' : Heap}
    (he : evOps C gl xs fr hp = some (fr', hp')) (haps : apsOk fr' aps = true) (hF : FInv N G0 w0 sz df fr hp G act w) {Q : Exit → Act → World → Prop}
    (hQ : ∀ G' act' w', FInv N G0 w0 sz df fr' hp' G' act' w' → Q .normal act' w') : (Code.region id ops dr).wp P Q act w := by
  obtain ⟨S, h0, hn, hS⟩ := trace he
  obtain ⟨h1, h2⟩ := chkOps_spec hchk
  have hR : Reg P C gl prims nt N xs ops S :=
    ⟨by simpa using h1, fun i x hx => List.all_eq_true.1 hsup x (List.mem_of_getElem? hx), fun i x o hx ho => h2 i x o hx (by simpa using ho), hS, by rw [h0]; exact hF.hN⟩
  have key : ∀ {w : World}, FInv N G0 w0 sz df fr hp G act w → FInv N G0 w0 sz df (S 0).1 (S 0).2 G act w ∧ GlOk G w gl := fun hF => ⟨by rw [h0]; exact hF, hg.ext hv0 hF.ext⟩
  cases dr with
  | false =>
    obtain ⟨hF0, hg0⟩ := key hF
    refine wp_region ?_
    rw [List.range_eq_range']
    refine rinv_text hR hC hP hg0 hF0.valid hnt hF0.names (df := df) (Q := Q) (fun G' act' w' hI => ?_) ops.size 0 (by rw [hR.len]; omega) (G' := G) ?_
    · have := rinv_done hR hF0 (fun j x hx => idx_lt hx) hI
      rw [hn] at this
      exact hQ _ _ _ this
    · have e : (fun j : Nat => j < 0) = fun _ : Nat => False := funext fun j => propext ⟨fun h => absurd h (Nat.not_lt_zero _), False.elim⟩
      rw [e]
      exact rinv_init hR hF0
  | true =>
    obtain ⟨hF0, hg0⟩ := key hF.drew
    refine wp_region_any hmix ?_
    refine rinv_any hR hC hP hg0 hF0.valid hnt hF0.names (hdraw rfl) (by rw [hn]; exact haps) (df := df) (Q := Q) (fun L G' act' w' hL hI => ?_) ops.size _ (by simp) ?_ ?_ (G' := G) ?_
    · have := rinv_done hR hF0 hL hI
      rw [hn] at this
      exact hQ _ _ _ this
    · exact Nat.le_trans List.countP_le_length (by simp)
    · intro j o ho hj
      simp [Array.getElem?_replicate] at hj
      split at hj <;> simp at hj
    · have e : (fun j => (Array.replicate ops.size false).getD j false = true) = fun _ : Nat => False := by
        refine funext fun j => propext ⟨fun h => ?_, fun h => h.elim⟩
        simp [Array.getElem?_replicate] at h
        split at h <;> simp at h
      rw [e]
      exact rinv_init hR hF0
theorem least {p : Nat → Prop} (h : ∃ k, p k) : ∃ k, p k ∧ ∀ j, p j → k ≤ j := by
  obtain ⟨k, hk⟩ := h
  induction k using Nat.strongRecOn with
  | _ k ih =>
    by_cases h2 : ∃ j, j < k ∧ p j
    · obtain ⟨j, hj, hpj⟩ := h2
      exact ih j hj hpj
    · exact ⟨k, hk, fun j hj => Nat.le_of_not_lt fun hlt => h2 ⟨j, hlt, hj⟩⟩
open Classical in noncomputable def leastOr (p : Nat → Prop) : Nat := if h : ∃ k, p k then Classical.choose (least h) else 0
theorem leastOr_spec {p : Nat → Prop} (h : ∃ k, p k) : p (leastOr p) ∧ ∀ j, p j → leastOr p ≤ j := by
  unfold leastOr
  rw [dif_pos h]
  exact Classical.choose_spec (least h)
theorem wp_code (hC : CallOk P gl C) (hP : PrimOk P prims) (hg : GlOk G0 w0 gl) (hv0 : Valid G0 w0 N) (hmix : P.follows .mixedOrders = true) (hnt : nt ≤ sz) (n : Nat) :
    ∀ (x : XCode) (c : Code), chkCode P prims nt x c = true → supCode x = true → ∀ {s s' : St} {e : XExit}, evCode C gl n x s = some (e, s') → ∀ {G : Gh} {act : Act} {w : World}, FInv N G0 w0 sz df s.fr s.hp G act w →
    ∀ {Q : Exit → Act → World → Prop}, (∀ G' act' w', FInv N G0 w0 sz df s'.fr s'.hp G' act' w' → Q (exitOf e) act' w') → c.wp P Q act w := by
  intro x
  induction x with
  | skip =>
    intro c hc _ s s' e he G act w hF Q hQ
    cases c <;> simp [chkCode] at hc
    simp only [evCode, Option.some.injEq, Prod.mk.injEq] at he
    obtain ⟨rfl, rfl⟩ := he
    exact wp_skip (hQ _ _ _ hF)
  | region dr xs aps =>
    intro c hc hsup s s' e he G act w hF Q hQ
    cases c <;> simp only [chkCode, Bool.false_eq_true] at hc
    simp only [Bool.and_eq_true, beq_iff_eq, Bool.or_eq_true, Bool.not_eq_true'] at hc
    obtain ⟨⟨h1, h2⟩, h3⟩ := hc
    subst h1
    simp only [evCode] at he
    split at he
    · rename_i fr' hp' hev
      split at he
      · rename_i haps
        simp only [Option.some.injEq, Prod.mk.injEq] at he
        obtain ⟨rfl, rfl⟩ := he
        exact wp_region_x hC hP hg hv0 hmix hnt hsup h2 (fun h => h3.resolve_left (by rw [h]; simp)) hev haps hF hQ
      · cases he
    · cases he
  | seq a b iha ihb =>
    intro c hc hsup s s' e he G act w hF Q hQ
    cases c <;> simp only [chkCode, Bool.false_eq_true] at hc
    simp only [Bool.and_eq_true] at hc
    simp only [supCode, Bool.and_eq_true] at hsup
    simp only [evCode] at he
    refine wp_seq ?_
    split at he
    · rename_i s1 he1
      exact iha _ hc.1 hsup.1 he1 hF fun G1 act1 w1 hF1 => ihb _ hc.2 hsup.2 he hF1 hQ
    · rename_i hne
      refine iha _ hc.1 hsup.1 he hF fun G1 act1 w1 hF1 => ?_
      cases e with
      | normal => exact absurd he (hne _)
      | exit id => exact hQ _ _ _ hF1
      | goto l => exact hQ _ _ _ hF1
      | ret => exact hQ _ _ _ hF1
  | cond x a b iha ihb =>
    intro c hc hsup s s' e he G act w hF Q hQ
    cases c <;> simp only [chkCode, Bool.false_eq_true] at hc
    simp only [Bool.and_eq_true] at hc
    simp only [supCode, Bool.and_eq_true] at hsup
    simp only [evCode] at he
    have hr := arg_rel (w := w) (G := G) (fr := s.fr) (act := act) hc.1.1 (fun t _ => hF.slot t)
    split at he
    · rename_i hx
      rw [hx] at hr
      rename_i o _ _ _
      cases hz : act.eval _ <;> rw [hz] at hr <;> cases hr
      exact wp_cond_true hz (iha _ hc.1.2 hsup.1 he hF hQ)
    · rename_i hx
      rw [hx] at hr
      cases hz : act.eval _ <;> rw [hz] at hr <;> cases hr
      exact wp_cond_false hz (ihb _ hc.2 hsup.2 he hF hQ)
    · cases he
  | block id a iha =>
    intro c hc hsup s s' e he G act w hF Q hQ
    cases c <;> simp only [chkCode, Bool.false_eq_true] at hc
    simp only [Bool.and_eq_true, beq_iff_eq] at hc
    obtain ⟨h1, h2⟩ := hc
    subst h1
    simp only [evCode] at he
    refine wp_block ?_
    split at he
    · rename_i i s1 he1
      refine iha _ h2 hsup he1 hF fun G1 act1 w1 hF1 => ?_
      simp only [exitOf, Exit.inBlock]
      split at he
      · rename_i hi
        simp only [Option.some.injEq, Prod.mk.injEq] at he
        obtain ⟨rfl, rfl⟩ := he
        rw [if_pos hi]
        exact hQ _ _ _ hF1
      · rename_i hi
        simp only [Option.some.injEq, Prod.mk.injEq] at he
        obtain ⟨rfl, rfl⟩ := he
        rw [if_neg hi]
        exact hQ _ _ _ hF1
    · rename_i hne
      refine iha _ h2 hsup he hF fun G1 act1 w1 hF1 => ?_
      cases e with
      | exit i => exact absurd he (hne _ _)
      | normal => exact hQ _ _ _ hF1
      | goto l => exact hQ _ _ _ hF1
      | ret => exact hQ _ _ _ hF1
  | loop a iha =>
    intro c hc hsup s s' e he G act w hF Q hQ
    cases c <;> simp only [chkCode, Bool.false_eq_true] at hc
    rename_i c
    simp only [evCode] at he
    let J : Act → World → Nat → Prop := fun a1 w1 k => ∃ G1 s1, FInv N G0 w0 sz df s1.fr s1.hp G1 a1 w1 ∧ evLoop (fun s => evCode C gl n a s) k s1 = some (e, s')
    refine wp_loop (fun a1 w1 => ∃ k, J a1 w1 k) (fun a1 w1 => leastOr (J a1 w1)) ⟨n, G, s, hF, he⟩ fun a1 w1 hI => ?_
    obtain ⟨⟨G1, s1, hF1, hev⟩, hmin⟩ := leastOr_spec hI
    cases hk : leastOr (J a1 w1) with
    | zero => rw [hk] at hev; cases hev
    | succ k =>
      rw [hk] at hev
      simp only [evLoop] at hev
      split at hev
      · rename_i s2 he2
        refine iha _ hc hsup he2 hF1 fun G2 a2 w2 hF2 => ?_
        have hJ : J a2 w2 k := ⟨G2, s2, hF2, hev⟩
        exact ⟨⟨k, hJ⟩, Nat.lt_of_le_of_lt ((leastOr_spec ⟨k, hJ⟩).2 k hJ) (Nat.lt_succ_self k)⟩
      · rename_i hne
        refine iha _ hc hsup hev hF1 fun G2 a2 w2 hF2 => ?_
        cases e with
        | normal => exact absurd hev (hne _)
        | exit i => exact hQ _ _ _ hF2
        | goto l => exact hQ _ _ _ hF2
        | ret => exact hQ _ _ _ hF2
  | exit id =>
    intro c hc _ s s' e he G act w hF Q hQ
    cases c <;> simp [chkCode] at hc
    subst hc
    simp only [evCode, Option.some.injEq, Prod.mk.injEq] at he
    obtain ⟨rfl, rfl⟩ := he
    exact wp_exit (hQ _ _ _ hF)
  | ret =>
    intro c hc _ s s' e he G act w hF Q hQ
    cases c <;> simp [chkCode] at hc
    simp only [evCode, Option.some.injEq, Prod.mk.injEq] at he
    obtain ⟨rfl, rfl⟩ := he
    exact wp_ret (hQ _ _ _ hF)
  | scope a _ => intro c _ hsup; cases hsup
  | label l => intro c _ hsup; cases hsup
  | goto l => intro c _ hsup; cases hsup
end
end Go.Proofs.Ytpfollpbkpgglaa.Sx
