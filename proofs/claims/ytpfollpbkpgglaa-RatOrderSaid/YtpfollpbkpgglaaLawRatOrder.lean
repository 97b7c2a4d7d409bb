/- The law RatOrder holds: the call returns true, and each argument reads behind it as before. No condition beside those of the given row. -/
import Derived.Test.YtpfollpbkpgglaaRows
import Derived.Test.YtpfollpbkpgglaaSxChecks
import Derived.Test.YtpfollpbkpgglaaEvZ
import Derived.Test.YtpfollpbkpgglaaR21
import Derived.WalkKit
import Derived.ProofKit
import Derived.OpenShut
import Derived.ShutString
import Derived.ChangeOld
import Derived.Below
import Derived.Carry
import Derived.SizedLaws
namespace Go.Proofs.Ytpfollpbkpgglaa.ratOrder
open Go.ChangeShapes Go.WideShapes Go.ChangeAt Go.RowKit
open Go.ChangeMaps (open_string shut_string)
set_option linter.unusedVariables false
theorem own : ownKnob Try.prog.godebug = none := by kernel_rfl
set_option maxRecDepth 100000 in
theorem lifted (os : Os) (started : os.Started) (H : Type) (enc : TypeId × Value → H) :
    ReturnsInHanded {} Try.checked os 7 .any (Rows.ratOrderSpec.pre6 enc Try.prog Try.f7 Rows.ratOrderRow.domain false) (Rows.ratOrderSpec.post enc Try.prog Try.f7 false true false false) := by
  refine returnsInHanded_of_change_sized (C := Try.checked) own started (by kernel_rfl) Try.func7
    (ChangeSpec.witness6 (enc := enc) (C := Try.checked) false ⟨#[], #[.agg #[.int .i64 0, .int .i64 0], .agg #[.int .i64 0, .int .i64 0], .agg #[.int .i64 0, .int .i64 0]], []⟩ 8 (by kernel_rfl) (by kernel_rfl) (by kernel_rfl) (by kernel_rfl)) ?_
  intro W base args ds gs before hval0 hW hcnd hsz0 _
  have hval : ∀ (j : Nat) t v, Try.f7.params[j]? = some t → args[j]? = some v → Value.okWide Try.prog W .any base t v := hval0
  have hW' := hW
  obtain ⟨p, q, hA0, hV, rfl, hfz, hnd⟩ := hW
  have hA : DataW.TrodAll enc Try.prog W 0 (fun _ => true) true Try.f7.params.toList args.toList ds p := hA0
  rw [Try.params7] at hA hval
  obtain ⟨v0, vs0, d0, ds0, p0, q0, hargs, rfl, rfl, h0, r0⟩ := trodAll_cons hA
  obtain ⟨v1, vs1, d1, ds1, p1, q1, rfl, rfl, rfl, h1, r1⟩ := trodAll_cons r0
  obtain ⟨v2, vs2, d2, ds2, p2, q2, rfl, rfl, rfl, h2, r2⟩ := trodAll_cons r1
  obtain ⟨rfl, rfl, rfl⟩ := trodAll_nil r2
  obtain rfl : args = #[v0, v1, v2] := by cases args; simp_all
  obtain ⟨rfl, rfl⟩ := trodVars_none hV
  have k0 := h0
  obtain ⟨ns0, rfl, l0, w0⟩ := Sx.open_ints_struct (k := .i64) Try.underlying23 (by intro i f hf; match i with | 0 => (simp at hf; subst hf; exact ⟨Try.underlying2, rfl, by kernel_rfl⟩) | 1 => (simp at hf; subst hf; exact ⟨Try.underlying2, rfl, by kernel_rfl⟩) | i + 2 => simp at hf) (by kernel_rfl) (hval 0 _ _ rfl rfl) h0
  obtain ⟨a0_0, a0_1, rfl⟩ := Sx.T.len2 l0
  have k1 := h1
  obtain ⟨ns1, rfl, l1, w1⟩ := Sx.open_ints_struct (k := .i64) Try.underlying23 (by intro i f hf; match i with | 0 => (simp at hf; subst hf; exact ⟨Try.underlying2, rfl, by kernel_rfl⟩) | 1 => (simp at hf; subst hf; exact ⟨Try.underlying2, rfl, by kernel_rfl⟩) | i + 2 => simp at hf) (by kernel_rfl) (hval 1 _ _ rfl rfl) h1
  obtain ⟨a1_0, a1_1, rfl⟩ := Sx.T.len2 l1
  have k2 := h2
  obtain ⟨ns2, rfl, l2, w2⟩ := Sx.open_ints_struct (k := .i64) Try.underlying23 (by intro i f hf; match i with | 0 => (simp at hf; subst hf; exact ⟨Try.underlying2, rfl, by kernel_rfl⟩) | 1 => (simp at hf; subst hf; exact ⟨Try.underlying2, rfl, by kernel_rfl⟩) | i + 2 => simp at hf) (by kernel_rfl) (hval 2 _ _ rfl rfl) h2
  obtain ⟨a2_0, a2_1, rfl⟩ := Sx.T.len2 l2
  clear hA0 hval0 hsz0
  refine (Sx.law_true_CL Sx.T.checked Sx.T.primsOk Sx.T.mixed (Sx.T.r7 a0_0 a0_1 a1_0 a1_1 a2_0 a2_1 (Sx.i64_wf (w0 _ (by simp))) (Sx.i64_wf (w0 _ (by simp))) (Sx.i64_wf (w1 _ (by simp))) (Sx.i64_wf (w1 _ (by simp))) (Sx.i64_wf (w2 _ (by simp))) (Sx.i64_wf (w2 _ (by simp))) []) (xs := #[.agg #[.int .i64 a0_0, .int .i64 a0_1], .agg #[.int .i64 a1_0, .int .i64 a1_1], .agg #[.int .i64 a2_0, .int .i64 a2_1]]) (W := W) rfl (by
    intro j u z hu hz
    match j with
    | 0 => (simp at hu hz; subst hu hz; exact ⟨Sx.rel_ints [a0_0, a0_1], trivial⟩)
    | 1 => (simp at hu hz; subst hu hz; exact ⟨Sx.rel_ints [a1_0, a1_1], trivial⟩)
    | 2 => (simp at hu hz; subst hu hz; exact ⟨Sx.rel_ints [a2_0, a2_1], trivial⟩)
    | j + 3 => simp at hu)).mono fun e W' ⟨he, bel⟩ => ?_
  subst he
  exact ⟨_, rfl, _, _, _, [], _, [], hW', trodAll_mk1 (shut_bool Try.underlying4 _), (trodAll_cons_mk (Below.trod Sx.T.laidOut (by kernel_rfl) (of_decide_eq_true (by kernel_rfl)) k0 bel (fun x hx => hW'.lt x (by simp [hx]))) (trodAll_cons_mk (Below.trod Sx.T.laidOut (by kernel_rfl) (of_decide_eq_true (by kernel_rfl)) k1 bel (fun x hx => hW'.lt x (by simp [hx]))) (trodAll_cons_mk (Below.trod Sx.T.laidOut (by kernel_rfl) (of_decide_eq_true (by kernel_rfl)) k2 bel (fun x hx => hW'.lt x (by simp [hx]))) trodAll_mk0))), rfl, bel.frame _, fun h => by cases h⟩
theorem over : Rows.ratOrderRow.holds Try.pinned (OpenSpec.ofChange Rows.ratOrderSpec) :=
  OpenClaim.holds_of_wide 7 Try.f7 rfl rfl rfl rfl rfl rfl rfl ⟨rfl, rfl, rfl, rfl, rfl⟩ rfl rfl rfl rfl rfl (by kernel_rfl) Try.func7 (by kernel_rfl)
    (of_decide_eq_true (by kernel_rfl)) (by unfold Func.isWrapper; first | (rw [if_pos (by decide +kernel)]; kernel_rfl) | (rw [if_neg (by decide +kernel)]; exact ⟨rfl, rfl⟩))
    (fun os started H enc _ => lifted os started H enc)
theorem proved : Rows.RatOrderSaid := over
#print axioms proved
end Go.Proofs.Ytpfollpbkpgglaa.ratOrder
namespace Go.Proofs.Ytpfollpbkpgglaa
/-- The row, under a short name, for the claim. -/
theorem ratOrder_holds : Rows.RatOrderSaid := ratOrder.proved
end Go.Proofs.Ytpfollpbkpgglaa
