/- The law RatBack holds: the call returns true, and each argument reads behind it as before. No condition beside those of the given row. -/
import Derived.Test.YtpfollpbkpgglaaRows
import Derived.Test.YtpfollpbkpgglaaSxChecks
import Derived.Test.YtpfollpbkpgglaaEvZ
import Derived.Test.YtpfollpbkpgglaaR20
import Derived.WalkKit
import Derived.ProofKit
import Derived.OpenShut
import Derived.ShutString
import Derived.ChangeOld
import Derived.Below
import Derived.Carry
import Derived.SizedLaws
namespace Go.Proofs.Ytpfollpbkpgglaa.ratBack
open Go.ChangeShapes Go.WideShapes Go.ChangeAt Go.RowKit
open Go.ChangeMaps (open_string shut_string)
set_option linter.unusedVariables false
theorem own : ownKnob Try.prog.godebug = none := by kernel_rfl
set_option maxRecDepth 100000 in
theorem lifted (os : Os) (started : os.Started) (H : Type) (enc : TypeId × Value → H) :
    ReturnsInHanded {} Try.checked os 9 .any (Rows.ratBackSpec.pre6 enc Try.prog Try.f9 Rows.ratBackRow.domain false) (Rows.ratBackSpec.post enc Try.prog Try.f9 false true false false) := by
  refine returnsInHanded_of_change_sized (C := Try.checked) own started (by kernel_rfl) Try.func9
    (ChangeSpec.witness6 (enc := enc) (C := Try.checked) false ⟨#[], #[.agg #[.int .i64 0, .int .i64 0, .int .i64 0, .int .i64 0]], []⟩ 8 (by kernel_rfl) (by kernel_rfl) (by kernel_rfl) (by kernel_rfl)) ?_
  intro W base args ds gs before hval0 hW hcnd hsz0 _
  have hval : ∀ (j : Nat) t v, Try.f9.params[j]? = some t → args[j]? = some v → Value.okWide Try.prog W .any base t v := hval0
  have hW' := hW
  obtain ⟨p, q, hA0, hV, rfl, hfz, hnd⟩ := hW
  have hA : DataW.TrodAll enc Try.prog W 0 (fun _ => true) true Try.f9.params.toList args.toList ds p := hA0
  rw [Try.params9] at hA hval
  obtain ⟨v0, vs0, d0, ds0, p0, q0, hargs, rfl, rfl, h0, r0⟩ := trodAll_cons hA
  obtain ⟨rfl, rfl, rfl⟩ := trodAll_nil r0
  obtain rfl : args = #[v0] := by cases args; simp_all
  obtain ⟨rfl, rfl⟩ := trodVars_none hV
  have k0 := h0
  obtain ⟨ns0, rfl, l0, w0⟩ := Sx.open_ints_struct (k := .i64) Try.underlying42 (by intro i f hf; match i with | 0 => (simp at hf; subst hf; exact ⟨Try.underlying2, rfl, by kernel_rfl⟩) | 1 => (simp at hf; subst hf; exact ⟨Try.underlying2, rfl, by kernel_rfl⟩) | 2 => (simp at hf; subst hf; exact ⟨Try.underlying2, rfl, by kernel_rfl⟩) | 3 => (simp at hf; subst hf; exact ⟨Try.underlying2, rfl, by kernel_rfl⟩) | i + 4 => simp at hf) (by kernel_rfl) (hval 0 _ _ rfl rfl) h0
  obtain ⟨a0_0, a0_1, a0_2, a0_3, rfl⟩ := Sx.T.len4 l0
  clear hA0 hval0 hsz0
  refine (Sx.law_true_CL Sx.T.checked Sx.T.primsOk Sx.T.mixed (Sx.T.r9 a0_0 a0_1 a0_2 a0_3 (Sx.i64_wf (w0 _ (by simp))) (Sx.i64_wf (w0 _ (by simp))) (Sx.i64_wf (w0 _ (by simp))) (Sx.i64_wf (w0 _ (by simp))) []) (xs := #[.agg #[.int .i64 a0_0, .int .i64 a0_1, .int .i64 a0_2, .int .i64 a0_3]]) (W := W) rfl (by
    intro j u z hu hz
    match j with
    | 0 => (simp at hu hz; subst hu hz; exact ⟨Sx.rel_ints [a0_0, a0_1, a0_2, a0_3], trivial⟩)
    | j + 1 => simp at hu)).mono fun e W' ⟨he, bel⟩ => ?_
  subst he
  exact ⟨_, rfl, _, _, _, [], _, [], hW', trodAll_mk1 (shut_bool Try.underlying4 _), (trodAll_cons_mk (Below.trod Sx.T.laidOut (by kernel_rfl) (of_decide_eq_true (by kernel_rfl)) k0 bel (fun x hx => hW'.lt x (by simp [hx]))) trodAll_mk0), rfl, bel.frame _, fun h => by cases h⟩
theorem over : Rows.ratBackRow.holds Try.pinned (OpenSpec.ofChange Rows.ratBackSpec) :=
  OpenClaim.holds_of_wide 9 Try.f9 rfl rfl rfl rfl rfl rfl rfl ⟨rfl, rfl, rfl, rfl, rfl⟩ rfl rfl rfl rfl rfl (by kernel_rfl) Try.func9 (by kernel_rfl)
    (of_decide_eq_true (by kernel_rfl)) (by unfold Func.isWrapper; first | (rw [if_pos (by decide +kernel)]; kernel_rfl) | (rw [if_neg (by decide +kernel)]; exact ⟨rfl, rfl⟩))
    (fun os started H enc _ => lifted os started H enc)
theorem proved : Rows.RatBackSaid := over
#print axioms proved
end Go.Proofs.Ytpfollpbkpgglaa.ratBack
namespace Go.Proofs.Ytpfollpbkpgglaa
/-- The row, under a short name, for the claim. -/
theorem ratBack_holds : Rows.RatBackSaid := ratBack.proved
end Go.Proofs.Ytpfollpbkpgglaa
