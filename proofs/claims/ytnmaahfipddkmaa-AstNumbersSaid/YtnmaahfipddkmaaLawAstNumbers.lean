/- The law AstNumbers holds: the call returns true and leaves memory as it was. No condition beside those of the given row. -/
import Derived.Test.YtnmaahfipddkmaaRows
import Derived.Test.YtnmaahfipddkmaaSxChecks
import Derived.Test.YtnmaahfipddkmaaTold
import Derived.WalkKit
import Derived.ProofKit
import Derived.OpenShut
import Derived.ShutString
import Derived.ChangeOld
import Derived.Below
import Derived.SizedLaws
namespace Go.Proofs.Ytnmaahfipddkmaa.astNumbers
open Go.ChangeShapes Go.WideShapes Go.ChangeAt Go.RowKit
open Go.ChangeMaps (open_string shut_string)
set_option linter.unusedVariables false
theorem own : ownKnob Try.prog.godebug = none := by kernel_rfl
theorem value : ∃ n, Sx.evCall Sx.T.X (fun _ => []) n 3 [] [] = some (.bool true, []) := Sx.CL_iff.1 Sx.T.tF22
set_option maxRecDepth 100000 in
theorem lifted (os : Os) (started : os.Started) (H : Type) (enc : TypeId × Value → H) :
    ReturnsInHanded {} Try.checked os 3 .any (Rows.astNumbersSpec.pre6 enc Try.prog Try.f3 Rows.astNumbersRow.domain false) (Rows.astNumbersSpec.post enc Try.prog Try.f3 false true false false) := by
  refine returnsInHanded_of_change_sized (C := Try.checked) own started (by kernel_rfl) Try.func3
    (ChangeSpec.witness6 (enc := enc) (C := Try.checked) false ⟨#[], #[], []⟩ 8 (by kernel_rfl) (by kernel_rfl) (by kernel_rfl) (by kernel_rfl)) ?_
  intro W base args ds gs before hval0 hW hcnd hsz0 _
  have hW' := hW
  obtain ⟨p, q, hA0, hV, rfl, hfz, hnd⟩ := hW
  have hA : DataW.TrodAll enc Try.prog W 0 (fun _ => true) true Try.f3.params.toList args.toList ds p := hA0
  rw [Try.params3] at hA
  obtain ⟨rfl, rfl, rfl⟩ := trodAll_none hA
  obtain ⟨rfl, rfl⟩ := trodVars_none hV
  obtain ⟨n, hn⟩ := value
  refine (Sx.law_true Sx.T.checked Sx.T.primsOk Sx.T.mixed hn (xs := #[]) (W := W) rfl (fun j u z hu hz => by simp at hu)).mono fun e W' ⟨he, bel⟩ => ?_
  subst he
  exact ⟨_, rfl, _, _, _, [], _, [], hW', trodAll_mk1 (shut_bool Try.underlying4 _), trodAll_mk0, rfl, bel.frame _, fun h => by cases h⟩
theorem over : Rows.astNumbersRow.holds Try.pinned (OpenSpec.ofChange Rows.astNumbersSpec) :=
  OpenClaim.holds_of_wide 3 Try.f3 rfl rfl rfl rfl rfl rfl rfl ⟨rfl, rfl, rfl, rfl, rfl⟩ rfl rfl rfl rfl rfl (by kernel_rfl) Try.func3 (by kernel_rfl)
    (of_decide_eq_true (by kernel_rfl)) (by unfold Func.isWrapper; first | (rw [if_pos (by decide +kernel)]; kernel_rfl) | (rw [if_neg (by decide +kernel)]; exact ⟨rfl, rfl⟩))
    (fun os started H enc _ => lifted os started H enc)
theorem proved : Rows.AstNumbersSaid := over
#print axioms proved
end Go.Proofs.Ytnmaahfipddkmaa.astNumbers
namespace Go.Proofs.Ytnmaahfipddkmaa
/-- The row, under a short name, for the claim. -/
theorem astNumbers_holds : Rows.AstNumbersSaid := astNumbers.proved
end Go.Proofs.Ytnmaahfipddkmaa
