/- The law TracePrints holds: the call returns true, and each argument reads behind it as before; the variables that its row lists are tied to the program's text. What is read is of bulk 1048576 at most. -/
import Derived.Test.YtjbgceogkgpjpaaGreatDoorRows
import Derived.Test.YtjbgceogkgpjpaaGreatDoorTie
import Derived.Test.YtjbgceogkgpjpaaGreatDoorCards
import Derived.Test.YtjbgceogkgpjpaaGreatDoorSxChecks
import Derived.Test.YtjbgceogkgpjpaaGreatDoorEvZ
import Derived.Test.YtjbgceogkgpjpaaGreatDoorLaid
import Derived.Test.YtjbgceogkgpjpaaGreatDoorTold
import Derived.Test.YtjbgceogkgpjpaaGreatDoorR
import Derived.Test.YtjbgceogkgpjpaaGreatDoorW
import Derived.Test.YtjbgceogkgpjpaaGreatDoorV
import Derived.Test.YtjbgceogkgpjpaaGreatDoorA
import Derived.Test.YtjbgceogkgpjpaaGreatDoorOpenT
import Derived.Test.YtjbgceogkgpjpaaGreatDoorOpenU
import Derived.WalkKit
import Derived.ProofKit
import Derived.OpenShut
import Derived.ShutString
import Derived.ChangeOld
import Derived.Below
import Derived.Carry
import Derived.SizedLaws
import Derived.LaidMore
import Derived.Lay
import Derived.LaidHandle
import Derived.SevenTiedAt
import Derived.Stop.Joined
import Derived.Deep.DeepHandedRow
import Derived.Deep.DeepWitnessRowRef
namespace Go.Proofs.YtjbgceogkgpjpaaGreatDoor.tracePrints
open Go.ChangeShapes Go.WideShapes Go.ChangeAt Go.RowKit
open Go.ChangeMaps (open_string shut_string)
set_option linter.unusedVariables false
set_option linter.unusedSimpArgs false
theorem own : ownKnob Tryz.prog.godebug = none := by kernel_rfl
/-- The variables that are plain data. -/
noncomputable def plainL : List (String × DataW Unit) := Rows.tracePrintsUptoRow.laid.filter fun x => x.2.handleName?.isNone
/-- The settled world, with the type's handle laid. -/
noncomputable def baseW (os : Os) : World :=
  let w0 := World.holding Tryz.prog os ⟨#[], #[], []⟩
  { w0 with heap := w0.heap.modify 0 fun
      | .cells _ t frozen => .cells #[.iface 161 (.agg #[.pointer (some ⟨9, 63, none⟩)])] t frozen
      | o => o }
/-- All the listed variables, laid. -/
noncomputable def laidW (os : Os) : World := (baseW os).layVars Tryz.prog plainL
theorem laidW_os (os : Os) : (laidW os).os = os := (World.layVars_os _ _ _).trans rfl
/-- A world that meets the condition. -/
theorem door_met (os : Os) (args : Array Value) : laidMetH Tryz.prog Rows.tracePrintsUptoRow.laid ((laidW os).forCall (fun _ _ => 0) ⟨#[], args, []⟩).memory := by
  have e1 : (plainL.filter fun x => (plainL.map (·.1)).contains x.1) = plainL := List.filter_eq_self.2 fun x hx => List.contains_iff_mem.2 (List.mem_map.2 ⟨x, hx, rfl⟩)
  have e2 : (plainL.filter fun x => !(plainL.map (·.1)).contains x.1) = [] := List.filter_eq_nil_iff.2 fun x hx => by rw [List.contains_iff_mem.2 (List.mem_map.2 ⟨x, hx, rfl⟩)]; simp
  have h : laidMet Tryz.prog plainL (laidW os) := laidMet_layVars (w0 := baseW os) (plainL.map (·.1)) [] (by rw [e1]; rfl) (by rw [e1]; kernel_rfl) (by rw [e1]; kernel_rfl) (by rw [e2]; exact LaidIn.none)
  have h' : laidMet Tryz.prog plainL ((laidW os).forCall (fun _ _ => 0) ⟨#[], args, []⟩).memory := h.of_heap (by simp [World.memory, World.forCall, Input.heap])
  exact laidMetH_of_parts h' (by kernel_rfl)
theorem hokw (os : Os) : Input.okWideB Tryz.prog ((laidW os).forCall (fun _ _ => 0) ⟨#[], #[.agg #[.int .i64 0, .slice none 0 0]], []⟩) 6 ⟨#[], #[.agg #[.int .i64 0, .slice none 0 0]], []⟩ = true := by kernel_rfl
theorem reads (os : Os) {H : Type} (enc : TypeId × Value → H) : ∃ places, DataW.whole enc Tryz.prog ((laidW os).forCall (fun _ _ => 0) ⟨#[], #[.agg #[.int .i64 0, .slice none 0 0]], []⟩).memory Tryz.f6.params.toList Rows.tracePrintsSpec.vars false (#[.agg #[.int .i64 0, .slice none 0 0]] : Array Value).toList 8 = some ([.agg [.lit (.int .i64 0), .nil]], [], places) :=
  ⟨[], by kernel_rfl⟩
set_option maxRecDepth 100000 in
theorem contract (H : Type) (enc : TypeId × Value → H) (W : World) (base : Nat) (args : Array Value) (ds gs : List (DataW H)) (before : List MemPlace)
    (hval0 : ∀ (j : Nat) t v, Tryz.f6.params[j]? = some t → args[j]? = some v → Value.okWide Tryz.prog W .any base t v)
    (hW : DataW.Whole enc Tryz.prog Tryz.f6.params.toList Rows.tracePrintsSpec.vars false W args.toList ds gs before) (hk0 : Rows.uptoSmall H (ds ++ gs) = true) (hL : laidMetH Tryz.prog Rows.tracePrintsUptoRow.laid W) :
    Calls Tryz.prog 6 args W fun e W' => ∃ v, e = .returned v ∧ Rows.tracePrintsSpec.post enc Tryz.prog Tryz.f6 false true false false W args v W' := by
  have hval : ∀ (j : Nat) t v, Tryz.f6.params[j]? = some t → args[j]? = some v → Value.okWide Tryz.prog W .any base t v := hval0
  have hW' := hW
  obtain ⟨p, q, hA0, hV, rfl, hfz, hnd⟩ := hW
  have hA : DataW.TrodAll enc Tryz.prog W 0 (fun _ => true) true Tryz.f6.params.toList args.toList ds p := hA0
  rw [Tryz.params6] at hA hval
  obtain ⟨v0, vs0, d0, ds0, p0, q0, hargs, rfl, rfl, h0, r0⟩ := trodAll_cons hA
  obtain ⟨rfl, rfl, rfl⟩ := trodAll_nil r0
  obtain rfl : args = #[v0] := by cases args; simp_all
  obtain ⟨rfl, rfl⟩ := trodVars_none hV
  have hs0 : Rows.uptoBulk d0 ≤ 1048576 := by
    have hk := of_decide_eq_true hk0
    simp only [List.cons_append, List.nil_append, List.append_nil, Rows.uptoBulkAll] at hk
    omega
  have k0 := h0
  obtain ⟨a0t, u0, a0, wt0, sv0, sb0, rl0, nf0⟩ := Sx.T.open_pointB (hval 0 _ _ rfl rfl) h0 hs0
  have hk := of_decide_eq_true hk0
  simp only [List.cons_append, List.nil_append, List.append_nil, Rows.uptoBulkAll, Rows.uptoBulk] at hk
  clear hA0 hval0 hk0
  refine (Sx.law_true_CLg Sx.T.checked Sx.T.primsOk Sx.T.mixed (Sx.T.v_TracePrints a0t a0 u0 sv0 wt0 sb0) (xs := #[v0]) (W := W) (Sx.T.gv_of hL) rfl (by
    intro j u z hu hz
    match j with
    | 0 => (simp at hu hz; subst hu hz; exact ⟨rl0, nf0⟩)
    | j + 1 => simp at hu)).mono fun e W' ⟨he, bel⟩ => ?_
  subst he
  exact ⟨_, rfl, _, _, _, [], _, [], hW', trodAll_mk1 (shut_bool Tryz.underlying4 _), (trodAll_cons_mk (Below.trod Sx.T.laidOut (by kernel_rfl) (of_decide_eq_true (by kernel_rfl)) k0 bel (fun x hx => hW'.lt x (by simp [hx]))) trodAll_mk0), rfl, bel.frame _, fun h => by cases h⟩
set_option maxRecDepth 100000 in
theorem lifted (os : Os) (started : os.Started) (H : Type) (enc : TypeId × Value → H) (F : Stop.Interp) :
    ReturnsInHanded {} Tryz.checked os 6 .any ((Rows.OpenSpec.upto Rows.tracePrintsSpec).preRow enc Tryz.prog Tryz.f6 Rows.tracePrintsUptoRow.domain false Rows.tracePrintsUptoRow.laid) (((Rows.OpenSpec.upto Rows.tracePrintsSpec).at F).post enc Tryz.prog Tryz.f6 false true false false) := by
  obtain ⟨places, hx⟩ := reads os enc
  refine returnsInHanded_of_row (C := Tryz.checked) (s := Rows.OpenSpec.upto Rows.tracePrintsSpec) own started (by kernel_rfl) Tryz.func6
    ⟨laidW os, fun _ _ => 0, ⟨#[], #[.agg #[.int .i64 0, .slice none 0 0]], []⟩, laidW_os os, World.shaped_of_ZipB (by kernel_rfl) (by kernel_rfl), (Input.okWide_of_okWideB (base := 0) (hokw os)).1, (Input.okWide_of_okWideB (hokw os)).2, (OpenSpec.preRow_of_cond 8 hx (by kernel_rfl) (fun k hk => by cases hk; kernel_rfl) (by kernel_rfl) (door_met os _)), by
      simp only [Assume.holds]
      exact ⟨by simp, by simp, fun _ => Modest.zero, by simp, by simp⟩⟩ ?_
  intro W base args ds gs before hval hW _ hcond _ hL _ _
  exact contract H enc W base args ds gs before hval hW (hcond _ rfl) hL
theorem over : Rows.TracePrintsUptoSaid :=
  OpenClaim.holds_of_cond 6 Tryz.f6 rfl rfl rfl rfl rfl rfl rfl ⟨rfl, rfl, rfl, rfl, rfl⟩ rfl rfl rfl rfl rfl (by kernel_rfl) Tryz.func6 (by kernel_rfl)
    (of_decide_eq_true (by kernel_rfl)) (by unfold Func.isWrapper; first | (rw [if_pos (by decide +kernel)]; kernel_rfl) | (rw [if_neg (by decide +kernel)]; exact ⟨rfl, rfl⟩))
    (fun os started H enc _ F => by rw [OpenClaim.pre_eq_preRow]; exact lifted os started H enc F)
theorem proved : Rows.TracePrintsUptoCardSaid :=
  Claim7.holds_tied_plain_at .later [] _ _ _ _ over (fun _ h => by cases h) (by kernel_rfl) (fun _ h => by cases h) tracePrintsUpto_row_tie rfl ⟨rfl, rfl⟩ (by kernel_rfl) rfl
    (fun f fn hf hfn => by
      obtain rfl : f = 6 := Option.some.inj ((show Tryz.prog.funcNamed Rows.tracePrintsUptoRow.func = some 6 by kernel_rfl).symm.trans hf) |>.symm
      obtain rfl : fn = Tryz.f6 := (Option.some.inj (Tryz.func6.symm.trans hfn)).symm
      exact ⟨by kernel_rfl, fun j t ht => by
        have hm : t ∈ Tryz.f6.params.toList := by simpa using Array.mem_of_getElem? ht
        have hall : (Tryz.f6.params.toList.all fun u => !Tryz.prog.wantsStandIn u) = true := by kernel_rfl
        exact (show Tryz.prog.wantsStandIn t = false by simpa using List.all_eq_true.1 hall t hm)⟩)
    (by kernel_rfl)
#print axioms proved
end Go.Proofs.YtjbgceogkgpjpaaGreatDoor.tracePrints
namespace Go.Proofs.YtjbgceogkgpjpaaGreatDoor
/-- The card, under a short name, for the claim. -/
theorem tracePrints_holds : Rows.TracePrintsUptoCardSaid := tracePrints.proved
end Go.Proofs.YtjbgceogkgpjpaaGreatDoor
