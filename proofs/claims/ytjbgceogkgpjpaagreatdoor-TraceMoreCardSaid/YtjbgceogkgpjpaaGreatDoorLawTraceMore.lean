/- The law TraceMore holds: the call returns true, and each argument reads behind it as before; the variables that its row lists are tied to the program's text. No condition beside those of the given row. -/
import Derived.Test.YtjbgceogkgpjpaaGreatDoorRows
import Derived.Test.YtjbgceogkgpjpaaGreatDoorTie
import Derived.Test.YtjbgceogkgpjpaaGreatDoorCards
import Derived.Test.YtjbgceogkgpjpaaGreatDoorSxChecks
import Derived.Test.YtjbgceogkgpjpaaGreatDoorEvZ
import Derived.Test.YtjbgceogkgpjpaaGreatDoorLaid
import Derived.Test.YtjbgceogkgpjpaaGreatDoorTold
import Derived.Test.YtjbgceogkgpjpaaGreatDoorR
import Derived.Test.YtjbgceogkgpjpaaGreatDoorW
import Derived.Test.YtjbgceogkgpjpaaGreatDoorA
import Derived.Test.YtjbgceogkgpjpaaGreatDoorOpenT
import Derived.WalkKit
import Derived.ProofKit
import Derived.OpenShut
import Derived.ShutString
import Derived.ChangeOld
import Derived.Below
import Derived.Carry
import Derived.SizedLaws
import Derived.LaidMore
import Derived.Lay
import Derived.LaidHandle
import Derived.SevenTiedAt
import Derived.Stop.Joined
namespace Go.Proofs.YtjbgceogkgpjpaaGreatDoor.traceMore
open Go.ChangeShapes Go.WideShapes Go.ChangeAt Go.RowKit
open Go.ChangeMaps (open_string shut_string)
set_option linter.unusedVariables false
theorem own : ownKnob Tryz.prog.godebug = none := by kernel_rfl
/-- The variables that are plain data. -/
noncomputable def plainL : List (String × DataW Unit) := Rows.traceMoreRow.laid.filter fun x => x.2.handleName?.isNone
/-- The settled world, with the type's handle laid. -/
noncomputable def baseW (os : Os) : World :=
  let w0 := World.holding Tryz.prog os ⟨#[], #[], []⟩
  { w0 with heap := w0.heap.modify 0 fun
      | .cells _ t frozen => .cells #[.iface 161 (.agg #[.pointer (some ⟨9, 63, none⟩)])] t frozen
      | o => o }
/-- All the listed variables, laid. -/
noncomputable def laidW (os : Os) : World := (baseW os).layVars Tryz.prog plainL
theorem laidW_os (os : Os) : (laidW os).os = os := (World.layVars_os _ _ _).trans rfl
/-- A world that meets the condition. -/
theorem door_met (os : Os) (args : Array Value) : laidMetH Tryz.prog Rows.traceMoreRow.laid ((laidW os).forCall (fun _ _ => 0) ⟨#[], args, []⟩).memory := by
  have e1 : (plainL.filter fun x => (plainL.map (·.1)).contains x.1) = plainL := List.filter_eq_self.2 fun x hx => List.contains_iff_mem.2 (List.mem_map.2 ⟨x, hx, rfl⟩)
  have e2 : (plainL.filter fun x => !(plainL.map (·.1)).contains x.1) = [] := List.filter_eq_nil_iff.2 fun x hx => by rw [List.contains_iff_mem.2 (List.mem_map.2 ⟨x, hx, rfl⟩)]; simp
  have h : laidMet Tryz.prog plainL (laidW os) := laidMet_layVars (w0 := baseW os) (plainL.map (·.1)) [] (by rw [e1]; rfl) (by rw [e1]; kernel_rfl) (by rw [e1]; kernel_rfl) (by rw [e2]; exact LaidIn.none)
  have h' : laidMet Tryz.prog plainL ((laidW os).forCall (fun _ _ => 0) ⟨#[], args, []⟩).memory := h.of_heap (by simp [World.memory, World.forCall, Input.heap])
  exact laidMetH_of_parts h' (by kernel_rfl)
set_option maxRecDepth 100000 in
theorem lifted (os : Os) (started : os.Started) (H : Type) (enc : TypeId × Value → H) :
    ReturnsInHanded {} Tryz.checked os 7 .any (fun w args => (Rows.traceMoreSpec.pre enc Tryz.prog Tryz.f7 Rows.traceMoreRow.domain false w args ∧ laidMetH Tryz.prog Rows.traceMoreRow.laid w) ∧ sizedMet enc Tryz.prog Tryz.f7 (OpenSpec.ofChange Rows.traceMoreSpec) false w args)
      (Rows.traceMoreSpec.post enc Tryz.prog Tryz.f7 false true false false) := by
  refine returnsInHanded_of_change_and (C := Tryz.checked) (X := fun w _ => laidMetH Tryz.prog Rows.traceMoreRow.laid w) (fun _ _ _ hh h => h.of_heap hh) own started (by kernel_rfl) Tryz.func7
    (ChangeSpec.witness_shaped (enc := enc) (C := Tryz.checked) (os := os) (X := fun w _ => laidMetH Tryz.prog Rows.traceMoreRow.laid w) false (laidW os) #[.slice none 0 0, .agg #[.string ⟨#[]⟩, .slice none 0 0], .agg #[.int .i64 0, .slice none 0 0]] 8 (laidW_os os) (World.shaped_of_ZipB (by kernel_rfl) (by kernel_rfl)) (by kernel_rfl) (by kernel_rfl) (by kernel_rfl) (door_met os _)) ?_
  intro W base args ds gs before hval0 hW hcnd hsz0 hL _
  have hval : ∀ (j : Nat) t v, Tryz.f7.params[j]? = some t → args[j]? = some v → Value.okWide Tryz.prog W .any base t v := hval0
  have hW' := hW
  obtain ⟨p, q, hA0, hV, rfl, hfz, hnd⟩ := hW
  have hA : DataW.TrodAll enc Tryz.prog W 0 (fun _ => true) true Tryz.f7.params.toList args.toList ds p := hA0
  rw [Tryz.params7] at hA hval
  obtain ⟨v0, vs0, d0, ds0, p0, q0, hargs, rfl, rfl, h0, r0⟩ := trodAll_cons hA
  obtain ⟨v1, vs1, d1, ds1, p1, q1, rfl, rfl, rfl, h1, r1⟩ := trodAll_cons r0
  obtain ⟨v2, vs2, d2, ds2, p2, q2, rfl, rfl, rfl, h2, r2⟩ := trodAll_cons r1
  obtain ⟨rfl, rfl, rfl⟩ := trodAll_nil r2
  obtain rfl : args = #[v0, v1, v2] := by cases args; simp_all
  obtain ⟨rfl, rfl⟩ := trodVars_none hV
  have hs0 : ∀ m ∈ d0.weights Tryz.prog 28, m ≤ reachBytes := fun m hm => by
    have hsz : (DataW.weightsEach Tryz.prog Tryz.f7.params.toList _).all (· ≤ reachBytes) = true := hsz0
    simpa using List.all_eq_true.1 hsz m (DataW.weights_mem_each (j := 0) (t := 28) (by kernel_rfl) rfl m hm)
  have k0 := h0
  obtain ⟨u0, a0, sv0, sb0, rl0, nf0⟩ := Sx.T.open_sig (hval 0 _ _ rfl rfl) h0 hs0
  have hs1 : ∀ m ∈ d1.weights Tryz.prog 44, m ≤ reachBytes := fun m hm => by
    have hsz : (DataW.weightsEach Tryz.prog Tryz.f7.params.toList _).all (· ≤ reachBytes) = true := hsz0
    simpa using List.all_eq_true.1 hsz m (DataW.weights_mem_each (j := 1) (t := 44) (by kernel_rfl) rfl m hm)
  have k1 := h1
  obtain ⟨a1, sv1, rl1, nf1⟩ := Sx.T.open_decl (hval 1 _ _ rfl rfl) h1 hs1
  have hs2 : ∀ m ∈ d2.weights Tryz.prog 26, m ≤ reachBytes := fun m hm => by
    have hsz : (DataW.weightsEach Tryz.prog Tryz.f7.params.toList _).all (· ≤ reachBytes) = true := hsz0
    simpa using List.all_eq_true.1 hsz m (DataW.weights_mem_each (j := 2) (t := 26) (by kernel_rfl) rfl m hm)
  have k2 := h2
  obtain ⟨a2t, u2, a2, wt2, sv2, sb2, rl2, nf2⟩ := Sx.T.open_point (hval 2 _ _ rfl rfl) h2 hs2
  clear hA0 hval0 hsz0
  refine (Sx.law_true_CLg Sx.T.checked Sx.T.primsOk Sx.T.mixed (Sx.T.v_TraceMore a0 u0 a1 a2t a2 u2 sv0 sb0 sv1 sv2) (xs := #[v0, v1, v2]) (W := W) (Sx.T.gv_of hL) rfl (by
    intro j u z hu hz
    match j with
    | 0 => (simp at hu hz; subst hu hz; exact ⟨rl0, nf0⟩)
    | 1 => (simp at hu hz; subst hu hz; exact ⟨rl1, nf1⟩)
    | 2 => (simp at hu hz; subst hu hz; exact ⟨rl2, nf2⟩)
    | j + 3 => simp at hu)).mono fun e W' ⟨he, bel⟩ => ?_
  subst he
  exact ⟨_, rfl, _, _, _, [], _, [], hW', trodAll_mk1 (shut_bool Tryz.underlying4 _), (trodAll_cons_mk (Below.trod Sx.T.laidOut (by kernel_rfl) (of_decide_eq_true (by kernel_rfl)) k0 bel (fun x hx => hW'.lt x (by simp [hx]))) (trodAll_cons_mk (Below.trod Sx.T.laidOut (by kernel_rfl) (of_decide_eq_true (by kernel_rfl)) k1 bel (fun x hx => hW'.lt x (by simp [hx]))) (trodAll_cons_mk (Below.trod Sx.T.laidOut (by kernel_rfl) (of_decide_eq_true (by kernel_rfl)) k2 bel (fun x hx => hW'.lt x (by simp [hx]))) trodAll_mk0))), rfl, bel.frame _, fun h => by cases h⟩
theorem over : Rows.TraceMoreSaid :=
  OpenClaim.holds_of_wide 7 Tryz.f7 rfl rfl rfl rfl rfl rfl rfl ⟨rfl, rfl, rfl, rfl, rfl⟩ rfl rfl rfl rfl rfl (by kernel_rfl) Tryz.func7 (by kernel_rfl)
    (of_decide_eq_true (by kernel_rfl)) (by unfold Func.isWrapper; first | (rw [if_pos (by decide +kernel)]; kernel_rfl) | (rw [if_neg (by decide +kernel)]; exact ⟨rfl, rfl⟩))
    (fun os started H enc _ => lifted os started H enc)
theorem proved : Rows.TraceMoreCardSaid :=
  Claim7.holds_tied_plain_at .later [] _ true _ true over (fun _ h => by cases h) (by kernel_rfl) (fun _ h => by cases h) traceMore_row_tie rfl ⟨rfl, rfl⟩ (by kernel_rfl) rfl
    (fun f fn hf hfn => by
      obtain rfl : f = 7 := Option.some.inj ((show Tryz.prog.funcNamed Rows.traceMoreRow.func = some 7 by kernel_rfl).symm.trans hf) |>.symm
      obtain rfl : fn = Tryz.f7 := (Option.some.inj (Tryz.func7.symm.trans hfn)).symm
      exact ⟨by kernel_rfl, fun j t ht => by
        have hm : t ∈ Tryz.f7.params.toList := by simpa using Array.mem_of_getElem? ht
        have hall : (Tryz.f7.params.toList.all fun u => !Tryz.prog.wantsStandIn u) = true := by kernel_rfl
        exact (show Tryz.prog.wantsStandIn t = false by simpa using List.all_eq_true.1 hall t hm)⟩)
    (by kernel_rfl)
#print axioms proved
end Go.Proofs.YtjbgceogkgpjpaaGreatDoor.traceMore
namespace Go.Proofs.YtjbgceogkgpjpaaGreatDoor
/-- The card, under a short name, for the claim. -/
theorem traceMore_holds : Rows.TraceMoreCardSaid := traceMore.proved
end Go.Proofs.YtjbgceogkgpjpaaGreatDoor
