/- The law TraceBack holds: the call returns true, and each argument reads behind it as before; the variables that its row lists are tied to the program's text. What is read is of bulk 1048576 at most. -/
import Derived.Test.YtjbgceogkgpjpaaGreatDoorRows
import Derived.Test.YtjbgceogkgpjpaaGreatDoorTie
import Derived.Test.YtjbgceogkgpjpaaGreatDoorCards
import Derived.Test.YtjbgceogkgpjpaaGreatDoorSxChecks
import Derived.Test.YtjbgceogkgpjpaaGreatDoorEvZ
import Derived.Test.YtjbgceogkgpjpaaGreatDoorLaid
import Derived.Test.YtjbgceogkgpjpaaGreatDoorTold
import Derived.Test.YtjbgceogkgpjpaaGreatDoorR
import Derived.Test.YtjbgceogkgpjpaaGreatDoorV
import Derived.Test.YtjbgceogkgpjpaaGreatDoorW
import Derived.Test.YtjbgceogkgpjpaaGreatDoorU
import Derived.Test.YtjbgceogkgpjpaaGreatDoorA
import Derived.Test.YtjbgceogkgpjpaaGreatDoorB
import Derived.Test.YtjbgceogkgpjpaaGreatDoorOpenT
import Derived.Test.YtjbgceogkgpjpaaGreatDoorOpenU
import Derived.WalkKit
import Derived.ProofKit
import Derived.OpenShut
import Derived.ShutString
import Derived.ChangeOld
import Derived.Below
import Derived.Carry
import Derived.SizedLaws
import Derived.LaidMore
import Derived.Lay
import Derived.LaidHandle
import Derived.SevenTiedAt
import Derived.Stop.Joined
import Derived.Deep.DeepHandedRow
import Derived.Deep.DeepWitnessRowRef
namespace Go.Proofs.YtjbgceogkgpjpaaGreatDoor.traceBack
open Go.ChangeShapes Go.WideShapes Go.ChangeAt Go.RowKit
open Go.ChangeMaps (open_string shut_string)
set_option linter.unusedVariables false
set_option linter.unusedSimpArgs false
theorem own : ownKnob Tryz.prog.godebug = none := by kernel_rfl
/-- The variables that are plain data. -/
noncomputable def plainL : List (String × DataW Unit) := Rows.traceBackUptoRow.laid.filter fun x => x.2.handleName?.isNone
/-- The settled world, with the type's handle laid. -/
noncomputable def baseW (os : Os) : World :=
  let w0 := World.holding Tryz.prog os ⟨#[], #[], []⟩
  { w0 with heap := w0.heap.modify 0 fun
      | .cells _ t frozen => .cells #[.iface 161 (.agg #[.pointer (some ⟨9, 63, none⟩)])] t frozen
      | o => o }
/-- All the listed variables, laid. -/
noncomputable def laidW (os : Os) : World := (baseW os).layVars Tryz.prog plainL
theorem laidW_os (os : Os) : (laidW os).os = os := (World.layVars_os _ _ _).trans rfl
/-- A world that meets the condition. -/
theorem door_met (os : Os) (args : Array Value) : laidMetH Tryz.prog Rows.traceBackUptoRow.laid ((laidW os).forCall (fun _ _ => 0) ⟨#[], args, []⟩).memory := by
  have e1 : (plainL.filter fun x => (plainL.map (·.1)).contains x.1) = plainL := List.filter_eq_self.2 fun x hx => List.contains_iff_mem.2 (List.mem_map.2 ⟨x, hx, rfl⟩)
  have e2 : (plainL.filter fun x => !(plainL.map (·.1)).contains x.1) = [] := List.filter_eq_nil_iff.2 fun x hx => by rw [List.contains_iff_mem.2 (List.mem_map.2 ⟨x, hx, rfl⟩)]; simp
  have h : laidMet Tryz.prog plainL (laidW os) := laidMet_layVars (w0 := baseW os) (plainL.map (·.1)) [] (by rw [e1]; rfl) (by rw [e1]; kernel_rfl) (by rw [e1]; kernel_rfl) (by rw [e2]; exact LaidIn.none)
  have h' : laidMet Tryz.prog plainL ((laidW os).forCall (fun _ _ => 0) ⟨#[], args, []⟩).memory := h.of_heap (by simp [World.memory, World.forCall, Input.heap])
  exact laidMetH_of_parts h' (by kernel_rfl)
theorem hokw (os : Os) : Input.okWideB Tryz.prog ((laidW os).forCall (fun _ _ => 0) ⟨#[], #[.slice none 0 0, .agg #[.int .i64 0, .slice none 0 0], .string ⟨#[]⟩], []⟩) 9 ⟨#[], #[.slice none 0 0, .agg #[.int .i64 0, .slice none 0 0], .string ⟨#[]⟩], []⟩ = true := by kernel_rfl
theorem reads (os : Os) {H : Type} (enc : TypeId × Value → H) : ∃ places, DataW.whole enc Tryz.prog ((laidW os).forCall (fun _ _ => 0) ⟨#[], #[.slice none 0 0, .agg #[.int .i64 0, .slice none 0 0], .string ⟨#[]⟩], []⟩).memory Tryz.f9.params.toList Rows.traceBackSpec.vars false (#[.slice none 0 0, .agg #[.int .i64 0, .slice none 0 0], .string ⟨#[]⟩] : Array Value).toList 8 = some ([.nil, .agg [.lit (.int .i64 0), .nil], .lit (.string [])], [], places) :=
  ⟨[], by kernel_rfl⟩
set_option maxRecDepth 100000 in
theorem contract (H : Type) (enc : TypeId × Value → H) (W : World) (base : Nat) (args : Array Value) (ds gs : List (DataW H)) (before : List MemPlace)
    (hval0 : ∀ (j : Nat) t v, Tryz.f9.params[j]? = some t → args[j]? = some v → Value.okWide Tryz.prog W .any base t v)
    (hW : DataW.Whole enc Tryz.prog Tryz.f9.params.toList Rows.traceBackSpec.vars false W args.toList ds gs before) (hk0 : Rows.uptoSmall H (ds ++ gs) = true) (hL : laidMetH Tryz.prog Rows.traceBackUptoRow.laid W) :
    Calls Tryz.prog 9 args W fun e W' => ∃ v, e = .returned v ∧ Rows.traceBackSpec.post enc Tryz.prog Tryz.f9 false true false false W args v W' := by
  have hval : ∀ (j : Nat) t v, Tryz.f9.params[j]? = some t → args[j]? = some v → Value.okWide Tryz.prog W .any base t v := hval0
  have hW' := hW
  obtain ⟨p, q, hA0, hV, rfl, hfz, hnd⟩ := hW
  have hA : DataW.TrodAll enc Tryz.prog W 0 (fun _ => true) true Tryz.f9.params.toList args.toList ds p := hA0
  rw [Tryz.params9] at hA hval
  obtain ⟨v0, vs0, d0, ds0, p0, q0, hargs, rfl, rfl, h0, r0⟩ := trodAll_cons hA
  obtain ⟨v1, vs1, d1, ds1, p1, q1, rfl, rfl, rfl, h1, r1⟩ := trodAll_cons r0
  obtain ⟨v2, vs2, d2, ds2, p2, q2, rfl, rfl, rfl, h2, r2⟩ := trodAll_cons r1
  obtain ⟨rfl, rfl, rfl⟩ := trodAll_nil r2
  obtain rfl : args = #[v0, v1, v2] := by cases args; simp_all
  obtain ⟨rfl, rfl⟩ := trodVars_none hV
  have hs0 : Rows.uptoBulk d0 ≤ 1048576 := by
    have hk := of_decide_eq_true hk0
    simp only [List.cons_append, List.nil_append, List.append_nil, Rows.uptoBulkAll] at hk
    omega
  have k0 := h0
  obtain ⟨u0, a0, sv0, sb0, rl0, nf0⟩ := Sx.T.open_sigB (hval 0 _ _ rfl rfl) h0 hs0
  have hs1 : Rows.uptoBulk d1 ≤ 1048576 := by
    have hk := of_decide_eq_true hk0
    simp only [List.cons_append, List.nil_append, List.append_nil, Rows.uptoBulkAll] at hk
    omega
  have k1 := h1
  obtain ⟨a1t, u1, a1, wt1, sv1, sb1, rl1, nf1⟩ := Sx.T.open_pointB (hval 1 _ _ rfl rfl) h1 hs1
  have k2 := h2
  obtain ⟨a2, rfl, rfl, rfl, w2⟩ := open_string Tryz.underlying9 (hval 2 _ _ rfl rfl) h2
  have hk := of_decide_eq_true hk0
  simp only [List.cons_append, List.nil_append, List.append_nil, Rows.uptoBulkAll, Rows.uptoBulk] at hk
  have hb2 : a2.data.toList.length ≤ 1048576 := by omega
  clear hA0 hval0 hk0
  refine (Sx.law_true_CLg Sx.T.checked Sx.T.primsOk Sx.T.mixed (Sx.T.v_TraceBack a0 u0 a1t a1 u1 a2.data.toList sv0 sv1 wt1 sb1 hb2) (xs := #[v0, v1, .string a2]) (W := W) (Sx.T.gv_of hL) rfl (by
    intro j u z hu hz
    match j with
    | 0 => (simp at hu hz; subst hu hz; exact ⟨rl0, nf0⟩)
    | 1 => (simp at hu hz; subst hu hz; exact ⟨rl1, nf1⟩)
    | 2 => (simp at hu hz; subst hu hz; exact ⟨.str _, trivial⟩)
    | j + 3 => simp at hu)).mono fun e W' ⟨he, bel⟩ => ?_
  subst he
  exact ⟨_, rfl, _, _, _, [], _, [], hW', trodAll_mk1 (shut_bool Tryz.underlying4 _), (trodAll_cons_mk (Below.trod Sx.T.laidOut (by kernel_rfl) (of_decide_eq_true (by kernel_rfl)) k0 bel (fun x hx => hW'.lt x (by simp [hx]))) (trodAll_cons_mk (Below.trod Sx.T.laidOut (by kernel_rfl) (of_decide_eq_true (by kernel_rfl)) k1 bel (fun x hx => hW'.lt x (by simp [hx]))) (trodAll_cons_mk (shut_string Tryz.underlying9 w2) trodAll_mk0))), rfl, bel.frame _, fun h => by cases h⟩
set_option maxRecDepth 100000 in
theorem lifted (os : Os) (started : os.Started) (H : Type) (enc : TypeId × Value → H) (F : Stop.Interp) :
    ReturnsInHanded {} Tryz.checked os 9 .any ((Rows.OpenSpec.upto Rows.traceBackSpec).preRow enc Tryz.prog Tryz.f9 Rows.traceBackUptoRow.domain false Rows.traceBackUptoRow.laid) (((Rows.OpenSpec.upto Rows.traceBackSpec).at F).post enc Tryz.prog Tryz.f9 false true false false) := by
  obtain ⟨places, hx⟩ := reads os enc
  refine returnsInHanded_of_row (C := Tryz.checked) (s := Rows.OpenSpec.upto Rows.traceBackSpec) own started (by kernel_rfl) Tryz.func9
    ⟨laidW os, fun _ _ => 0, ⟨#[], #[.slice none 0 0, .agg #[.int .i64 0, .slice none 0 0], .string ⟨#[]⟩], []⟩, laidW_os os, World.shaped_of_ZipB (by kernel_rfl) (by kernel_rfl), (Input.okWide_of_okWideB (base := 0) (hokw os)).1, (Input.okWide_of_okWideB (hokw os)).2, (OpenSpec.preRow_of_cond 8 hx (by kernel_rfl) (fun k hk => by cases hk; kernel_rfl) (by kernel_rfl) (door_met os _)), by
      simp only [Assume.holds]
      exact ⟨by simp, by simp, fun _ => Modest.zero, by simp, by simp⟩⟩ ?_
  intro W base args ds gs before hval hW _ hcond _ hL _ _
  exact contract H enc W base args ds gs before hval hW (hcond _ rfl) hL
theorem over : Rows.TraceBackUptoSaid :=
  OpenClaim.holds_of_cond 9 Tryz.f9 rfl rfl rfl rfl rfl rfl rfl ⟨rfl, rfl, rfl, rfl, rfl⟩ rfl rfl rfl rfl rfl (by kernel_rfl) Tryz.func9 (by kernel_rfl)
    (of_decide_eq_true (by kernel_rfl)) (by unfold Func.isWrapper; first | (rw [if_pos (by decide +kernel)]; kernel_rfl) | (rw [if_neg (by decide +kernel)]; exact ⟨rfl, rfl⟩))
    (fun os started H enc _ F => by rw [OpenClaim.pre_eq_preRow]; exact lifted os started H enc F)
theorem proved : Rows.TraceBackUptoCardSaid :=
  Claim7.holds_tied_plain_at .later [] _ _ _ _ over (fun _ h => by cases h) (by kernel_rfl) (fun _ h => by cases h) traceBackUpto_row_tie rfl ⟨rfl, rfl⟩ (by kernel_rfl) rfl
    (fun f fn hf hfn => by
      obtain rfl : f = 9 := Option.some.inj ((show Tryz.prog.funcNamed Rows.traceBackUptoRow.func = some 9 by kernel_rfl).symm.trans hf) |>.symm
      obtain rfl : fn = Tryz.f9 := (Option.some.inj (Tryz.func9.symm.trans hfn)).symm
      exact ⟨by kernel_rfl, fun j t ht => by
        have hm : t ∈ Tryz.f9.params.toList := by simpa using Array.mem_of_getElem? ht
        have hall : (Tryz.f9.params.toList.all fun u => !Tryz.prog.wantsStandIn u) = true := by kernel_rfl
        exact (show Tryz.prog.wantsStandIn t = false by simpa using List.all_eq_true.1 hall t hm)⟩)
    (by kernel_rfl)
#print axioms proved
end Go.Proofs.YtjbgceogkgpjpaaGreatDoor.traceBack
namespace Go.Proofs.YtjbgceogkgpjpaaGreatDoor
/-- The card, under a short name, for the claim. -/
theorem traceBack_holds : Rows.TraceBackUptoCardSaid := traceBack.proved
end Go.Proofs.YtjbgceogkgpjpaaGreatDoor
