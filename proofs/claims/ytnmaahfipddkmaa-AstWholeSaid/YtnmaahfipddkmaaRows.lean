/-
  NARROWER THAN 'FOR EVERY INPUT', by the rows' own cells (each row's printed sentence says how): AstSames: loops · AstClones: loops · AstWhole: loops.
  DERIVED. THE GIVEN ROWS OF THIS SEAT. 5 by the template 'for every input the law returns true; each argument reads behind the call as it read before'; 0 by the template 'total and deterministic' (their statements: YtnmaahfipddkmaaTotals.lean).
  GIVEN WITH THE SEED: the statements are not yours to turn. If you find one false, say at which input.
  Laid BY PROGRAM, IN A SANDBOX (cutbox-rows.mjs): the forced cells as the released guide's own fill.sh prints them over the translation f65ed01df6ec7cf3… (all of the seat's roots in one cut). By AI agents, Wed Nov 11 2026. No macro, syntax, notation, axiom, sorry.
-/
import Derived.Test.YtnmaahfipddkmaaChecked
import GoSem.Claim
import GoSem.ClaimJoined
import GoSem.ClaimMapViews
import Derived.JoinedTies
import Derived.KernelRfl
namespace Go.Proofs.Ytnmaahfipddkmaa
/- THE CELL 'sum', in the pinned program and in every row, IS THE sha256 OF THE DUMP (.gsa) THAT YtnmaahfipddkmaaProg.lean LOADS. Nothing in Lean hashes anything: it is a label: what it is worth is what the hold of that sum in a sandbox is worth. -/
noncomputable def Try.pinned : Pinned := { name := "ytnmaahfipddkmaa", sum := "f65ed01df6ec7cf39e8552c1f14d9ed4af5ea1b410fde0eb06934e23143090e3", checked := Try.checked }
namespace Rows
def none {H : Type} : Left H := { results := [], args := [] }

/-- 'custoslaw06.AstNumbers': WHATEVER THE INPUT: true; the input reads as it did. -/
def astNumbersSpec : ChangeSpec := { name := "astNumbers", fn := fun _ => fun
  | [] => { results := [.lit (.bool true)], args := [] }
  | _ => none }
def astNumbersRow : OpenClaim := { program := "ytnmaahfipddkmaa", sum := "f65ed01df6ec7cf39e8552c1f14d9ed4af5ea1b410fde0eb06934e23143090e3", func := "custos/custoslaw06.AstNumbers", spec := "astNumbers", unfollowed := true, recurses := true, apart := false }
def AstNumbersSaid : Prop := astNumbersRow.holds Try.pinned (OpenSpec.ofChange astNumbersSpec)

/-- ITS FALSE NEIGHBOUR: 'it returns false'. Refute it at one input. -/
def astNumbersWrong : ChangeSpec := { name := "astNumbers", fn := fun _ => fun
  | [] => { results := [.lit (.bool false)], args := [] }
  | _ => none }
def AstNumbersWrongFalsely : Prop := astNumbersRow.holds Try.pinned (OpenSpec.ofChange astNumbersWrong)

/-- 'custoslaw06.AstNames': WHATEVER THE INPUT: true; the input reads as it did. -/
def astNamesSpec : ChangeSpec := { name := "astNames", fn := fun _ => fun
  | [d] => { results := [.lit (.bool true)], args := [d] }
  | _ => none }
def astNamesRow : OpenClaim := { program := "ytnmaahfipddkmaa", sum := "f65ed01df6ec7cf39e8552c1f14d9ed4af5ea1b410fde0eb06934e23143090e3", func := "custos/custoslaw06.AstNames", spec := "astNames", unfollowed := true, recurses := true, apart := false }
def AstNamesSaid : Prop := astNamesRow.holds Try.pinned (OpenSpec.ofChange astNamesSpec)

/-- ITS FALSE NEIGHBOUR: 'it returns false'. Refute it at one input. -/
def astNamesWrong : ChangeSpec := { name := "astNames", fn := fun _ => fun
  | [d] => { results := [.lit (.bool false)], args := [d] }
  | _ => none }
def AstNamesWrongFalsely : Prop := astNamesRow.holds Try.pinned (OpenSpec.ofChange astNamesWrong)

/-- 'custoslaw06.AstSames': WHATEVER THE INPUT: true; the input reads as it did. -/
def astSamesSpec : ChangeSpec := { name := "astSames", fn := fun _ => fun
  | [d1, d2] => { results := [.lit (.bool true)], args := [d1, d2] }
  | _ => none }
def astSamesRow : OpenClaim := { program := "ytnmaahfipddkmaa", sum := "f65ed01df6ec7cf39e8552c1f14d9ed4af5ea1b410fde0eb06934e23143090e3", func := "custos/custoslaw06.AstSames", spec := "astSames", unfollowed := true, recurses := true, loops := true, apart := false }
def AstSamesSaid : Prop := astSamesRow.holds Try.pinned (OpenSpec.ofChange astSamesSpec)

/-- ITS FALSE NEIGHBOUR: 'it returns false'. Refute it at one input. -/
def astSamesWrong : ChangeSpec := { name := "astSames", fn := fun _ => fun
  | [d1, d2] => { results := [.lit (.bool false)], args := [d1, d2] }
  | _ => none }
def AstSamesWrongFalsely : Prop := astSamesRow.holds Try.pinned (OpenSpec.ofChange astSamesWrong)

/-- 'custoslaw06.AstClones': WHATEVER THE INPUT: true; the input reads as it did. -/
def astClonesSpec : ChangeSpec := { name := "astClones", fn := fun _ => fun
  | [d] => { results := [.lit (.bool true)], args := [d] }
  | _ => none }
def astClonesRow : OpenClaim := { program := "ytnmaahfipddkmaa", sum := "f65ed01df6ec7cf39e8552c1f14d9ed4af5ea1b410fde0eb06934e23143090e3", func := "custos/custoslaw06.AstClones", spec := "astClones", unfollowed := true, recurses := true, loops := true, apart := false }
def AstClonesSaid : Prop := astClonesRow.holds Try.pinned (OpenSpec.ofChange astClonesSpec)

/-- ITS FALSE NEIGHBOUR: 'it returns false'. Refute it at one input. -/
def astClonesWrong : ChangeSpec := { name := "astClones", fn := fun _ => fun
  | [d] => { results := [.lit (.bool false)], args := [d] }
  | _ => none }
def AstClonesWrongFalsely : Prop := astClonesRow.holds Try.pinned (OpenSpec.ofChange astClonesWrong)

/-- 'custoslaw06.AstWhole': WHATEVER THE INPUT: true; the input reads as it did. -/
def astWholeSpec : ChangeSpec := { name := "astWhole", fn := fun _ => fun
  | [d] => { results := [.lit (.bool true)], args := [d] }
  | _ => none }
def astWholeRow : OpenClaim := { program := "ytnmaahfipddkmaa", sum := "f65ed01df6ec7cf39e8552c1f14d9ed4af5ea1b410fde0eb06934e23143090e3", func := "custos/custoslaw06.AstWhole", spec := "astWhole", unfollowed := true, recurses := true, loops := true, apart := false }
def AstWholeSaid : Prop := astWholeRow.holds Try.pinned (OpenSpec.ofChange astWholeSpec)

/-- ITS FALSE NEIGHBOUR: 'it returns false'. Refute it at one input. -/
def astWholeWrong : ChangeSpec := { name := "astWhole", fn := fun _ => fun
  | [d] => { results := [.lit (.bool false)], args := [d] }
  | _ => none }
def AstWholeWrongFalsely : Prop := astWholeRow.holds Try.pinned (OpenSpec.ofChange astWholeWrong)

/- THE SECOND FORM. 'bulk': how many values and letters a reading holds, each counted each time it is reached (what is shared counts as often as it is met; a slice's spare places count too). A statement '..UptoSaid' is the law's where the arguments, and the package variables that the reading takes, are together of bulk at most 1048576: NARROWER than '..Said'. Prove '..Said' where nothing that the law and all that it calls make is longer than what came in: it says more and counts as full. Else prove '..UptoSaid'. A law counts once. -/
mutual
def uptoBulk {H : Type} : DataW H → Nat
  | .lit (.string bytes) => bytes.length + 1
  | .lit _ => 1
  | .nil => 1
  | .ptr d => uptoBulk d + 1
  | .slice elems spare => uptoBulkAll elems + uptoBulkAll spare + 1
  | .agg parts => uptoBulkAll parts + 1
  | .iface _ d => uptoBulk d + 1
  | .map entries => uptoBulkEntries entries + 1
  | .held _ => 1
def uptoBulkAll {H : Type} : List (DataW H) → Nat
  | [] => 0
  | d :: r => uptoBulk d + uptoBulkAll r
def uptoBulkEntries {H : Type} : List (Lit × DataW H) → Nat
  | [] => 0
  | x :: r => uptoBulkEntry x + uptoBulkEntries r
def uptoBulkEntry {H : Type} : Lit × DataW H → Nat
  | (.string bytes, d) => bytes.length + uptoBulk d + 1
  | (_, d) => uptoBulk d + 1
 end
def uptoSmall : (H : Type) → List (DataW H) → Bool := fun _ ds => decide (uptoBulkAll ds ≤ 1048576)
def OpenSpec.upto (s : _root_.Go.ChangeSpec) : _root_.Go.OpenSpec := { _root_.Go.OpenSpec.ofChange s with cond := some uptoSmall }

/-- 'custoslaw06.AstNumbers', WHERE WHAT IT READS IS OF BULK AT MOST 1048576: true; the input reads as it did. -/
def astNumbersUptoRow : OpenClaim := { program := "ytnmaahfipddkmaa", sum := "f65ed01df6ec7cf39e8552c1f14d9ed4af5ea1b410fde0eb06934e23143090e3", func := "custos/custoslaw06.AstNumbers", spec := "astNumbers", unfollowed := true, recurses := true, apart := false, narrowed := true }
def AstNumbersUptoSaid : Prop := astNumbersUptoRow.holds Try.pinned (OpenSpec.upto astNumbersSpec)

/-- 'custoslaw06.AstNames', WHERE WHAT IT READS IS OF BULK AT MOST 1048576: true; the input reads as it did. -/
def astNamesUptoRow : OpenClaim := { program := "ytnmaahfipddkmaa", sum := "f65ed01df6ec7cf39e8552c1f14d9ed4af5ea1b410fde0eb06934e23143090e3", func := "custos/custoslaw06.AstNames", spec := "astNames", unfollowed := true, recurses := true, apart := false, narrowed := true }
def AstNamesUptoSaid : Prop := astNamesUptoRow.holds Try.pinned (OpenSpec.upto astNamesSpec)

/-- 'custoslaw06.AstSames', WHERE WHAT IT READS IS OF BULK AT MOST 1048576: true; the input reads as it did. -/
def astSamesUptoRow : OpenClaim := { program := "ytnmaahfipddkmaa", sum := "f65ed01df6ec7cf39e8552c1f14d9ed4af5ea1b410fde0eb06934e23143090e3", func := "custos/custoslaw06.AstSames", spec := "astSames", unfollowed := true, recurses := true, loops := true, apart := false, narrowed := true }
def AstSamesUptoSaid : Prop := astSamesUptoRow.holds Try.pinned (OpenSpec.upto astSamesSpec)

/-- 'custoslaw06.AstClones', WHERE WHAT IT READS IS OF BULK AT MOST 1048576: true; the input reads as it did. -/
def astClonesUptoRow : OpenClaim := { program := "ytnmaahfipddkmaa", sum := "f65ed01df6ec7cf39e8552c1f14d9ed4af5ea1b410fde0eb06934e23143090e3", func := "custos/custoslaw06.AstClones", spec := "astClones", unfollowed := true, recurses := true, loops := true, apart := false, narrowed := true }
def AstClonesUptoSaid : Prop := astClonesUptoRow.holds Try.pinned (OpenSpec.upto astClonesSpec)

/-- 'custoslaw06.AstWhole', WHERE WHAT IT READS IS OF BULK AT MOST 1048576: true; the input reads as it did. -/
def astWholeUptoRow : OpenClaim := { program := "ytnmaahfipddkmaa", sum := "f65ed01df6ec7cf39e8552c1f14d9ed4af5ea1b410fde0eb06934e23143090e3", func := "custos/custoslaw06.AstWhole", spec := "astWhole", unfollowed := true, recurses := true, loops := true, apart := false, narrowed := true }
def AstWholeUptoSaid : Prop := astWholeUptoRow.holds Try.pinned (OpenSpec.upto astWholeSpec)

end Rows
end Go.Proofs.Ytnmaahfipddkmaa
