/-
  NARROWER THAN 'FOR EVERY INPUT', by the rows' own cells (each row's printed sentence says how): AstChecks: loops · AstFrees: loops · AstParts: loops · AstSizes: loops.
  DERIVED. THE GIVEN ROWS OF THIS SEAT. 4 by the template 'for every input the law returns true; each argument reads behind the call as it read before'; 0 by the template 'total and deterministic' (their statements: YtnmaahfipddkmaaGreatTotals.lean).
  GIVEN WITH THE SEED: the statements are not yours to turn. If you find one false, say at which input.
  Laid BY PROGRAM, IN A SANDBOX (cutbox-rows.mjs): the forced cells as the released guide's own fill.sh prints them over the translation ffd9c1833e14c6bf… (all of the seat's roots in one cut). By AI agents, Wed Nov 11 2026. No macro, syntax, notation, axiom, sorry.
-/
import Derived.Test.YtnmaahfipddkmaaGreatChecked
import GoSem.Claim
import GoSem.ClaimJoined
import GoSem.ClaimMapViews
import Derived.JoinedTies
import Derived.KernelRfl
namespace Go.Proofs.YtnmaahfipddkmaaGreat
/- THE CELL 'sum', in the pinned program and in every row, IS THE sha256 OF THE DUMP (.gsa) THAT YtnmaahfipddkmaaGreatProg.lean LOADS. Nothing in Lean hashes anything: it is a label: what it is worth is what the hold of that sum in a sandbox is worth. -/
noncomputable def Tryz.pinned : Pinned := { name := "ytnmaahfipddkmaagreat", sum := "ffd9c1833e14c6bf33fa7f4d6f59514d45dc513841d993b5f6915fe2cbcc14ea", checked := Tryz.checked }
namespace Rows
def none {H : Type} : Left H := { results := [], args := [] }

/-- 'custoslaw06.AstChecks': WHATEVER THE INPUT: true; the input reads as it did. -/
def astChecksSpec : ChangeSpec := { name := "astChecks", fn := fun _ => fun
  | [d] => { results := [.lit (.bool true)], args := [d] }
  | _ => none }
def astChecksRow : OpenClaim := { program := "ytnmaahfipddkmaagreat", sum := "ffd9c1833e14c6bf33fa7f4d6f59514d45dc513841d993b5f6915fe2cbcc14ea", func := "custos/custoslaw06.AstChecks", spec := "astChecks", unfollowed := true, recurses := true, loops := true, apart := false }
def AstChecksSaid : Prop := astChecksRow.holds Tryz.pinned (OpenSpec.ofChange astChecksSpec)

/-- ITS FALSE NEIGHBOUR: 'it returns false'. Refute it at one input. -/
def astChecksWrong : ChangeSpec := { name := "astChecks", fn := fun _ => fun
  | [d] => { results := [.lit (.bool false)], args := [d] }
  | _ => none }
def AstChecksWrongFalsely : Prop := astChecksRow.holds Tryz.pinned (OpenSpec.ofChange astChecksWrong)

/-- 'custoslaw06.AstFrees': WHATEVER THE INPUT: true; the input reads as it did. -/
def astFreesSpec : ChangeSpec := { name := "astFrees", fn := fun _ => fun
  | [d1, d2] => { results := [.lit (.bool true)], args := [d1, d2] }
  | _ => none }
def astFreesRow : OpenClaim := { program := "ytnmaahfipddkmaagreat", sum := "ffd9c1833e14c6bf33fa7f4d6f59514d45dc513841d993b5f6915fe2cbcc14ea", func := "custos/custoslaw06.AstFrees", spec := "astFrees", unfollowed := true, recurses := true, loops := true, apart := false }
def AstFreesSaid : Prop := astFreesRow.holds Tryz.pinned (OpenSpec.ofChange astFreesSpec)

/-- ITS FALSE NEIGHBOUR: 'it returns false'. Refute it at one input. -/
def astFreesWrong : ChangeSpec := { name := "astFrees", fn := fun _ => fun
  | [d1, d2] => { results := [.lit (.bool false)], args := [d1, d2] }
  | _ => none }
def AstFreesWrongFalsely : Prop := astFreesRow.holds Tryz.pinned (OpenSpec.ofChange astFreesWrong)

/-- 'custoslaw06.AstParts': WHATEVER THE INPUT: true; the input reads as it did. -/
def astPartsSpec : ChangeSpec := { name := "astParts", fn := fun _ => fun
  | [d1, d2] => { results := [.lit (.bool true)], args := [d1, d2] }
  | _ => none }
def astPartsRow : OpenClaim := { program := "ytnmaahfipddkmaagreat", sum := "ffd9c1833e14c6bf33fa7f4d6f59514d45dc513841d993b5f6915fe2cbcc14ea", func := "custos/custoslaw06.AstParts", spec := "astParts", unfollowed := true, recurses := true, loops := true, apart := false }
def AstPartsSaid : Prop := astPartsRow.holds Tryz.pinned (OpenSpec.ofChange astPartsSpec)

/-- ITS FALSE NEIGHBOUR: 'it returns false'. Refute it at one input. -/
def astPartsWrong : ChangeSpec := { name := "astParts", fn := fun _ => fun
  | [d1, d2] => { results := [.lit (.bool false)], args := [d1, d2] }
  | _ => none }
def AstPartsWrongFalsely : Prop := astPartsRow.holds Tryz.pinned (OpenSpec.ofChange astPartsWrong)

/-- 'custoslaw06.AstSizes': WHATEVER THE INPUT: true; the input reads as it did. -/
def astSizesSpec : ChangeSpec := { name := "astSizes", fn := fun _ => fun
  | [d] => { results := [.lit (.bool true)], args := [d] }
  | _ => none }
def astSizesRow : OpenClaim := { program := "ytnmaahfipddkmaagreat", sum := "ffd9c1833e14c6bf33fa7f4d6f59514d45dc513841d993b5f6915fe2cbcc14ea", func := "custos/custoslaw06.AstSizes", spec := "astSizes", unfollowed := true, recurses := true, loops := true, apart := false }
def AstSizesSaid : Prop := astSizesRow.holds Tryz.pinned (OpenSpec.ofChange astSizesSpec)

/-- ITS FALSE NEIGHBOUR: 'it returns false'. Refute it at one input. -/
def astSizesWrong : ChangeSpec := { name := "astSizes", fn := fun _ => fun
  | [d] => { results := [.lit (.bool false)], args := [d] }
  | _ => none }
def AstSizesWrongFalsely : Prop := astSizesRow.holds Tryz.pinned (OpenSpec.ofChange astSizesWrong)

/- THE SECOND FORM. 'bulk': how many values and letters a reading holds, each counted each time it is reached (what is shared counts as often as it is met; a slice's spare places count too). A statement '..UptoSaid' is the law's where the arguments, and the package variables that the reading takes, are together of bulk at most 1048576: NARROWER than '..Said'. Prove '..Said' where nothing that the law and all that it calls make is longer than what came in: it says more and counts as full. Else prove '..UptoSaid'. A law counts once. -/
mutual
def uptoBulk {H : Type} : DataW H → Nat
  | .lit (.string bytes) => bytes.length + 1
  | .lit _ => 1
  | .nil => 1
  | .ptr d => uptoBulk d + 1
  | .slice elems spare => uptoBulkAll elems + uptoBulkAll spare + 1
  | .agg parts => uptoBulkAll parts + 1
  | .iface _ d => uptoBulk d + 1
  | .map entries => uptoBulkEntries entries + 1
  | .held _ => 1
def uptoBulkAll {H : Type} : List (DataW H) → Nat
  | [] => 0
  | d :: r => uptoBulk d + uptoBulkAll r
def uptoBulkEntries {H : Type} : List (Lit × DataW H) → Nat
  | [] => 0
  | x :: r => uptoBulkEntry x + uptoBulkEntries r
def uptoBulkEntry {H : Type} : Lit × DataW H → Nat
  | (.string bytes, d) => bytes.length + uptoBulk d + 1
  | (_, d) => uptoBulk d + 1
 end
def uptoSmall : (H : Type) → List (DataW H) → Bool := fun _ ds => decide (uptoBulkAll ds ≤ 1048576)
def OpenSpec.upto (s : _root_.Go.ChangeSpec) : _root_.Go.OpenSpec := { _root_.Go.OpenSpec.ofChange s with cond := some uptoSmall }

/-- 'custoslaw06.AstChecks', WHERE WHAT IT READS IS OF BULK AT MOST 1048576: true; the input reads as it did. -/
def astChecksUptoRow : OpenClaim := { program := "ytnmaahfipddkmaagreat", sum := "ffd9c1833e14c6bf33fa7f4d6f59514d45dc513841d993b5f6915fe2cbcc14ea", func := "custos/custoslaw06.AstChecks", spec := "astChecks", unfollowed := true, recurses := true, loops := true, apart := false, narrowed := true }
def AstChecksUptoSaid : Prop := astChecksUptoRow.holds Tryz.pinned (OpenSpec.upto astChecksSpec)

/-- 'custoslaw06.AstFrees', WHERE WHAT IT READS IS OF BULK AT MOST 1048576: true; the input reads as it did. -/
def astFreesUptoRow : OpenClaim := { program := "ytnmaahfipddkmaagreat", sum := "ffd9c1833e14c6bf33fa7f4d6f59514d45dc513841d993b5f6915fe2cbcc14ea", func := "custos/custoslaw06.AstFrees", spec := "astFrees", unfollowed := true, recurses := true, loops := true, apart := false, narrowed := true }
def AstFreesUptoSaid : Prop := astFreesUptoRow.holds Tryz.pinned (OpenSpec.upto astFreesSpec)

/-- 'custoslaw06.AstParts', WHERE WHAT IT READS IS OF BULK AT MOST 1048576: true; the input reads as it did. -/
def astPartsUptoRow : OpenClaim := { program := "ytnmaahfipddkmaagreat", sum := "ffd9c1833e14c6bf33fa7f4d6f59514d45dc513841d993b5f6915fe2cbcc14ea", func := "custos/custoslaw06.AstParts", spec := "astParts", unfollowed := true, recurses := true, loops := true, apart := false, narrowed := true }
def AstPartsUptoSaid : Prop := astPartsUptoRow.holds Tryz.pinned (OpenSpec.upto astPartsSpec)

/-- 'custoslaw06.AstSizes', WHERE WHAT IT READS IS OF BULK AT MOST 1048576: true; the input reads as it did. -/
def astSizesUptoRow : OpenClaim := { program := "ytnmaahfipddkmaagreat", sum := "ffd9c1833e14c6bf33fa7f4d6f59514d45dc513841d993b5f6915fe2cbcc14ea", func := "custos/custoslaw06.AstSizes", spec := "astSizes", unfollowed := true, recurses := true, loops := true, apart := false, narrowed := true }
def AstSizesUptoSaid : Prop := astSizesUptoRow.holds Tryz.pinned (OpenSpec.upto astSizesSpec)

end Rows
end Go.Proofs.YtnmaahfipddkmaaGreat
