/-
  No cell of these rows narrows 'for every input' (looked for: loops, veiled, ifaces, maps, wideKeys, modest, calm, conditions, laid).
  DERIVED. THE GIVEN ROWS OF THIS SEAT. 7 by the template 'for every input the law returns true; each argument reads behind the call as it read before'; 0 by the template 'total and deterministic' (their statements: YtpfollpbkpgglaaTotals.lean).
  GIVEN WITH THE SEED: the statements are not yours to turn. If you find one false, say at which input.
  Laid BY PROGRAM, IN A SANDBOX (cutbox-rows.mjs): the forced cells as the released guide's own fill.sh prints them over the translation d2d63564ecee650d… (all of the seat's roots in one cut). By AI agents, Wed Nov 11 2026. No macro, syntax, notation, axiom, sorry.
-/
import Derived.Test.YtpfollpbkpgglaaChecked
import GoSem.Claim
import GoSem.ClaimJoined
import GoSem.ClaimMapViews
import Derived.JoinedTies
import Derived.KernelRfl
namespace Go.Proofs.Ytpfollpbkpgglaa
/- THE CELL 'sum', in the pinned program and in every row, IS THE sha256 OF THE DUMP (.gsa) THAT YtpfollpbkpgglaaProg.lean LOADS. Nothing in Lean hashes anything: it is a label: what it is worth is what the hold of that sum in a sandbox is worth. -/
noncomputable def Try.pinned : Pinned := { name := "ytpfollpbkpgglaa", sum := "d2d63564ecee650dbb3c0766bbfd3379e045cbf461e90ff715dbf2555655122e", checked := Try.checked }
namespace Rows
def none {H : Type} : Left H := { results := [], args := [] }

/-- 'custoslaw01.RatNumbers': WHATEVER THE INPUT: true; the input reads as it did. -/
def ratNumbersSpec : ChangeSpec := { name := "ratNumbers", fn := fun _ => fun
  | [] => { results := [.lit (.bool true)], args := [] }
  | _ => none }
def ratNumbersRow : OpenClaim := { program := "ytpfollpbkpgglaa", sum := "d2d63564ecee650dbb3c0766bbfd3379e045cbf461e90ff715dbf2555655122e", func := "custos/custoslaw01.RatNumbers", spec := "ratNumbers", inPlace := ["math/bits.Add64", "math/bits.Sub64"], named := ["math/bits.divideError", "math/bits.overflowError"], apart := false }
def RatNumbersSaid : Prop := ratNumbersRow.holds Try.pinned (OpenSpec.ofChange ratNumbersSpec)

/-- ITS FALSE NEIGHBOUR: 'it returns false'. Refute it at one input. -/
def ratNumbersWrong : ChangeSpec := { name := "ratNumbers", fn := fun _ => fun
  | [] => { results := [.lit (.bool false)], args := [] }
  | _ => none }
def RatNumbersWrongFalsely : Prop := ratNumbersRow.holds Try.pinned (OpenSpec.ofChange ratNumbersWrong)

/-- 'custoslaw01.RatMakes': WHATEVER THE INPUT: true; the input reads as it did. -/
def ratMakesSpec : ChangeSpec := { name := "ratMakes", fn := fun _ => fun
  | [d1, d2] => { results := [.lit (.bool true)], args := [d1, d2] }
  | _ => none }
def ratMakesRow : OpenClaim := { program := "ytpfollpbkpgglaa", sum := "d2d63564ecee650dbb3c0766bbfd3379e045cbf461e90ff715dbf2555655122e", func := "custos/custoslaw01.RatMakes", spec := "ratMakes", inPlace := ["math/bits.Add64", "math/bits.Sub64"], named := ["math/bits.divideError", "math/bits.overflowError"], apart := false }
def RatMakesSaid : Prop := ratMakesRow.holds Try.pinned (OpenSpec.ofChange ratMakesSpec)

/-- ITS FALSE NEIGHBOUR: 'it returns false'. Refute it at one input. -/
def ratMakesWrong : ChangeSpec := { name := "ratMakes", fn := fun _ => fun
  | [d1, d2] => { results := [.lit (.bool false)], args := [d1, d2] }
  | _ => none }
def RatMakesWrongFalsely : Prop := ratMakesRow.holds Try.pinned (OpenSpec.ofChange ratMakesWrong)

/-- 'custoslaw01.RatCompares': WHATEVER THE INPUT: true; the input reads as it did. -/
def ratComparesSpec : ChangeSpec := { name := "ratCompares", fn := fun _ => fun
  | [d1, d2] => { results := [.lit (.bool true)], args := [d1, d2] }
  | _ => none }
def ratComparesRow : OpenClaim := { program := "ytpfollpbkpgglaa", sum := "d2d63564ecee650dbb3c0766bbfd3379e045cbf461e90ff715dbf2555655122e", func := "custos/custoslaw01.RatCompares", spec := "ratCompares", inPlace := ["math/bits.Add64", "math/bits.Sub64"], named := ["math/bits.divideError", "math/bits.overflowError"], apart := false }
def RatComparesSaid : Prop := ratComparesRow.holds Try.pinned (OpenSpec.ofChange ratComparesSpec)

/-- ITS FALSE NEIGHBOUR: 'it returns false'. Refute it at one input. -/
def ratComparesWrong : ChangeSpec := { name := "ratCompares", fn := fun _ => fun
  | [d1, d2] => { results := [.lit (.bool false)], args := [d1, d2] }
  | _ => none }
def RatComparesWrongFalsely : Prop := ratComparesRow.holds Try.pinned (OpenSpec.ofChange ratComparesWrong)

/-- 'custoslaw01.RatSums': WHATEVER THE INPUT: true; the input reads as it did. -/
def ratSumsSpec : ChangeSpec := { name := "ratSums", fn := fun _ => fun
  | [d1, d2] => { results := [.lit (.bool true)], args := [d1, d2] }
  | _ => none }
def ratSumsRow : OpenClaim := { program := "ytpfollpbkpgglaa", sum := "d2d63564ecee650dbb3c0766bbfd3379e045cbf461e90ff715dbf2555655122e", func := "custos/custoslaw01.RatSums", spec := "ratSums", inPlace := ["math/bits.Add64", "math/bits.Sub64"], named := ["math/bits.divideError", "math/bits.overflowError"], apart := false }
def RatSumsSaid : Prop := ratSumsRow.holds Try.pinned (OpenSpec.ofChange ratSumsSpec)

/-- ITS FALSE NEIGHBOUR: 'it returns false'. Refute it at one input. -/
def ratSumsWrong : ChangeSpec := { name := "ratSums", fn := fun _ => fun
  | [d1, d2] => { results := [.lit (.bool false)], args := [d1, d2] }
  | _ => none }
def RatSumsWrongFalsely : Prop := ratSumsRow.holds Try.pinned (OpenSpec.ofChange ratSumsWrong)

/-- 'custoslaw01.RatOrder': WHATEVER THE INPUT: true; the input reads as it did. -/
def ratOrderSpec : ChangeSpec := { name := "ratOrder", fn := fun _ => fun
  | [d1, d2, d3] => { results := [.lit (.bool true)], args := [d1, d2, d3] }
  | _ => none }
def ratOrderRow : OpenClaim := { program := "ytpfollpbkpgglaa", sum := "d2d63564ecee650dbb3c0766bbfd3379e045cbf461e90ff715dbf2555655122e", func := "custos/custoslaw01.RatOrder", spec := "ratOrder", inPlace := ["math/bits.Add64", "math/bits.Sub64"], named := ["math/bits.divideError", "math/bits.overflowError"], apart := false }
def RatOrderSaid : Prop := ratOrderRow.holds Try.pinned (OpenSpec.ofChange ratOrderSpec)

/-- ITS FALSE NEIGHBOUR: 'it returns false'. Refute it at one input. -/
def ratOrderWrong : ChangeSpec := { name := "ratOrder", fn := fun _ => fun
  | [d1, d2, d3] => { results := [.lit (.bool false)], args := [d1, d2, d3] }
  | _ => none }
def RatOrderWrongFalsely : Prop := ratOrderRow.holds Try.pinned (OpenSpec.ofChange ratOrderWrong)

/-- 'custoslaw01.RatProducts': WHATEVER THE INPUT: true; the input reads as it did. -/
def ratProductsSpec : ChangeSpec := { name := "ratProducts", fn := fun _ => fun
  | [d1, d2] => { results := [.lit (.bool true)], args := [d1, d2] }
  | _ => none }
def ratProductsRow : OpenClaim := { program := "ytpfollpbkpgglaa", sum := "d2d63564ecee650dbb3c0766bbfd3379e045cbf461e90ff715dbf2555655122e", func := "custos/custoslaw01.RatProducts", spec := "ratProducts", inPlace := ["math/bits.Add64", "math/bits.Sub64"], named := ["math/bits.divideError", "math/bits.overflowError"], apart := false }
def RatProductsSaid : Prop := ratProductsRow.holds Try.pinned (OpenSpec.ofChange ratProductsSpec)

/-- ITS FALSE NEIGHBOUR: 'it returns false'. Refute it at one input. -/
def ratProductsWrong : ChangeSpec := { name := "ratProducts", fn := fun _ => fun
  | [d1, d2] => { results := [.lit (.bool false)], args := [d1, d2] }
  | _ => none }
def RatProductsWrongFalsely : Prop := ratProductsRow.holds Try.pinned (OpenSpec.ofChange ratProductsWrong)

/-- 'custoslaw01.RatBack': WHATEVER THE INPUT: true; the input reads as it did. -/
def ratBackSpec : ChangeSpec := { name := "ratBack", fn := fun _ => fun
  | [d] => { results := [.lit (.bool true)], args := [d] }
  | _ => none }
def ratBackRow : OpenClaim := { program := "ytpfollpbkpgglaa", sum := "d2d63564ecee650dbb3c0766bbfd3379e045cbf461e90ff715dbf2555655122e", func := "custos/custoslaw01.RatBack", spec := "ratBack", inPlace := ["math/bits.Add64", "math/bits.Sub64"], named := ["math/bits.divideError", "math/bits.overflowError"], apart := false }
def RatBackSaid : Prop := ratBackRow.holds Try.pinned (OpenSpec.ofChange ratBackSpec)

/-- ITS FALSE NEIGHBOUR: 'it returns false'. Refute it at one input. -/
def ratBackWrong : ChangeSpec := { name := "ratBack", fn := fun _ => fun
  | [d] => { results := [.lit (.bool false)], args := [d] }
  | _ => none }
def RatBackWrongFalsely : Prop := ratBackRow.holds Try.pinned (OpenSpec.ofChange ratBackWrong)

/- THE SECOND FORM. 'bulk': how many values and letters a reading holds, each counted each time it is reached (what is shared counts as often as it is met; a slice's spare places count too). A statement '..UptoSaid' is the law's where the arguments, and the package variables that the reading takes, are together of bulk at most 1048576: NARROWER than '..Said'. Prove '..Said' where nothing that the law and all that it calls make is longer than what came in: it says more and counts as full. Else prove '..UptoSaid'. A law counts once. -/
mutual
def uptoBulk {H : Type} : DataW H → Nat
  | .lit (.string bytes) => bytes.length + 1
  | .lit _ => 1
  | .nil => 1
  | .ptr d => uptoBulk d + 1
  | .slice elems spare => uptoBulkAll elems + uptoBulkAll spare + 1
  | .agg parts => uptoBulkAll parts + 1
  | .iface _ d => uptoBulk d + 1
  | .map entries => uptoBulkEntries entries + 1
  | .held _ => 1
def uptoBulkAll {H : Type} : List (DataW H) → Nat
  | [] => 0
  | d :: r => uptoBulk d + uptoBulkAll r
def uptoBulkEntries {H : Type} : List (Lit × DataW H) → Nat
  | [] => 0
  | x :: r => uptoBulkEntry x + uptoBulkEntries r
def uptoBulkEntry {H : Type} : Lit × DataW H → Nat
  | (.string bytes, d) => bytes.length + uptoBulk d + 1
  | (_, d) => uptoBulk d + 1
 end
def uptoSmall : (H : Type) → List (DataW H) → Bool := fun _ ds => decide (uptoBulkAll ds ≤ 1048576)
def OpenSpec.upto (s : _root_.Go.ChangeSpec) : _root_.Go.OpenSpec := { _root_.Go.OpenSpec.ofChange s with cond := some uptoSmall }

/-- 'custoslaw01.RatNumbers', WHERE WHAT IT READS IS OF BULK AT MOST 1048576: true; the input reads as it did. -/
def ratNumbersUptoRow : OpenClaim := { program := "ytpfollpbkpgglaa", sum := "d2d63564ecee650dbb3c0766bbfd3379e045cbf461e90ff715dbf2555655122e", func := "custos/custoslaw01.RatNumbers", spec := "ratNumbers", inPlace := ["math/bits.Add64", "math/bits.Sub64"], named := ["math/bits.divideError", "math/bits.overflowError"], apart := false, narrowed := true }
def RatNumbersUptoSaid : Prop := ratNumbersUptoRow.holds Try.pinned (OpenSpec.upto ratNumbersSpec)

/-- 'custoslaw01.RatMakes', WHERE WHAT IT READS IS OF BULK AT MOST 1048576: true; the input reads as it did. -/
def ratMakesUptoRow : OpenClaim := { program := "ytpfollpbkpgglaa", sum := "d2d63564ecee650dbb3c0766bbfd3379e045cbf461e90ff715dbf2555655122e", func := "custos/custoslaw01.RatMakes", spec := "ratMakes", inPlace := ["math/bits.Add64", "math/bits.Sub64"], named := ["math/bits.divideError", "math/bits.overflowError"], apart := false, narrowed := true }
def RatMakesUptoSaid : Prop := ratMakesUptoRow.holds Try.pinned (OpenSpec.upto ratMakesSpec)

/-- 'custoslaw01.RatCompares', WHERE WHAT IT READS IS OF BULK AT MOST 1048576: true; the input reads as it did. -/
def ratComparesUptoRow : OpenClaim := { program := "ytpfollpbkpgglaa", sum := "d2d63564ecee650dbb3c0766bbfd3379e045cbf461e90ff715dbf2555655122e", func := "custos/custoslaw01.RatCompares", spec := "ratCompares", inPlace := ["math/bits.Add64", "math/bits.Sub64"], named := ["math/bits.divideError", "math/bits.overflowError"], apart := false, narrowed := true }
def RatComparesUptoSaid : Prop := ratComparesUptoRow.holds Try.pinned (OpenSpec.upto ratComparesSpec)

/-- 'custoslaw01.RatSums', WHERE WHAT IT READS IS OF BULK AT MOST 1048576: true; the input reads as it did. -/
def ratSumsUptoRow : OpenClaim := { program := "ytpfollpbkpgglaa", sum := "d2d63564ecee650dbb3c0766bbfd3379e045cbf461e90ff715dbf2555655122e", func := "custos/custoslaw01.RatSums", spec := "ratSums", inPlace := ["math/bits.Add64", "math/bits.Sub64"], named := ["math/bits.divideError", "math/bits.overflowError"], apart := false, narrowed := true }
def RatSumsUptoSaid : Prop := ratSumsUptoRow.holds Try.pinned (OpenSpec.upto ratSumsSpec)

/-- 'custoslaw01.RatOrder', WHERE WHAT IT READS IS OF BULK AT MOST 1048576: true; the input reads as it did. -/
def ratOrderUptoRow : OpenClaim := { program := "ytpfollpbkpgglaa", sum := "d2d63564ecee650dbb3c0766bbfd3379e045cbf461e90ff715dbf2555655122e", func := "custos/custoslaw01.RatOrder", spec := "ratOrder", inPlace := ["math/bits.Add64", "math/bits.Sub64"], named := ["math/bits.divideError", "math/bits.overflowError"], apart := false, narrowed := true }
def RatOrderUptoSaid : Prop := ratOrderUptoRow.holds Try.pinned (OpenSpec.upto ratOrderSpec)

/-- 'custoslaw01.RatProducts', WHERE WHAT IT READS IS OF BULK AT MOST 1048576: true; the input reads as it did. -/
def ratProductsUptoRow : OpenClaim := { program := "ytpfollpbkpgglaa", sum := "d2d63564ecee650dbb3c0766bbfd3379e045cbf461e90ff715dbf2555655122e", func := "custos/custoslaw01.RatProducts", spec := "ratProducts", inPlace := ["math/bits.Add64", "math/bits.Sub64"], named := ["math/bits.divideError", "math/bits.overflowError"], apart := false, narrowed := true }
def RatProductsUptoSaid : Prop := ratProductsUptoRow.holds Try.pinned (OpenSpec.upto ratProductsSpec)

/-- 'custoslaw01.RatBack', WHERE WHAT IT READS IS OF BULK AT MOST 1048576: true; the input reads as it did. -/
def ratBackUptoRow : OpenClaim := { program := "ytpfollpbkpgglaa", sum := "d2d63564ecee650dbb3c0766bbfd3379e045cbf461e90ff715dbf2555655122e", func := "custos/custoslaw01.RatBack", spec := "ratBack", inPlace := ["math/bits.Add64", "math/bits.Sub64"], named := ["math/bits.divideError", "math/bits.overflowError"], apart := false, narrowed := true }
def RatBackUptoSaid : Prop := ratBackUptoRow.holds Try.pinned (OpenSpec.upto ratBackSpec)

end Rows
end Go.Proofs.Ytpfollpbkpgglaa
