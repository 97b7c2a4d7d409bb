/-
  DERIVED. GIVEN WITH THE SEED: THE CARDS: each row of YtjbgceogkgpjpaaGreatDoorRows.lean that lists a variable, with what it lists TIED to the program's text (the seventh form; the later family's looks); each row that meets fmt, with fmt's text TOLD by the authors' own Lean function (tested against real Go, not proved from fmt's source: count such statements apart). THE CARD IS WHAT COUNTS. Prove the row's statement (the work); the ties are given (YtjbgceogkgpjpaaGreatDoorTie.lean); close each card by the builder's one call (the guide's Derived/Test/ToyasCard.lean, 'card_holds'). Laid BY PROGRAM, IN A SANDBOX (cutbox-door.mjs). By AI agents, Wed Nov 11 2026. No macro, syntax, notation, axiom, sorry.
-/
import Derived.Test.YtjbgceogkgpjpaaGreatDoorRows
import GoSem.ClaimSeven
namespace Go.Proofs.YtjbgceogkgpjpaaGreatDoor
namespace Rows

/-- THE TIED CARD OF 'custoslaw08.TraceNumbers'. -/
def traceNumbersCard : Claim7 := { stood := { row := traceNumbersRow, standIns := [], harness := (true, "7e35c2f60e71b277b7ea30a7101e91b27e4ef2e8d1a623f3e0b8daa03361014e"), looks := true }, kinds := [], alts := [], laidByText := true, laidKinds := [.data, .data, .data, .data, .handle, .sentinel, .sentinel, .pinned], laidTests := true, laidLooks := .later }
def TraceNumbersCardSaid : Prop := Claim7.holds Tryz.pinned (.plain (OpenSpec.ofChange traceNumbersSpec)) traceNumbersCard

/-- THE TIED CARD OF 'custoslaw08.TraceChecks'. -/
def traceChecksCard : Claim7 := { stood := { row := traceChecksRow, standIns := [], harness := (true, "7e35c2f60e71b277b7ea30a7101e91b27e4ef2e8d1a623f3e0b8daa03361014e"), looks := true }, kinds := [], alts := [], laidByText := true, laidKinds := [.data, .data, .data, .data, .handle, .sentinel, .sentinel, .pinned], laidTests := true, laidLooks := .later }
def TraceChecksCardSaid : Prop := Claim7.holds Tryz.pinned (.plain (OpenSpec.ofChange traceChecksSpec)) traceChecksCard

/-- THE TIED CARD OF 'custoslaw08.TraceParses'. -/
def traceParsesCard : Claim7 := { stood := { row := traceParsesRow, standIns := [], harness := (true, "7e35c2f60e71b277b7ea30a7101e91b27e4ef2e8d1a623f3e0b8daa03361014e"), looks := true }, kinds := [], alts := [], laidByText := true, laidKinds := [.data, .data, .data, .data, .handle, .sentinel, .sentinel, .pinned], laidTests := true, laidLooks := .later }
def TraceParsesCardSaid : Prop := Claim7.holds Tryz.pinned (.plain (OpenSpec.ofChange traceParsesSpec)) traceParsesCard

/-- THE TIED CARD OF 'custoslaw08.TracePrints'. -/
def tracePrintsCard : Claim7 := { stood := { row := tracePrintsRow, standIns := [], harness := (true, "7e35c2f60e71b277b7ea30a7101e91b27e4ef2e8d1a623f3e0b8daa03361014e"), looks := true }, kinds := [], alts := [], laidByText := true, laidKinds := [.data, .data, .data, .data, .handle, .sentinel, .sentinel, .pinned], laidTests := true, laidLooks := .later }
def TracePrintsCardSaid : Prop := Claim7.holds Tryz.pinned (.plain (OpenSpec.ofChange tracePrintsSpec)) tracePrintsCard

/-- THE TIED CARD OF 'custoslaw08.TraceMore'. -/
def traceMoreCard : Claim7 := { stood := { row := traceMoreRow, standIns := [], harness := (true, "7e35c2f60e71b277b7ea30a7101e91b27e4ef2e8d1a623f3e0b8daa03361014e"), looks := true }, kinds := [], alts := [], laidByText := true, laidKinds := [.data, .data, .data, .data, .handle, .sentinel, .sentinel, .pinned], laidTests := true, laidLooks := .later }
def TraceMoreCardSaid : Prop := Claim7.holds Tryz.pinned (.plain (OpenSpec.ofChange traceMoreSpec)) traceMoreCard

/-- THE TIED CARD OF 'custoslaw08.TraceSignatures'. -/
def traceSignaturesCard : Claim7 := { stood := { row := traceSignaturesRow, standIns := [], harness := (true, "7e35c2f60e71b277b7ea30a7101e91b27e4ef2e8d1a623f3e0b8daa03361014e"), looks := true }, kinds := [], alts := [], laidByText := true, laidKinds := [.data, .data, .data, .data, .handle, .sentinel, .sentinel, .pinned], laidTests := true, laidLooks := .later }
def TraceSignaturesCardSaid : Prop := Claim7.holds Tryz.pinned (.plain (OpenSpec.ofChange traceSignaturesSpec)) traceSignaturesCard

/-- THE TIED CARD OF 'custoslaw08.TraceBack'. -/
def traceBackCard : Claim7 := { stood := { row := traceBackRow, standIns := [], harness := (true, "7e35c2f60e71b277b7ea30a7101e91b27e4ef2e8d1a623f3e0b8daa03361014e"), looks := true }, kinds := [], alts := [], laidByText := true, laidKinds := [.data, .data, .data, .data, .handle, .sentinel, .sentinel, .pinned], laidTests := true, laidLooks := .later }
def TraceBackCardSaid : Prop := Claim7.holds Tryz.pinned (.plain (OpenSpec.ofChange traceBackSpec)) traceBackCard

/-- THE SECOND FORM's CARD OF 'custoslaw08.TraceNumbers'. -/
def traceNumbersUptoCard : Claim7 := { stood := { row := traceNumbersUptoRow, standIns := [], harness := (true, "7e35c2f60e71b277b7ea30a7101e91b27e4ef2e8d1a623f3e0b8daa03361014e"), looks := true }, kinds := [], alts := [], laidByText := true, laidKinds := [.data, .data, .data, .data, .handle, .sentinel, .sentinel, .pinned], laidTests := true, laidLooks := .later }
def TraceNumbersUptoCardSaid : Prop := Claim7.holds Tryz.pinned (.plain (OpenSpec.upto traceNumbersSpec)) traceNumbersUptoCard

/-- THE SECOND FORM's CARD OF 'custoslaw08.TraceChecks'. -/
def traceChecksUptoCard : Claim7 := { stood := { row := traceChecksUptoRow, standIns := [], harness := (true, "7e35c2f60e71b277b7ea30a7101e91b27e4ef2e8d1a623f3e0b8daa03361014e"), looks := true }, kinds := [], alts := [], laidByText := true, laidKinds := [.data, .data, .data, .data, .handle, .sentinel, .sentinel, .pinned], laidTests := true, laidLooks := .later }
def TraceChecksUptoCardSaid : Prop := Claim7.holds Tryz.pinned (.plain (OpenSpec.upto traceChecksSpec)) traceChecksUptoCard

/-- THE SECOND FORM's CARD OF 'custoslaw08.TraceParses'. -/
def traceParsesUptoCard : Claim7 := { stood := { row := traceParsesUptoRow, standIns := [], harness := (true, "7e35c2f60e71b277b7ea30a7101e91b27e4ef2e8d1a623f3e0b8daa03361014e"), looks := true }, kinds := [], alts := [], laidByText := true, laidKinds := [.data, .data, .data, .data, .handle, .sentinel, .sentinel, .pinned], laidTests := true, laidLooks := .later }
def TraceParsesUptoCardSaid : Prop := Claim7.holds Tryz.pinned (.plain (OpenSpec.upto traceParsesSpec)) traceParsesUptoCard

/-- THE SECOND FORM's CARD OF 'custoslaw08.TracePrints'. -/
def tracePrintsUptoCard : Claim7 := { stood := { row := tracePrintsUptoRow, standIns := [], harness := (true, "7e35c2f60e71b277b7ea30a7101e91b27e4ef2e8d1a623f3e0b8daa03361014e"), looks := true }, kinds := [], alts := [], laidByText := true, laidKinds := [.data, .data, .data, .data, .handle, .sentinel, .sentinel, .pinned], laidTests := true, laidLooks := .later }
def TracePrintsUptoCardSaid : Prop := Claim7.holds Tryz.pinned (.plain (OpenSpec.upto tracePrintsSpec)) tracePrintsUptoCard

/-- THE SECOND FORM's CARD OF 'custoslaw08.TraceMore'. -/
def traceMoreUptoCard : Claim7 := { stood := { row := traceMoreUptoRow, standIns := [], harness := (true, "7e35c2f60e71b277b7ea30a7101e91b27e4ef2e8d1a623f3e0b8daa03361014e"), looks := true }, kinds := [], alts := [], laidByText := true, laidKinds := [.data, .data, .data, .data, .handle, .sentinel, .sentinel, .pinned], laidTests := true, laidLooks := .later }
def TraceMoreUptoCardSaid : Prop := Claim7.holds Tryz.pinned (.plain (OpenSpec.upto traceMoreSpec)) traceMoreUptoCard

/-- THE SECOND FORM's CARD OF 'custoslaw08.TraceSignatures'. -/
def traceSignaturesUptoCard : Claim7 := { stood := { row := traceSignaturesUptoRow, standIns := [], harness := (true, "7e35c2f60e71b277b7ea30a7101e91b27e4ef2e8d1a623f3e0b8daa03361014e"), looks := true }, kinds := [], alts := [], laidByText := true, laidKinds := [.data, .data, .data, .data, .handle, .sentinel, .sentinel, .pinned], laidTests := true, laidLooks := .later }
def TraceSignaturesUptoCardSaid : Prop := Claim7.holds Tryz.pinned (.plain (OpenSpec.upto traceSignaturesSpec)) traceSignaturesUptoCard

/-- THE SECOND FORM's CARD OF 'custoslaw08.TraceBack'. -/
def traceBackUptoCard : Claim7 := { stood := { row := traceBackUptoRow, standIns := [], harness := (true, "7e35c2f60e71b277b7ea30a7101e91b27e4ef2e8d1a623f3e0b8daa03361014e"), looks := true }, kinds := [], alts := [], laidByText := true, laidKinds := [.data, .data, .data, .data, .handle, .sentinel, .sentinel, .pinned], laidTests := true, laidLooks := .later }
def TraceBackUptoCardSaid : Prop := Claim7.holds Tryz.pinned (.plain (OpenSpec.upto traceBackSpec)) traceBackUptoCard
end Rows
end Go.Proofs.YtjbgceogkgpjpaaGreatDoor
