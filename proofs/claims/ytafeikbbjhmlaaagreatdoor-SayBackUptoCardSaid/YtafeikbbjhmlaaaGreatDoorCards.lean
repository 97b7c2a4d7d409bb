/-
  DERIVED. GIVEN WITH THE SEED: THE CARDS: each row of YtafeikbbjhmlaaaGreatDoorRows.lean that lists a variable, with what it lists TIED to the program's text (the seventh form; the later family's looks); each row that meets fmt, with fmt's text TOLD by the authors' own Lean function (tested against real Go, not proved from fmt's source: count such statements apart). THE CARD IS WHAT COUNTS. Prove the row's statement (the work); the ties are given (YtafeikbbjhmlaaaGreatDoorTie.lean); close each card by the builder's one call (the guide's Derived/Test/ToyasCard.lean, 'card_holds'). Laid BY PROGRAM, IN A SANDBOX (cutbox-door.mjs). By AI agents, Wed Nov 11 2026. No macro, syntax, notation, axiom, sorry.
-/
import Derived.Test.YtafeikbbjhmlaaaGreatDoorRows
import GoSem.ClaimSeven
namespace Go.Proofs.YtafeikbbjhmlaaaGreatDoor
namespace Rows

/-- THE TIED CARD OF 'custoslaw21.SayTables'. -/
def sayTablesCard : Claim7 := { stood := { row := sayTablesRow, standIns := [], harness := (true, "fc5d0b28fd72f7eb26bbcea2016a3edde50284b06a1bcd914ffb1e2ec8575fe2"), looks := true }, kinds := [], alts := [], laidByText := true, laidKinds := [.data, .data, .data, .sentinel, .sentinel, .listed, .data], laidTests := true, laidLooks := .later }
def SayTablesCardSaid : Prop := Claim7.holds Tryz.pinned (.plain (OpenSpec.ofChange sayTablesSpec)) sayTablesCard

/-- THE TIED CARD OF 'custoslaw21.SaySheets'. -/
def saySheetsCard : Claim7 := { stood := { row := saySheetsRow, standIns := [], harness := (true, "fc5d0b28fd72f7eb26bbcea2016a3edde50284b06a1bcd914ffb1e2ec8575fe2"), looks := true }, kinds := [], alts := [], laidByText := true, laidKinds := [.data, .data, .data, .sentinel, .sentinel, .listed, .data], laidTests := true, laidLooks := .later }
def SaySheetsCardSaid : Prop := Claim7.holds Tryz.pinned (.plain (OpenSpec.ofChange saySheetsSpec)) saySheetsCard

/-- THE TIED CARD OF 'custoslaw21.SayParses'. -/
def sayParsesCard : Claim7 := { stood := { row := sayParsesRow, standIns := [], harness := (true, "fc5d0b28fd72f7eb26bbcea2016a3edde50284b06a1bcd914ffb1e2ec8575fe2"), looks := true }, kinds := [], alts := [], laidByText := true, laidKinds := [.data, .data, .data, .sentinel, .sentinel, .listed, .data], laidTests := true, laidLooks := .later }
def SayParsesCardSaid : Prop := Claim7.holds Tryz.pinned (.plain (OpenSpec.ofChange sayParsesSpec)) sayParsesCard

/-- THE TIED CARD OF 'custoslaw21.SayBack'. -/
def sayBackCard : Claim7 := { stood := { row := sayBackRow, standIns := [], harness := (true, "fc5d0b28fd72f7eb26bbcea2016a3edde50284b06a1bcd914ffb1e2ec8575fe2"), looks := true }, kinds := [], alts := [], laidByText := true, laidKinds := [.data, .data, .data, .sentinel, .sentinel, .listed, .data], laidTests := true, laidLooks := .later }
def SayBackCardSaid : Prop := Claim7.holds Tryz.pinned (.plain (OpenSpec.ofChange sayBackSpec)) sayBackCard

/-- THE TIED CARD OF 'custoslaw21.SayUnlike'. -/
def sayUnlikeCard : Claim7 := { stood := { row := sayUnlikeRow, standIns := [], harness := (true, "fc5d0b28fd72f7eb26bbcea2016a3edde50284b06a1bcd914ffb1e2ec8575fe2"), looks := true }, kinds := [], alts := [], laidByText := true, laidKinds := [.data, .data, .data, .sentinel, .sentinel, .listed, .data], laidTests := true, laidLooks := .later }
def SayUnlikeCardSaid : Prop := Claim7.holds Tryz.pinned (.plain (OpenSpec.ofChange sayUnlikeSpec)) sayUnlikeCard

/-- THE SECOND FORM's CARD OF 'custoslaw21.SayTables'. -/
def sayTablesUptoCard : Claim7 := { stood := { row := sayTablesUptoRow, standIns := [], harness := (true, "fc5d0b28fd72f7eb26bbcea2016a3edde50284b06a1bcd914ffb1e2ec8575fe2"), looks := true }, kinds := [], alts := [], laidByText := true, laidKinds := [.data, .data, .data, .sentinel, .sentinel, .listed, .data], laidTests := true, laidLooks := .later }
def SayTablesUptoCardSaid : Prop := Claim7.holds Tryz.pinned (.plain (OpenSpec.upto sayTablesSpec)) sayTablesUptoCard

/-- THE SECOND FORM's CARD OF 'custoslaw21.SaySheets'. -/
def saySheetsUptoCard : Claim7 := { stood := { row := saySheetsUptoRow, standIns := [], harness := (true, "fc5d0b28fd72f7eb26bbcea2016a3edde50284b06a1bcd914ffb1e2ec8575fe2"), looks := true }, kinds := [], alts := [], laidByText := true, laidKinds := [.data, .data, .data, .sentinel, .sentinel, .listed, .data], laidTests := true, laidLooks := .later }
def SaySheetsUptoCardSaid : Prop := Claim7.holds Tryz.pinned (.plain (OpenSpec.upto saySheetsSpec)) saySheetsUptoCard

/-- THE SECOND FORM's CARD OF 'custoslaw21.SayParses'. -/
def sayParsesUptoCard : Claim7 := { stood := { row := sayParsesUptoRow, standIns := [], harness := (true, "fc5d0b28fd72f7eb26bbcea2016a3edde50284b06a1bcd914ffb1e2ec8575fe2"), looks := true }, kinds := [], alts := [], laidByText := true, laidKinds := [.data, .data, .data, .sentinel, .sentinel, .listed, .data], laidTests := true, laidLooks := .later }
def SayParsesUptoCardSaid : Prop := Claim7.holds Tryz.pinned (.plain (OpenSpec.upto sayParsesSpec)) sayParsesUptoCard

/-- THE SECOND FORM's CARD OF 'custoslaw21.SayBack'. -/
def sayBackUptoCard : Claim7 := { stood := { row := sayBackUptoRow, standIns := [], harness := (true, "fc5d0b28fd72f7eb26bbcea2016a3edde50284b06a1bcd914ffb1e2ec8575fe2"), looks := true }, kinds := [], alts := [], laidByText := true, laidKinds := [.data, .data, .data, .sentinel, .sentinel, .listed, .data], laidTests := true, laidLooks := .later }
def SayBackUptoCardSaid : Prop := Claim7.holds Tryz.pinned (.plain (OpenSpec.upto sayBackSpec)) sayBackUptoCard

/-- THE SECOND FORM's CARD OF 'custoslaw21.SayUnlike'. -/
def sayUnlikeUptoCard : Claim7 := { stood := { row := sayUnlikeUptoRow, standIns := [], harness := (true, "fc5d0b28fd72f7eb26bbcea2016a3edde50284b06a1bcd914ffb1e2ec8575fe2"), looks := true }, kinds := [], alts := [], laidByText := true, laidKinds := [.data, .data, .data, .sentinel, .sentinel, .listed, .data], laidTests := true, laidLooks := .later }
def SayUnlikeUptoCardSaid : Prop := Claim7.holds Tryz.pinned (.plain (OpenSpec.upto sayUnlikeSpec)) sayUnlikeUptoCard
end Rows
end Go.Proofs.YtafeikbbjhmlaaaGreatDoor
