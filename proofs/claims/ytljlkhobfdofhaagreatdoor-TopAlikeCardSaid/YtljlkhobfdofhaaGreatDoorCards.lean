/-
  DERIVED. GIVEN WITH THE SEED: THE CARDS: each row of YtljlkhobfdofhaaGreatDoorRows.lean that lists a variable, with what it lists TIED to the program's text (the seventh form; the later family's looks); each row that meets fmt, with fmt's text TOLD by the authors' own Lean function (tested against real Go, not proved from fmt's source: count such statements apart). THE CARD IS WHAT COUNTS. Prove the row's statement (the work); the ties are given (YtljlkhobfdofhaaGreatDoorTie.lean); close each card by the builder's one call (the guide's Derived/Test/ToyasCard.lean, 'card_holds'). Laid BY PROGRAM, IN A SANDBOX (cutbox-door.mjs). By AI agents, Wed Nov 11 2026. No macro, syntax, notation, axiom, sorry.
-/
import Derived.Test.YtljlkhobfdofhaaGreatDoorRows
import GoSem.ClaimSeven
namespace Go.Proofs.YtljlkhobfdofhaaGreatDoor
namespace Rows

/-- THE TIED CARD OF 'twaintop.TopPrinted'. -/
def topPrintedCard : Claim7 := { stood := { row := topPrintedRow, standIns := [], harness := (true, "cff5883505a5efafc9fb94c9089bd5b419484871168e721c0d273f3dc0c2e7dc"), looks := true }, kinds := [], alts := [], laidByText := true, laidKinds := [.data, .data, .data, .handle, .sentinel, .sentinel], laidTests := true, laidLooks := .later }
def TopPrintedCardSaid : Prop := Claim7.holds Tryz.pinned (.plain (OpenSpec.ofChange topPrintedSpec)) topPrintedCard

/-- THE TIED CARD OF 'twaintop.TopRejects'. -/
def topRejectsCard : Claim7 := { stood := { row := topRejectsRow, standIns := [], harness := (true, "cff5883505a5efafc9fb94c9089bd5b419484871168e721c0d273f3dc0c2e7dc"), looks := true }, kinds := [], alts := [], laidByText := true, laidKinds := [.data, .data, .data, .handle, .sentinel, .sentinel], laidTests := true, laidLooks := .later }
def TopRejectsCardSaid : Prop := Claim7.holds Tryz.pinned (.plain (OpenSpec.ofChange topRejectsSpec)) topRejectsCard

/-- THE TIED CARD OF 'twaintop.TopAlike'. -/
def topAlikeCard : Claim7 := { stood := { row := topAlikeRow, standIns := [], harness := (true, "cff5883505a5efafc9fb94c9089bd5b419484871168e721c0d273f3dc0c2e7dc"), looks := true }, kinds := [], alts := [], laidByText := true, laidKinds := [.data, .data, .data, .handle, .sentinel, .sentinel], laidTests := true, laidLooks := .later }
def TopAlikeCardSaid : Prop := Claim7.holds Tryz.pinned (.plain (OpenSpec.ofChange topAlikeSpec)) topAlikeCard

/-- THE TIED CARD OF 'twaintop.TopSettings'. -/
def topSettingsCard : Claim7 := { stood := { row := topSettingsRow, standIns := [], harness := (true, "cff5883505a5efafc9fb94c9089bd5b419484871168e721c0d273f3dc0c2e7dc"), looks := true }, kinds := [], alts := [], laidByText := true, laidKinds := [.data, .data, .data, .handle, .sentinel, .sentinel], laidTests := true, laidLooks := .later }
def TopSettingsCardSaid : Prop := Claim7.holds Tryz.pinned (.plain (OpenSpec.ofChange topSettingsSpec)) topSettingsCard

/-- THE SECOND FORM's CARD OF 'twaintop.TopPrinted'. -/
def topPrintedUptoCard : Claim7 := { stood := { row := topPrintedUptoRow, standIns := [], harness := (true, "cff5883505a5efafc9fb94c9089bd5b419484871168e721c0d273f3dc0c2e7dc"), looks := true }, kinds := [], alts := [], laidByText := true, laidKinds := [.data, .data, .data, .handle, .sentinel, .sentinel], laidTests := true, laidLooks := .later }
def TopPrintedUptoCardSaid : Prop := Claim7.holds Tryz.pinned (.plain (OpenSpec.upto topPrintedSpec)) topPrintedUptoCard

/-- THE SECOND FORM's CARD OF 'twaintop.TopRejects'. -/
def topRejectsUptoCard : Claim7 := { stood := { row := topRejectsUptoRow, standIns := [], harness := (true, "cff5883505a5efafc9fb94c9089bd5b419484871168e721c0d273f3dc0c2e7dc"), looks := true }, kinds := [], alts := [], laidByText := true, laidKinds := [.data, .data, .data, .handle, .sentinel, .sentinel], laidTests := true, laidLooks := .later }
def TopRejectsUptoCardSaid : Prop := Claim7.holds Tryz.pinned (.plain (OpenSpec.upto topRejectsSpec)) topRejectsUptoCard

/-- THE SECOND FORM's CARD OF 'twaintop.TopAlike'. -/
def topAlikeUptoCard : Claim7 := { stood := { row := topAlikeUptoRow, standIns := [], harness := (true, "cff5883505a5efafc9fb94c9089bd5b419484871168e721c0d273f3dc0c2e7dc"), looks := true }, kinds := [], alts := [], laidByText := true, laidKinds := [.data, .data, .data, .handle, .sentinel, .sentinel], laidTests := true, laidLooks := .later }
def TopAlikeUptoCardSaid : Prop := Claim7.holds Tryz.pinned (.plain (OpenSpec.upto topAlikeSpec)) topAlikeUptoCard

/-- THE SECOND FORM's CARD OF 'twaintop.TopSettings'. -/
def topSettingsUptoCard : Claim7 := { stood := { row := topSettingsUptoRow, standIns := [], harness := (true, "cff5883505a5efafc9fb94c9089bd5b419484871168e721c0d273f3dc0c2e7dc"), looks := true }, kinds := [], alts := [], laidByText := true, laidKinds := [.data, .data, .data, .handle, .sentinel, .sentinel], laidTests := true, laidLooks := .later }
def TopSettingsUptoCardSaid : Prop := Claim7.holds Tryz.pinned (.plain (OpenSpec.upto topSettingsSpec)) topSettingsUptoCard
end Rows
end Go.Proofs.YtljlkhobfdofhaaGreatDoor
