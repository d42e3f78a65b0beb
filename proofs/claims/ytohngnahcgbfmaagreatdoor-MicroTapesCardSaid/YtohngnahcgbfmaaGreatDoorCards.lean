/-
  DERIVED. GIVEN WITH THE SEED: THE CARDS: each row of YtohngnahcgbfmaaGreatDoorRows.lean that lists a variable, with what it lists TIED to the program's text (the seventh form; the later family's looks); each row that meets fmt, with fmt's text TOLD by the authors' own Lean function (tested against real Go, not proved from fmt's source: count such statements apart). THE CARD IS WHAT COUNTS. Prove the row's statement (the work); the ties are given (YtohngnahcgbfmaaGreatDoorTie.lean); close each card by the builder's one call (the guide's Derived/Test/ToyasCard.lean, 'card_holds'). Laid BY PROGRAM, IN A SANDBOX (cutbox-door.mjs). By AI agents, Wed Nov 11 2026. No macro, syntax, notation, axiom, sorry.
-/
import Derived.Test.YtohngnahcgbfmaaGreatDoorRows
import GoSem.ClaimSeven
namespace Go.Proofs.YtohngnahcgbfmaaGreatDoor
namespace Rows

/-- THE TIED CARD OF 'twainlaw11.MicroSame'. -/
def microSameCard : Claim7 := { stood := { row := microSameRow, standIns := [], harness := (true, "834e33f16fe42b55414d0914c50fe26ab128b2d41f3edc6a23cb09ad2dbf0193"), looks := true }, kinds := [], alts := [], laidByText := true, laidKinds := [.handle], laidTests := true, laidLooks := .later }
def MicroSameCardSaid : Prop := Claim7.holds Tryz.pinned (.plain (OpenSpec.ofChange microSameSpec)) microSameCard

/-- THE TIED CARD OF 'twainlaw11.MicroJoined'. -/
def microJoinedCard : Claim7 := { stood := { row := microJoinedRow, standIns := [], harness := (true, "834e33f16fe42b55414d0914c50fe26ab128b2d41f3edc6a23cb09ad2dbf0193"), looks := true }, kinds := [], alts := [], laidByText := true, laidKinds := [.handle], laidTests := true, laidLooks := .later }
def MicroJoinedCardSaid : Prop := Claim7.holds Tryz.pinned (.plain (OpenSpec.ofChange microJoinedSpec)) microJoinedCard

/-- THE TIED CARD OF 'twainlaw11.MicroTapes'. -/
def microTapesCard : Claim7 := { stood := { row := microTapesRow, standIns := [], harness := (true, "834e33f16fe42b55414d0914c50fe26ab128b2d41f3edc6a23cb09ad2dbf0193"), looks := true }, kinds := [], alts := [], laidByText := true, laidKinds := [.handle], laidTests := true, laidLooks := .later }
def MicroTapesCardSaid : Prop := Claim7.holds Tryz.pinned (.plain (OpenSpec.ofChange microTapesSpec)) microTapesCard

/-- THE SECOND FORM's CARD OF 'twainlaw11.MicroSame'. -/
def microSameUptoCard : Claim7 := { stood := { row := microSameUptoRow, standIns := [], harness := (true, "834e33f16fe42b55414d0914c50fe26ab128b2d41f3edc6a23cb09ad2dbf0193"), looks := true }, kinds := [], alts := [], laidByText := true, laidKinds := [.handle], laidTests := true, laidLooks := .later }
def MicroSameUptoCardSaid : Prop := Claim7.holds Tryz.pinned (.plain (OpenSpec.upto microSameSpec)) microSameUptoCard

/-- THE SECOND FORM's CARD OF 'twainlaw11.MicroJoined'. -/
def microJoinedUptoCard : Claim7 := { stood := { row := microJoinedUptoRow, standIns := [], harness := (true, "834e33f16fe42b55414d0914c50fe26ab128b2d41f3edc6a23cb09ad2dbf0193"), looks := true }, kinds := [], alts := [], laidByText := true, laidKinds := [.handle], laidTests := true, laidLooks := .later }
def MicroJoinedUptoCardSaid : Prop := Claim7.holds Tryz.pinned (.plain (OpenSpec.upto microJoinedSpec)) microJoinedUptoCard

/-- THE SECOND FORM's CARD OF 'twainlaw11.MicroTapes'. -/
def microTapesUptoCard : Claim7 := { stood := { row := microTapesUptoRow, standIns := [], harness := (true, "834e33f16fe42b55414d0914c50fe26ab128b2d41f3edc6a23cb09ad2dbf0193"), looks := true }, kinds := [], alts := [], laidByText := true, laidKinds := [.handle], laidTests := true, laidLooks := .later }
def MicroTapesUptoCardSaid : Prop := Claim7.holds Tryz.pinned (.plain (OpenSpec.upto microTapesSpec)) microTapesUptoCard
end Rows
end Go.Proofs.YtohngnahcgbfmaaGreatDoor
