/-
  DERIVED. GIVEN WITH THE SEED: THE CARDS: each row of YteofdmdpaejgaaaDoorRows.lean that lists a variable, with what it lists TIED to the program's text (the seventh form; the later family's looks); each row that meets fmt, with fmt's text TOLD by the authors' own Lean function (tested against real Go, not proved from fmt's source: count such statements apart). THE CARD IS WHAT COUNTS. Prove the row's statement (the work); the ties are given (YteofdmdpaejgaaaDoorTie.lean); close each card by the builder's one call (the guide's Derived/Test/ToyasCard.lean, 'card_holds'). Laid BY PROGRAM, IN A SANDBOX (cutbox-door.mjs). By AI agents, Wed Nov 11 2026. No macro, syntax, notation, axiom, sorry.
-/
import Derived.Test.YteofdmdpaejgaaaDoorRows
import GoSem.ClaimSeven
namespace Go.Proofs.YteofdmdpaejgaaaDoor
namespace Rows

/-- THE TIED CARD OF 'twainlaw08.CorrFits'. -/
def corrFitsCard : Claim7 := { stood := { row := corrFitsRow, standIns := [], harness := (true, "e75426127172639f41034fd869016f4f3f65e3e9f226e3a8dff6150a7d08441b"), looks := true }, kinds := [], alts := [], laidByText := true, laidKinds := [.handle], laidTests := true, laidLooks := .later }
def CorrFitsCardSaid : Prop := Claim7.holds Tryd.pinned (.plain (OpenSpec.ofChange corrFitsSpec)) corrFitsCard

/-- THE TIED CARD OF 'twainlaw08.CorrApart'. -/
def corrApartCard : Claim7 := { stood := { row := corrApartRow, standIns := [], harness := (true, "e75426127172639f41034fd869016f4f3f65e3e9f226e3a8dff6150a7d08441b"), looks := true }, kinds := [], alts := [], laidByText := true, laidKinds := [.handle], laidTests := true, laidLooks := .later }
def CorrApartCardSaid : Prop := Claim7.holds Tryd.pinned (.plain (OpenSpec.ofChange corrApartSpec)) corrApartCard

/-- THE TIED CARD OF 'twainlaw08.CorrLoads'. -/
def corrLoadsCard : Claim7 := { stood := { row := corrLoadsRow, standIns := [], harness := (true, "e75426127172639f41034fd869016f4f3f65e3e9f226e3a8dff6150a7d08441b"), looks := true }, kinds := [], alts := [], laidByText := true, laidKinds := [.handle], laidTests := true, laidLooks := .later }
def CorrLoadsCardSaid : Prop := Claim7.holds Tryd.pinned (.plain (OpenSpec.ofChange corrLoadsSpec)) corrLoadsCard

/-- THE TIED CARD OF 'twainlaw08.CorrSpent'. -/
def corrSpentCard : Claim7 := { stood := { row := corrSpentRow, standIns := [], harness := (true, "e75426127172639f41034fd869016f4f3f65e3e9f226e3a8dff6150a7d08441b"), looks := true }, kinds := [], alts := [], laidByText := true, laidKinds := [.handle], laidTests := true, laidLooks := .later }
def CorrSpentCardSaid : Prop := Claim7.holds Tryd.pinned (.plain (OpenSpec.ofChange corrSpentSpec)) corrSpentCard

/-- THE TIED CARD OF 'twainlaw08.CorrDeals'. -/
def corrDealsCard : Claim7 := { stood := { row := corrDealsRow, standIns := [], harness := (true, "e75426127172639f41034fd869016f4f3f65e3e9f226e3a8dff6150a7d08441b"), looks := true }, kinds := [], alts := [], laidByText := true, laidKinds := [.handle], laidTests := true, laidLooks := .later }
def CorrDealsCardSaid : Prop := Claim7.holds Tryd.pinned (.plain (OpenSpec.ofChange corrDealsSpec)) corrDealsCard

/-- THE TIED CARD OF 'twainlaw09.CircMakes'. -/
def circMakesCard : Claim7 := { stood := { row := circMakesRow, standIns := [], harness := (true, "e75426127172639f41034fd869016f4f3f65e3e9f226e3a8dff6150a7d08441b"), looks := true }, kinds := [], alts := [], laidByText := true, laidKinds := [.handle], laidTests := true, laidLooks := .later }
def CircMakesCardSaid : Prop := Claim7.holds Tryd.pinned (.plain (OpenSpec.ofChange circMakesSpec)) circMakesCard

/-- THE TIED CARD OF 'twainlaw10.GarbleFree'. -/
def garbleFreeCard : Claim7 := { stood := { row := garbleFreeRow, standIns := [], harness := (true, "e75426127172639f41034fd869016f4f3f65e3e9f226e3a8dff6150a7d08441b"), looks := true }, kinds := [], alts := [], laidByText := true, laidKinds := [.handle], laidTests := true, laidLooks := .later }
def GarbleFreeCardSaid : Prop := Claim7.holds Tryd.pinned (.plain (OpenSpec.ofChange garbleFreeSpec)) garbleFreeCard

/-- THE TIED CARD OF 'twainlaw10.GarbleRight'. -/
def garbleRightCard : Claim7 := { stood := { row := garbleRightRow, standIns := [], harness := (true, "e75426127172639f41034fd869016f4f3f65e3e9f226e3a8dff6150a7d08441b"), looks := true }, kinds := [], alts := [], laidByText := true, laidKinds := [.handle], laidTests := true, laidLooks := .later }
def GarbleRightCardSaid : Prop := Claim7.holds Tryd.pinned (.plain (OpenSpec.ofChange garbleRightSpec)) garbleRightCard

/-- THE TIED CARD OF 'twainlaw10.GarbleTables'. -/
def garbleTablesCard : Claim7 := { stood := { row := garbleTablesRow, standIns := [], harness := (true, "e75426127172639f41034fd869016f4f3f65e3e9f226e3a8dff6150a7d08441b"), looks := true }, kinds := [], alts := [], laidByText := true, laidKinds := [.handle], laidTests := true, laidLooks := .later }
def GarbleTablesCardSaid : Prop := Claim7.holds Tryd.pinned (.plain (OpenSpec.ofChange garbleTablesSpec)) garbleTablesCard

/-- THE TIED CARD OF 'twainlaw10.GarbleEvals'. -/
def garbleEvalsCard : Claim7 := { stood := { row := garbleEvalsRow, standIns := [], harness := (true, "e75426127172639f41034fd869016f4f3f65e3e9f226e3a8dff6150a7d08441b"), looks := true }, kinds := [], alts := [], laidByText := true, laidKinds := [.handle], laidTests := true, laidLooks := .later }
def GarbleEvalsCardSaid : Prop := Claim7.holds Tryd.pinned (.plain (OpenSpec.ofChange garbleEvalsSpec)) garbleEvalsCard

/-- THE TIED CARD OF 'twainlaw10.GarbleChooses'. -/
def garbleChoosesCard : Claim7 := { stood := { row := garbleChoosesRow, standIns := [], harness := (true, "e75426127172639f41034fd869016f4f3f65e3e9f226e3a8dff6150a7d08441b"), looks := true }, kinds := [], alts := [], laidByText := true, laidKinds := [.handle], laidTests := true, laidLooks := .later }
def GarbleChoosesCardSaid : Prop := Claim7.holds Tryd.pinned (.plain (OpenSpec.ofChange garbleChoosesSpec)) garbleChoosesCard

/-- THE TIED CARD OF 'twainlaw10.GarbleMade'. -/
def garbleMadeCard : Claim7 := { stood := { row := garbleMadeRow, standIns := [], harness := (true, "e75426127172639f41034fd869016f4f3f65e3e9f226e3a8dff6150a7d08441b"), looks := true }, kinds := [], alts := [], laidByText := true, laidKinds := [.handle], laidTests := true, laidLooks := .later }
def GarbleMadeCardSaid : Prop := Claim7.holds Tryd.pinned (.plain (OpenSpec.ofChange garbleMadeSpec)) garbleMadeCard

/-- THE SECOND FORM's CARD OF 'twainlaw08.CorrFits'. -/
def corrFitsUptoCard : Claim7 := { stood := { row := corrFitsUptoRow, standIns := [], harness := (true, "e75426127172639f41034fd869016f4f3f65e3e9f226e3a8dff6150a7d08441b"), looks := true }, kinds := [], alts := [], laidByText := true, laidKinds := [.handle], laidTests := true, laidLooks := .later }
def CorrFitsUptoCardSaid : Prop := Claim7.holds Tryd.pinned (.plain (OpenSpec.upto corrFitsSpec)) corrFitsUptoCard

/-- THE SECOND FORM's CARD OF 'twainlaw08.CorrApart'. -/
def corrApartUptoCard : Claim7 := { stood := { row := corrApartUptoRow, standIns := [], harness := (true, "e75426127172639f41034fd869016f4f3f65e3e9f226e3a8dff6150a7d08441b"), looks := true }, kinds := [], alts := [], laidByText := true, laidKinds := [.handle], laidTests := true, laidLooks := .later }
def CorrApartUptoCardSaid : Prop := Claim7.holds Tryd.pinned (.plain (OpenSpec.upto corrApartSpec)) corrApartUptoCard

/-- THE SECOND FORM's CARD OF 'twainlaw08.CorrLoads'. -/
def corrLoadsUptoCard : Claim7 := { stood := { row := corrLoadsUptoRow, standIns := [], harness := (true, "e75426127172639f41034fd869016f4f3f65e3e9f226e3a8dff6150a7d08441b"), looks := true }, kinds := [], alts := [], laidByText := true, laidKinds := [.handle], laidTests := true, laidLooks := .later }
def CorrLoadsUptoCardSaid : Prop := Claim7.holds Tryd.pinned (.plain (OpenSpec.upto corrLoadsSpec)) corrLoadsUptoCard

/-- THE SECOND FORM's CARD OF 'twainlaw08.CorrSpent'. -/
def corrSpentUptoCard : Claim7 := { stood := { row := corrSpentUptoRow, standIns := [], harness := (true, "e75426127172639f41034fd869016f4f3f65e3e9f226e3a8dff6150a7d08441b"), looks := true }, kinds := [], alts := [], laidByText := true, laidKinds := [.handle], laidTests := true, laidLooks := .later }
def CorrSpentUptoCardSaid : Prop := Claim7.holds Tryd.pinned (.plain (OpenSpec.upto corrSpentSpec)) corrSpentUptoCard

/-- THE SECOND FORM's CARD OF 'twainlaw08.CorrDeals'. -/
def corrDealsUptoCard : Claim7 := { stood := { row := corrDealsUptoRow, standIns := [], harness := (true, "e75426127172639f41034fd869016f4f3f65e3e9f226e3a8dff6150a7d08441b"), looks := true }, kinds := [], alts := [], laidByText := true, laidKinds := [.handle], laidTests := true, laidLooks := .later }
def CorrDealsUptoCardSaid : Prop := Claim7.holds Tryd.pinned (.plain (OpenSpec.upto corrDealsSpec)) corrDealsUptoCard

/-- THE SECOND FORM's CARD OF 'twainlaw09.CircMakes'. -/
def circMakesUptoCard : Claim7 := { stood := { row := circMakesUptoRow, standIns := [], harness := (true, "e75426127172639f41034fd869016f4f3f65e3e9f226e3a8dff6150a7d08441b"), looks := true }, kinds := [], alts := [], laidByText := true, laidKinds := [.handle], laidTests := true, laidLooks := .later }
def CircMakesUptoCardSaid : Prop := Claim7.holds Tryd.pinned (.plain (OpenSpec.upto circMakesSpec)) circMakesUptoCard

/-- THE SECOND FORM's CARD OF 'twainlaw10.GarbleFree'. -/
def garbleFreeUptoCard : Claim7 := { stood := { row := garbleFreeUptoRow, standIns := [], harness := (true, "e75426127172639f41034fd869016f4f3f65e3e9f226e3a8dff6150a7d08441b"), looks := true }, kinds := [], alts := [], laidByText := true, laidKinds := [.handle], laidTests := true, laidLooks := .later }
def GarbleFreeUptoCardSaid : Prop := Claim7.holds Tryd.pinned (.plain (OpenSpec.upto garbleFreeSpec)) garbleFreeUptoCard

/-- THE SECOND FORM's CARD OF 'twainlaw10.GarbleRight'. -/
def garbleRightUptoCard : Claim7 := { stood := { row := garbleRightUptoRow, standIns := [], harness := (true, "e75426127172639f41034fd869016f4f3f65e3e9f226e3a8dff6150a7d08441b"), looks := true }, kinds := [], alts := [], laidByText := true, laidKinds := [.handle], laidTests := true, laidLooks := .later }
def GarbleRightUptoCardSaid : Prop := Claim7.holds Tryd.pinned (.plain (OpenSpec.upto garbleRightSpec)) garbleRightUptoCard

/-- THE SECOND FORM's CARD OF 'twainlaw10.GarbleTables'. -/
def garbleTablesUptoCard : Claim7 := { stood := { row := garbleTablesUptoRow, standIns := [], harness := (true, "e75426127172639f41034fd869016f4f3f65e3e9f226e3a8dff6150a7d08441b"), looks := true }, kinds := [], alts := [], laidByText := true, laidKinds := [.handle], laidTests := true, laidLooks := .later }
def GarbleTablesUptoCardSaid : Prop := Claim7.holds Tryd.pinned (.plain (OpenSpec.upto garbleTablesSpec)) garbleTablesUptoCard

/-- THE SECOND FORM's CARD OF 'twainlaw10.GarbleEvals'. -/
def garbleEvalsUptoCard : Claim7 := { stood := { row := garbleEvalsUptoRow, standIns := [], harness := (true, "e75426127172639f41034fd869016f4f3f65e3e9f226e3a8dff6150a7d08441b"), looks := true }, kinds := [], alts := [], laidByText := true, laidKinds := [.handle], laidTests := true, laidLooks := .later }
def GarbleEvalsUptoCardSaid : Prop := Claim7.holds Tryd.pinned (.plain (OpenSpec.upto garbleEvalsSpec)) garbleEvalsUptoCard

/-- THE SECOND FORM's CARD OF 'twainlaw10.GarbleChooses'. -/
def garbleChoosesUptoCard : Claim7 := { stood := { row := garbleChoosesUptoRow, standIns := [], harness := (true, "e75426127172639f41034fd869016f4f3f65e3e9f226e3a8dff6150a7d08441b"), looks := true }, kinds := [], alts := [], laidByText := true, laidKinds := [.handle], laidTests := true, laidLooks := .later }
def GarbleChoosesUptoCardSaid : Prop := Claim7.holds Tryd.pinned (.plain (OpenSpec.upto garbleChoosesSpec)) garbleChoosesUptoCard

/-- THE SECOND FORM's CARD OF 'twainlaw10.GarbleMade'. -/
def garbleMadeUptoCard : Claim7 := { stood := { row := garbleMadeUptoRow, standIns := [], harness := (true, "e75426127172639f41034fd869016f4f3f65e3e9f226e3a8dff6150a7d08441b"), looks := true }, kinds := [], alts := [], laidByText := true, laidKinds := [.handle], laidTests := true, laidLooks := .later }
def GarbleMadeUptoCardSaid : Prop := Claim7.holds Tryd.pinned (.plain (OpenSpec.upto garbleMadeSpec)) garbleMadeUptoCard
end Rows
end Go.Proofs.YteofdmdpaejgaaaDoor
