/-
  DERIVED. GIVEN WITH THE SEED: THE CARDS: each row of YtkclklnfohaheaaDoorRows.lean that lists a variable, with what it lists TIED to the program's text (the seventh form; the later family's looks); each row that meets fmt, with fmt's text TOLD by the authors' own Lean function (tested against real Go, not proved from fmt's source: count such statements apart). THE CARD IS WHAT COUNTS. Prove the row's statement (the work); the ties are given (YtkclklnfohaheaaDoorTie.lean); close each card by the builder's one call (the guide's Derived/Test/ToyasCard.lean, 'card_holds'). Laid BY PROGRAM, IN A SANDBOX (cutbox-door.mjs). By AI agents, Wed Nov 11 2026. No macro, syntax, notation, axiom, sorry.
-/
import Derived.Test.YtkclklnfohaheaaDoorRows
import GoSem.ClaimSeven
namespace Go.Proofs.YtkclklnfohaheaaDoor
namespace Rows

/-- THE TIED CARD OF 'twainlaw04.TapeSeeds'. -/
def tapeSeedsCard : Claim7 := { stood := { row := tapeSeedsRow, standIns := [], harness := (true, "8235eeb5c7e09a9861d7e371303f14dccd1d6347df5b61d9eb04485903260aa5"), looks := true }, kinds := [], alts := [], laidByText := true, laidKinds := [.handle], laidTests := true, laidLooks := .later }
def TapeSeedsCardSaid : Prop := Claim7.holds Tryd.pinned (.plain (OpenSpec.ofChange tapeSeedsSpec)) tapeSeedsCard

/-- THE TIED CARD OF 'twainlaw04.TapeEnds'. -/
def tapeEndsCard : Claim7 := { stood := { row := tapeEndsRow, standIns := [], harness := (true, "8235eeb5c7e09a9861d7e371303f14dccd1d6347df5b61d9eb04485903260aa5"), looks := true }, kinds := [], alts := [], laidByText := true, laidKinds := [.handle], laidTests := true, laidLooks := .later }
def TapeEndsCardSaid : Prop := Claim7.holds Tryd.pinned (.plain (OpenSpec.ofChange tapeEndsSpec)) tapeEndsCard

/-- THE TIED CARD OF 'twainlaw04.TapeLabels'. -/
def tapeLabelsCard : Claim7 := { stood := { row := tapeLabelsRow, standIns := [], harness := (true, "8235eeb5c7e09a9861d7e371303f14dccd1d6347df5b61d9eb04485903260aa5"), looks := true }, kinds := [], alts := [], laidByText := true, laidKinds := [.handle], laidTests := true, laidLooks := .later }
def TapeLabelsCardSaid : Prop := Claim7.holds Tryd.pinned (.plain (OpenSpec.ofChange tapeLabelsSpec)) tapeLabelsCard

/-- THE TIED CARD OF 'twainlaw09.CircTurned'. -/
def circTurnedCard : Claim7 := { stood := { row := circTurnedRow, standIns := [], harness := (true, "8235eeb5c7e09a9861d7e371303f14dccd1d6347df5b61d9eb04485903260aa5"), looks := true }, kinds := [], alts := [], laidByText := true, laidKinds := [.handle], laidTests := true, laidLooks := .later }
def CircTurnedCardSaid : Prop := Claim7.holds Tryd.pinned (.plain (OpenSpec.ofChange circTurnedSpec)) circTurnedCard

/-- THE TIED CARD OF 'twainlaw09.CircEvals'. -/
def circEvalsCard : Claim7 := { stood := { row := circEvalsRow, standIns := [], harness := (true, "8235eeb5c7e09a9861d7e371303f14dccd1d6347df5b61d9eb04485903260aa5"), looks := true }, kinds := [], alts := [], laidByText := true, laidKinds := [.handle], laidTests := true, laidLooks := .later }
def CircEvalsCardSaid : Prop := Claim7.holds Tryd.pinned (.plain (OpenSpec.ofChange circEvalsSpec)) circEvalsCard

/-- THE TIED CARD OF 'twainlaw09.CircWords'. -/
def circWordsCard : Claim7 := { stood := { row := circWordsRow, standIns := [], harness := (true, "8235eeb5c7e09a9861d7e371303f14dccd1d6347df5b61d9eb04485903260aa5"), looks := true }, kinds := [], alts := [], laidByText := true, laidKinds := [.handle], laidTests := true, laidLooks := .later }
def CircWordsCardSaid : Prop := Claim7.holds Tryd.pinned (.plain (OpenSpec.ofChange circWordsSpec)) circWordsCard

/-- THE TIED CARD OF 'twainlaw09.CircMakes'. -/
def circMakesCard : Claim7 := { stood := { row := circMakesRow, standIns := [], harness := (true, "8235eeb5c7e09a9861d7e371303f14dccd1d6347df5b61d9eb04485903260aa5"), looks := true }, kinds := [], alts := [], laidByText := true, laidKinds := [.handle], laidTests := true, laidLooks := .later }
def CircMakesCardSaid : Prop := Claim7.holds Tryd.pinned (.plain (OpenSpec.ofChange circMakesSpec)) circMakesCard

/-- THE TIED CARD OF 'twainlaw06.NetOrder'. -/
def netOrderCard : Claim7 := { stood := { row := netOrderRow, standIns := [], harness := (true, "8235eeb5c7e09a9861d7e371303f14dccd1d6347df5b61d9eb04485903260aa5"), looks := true }, kinds := [], alts := [], laidByText := true, laidKinds := [.handle], laidTests := true, laidLooks := .later }
def NetOrderCardSaid : Prop := Claim7.holds Tryd.pinned (.plain (OpenSpec.ofChange netOrderSpec)) netOrderCard

/-- THE TIED CARD OF 'twainlaw06.NetOwn'. -/
def netOwnCard : Claim7 := { stood := { row := netOwnRow, standIns := [], harness := (true, "8235eeb5c7e09a9861d7e371303f14dccd1d6347df5b61d9eb04485903260aa5"), looks := true }, kinds := [], alts := [], laidByText := true, laidKinds := [.handle], laidTests := true, laidLooks := .later }
def NetOwnCardSaid : Prop := Claim7.holds Tryd.pinned (.plain (OpenSpec.ofChange netOwnSpec)) netOwnCard

/-- THE TIED CARD OF 'twainlaw06.NetFull'. -/
def netFullCard : Claim7 := { stood := { row := netFullRow, standIns := [], harness := (true, "8235eeb5c7e09a9861d7e371303f14dccd1d6347df5b61d9eb04485903260aa5"), looks := true }, kinds := [], alts := [], laidByText := true, laidKinds := [.handle], laidTests := true, laidLooks := .later }
def NetFullCardSaid : Prop := Claim7.holds Tryd.pinned (.plain (OpenSpec.ofChange netFullSpec)) netFullCard

/-- THE TIED CARD OF 'twainlaw06.NetPlays'. -/
def netPlaysCard : Claim7 := { stood := { row := netPlaysRow, standIns := [], harness := (true, "8235eeb5c7e09a9861d7e371303f14dccd1d6347df5b61d9eb04485903260aa5"), looks := true }, kinds := [], alts := [], laidByText := true, laidKinds := [.handle], laidTests := true, laidLooks := .later }
def NetPlaysCardSaid : Prop := Claim7.holds Tryd.pinned (.plain (OpenSpec.ofChange netPlaysSpec)) netPlaysCard

/-- THE SECOND FORM's CARD OF 'twainlaw04.TapeSeeds'. -/
def tapeSeedsUptoCard : Claim7 := { stood := { row := tapeSeedsUptoRow, standIns := [], harness := (true, "8235eeb5c7e09a9861d7e371303f14dccd1d6347df5b61d9eb04485903260aa5"), looks := true }, kinds := [], alts := [], laidByText := true, laidKinds := [.handle], laidTests := true, laidLooks := .later }
def TapeSeedsUptoCardSaid : Prop := Claim7.holds Tryd.pinned (.plain (OpenSpec.upto tapeSeedsSpec)) tapeSeedsUptoCard

/-- THE SECOND FORM's CARD OF 'twainlaw04.TapeEnds'. -/
def tapeEndsUptoCard : Claim7 := { stood := { row := tapeEndsUptoRow, standIns := [], harness := (true, "8235eeb5c7e09a9861d7e371303f14dccd1d6347df5b61d9eb04485903260aa5"), looks := true }, kinds := [], alts := [], laidByText := true, laidKinds := [.handle], laidTests := true, laidLooks := .later }
def TapeEndsUptoCardSaid : Prop := Claim7.holds Tryd.pinned (.plain (OpenSpec.upto tapeEndsSpec)) tapeEndsUptoCard

/-- THE SECOND FORM's CARD OF 'twainlaw04.TapeLabels'. -/
def tapeLabelsUptoCard : Claim7 := { stood := { row := tapeLabelsUptoRow, standIns := [], harness := (true, "8235eeb5c7e09a9861d7e371303f14dccd1d6347df5b61d9eb04485903260aa5"), looks := true }, kinds := [], alts := [], laidByText := true, laidKinds := [.handle], laidTests := true, laidLooks := .later }
def TapeLabelsUptoCardSaid : Prop := Claim7.holds Tryd.pinned (.plain (OpenSpec.upto tapeLabelsSpec)) tapeLabelsUptoCard

/-- THE SECOND FORM's CARD OF 'twainlaw09.CircTurned'. -/
def circTurnedUptoCard : Claim7 := { stood := { row := circTurnedUptoRow, standIns := [], harness := (true, "8235eeb5c7e09a9861d7e371303f14dccd1d6347df5b61d9eb04485903260aa5"), looks := true }, kinds := [], alts := [], laidByText := true, laidKinds := [.handle], laidTests := true, laidLooks := .later }
def CircTurnedUptoCardSaid : Prop := Claim7.holds Tryd.pinned (.plain (OpenSpec.upto circTurnedSpec)) circTurnedUptoCard

/-- THE SECOND FORM's CARD OF 'twainlaw09.CircEvals'. -/
def circEvalsUptoCard : Claim7 := { stood := { row := circEvalsUptoRow, standIns := [], harness := (true, "8235eeb5c7e09a9861d7e371303f14dccd1d6347df5b61d9eb04485903260aa5"), looks := true }, kinds := [], alts := [], laidByText := true, laidKinds := [.handle], laidTests := true, laidLooks := .later }
def CircEvalsUptoCardSaid : Prop := Claim7.holds Tryd.pinned (.plain (OpenSpec.upto circEvalsSpec)) circEvalsUptoCard

/-- THE SECOND FORM's CARD OF 'twainlaw09.CircWords'. -/
def circWordsUptoCard : Claim7 := { stood := { row := circWordsUptoRow, standIns := [], harness := (true, "8235eeb5c7e09a9861d7e371303f14dccd1d6347df5b61d9eb04485903260aa5"), looks := true }, kinds := [], alts := [], laidByText := true, laidKinds := [.handle], laidTests := true, laidLooks := .later }
def CircWordsUptoCardSaid : Prop := Claim7.holds Tryd.pinned (.plain (OpenSpec.upto circWordsSpec)) circWordsUptoCard

/-- THE SECOND FORM's CARD OF 'twainlaw09.CircMakes'. -/
def circMakesUptoCard : Claim7 := { stood := { row := circMakesUptoRow, standIns := [], harness := (true, "8235eeb5c7e09a9861d7e371303f14dccd1d6347df5b61d9eb04485903260aa5"), looks := true }, kinds := [], alts := [], laidByText := true, laidKinds := [.handle], laidTests := true, laidLooks := .later }
def CircMakesUptoCardSaid : Prop := Claim7.holds Tryd.pinned (.plain (OpenSpec.upto circMakesSpec)) circMakesUptoCard

/-- THE SECOND FORM's CARD OF 'twainlaw06.NetOrder'. -/
def netOrderUptoCard : Claim7 := { stood := { row := netOrderUptoRow, standIns := [], harness := (true, "8235eeb5c7e09a9861d7e371303f14dccd1d6347df5b61d9eb04485903260aa5"), looks := true }, kinds := [], alts := [], laidByText := true, laidKinds := [.handle], laidTests := true, laidLooks := .later }
def NetOrderUptoCardSaid : Prop := Claim7.holds Tryd.pinned (.plain (OpenSpec.upto netOrderSpec)) netOrderUptoCard

/-- THE SECOND FORM's CARD OF 'twainlaw06.NetOwn'. -/
def netOwnUptoCard : Claim7 := { stood := { row := netOwnUptoRow, standIns := [], harness := (true, "8235eeb5c7e09a9861d7e371303f14dccd1d6347df5b61d9eb04485903260aa5"), looks := true }, kinds := [], alts := [], laidByText := true, laidKinds := [.handle], laidTests := true, laidLooks := .later }
def NetOwnUptoCardSaid : Prop := Claim7.holds Tryd.pinned (.plain (OpenSpec.upto netOwnSpec)) netOwnUptoCard

/-- THE SECOND FORM's CARD OF 'twainlaw06.NetFull'. -/
def netFullUptoCard : Claim7 := { stood := { row := netFullUptoRow, standIns := [], harness := (true, "8235eeb5c7e09a9861d7e371303f14dccd1d6347df5b61d9eb04485903260aa5"), looks := true }, kinds := [], alts := [], laidByText := true, laidKinds := [.handle], laidTests := true, laidLooks := .later }
def NetFullUptoCardSaid : Prop := Claim7.holds Tryd.pinned (.plain (OpenSpec.upto netFullSpec)) netFullUptoCard

/-- THE SECOND FORM's CARD OF 'twainlaw06.NetPlays'. -/
def netPlaysUptoCard : Claim7 := { stood := { row := netPlaysUptoRow, standIns := [], harness := (true, "8235eeb5c7e09a9861d7e371303f14dccd1d6347df5b61d9eb04485903260aa5"), looks := true }, kinds := [], alts := [], laidByText := true, laidKinds := [.handle], laidTests := true, laidLooks := .later }
def NetPlaysUptoCardSaid : Prop := Claim7.holds Tryd.pinned (.plain (OpenSpec.upto netPlaysSpec)) netPlaysUptoCard
end Rows
end Go.Proofs.YtkclklnfohaheaaDoor
