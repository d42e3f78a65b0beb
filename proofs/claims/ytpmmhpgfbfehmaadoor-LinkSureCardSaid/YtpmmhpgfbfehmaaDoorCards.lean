/-
  DERIVED. GIVEN WITH THE SEED: THE CARDS: each row of YtpmmhpgfbfehmaaDoorRows.lean that lists a variable, with what it lists TIED to the program's text (the seventh form; the later family's looks); each row that meets fmt, with fmt's text TOLD by the authors' own Lean function (tested against real Go, not proved from fmt's source: count such statements apart). THE CARD IS WHAT COUNTS. Prove the row's statement (the work); the ties are given (YtpmmhpgfbfehmaaDoorTie.lean); close each card by the builder's one call (the guide's Derived/Test/ToyasCard.lean, 'card_holds'). Laid BY PROGRAM, IN A SANDBOX (cutbox-door.mjs). By AI agents, Wed Nov 11 2026. No macro, syntax, notation, axiom, sorry.
-/
import Derived.Test.YtpmmhpgfbfehmaaDoorRows
import GoSem.ClaimSeven
namespace Go.Proofs.YtpmmhpgfbfehmaaDoor
namespace Rows

/-- THE TIED CARD OF 'twainlaw06.NetOrder'. -/
def netOrderCard : Claim7 := { stood := { row := netOrderRow, standIns := [], harness := (true, "e5ec4793d570f753525c397915916613649d1bde1d7146e8168455e8dd6e5189"), looks := true }, kinds := [], alts := [], laidByText := true, laidKinds := [.handle], laidTests := true, laidLooks := .later }
def NetOrderCardSaid : Prop := Claim7.holds Tryd.pinned (.plain (OpenSpec.ofChange netOrderSpec)) netOrderCard

/-- THE TIED CARD OF 'twainlaw06.NetOwn'. -/
def netOwnCard : Claim7 := { stood := { row := netOwnRow, standIns := [], harness := (true, "e5ec4793d570f753525c397915916613649d1bde1d7146e8168455e8dd6e5189"), looks := true }, kinds := [], alts := [], laidByText := true, laidKinds := [.handle], laidTests := true, laidLooks := .later }
def NetOwnCardSaid : Prop := Claim7.holds Tryd.pinned (.plain (OpenSpec.ofChange netOwnSpec)) netOwnCard

/-- THE TIED CARD OF 'twainlaw07.LinkSure'. -/
def linkSureCard : Claim7 := { stood := { row := linkSureRow, standIns := [], harness := (true, "e5ec4793d570f753525c397915916613649d1bde1d7146e8168455e8dd6e5189"), looks := true }, kinds := [], alts := [], laidByText := true, laidKinds := [.handle], laidTests := true, laidLooks := .later }
def LinkSureCardSaid : Prop := Claim7.holds Tryd.pinned (.plain (OpenSpec.ofChange linkSureSpec)) linkSureCard

/-- THE TIED CARD OF 'twainlaw07.LinkOwn'. -/
def linkOwnCard : Claim7 := { stood := { row := linkOwnRow, standIns := [], harness := (true, "e5ec4793d570f753525c397915916613649d1bde1d7146e8168455e8dd6e5189"), looks := true }, kinds := [], alts := [], laidByText := true, laidKinds := [.handle], laidTests := true, laidLooks := .later }
def LinkOwnCardSaid : Prop := Claim7.holds Tryd.pinned (.plain (OpenSpec.ofChange linkOwnSpec)) linkOwnCard

/-- THE TIED CARD OF 'twainlaw07.LinkTurned'. -/
def linkTurnedCard : Claim7 := { stood := { row := linkTurnedRow, standIns := [], harness := (true, "e5ec4793d570f753525c397915916613649d1bde1d7146e8168455e8dd6e5189"), looks := true }, kinds := [], alts := [], laidByText := true, laidKinds := [.handle], laidTests := true, laidLooks := .later }
def LinkTurnedCardSaid : Prop := Claim7.holds Tryd.pinned (.plain (OpenSpec.ofChange linkTurnedSpec)) linkTurnedCard

/-- THE TIED CARD OF 'twainlaw06.NetFull'. -/
def netFullCard : Claim7 := { stood := { row := netFullRow, standIns := [], harness := (true, "e5ec4793d570f753525c397915916613649d1bde1d7146e8168455e8dd6e5189"), looks := true }, kinds := [], alts := [], laidByText := true, laidKinds := [.handle], laidTests := true, laidLooks := .later }
def NetFullCardSaid : Prop := Claim7.holds Tryd.pinned (.plain (OpenSpec.ofChange netFullSpec)) netFullCard

/-- THE TIED CARD OF 'twainlaw06.NetPlays'. -/
def netPlaysCard : Claim7 := { stood := { row := netPlaysRow, standIns := [], harness := (true, "e5ec4793d570f753525c397915916613649d1bde1d7146e8168455e8dd6e5189"), looks := true }, kinds := [], alts := [], laidByText := true, laidKinds := [.handle], laidTests := true, laidLooks := .later }
def NetPlaysCardSaid : Prop := Claim7.holds Tryd.pinned (.plain (OpenSpec.ofChange netPlaysSpec)) netPlaysCard

/-- THE TIED CARD OF 'twainlaw07.LinkFull'. -/
def linkFullCard : Claim7 := { stood := { row := linkFullRow, standIns := [], harness := (true, "e5ec4793d570f753525c397915916613649d1bde1d7146e8168455e8dd6e5189"), looks := true }, kinds := [], alts := [], laidByText := true, laidKinds := [.handle], laidTests := true, laidLooks := .later }
def LinkFullCardSaid : Prop := Claim7.holds Tryd.pinned (.plain (OpenSpec.ofChange linkFullSpec)) linkFullCard

/-- THE TIED CARD OF 'twainlaw07.LinkEnds'. -/
def linkEndsCard : Claim7 := { stood := { row := linkEndsRow, standIns := [], harness := (true, "e5ec4793d570f753525c397915916613649d1bde1d7146e8168455e8dd6e5189"), looks := true }, kinds := [], alts := [], laidByText := true, laidKinds := [.handle], laidTests := true, laidLooks := .later }
def LinkEndsCardSaid : Prop := Claim7.holds Tryd.pinned (.plain (OpenSpec.ofChange linkEndsSpec)) linkEndsCard

/-- THE SECOND FORM's CARD OF 'twainlaw06.NetOrder'. -/
def netOrderUptoCard : Claim7 := { stood := { row := netOrderUptoRow, standIns := [], harness := (true, "e5ec4793d570f753525c397915916613649d1bde1d7146e8168455e8dd6e5189"), looks := true }, kinds := [], alts := [], laidByText := true, laidKinds := [.handle], laidTests := true, laidLooks := .later }
def NetOrderUptoCardSaid : Prop := Claim7.holds Tryd.pinned (.plain (OpenSpec.upto netOrderSpec)) netOrderUptoCard

/-- THE SECOND FORM's CARD OF 'twainlaw06.NetOwn'. -/
def netOwnUptoCard : Claim7 := { stood := { row := netOwnUptoRow, standIns := [], harness := (true, "e5ec4793d570f753525c397915916613649d1bde1d7146e8168455e8dd6e5189"), looks := true }, kinds := [], alts := [], laidByText := true, laidKinds := [.handle], laidTests := true, laidLooks := .later }
def NetOwnUptoCardSaid : Prop := Claim7.holds Tryd.pinned (.plain (OpenSpec.upto netOwnSpec)) netOwnUptoCard

/-- THE SECOND FORM's CARD OF 'twainlaw07.LinkSure'. -/
def linkSureUptoCard : Claim7 := { stood := { row := linkSureUptoRow, standIns := [], harness := (true, "e5ec4793d570f753525c397915916613649d1bde1d7146e8168455e8dd6e5189"), looks := true }, kinds := [], alts := [], laidByText := true, laidKinds := [.handle], laidTests := true, laidLooks := .later }
def LinkSureUptoCardSaid : Prop := Claim7.holds Tryd.pinned (.plain (OpenSpec.upto linkSureSpec)) linkSureUptoCard

/-- THE SECOND FORM's CARD OF 'twainlaw07.LinkOwn'. -/
def linkOwnUptoCard : Claim7 := { stood := { row := linkOwnUptoRow, standIns := [], harness := (true, "e5ec4793d570f753525c397915916613649d1bde1d7146e8168455e8dd6e5189"), looks := true }, kinds := [], alts := [], laidByText := true, laidKinds := [.handle], laidTests := true, laidLooks := .later }
def LinkOwnUptoCardSaid : Prop := Claim7.holds Tryd.pinned (.plain (OpenSpec.upto linkOwnSpec)) linkOwnUptoCard

/-- THE SECOND FORM's CARD OF 'twainlaw07.LinkTurned'. -/
def linkTurnedUptoCard : Claim7 := { stood := { row := linkTurnedUptoRow, standIns := [], harness := (true, "e5ec4793d570f753525c397915916613649d1bde1d7146e8168455e8dd6e5189"), looks := true }, kinds := [], alts := [], laidByText := true, laidKinds := [.handle], laidTests := true, laidLooks := .later }
def LinkTurnedUptoCardSaid : Prop := Claim7.holds Tryd.pinned (.plain (OpenSpec.upto linkTurnedSpec)) linkTurnedUptoCard

/-- THE SECOND FORM's CARD OF 'twainlaw06.NetFull'. -/
def netFullUptoCard : Claim7 := { stood := { row := netFullUptoRow, standIns := [], harness := (true, "e5ec4793d570f753525c397915916613649d1bde1d7146e8168455e8dd6e5189"), looks := true }, kinds := [], alts := [], laidByText := true, laidKinds := [.handle], laidTests := true, laidLooks := .later }
def NetFullUptoCardSaid : Prop := Claim7.holds Tryd.pinned (.plain (OpenSpec.upto netFullSpec)) netFullUptoCard

/-- THE SECOND FORM's CARD OF 'twainlaw06.NetPlays'. -/
def netPlaysUptoCard : Claim7 := { stood := { row := netPlaysUptoRow, standIns := [], harness := (true, "e5ec4793d570f753525c397915916613649d1bde1d7146e8168455e8dd6e5189"), looks := true }, kinds := [], alts := [], laidByText := true, laidKinds := [.handle], laidTests := true, laidLooks := .later }
def NetPlaysUptoCardSaid : Prop := Claim7.holds Tryd.pinned (.plain (OpenSpec.upto netPlaysSpec)) netPlaysUptoCard

/-- THE SECOND FORM's CARD OF 'twainlaw07.LinkFull'. -/
def linkFullUptoCard : Claim7 := { stood := { row := linkFullUptoRow, standIns := [], harness := (true, "e5ec4793d570f753525c397915916613649d1bde1d7146e8168455e8dd6e5189"), looks := true }, kinds := [], alts := [], laidByText := true, laidKinds := [.handle], laidTests := true, laidLooks := .later }
def LinkFullUptoCardSaid : Prop := Claim7.holds Tryd.pinned (.plain (OpenSpec.upto linkFullSpec)) linkFullUptoCard

/-- THE SECOND FORM's CARD OF 'twainlaw07.LinkEnds'. -/
def linkEndsUptoCard : Claim7 := { stood := { row := linkEndsUptoRow, standIns := [], harness := (true, "e5ec4793d570f753525c397915916613649d1bde1d7146e8168455e8dd6e5189"), looks := true }, kinds := [], alts := [], laidByText := true, laidKinds := [.handle], laidTests := true, laidLooks := .later }
def LinkEndsUptoCardSaid : Prop := Claim7.holds Tryd.pinned (.plain (OpenSpec.upto linkEndsSpec)) linkEndsUptoCard
end Rows
end Go.Proofs.YtpmmhpgfbfehmaaDoor
