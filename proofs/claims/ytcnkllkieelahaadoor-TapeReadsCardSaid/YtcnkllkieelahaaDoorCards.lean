/-
  DERIVED. GIVEN WITH THE SEED: THE CARDS: each row of YtcnkllkieelahaaDoorRows.lean that lists a variable, with what it lists TIED to the program's text (the seventh form; the later family's looks); each row that meets fmt, with fmt's text TOLD by the authors' own Lean function (tested against real Go, not proved from fmt's source: count such statements apart). THE CARD IS WHAT COUNTS. Prove the row's statement (the work); the ties are given (YtcnkllkieelahaaDoorTie.lean); close each card by the builder's one call (the guide's Derived/Test/ToyasCard.lean, 'card_holds'). Laid BY PROGRAM, IN A SANDBOX (cutbox-door.mjs). By AI agents, Wed Nov 11 2026. No macro, syntax, notation, axiom, sorry.
-/
import Derived.Test.YtcnkllkieelahaaDoorRows
import GoSem.ClaimSeven
namespace Go.Proofs.YtcnkllkieelahaaDoor
namespace Rows

/-- THE TIED CARD OF 'twainlaw04.TapeReads'. -/
def tapeReadsCard : Claim7 := { stood := { row := tapeReadsRow, standIns := [], harness := (true, "822861ff43d529b9566f550a8ddd45508fa63bf34bcf8b1118d1220e0f2b142b"), looks := true }, kinds := [], alts := [], laidByText := true, laidKinds := [.handle], laidTests := true, laidLooks := .later }
def TapeReadsCardSaid : Prop := Claim7.holds Tryd.pinned (.plain (OpenSpec.ofChange tapeReadsSpec)) tapeReadsCard

/-- THE SECOND FORM's CARD OF 'twainlaw04.TapeReads'. -/
def tapeReadsUptoCard : Claim7 := { stood := { row := tapeReadsUptoRow, standIns := [], harness := (true, "822861ff43d529b9566f550a8ddd45508fa63bf34bcf8b1118d1220e0f2b142b"), looks := true }, kinds := [], alts := [], laidByText := true, laidKinds := [.handle], laidTests := true, laidLooks := .later }
def TapeReadsUptoCardSaid : Prop := Claim7.holds Tryd.pinned (.plain (OpenSpec.upto tapeReadsSpec)) tapeReadsUptoCard
end Rows
end Go.Proofs.YtcnkllkieelahaaDoor
