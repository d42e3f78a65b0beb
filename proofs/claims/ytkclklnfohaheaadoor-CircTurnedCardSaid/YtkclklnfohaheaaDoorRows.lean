/-
  NARROWER THAN 'FOR EVERY INPUT', by the rows' own cells (each row's printed sentence says how): TapeSeeds: laid · TapeEnds: laid · TapeLabels: laid · CircTurned: laid · CircEvals: laid · CircWords: laid · CircMakes: laid · NetOrder: laid · NetOwn: laid · NetFull: laid · NetPlays: laid.
  DERIVED. THE GIVEN ROWS OF THIS SEAT. 11 by the template 'for every input the law returns true; each argument reads behind the call as it read before'; 0 by the template 'total and deterministic' (their statements: YtkclklnfohaheaaDoorTotals.lean).
  GIVEN WITH THE SEED: the statements are not yours to turn. If you find one false, say at which input.
  Laid BY PROGRAM, IN A SANDBOX (cutbox-rows.mjs): the forced cells as the released guide's own fill.sh prints them over the translation d5678bdfe3b80b4f… (all of the seat's roots in one cut). By AI agents, Wed Nov 11 2026. No macro, syntax, notation, axiom, sorry.
-/
import Derived.Test.YtkclklnfohaheaaDoorChecked
import GoSem.Claim
import GoSem.ClaimJoined
import GoSem.ClaimMapViews
import Derived.JoinedTies
import Derived.KernelRfl
namespace Go.Proofs.YtkclklnfohaheaaDoor
/- THE CELL 'sum', in the pinned program and in every row, IS THE sha256 OF THE DUMP (.gsa) THAT YtkclklnfohaheaaDoorProg.lean LOADS. Nothing in Lean hashes anything: it is a label: what it is worth is what the hold of that sum in a sandbox is worth. -/
noncomputable def Tryd.pinned : Pinned := { name := "ytkclklnfohaheaadoor", sum := "d5678bdfe3b80b4fdd892acdc3e810d1dd7ee5158eac75c5586388f333ece730", checked := Tryd.checked }
namespace Rows
def none {H : Type} : Left H := { results := [], args := [] }

/- WHAT THE LISTED PACKAGE-LEVEL VARIABLES READ AS WHEN THE CALL BEGINS. Each datum BY PROGRAM (the guide's laid-datum.mjs) off the statement by which the dump's own 'gosem.cut.vars' lays the variable. In a bare row this is a premise. The card (YtkclklnfohaheaaDoorCards.lean) ties it to the program's text. -/
def laid_errors_errorType {H : Type} : DataW H := .iface "internal/reflectlite.rtype" (.agg [.ptr (.lit (.string [101, 114, 114, 111, 114]))])

/-- 'twainlaw04.TapeSeeds': WHATEVER THE INPUT: true; the input reads as it did. -/
def tapeSeedsSpec : ChangeSpec := { name := "tapeSeeds", fn := fun _ => fun
  | [d1, d2, d3] => { results := [.lit (.bool true)], args := [d1, d2, d3] }
  | _ => none }
def tapeSeedsRow : OpenClaim := { program := "ytkclklnfohaheaadoor", sum := "d5678bdfe3b80b4fdd892acdc3e810d1dd7ee5158eac75c5586388f333ece730", func := "twain/twainlaw04.TapeSeeds", spec := "tapeSeeds", inPlace := ["internal/reflectlite.ValueOf", "(internal/reflectlite.Value).Type", "(internal/reflectlite.Value).IsNil", "internal/reflectlite.TypeOf", "(internal/reflectlite.Value).Elem", "(internal/reflectlite.Value).Set"], unfollowed := true, recurses := true, named := ["errors.errorType"], apart := false, laid := [("errors.errorType", laid_errors_errorType)] }
def TapeSeedsSaid : Prop := tapeSeedsRow.holds Tryd.pinned (OpenSpec.ofChange tapeSeedsSpec)

/-- ITS FALSE NEIGHBOUR: 'it returns false'. Refute it at one input. -/
def tapeSeedsWrong : ChangeSpec := { name := "tapeSeeds", fn := fun _ => fun
  | [d1, d2, d3] => { results := [.lit (.bool false)], args := [d1, d2, d3] }
  | _ => none }
def TapeSeedsWrongFalsely : Prop := tapeSeedsRow.holds Tryd.pinned (OpenSpec.ofChange tapeSeedsWrong)

/-- 'twainlaw04.TapeEnds': WHATEVER THE INPUT: true; the input reads as it did. -/
def tapeEndsSpec : ChangeSpec := { name := "tapeEnds", fn := fun _ => fun
  | [d1, d2] => { results := [.lit (.bool true)], args := [d1, d2] }
  | _ => none }
def tapeEndsRow : OpenClaim := { program := "ytkclklnfohaheaadoor", sum := "d5678bdfe3b80b4fdd892acdc3e810d1dd7ee5158eac75c5586388f333ece730", func := "twain/twainlaw04.TapeEnds", spec := "tapeEnds", inPlace := ["internal/reflectlite.ValueOf", "(internal/reflectlite.Value).Type", "(internal/reflectlite.Value).IsNil", "internal/reflectlite.TypeOf", "(internal/reflectlite.Value).Elem", "(internal/reflectlite.Value).Set"], unfollowed := true, recurses := true, named := ["errors.errorType"], apart := false, laid := [("errors.errorType", laid_errors_errorType)] }
def TapeEndsSaid : Prop := tapeEndsRow.holds Tryd.pinned (OpenSpec.ofChange tapeEndsSpec)

/-- ITS FALSE NEIGHBOUR: 'it returns false'. Refute it at one input. -/
def tapeEndsWrong : ChangeSpec := { name := "tapeEnds", fn := fun _ => fun
  | [d1, d2] => { results := [.lit (.bool false)], args := [d1, d2] }
  | _ => none }
def TapeEndsWrongFalsely : Prop := tapeEndsRow.holds Tryd.pinned (OpenSpec.ofChange tapeEndsWrong)

/-- 'twainlaw04.TapeLabels': WHATEVER THE INPUT: true; the input reads as it did. -/
def tapeLabelsSpec : ChangeSpec := { name := "tapeLabels", fn := fun _ => fun
  | [d1, d2, d3] => { results := [.lit (.bool true)], args := [d1, d2, d3] }
  | _ => none }
def tapeLabelsRow : OpenClaim := { program := "ytkclklnfohaheaadoor", sum := "d5678bdfe3b80b4fdd892acdc3e810d1dd7ee5158eac75c5586388f333ece730", func := "twain/twainlaw04.TapeLabels", spec := "tapeLabels", inPlace := ["internal/reflectlite.ValueOf", "(internal/reflectlite.Value).Type", "(internal/reflectlite.Value).IsNil", "internal/reflectlite.TypeOf", "(internal/reflectlite.Value).Elem", "(internal/reflectlite.Value).Set"], unfollowed := true, recurses := true, named := ["errors.errorType"], apart := false, laid := [("errors.errorType", laid_errors_errorType)] }
def TapeLabelsSaid : Prop := tapeLabelsRow.holds Tryd.pinned (OpenSpec.ofChange tapeLabelsSpec)

/-- ITS FALSE NEIGHBOUR: 'it returns false'. Refute it at one input. -/
def tapeLabelsWrong : ChangeSpec := { name := "tapeLabels", fn := fun _ => fun
  | [d1, d2, d3] => { results := [.lit (.bool false)], args := [d1, d2, d3] }
  | _ => none }
def TapeLabelsWrongFalsely : Prop := tapeLabelsRow.holds Tryd.pinned (OpenSpec.ofChange tapeLabelsWrong)

/-- 'twainlaw09.CircTurned': WHATEVER THE INPUT: true; the input reads as it did. -/
def circTurnedSpec : ChangeSpec := { name := "circTurned", fn := fun _ => fun
  | [d1, d2] => { results := [.lit (.bool true)], args := [d1, d2] }
  | _ => none }
def circTurnedRow : OpenClaim := { program := "ytkclklnfohaheaadoor", sum := "d5678bdfe3b80b4fdd892acdc3e810d1dd7ee5158eac75c5586388f333ece730", func := "twain/twainlaw09.CircTurned", spec := "circTurned", inPlace := ["internal/reflectlite.ValueOf", "(internal/reflectlite.Value).Type", "(internal/reflectlite.Value).IsNil", "internal/reflectlite.TypeOf", "(internal/reflectlite.Value).Elem", "(internal/reflectlite.Value).Set"], unfollowed := true, recurses := true, named := ["errors.errorType"], apart := false, laid := [("errors.errorType", laid_errors_errorType)] }
def CircTurnedSaid : Prop := circTurnedRow.holds Tryd.pinned (OpenSpec.ofChange circTurnedSpec)

/-- ITS FALSE NEIGHBOUR: 'it returns false'. Refute it at one input. -/
def circTurnedWrong : ChangeSpec := { name := "circTurned", fn := fun _ => fun
  | [d1, d2] => { results := [.lit (.bool false)], args := [d1, d2] }
  | _ => none }
def CircTurnedWrongFalsely : Prop := circTurnedRow.holds Tryd.pinned (OpenSpec.ofChange circTurnedWrong)

/-- 'twainlaw09.CircEvals': WHATEVER THE INPUT: true; the input reads as it did. -/
def circEvalsSpec : ChangeSpec := { name := "circEvals", fn := fun _ => fun
  | [d1, d2] => { results := [.lit (.bool true)], args := [d1, d2] }
  | _ => none }
def circEvalsRow : OpenClaim := { program := "ytkclklnfohaheaadoor", sum := "d5678bdfe3b80b4fdd892acdc3e810d1dd7ee5158eac75c5586388f333ece730", func := "twain/twainlaw09.CircEvals", spec := "circEvals", inPlace := ["internal/reflectlite.ValueOf", "(internal/reflectlite.Value).Type", "(internal/reflectlite.Value).IsNil", "internal/reflectlite.TypeOf", "(internal/reflectlite.Value).Elem", "(internal/reflectlite.Value).Set"], unfollowed := true, recurses := true, named := ["errors.errorType"], apart := false, laid := [("errors.errorType", laid_errors_errorType)] }
def CircEvalsSaid : Prop := circEvalsRow.holds Tryd.pinned (OpenSpec.ofChange circEvalsSpec)

/-- ITS FALSE NEIGHBOUR: 'it returns false'. Refute it at one input. -/
def circEvalsWrong : ChangeSpec := { name := "circEvals", fn := fun _ => fun
  | [d1, d2] => { results := [.lit (.bool false)], args := [d1, d2] }
  | _ => none }
def CircEvalsWrongFalsely : Prop := circEvalsRow.holds Tryd.pinned (OpenSpec.ofChange circEvalsWrong)

/-- 'twainlaw09.CircWords': WHATEVER THE INPUT: true; the input reads as it did. -/
def circWordsSpec : ChangeSpec := { name := "circWords", fn := fun _ => fun
  | [d1, d2] => { results := [.lit (.bool true)], args := [d1, d2] }
  | _ => none }
def circWordsRow : OpenClaim := { program := "ytkclklnfohaheaadoor", sum := "d5678bdfe3b80b4fdd892acdc3e810d1dd7ee5158eac75c5586388f333ece730", func := "twain/twainlaw09.CircWords", spec := "circWords", inPlace := ["internal/reflectlite.ValueOf", "(internal/reflectlite.Value).Type", "(internal/reflectlite.Value).IsNil", "internal/reflectlite.TypeOf", "(internal/reflectlite.Value).Elem", "(internal/reflectlite.Value).Set"], unfollowed := true, recurses := true, named := ["errors.errorType"], apart := false, laid := [("errors.errorType", laid_errors_errorType)] }
def CircWordsSaid : Prop := circWordsRow.holds Tryd.pinned (OpenSpec.ofChange circWordsSpec)

/-- ITS FALSE NEIGHBOUR: 'it returns false'. Refute it at one input. -/
def circWordsWrong : ChangeSpec := { name := "circWords", fn := fun _ => fun
  | [d1, d2] => { results := [.lit (.bool false)], args := [d1, d2] }
  | _ => none }
def CircWordsWrongFalsely : Prop := circWordsRow.holds Tryd.pinned (OpenSpec.ofChange circWordsWrong)

/-- 'twainlaw09.CircMakes': WHATEVER THE INPUT: true; the input reads as it did. -/
def circMakesSpec : ChangeSpec := { name := "circMakes", fn := fun _ => fun
  | [d1, d2, d3] => { results := [.lit (.bool true)], args := [d1, d2, d3] }
  | _ => none }
def circMakesRow : OpenClaim := { program := "ytkclklnfohaheaadoor", sum := "d5678bdfe3b80b4fdd892acdc3e810d1dd7ee5158eac75c5586388f333ece730", func := "twain/twainlaw09.CircMakes", spec := "circMakes", inPlace := ["internal/reflectlite.ValueOf", "(internal/reflectlite.Value).Type", "(internal/reflectlite.Value).IsNil", "internal/reflectlite.TypeOf", "(internal/reflectlite.Value).Elem", "(internal/reflectlite.Value).Set"], unfollowed := true, recurses := true, named := ["errors.errorType"], apart := false, laid := [("errors.errorType", laid_errors_errorType)] }
def CircMakesSaid : Prop := circMakesRow.holds Tryd.pinned (OpenSpec.ofChange circMakesSpec)

/-- ITS FALSE NEIGHBOUR: 'it returns false'. Refute it at one input. -/
def circMakesWrong : ChangeSpec := { name := "circMakes", fn := fun _ => fun
  | [d1, d2, d3] => { results := [.lit (.bool false)], args := [d1, d2, d3] }
  | _ => none }
def CircMakesWrongFalsely : Prop := circMakesRow.holds Tryd.pinned (OpenSpec.ofChange circMakesWrong)

/-- 'twainlaw06.NetOrder': WHATEVER THE INPUT: true; the input reads as it did. -/
def netOrderSpec : ChangeSpec := { name := "netOrder", fn := fun _ => fun
  | [d1, d2, d3] => { results := [.lit (.bool true)], args := [d1, d2, d3] }
  | _ => none }
def netOrderRow : OpenClaim := { program := "ytkclklnfohaheaadoor", sum := "d5678bdfe3b80b4fdd892acdc3e810d1dd7ee5158eac75c5586388f333ece730", func := "twain/twainlaw06.NetOrder", spec := "netOrder", inPlace := ["internal/reflectlite.ValueOf", "(internal/reflectlite.Value).Type", "(internal/reflectlite.Value).IsNil", "internal/reflectlite.TypeOf", "(internal/reflectlite.Value).Elem", "(internal/reflectlite.Value).Set"], unfollowed := true, recurses := true, named := ["errors.errorType"], apart := false, laid := [("errors.errorType", laid_errors_errorType)] }
def NetOrderSaid : Prop := netOrderRow.holds Tryd.pinned (OpenSpec.ofChange netOrderSpec)

/-- ITS FALSE NEIGHBOUR: 'it returns false'. Refute it at one input. -/
def netOrderWrong : ChangeSpec := { name := "netOrder", fn := fun _ => fun
  | [d1, d2, d3] => { results := [.lit (.bool false)], args := [d1, d2, d3] }
  | _ => none }
def NetOrderWrongFalsely : Prop := netOrderRow.holds Tryd.pinned (OpenSpec.ofChange netOrderWrong)

/-- 'twainlaw06.NetOwn': WHATEVER THE INPUT: true; the input reads as it did. -/
def netOwnSpec : ChangeSpec := { name := "netOwn", fn := fun _ => fun
  | [d1, d2] => { results := [.lit (.bool true)], args := [d1, d2] }
  | _ => none }
def netOwnRow : OpenClaim := { program := "ytkclklnfohaheaadoor", sum := "d5678bdfe3b80b4fdd892acdc3e810d1dd7ee5158eac75c5586388f333ece730", func := "twain/twainlaw06.NetOwn", spec := "netOwn", inPlace := ["internal/reflectlite.ValueOf", "(internal/reflectlite.Value).Type", "(internal/reflectlite.Value).IsNil", "internal/reflectlite.TypeOf", "(internal/reflectlite.Value).Elem", "(internal/reflectlite.Value).Set"], unfollowed := true, recurses := true, named := ["errors.errorType"], apart := false, laid := [("errors.errorType", laid_errors_errorType)] }
def NetOwnSaid : Prop := netOwnRow.holds Tryd.pinned (OpenSpec.ofChange netOwnSpec)

/-- ITS FALSE NEIGHBOUR: 'it returns false'. Refute it at one input. -/
def netOwnWrong : ChangeSpec := { name := "netOwn", fn := fun _ => fun
  | [d1, d2] => { results := [.lit (.bool false)], args := [d1, d2] }
  | _ => none }
def NetOwnWrongFalsely : Prop := netOwnRow.holds Tryd.pinned (OpenSpec.ofChange netOwnWrong)

/-- 'twainlaw06.NetFull': WHATEVER THE INPUT: true; the input reads as it did. -/
def netFullSpec : ChangeSpec := { name := "netFull", fn := fun _ => fun
  | [d1, d2, d3] => { results := [.lit (.bool true)], args := [d1, d2, d3] }
  | _ => none }
def netFullRow : OpenClaim := { program := "ytkclklnfohaheaadoor", sum := "d5678bdfe3b80b4fdd892acdc3e810d1dd7ee5158eac75c5586388f333ece730", func := "twain/twainlaw06.NetFull", spec := "netFull", inPlace := ["internal/reflectlite.ValueOf", "(internal/reflectlite.Value).Type", "(internal/reflectlite.Value).IsNil", "internal/reflectlite.TypeOf", "(internal/reflectlite.Value).Elem", "(internal/reflectlite.Value).Set"], unfollowed := true, recurses := true, named := ["errors.errorType"], apart := false, laid := [("errors.errorType", laid_errors_errorType)] }
def NetFullSaid : Prop := netFullRow.holds Tryd.pinned (OpenSpec.ofChange netFullSpec)

/-- ITS FALSE NEIGHBOUR: 'it returns false'. Refute it at one input. -/
def netFullWrong : ChangeSpec := { name := "netFull", fn := fun _ => fun
  | [d1, d2, d3] => { results := [.lit (.bool false)], args := [d1, d2, d3] }
  | _ => none }
def NetFullWrongFalsely : Prop := netFullRow.holds Tryd.pinned (OpenSpec.ofChange netFullWrong)

/-- 'twainlaw06.NetPlays': WHATEVER THE INPUT: true; the input reads as it did. -/
def netPlaysSpec : ChangeSpec := { name := "netPlays", fn := fun _ => fun
  | [d] => { results := [.lit (.bool true)], args := [d] }
  | _ => none }
def netPlaysRow : OpenClaim := { program := "ytkclklnfohaheaadoor", sum := "d5678bdfe3b80b4fdd892acdc3e810d1dd7ee5158eac75c5586388f333ece730", func := "twain/twainlaw06.NetPlays", spec := "netPlays", inPlace := ["internal/reflectlite.ValueOf", "(internal/reflectlite.Value).Type", "(internal/reflectlite.Value).IsNil", "internal/reflectlite.TypeOf", "(internal/reflectlite.Value).Elem", "(internal/reflectlite.Value).Set"], unfollowed := true, recurses := true, named := ["errors.errorType"], apart := false, laid := [("errors.errorType", laid_errors_errorType)] }
def NetPlaysSaid : Prop := netPlaysRow.holds Tryd.pinned (OpenSpec.ofChange netPlaysSpec)

/-- ITS FALSE NEIGHBOUR: 'it returns false'. Refute it at one input. -/
def netPlaysWrong : ChangeSpec := { name := "netPlays", fn := fun _ => fun
  | [d] => { results := [.lit (.bool false)], args := [d] }
  | _ => none }
def NetPlaysWrongFalsely : Prop := netPlaysRow.holds Tryd.pinned (OpenSpec.ofChange netPlaysWrong)

/- THE SECOND FORM. 'bulk': how many values and letters a reading holds, each counted each time it is reached (what is shared counts as often as it is met; a slice's spare places count too). A statement '..UptoSaid' is the law's where the arguments, and the package variables that the reading takes, are together of bulk at most 1048576: NARROWER than '..Said'. Prove '..Said' where nothing that the law and all that it calls make is longer than what came in: it says more and counts as full. Else prove '..UptoSaid'. A law counts once. -/
mutual
def uptoBulk {H : Type} : DataW H → Nat
  | .lit (.string bytes) => bytes.length + 1
  | .lit _ => 1
  | .nil => 1
  | .ptr d => uptoBulk d + 1
  | .slice elems spare => uptoBulkAll elems + uptoBulkAll spare + 1
  | .agg parts => uptoBulkAll parts + 1
  | .iface _ d => uptoBulk d + 1
  | .map entries => uptoBulkEntries entries + 1
  | .held _ => 1
def uptoBulkAll {H : Type} : List (DataW H) → Nat
  | [] => 0
  | d :: r => uptoBulk d + uptoBulkAll r
def uptoBulkEntries {H : Type} : List (Lit × DataW H) → Nat
  | [] => 0
  | x :: r => uptoBulkEntry x + uptoBulkEntries r
def uptoBulkEntry {H : Type} : Lit × DataW H → Nat
  | (.string bytes, d) => bytes.length + uptoBulk d + 1
  | (_, d) => uptoBulk d + 1
 end
def uptoSmall : (H : Type) → List (DataW H) → Bool := fun _ ds => decide (uptoBulkAll ds ≤ 1048576)
def OpenSpec.upto (s : _root_.Go.ChangeSpec) : _root_.Go.OpenSpec := { _root_.Go.OpenSpec.ofChange s with cond := some uptoSmall }

/-- 'twainlaw04.TapeSeeds', WHERE WHAT IT READS IS OF BULK AT MOST 1048576: true; the input reads as it did. -/
def tapeSeedsUptoRow : OpenClaim := { program := "ytkclklnfohaheaadoor", sum := "d5678bdfe3b80b4fdd892acdc3e810d1dd7ee5158eac75c5586388f333ece730", func := "twain/twainlaw04.TapeSeeds", spec := "tapeSeeds", inPlace := ["internal/reflectlite.ValueOf", "(internal/reflectlite.Value).Type", "(internal/reflectlite.Value).IsNil", "internal/reflectlite.TypeOf", "(internal/reflectlite.Value).Elem", "(internal/reflectlite.Value).Set"], unfollowed := true, recurses := true, named := ["errors.errorType"], apart := false, laid := [("errors.errorType", laid_errors_errorType)], narrowed := true }
def TapeSeedsUptoSaid : Prop := tapeSeedsUptoRow.holds Tryd.pinned (OpenSpec.upto tapeSeedsSpec)

/-- 'twainlaw04.TapeEnds', WHERE WHAT IT READS IS OF BULK AT MOST 1048576: true; the input reads as it did. -/
def tapeEndsUptoRow : OpenClaim := { program := "ytkclklnfohaheaadoor", sum := "d5678bdfe3b80b4fdd892acdc3e810d1dd7ee5158eac75c5586388f333ece730", func := "twain/twainlaw04.TapeEnds", spec := "tapeEnds", inPlace := ["internal/reflectlite.ValueOf", "(internal/reflectlite.Value).Type", "(internal/reflectlite.Value).IsNil", "internal/reflectlite.TypeOf", "(internal/reflectlite.Value).Elem", "(internal/reflectlite.Value).Set"], unfollowed := true, recurses := true, named := ["errors.errorType"], apart := false, laid := [("errors.errorType", laid_errors_errorType)], narrowed := true }
def TapeEndsUptoSaid : Prop := tapeEndsUptoRow.holds Tryd.pinned (OpenSpec.upto tapeEndsSpec)

/-- 'twainlaw04.TapeLabels', WHERE WHAT IT READS IS OF BULK AT MOST 1048576: true; the input reads as it did. -/
def tapeLabelsUptoRow : OpenClaim := { program := "ytkclklnfohaheaadoor", sum := "d5678bdfe3b80b4fdd892acdc3e810d1dd7ee5158eac75c5586388f333ece730", func := "twain/twainlaw04.TapeLabels", spec := "tapeLabels", inPlace := ["internal/reflectlite.ValueOf", "(internal/reflectlite.Value).Type", "(internal/reflectlite.Value).IsNil", "internal/reflectlite.TypeOf", "(internal/reflectlite.Value).Elem", "(internal/reflectlite.Value).Set"], unfollowed := true, recurses := true, named := ["errors.errorType"], apart := false, laid := [("errors.errorType", laid_errors_errorType)], narrowed := true }
def TapeLabelsUptoSaid : Prop := tapeLabelsUptoRow.holds Tryd.pinned (OpenSpec.upto tapeLabelsSpec)

/-- 'twainlaw09.CircTurned', WHERE WHAT IT READS IS OF BULK AT MOST 1048576: true; the input reads as it did. -/
def circTurnedUptoRow : OpenClaim := { program := "ytkclklnfohaheaadoor", sum := "d5678bdfe3b80b4fdd892acdc3e810d1dd7ee5158eac75c5586388f333ece730", func := "twain/twainlaw09.CircTurned", spec := "circTurned", inPlace := ["internal/reflectlite.ValueOf", "(internal/reflectlite.Value).Type", "(internal/reflectlite.Value).IsNil", "internal/reflectlite.TypeOf", "(internal/reflectlite.Value).Elem", "(internal/reflectlite.Value).Set"], unfollowed := true, recurses := true, named := ["errors.errorType"], apart := false, laid := [("errors.errorType", laid_errors_errorType)], narrowed := true }
def CircTurnedUptoSaid : Prop := circTurnedUptoRow.holds Tryd.pinned (OpenSpec.upto circTurnedSpec)

/-- 'twainlaw09.CircEvals', WHERE WHAT IT READS IS OF BULK AT MOST 1048576: true; the input reads as it did. -/
def circEvalsUptoRow : OpenClaim := { program := "ytkclklnfohaheaadoor", sum := "d5678bdfe3b80b4fdd892acdc3e810d1dd7ee5158eac75c5586388f333ece730", func := "twain/twainlaw09.CircEvals", spec := "circEvals", inPlace := ["internal/reflectlite.ValueOf", "(internal/reflectlite.Value).Type", "(internal/reflectlite.Value).IsNil", "internal/reflectlite.TypeOf", "(internal/reflectlite.Value).Elem", "(internal/reflectlite.Value).Set"], unfollowed := true, recurses := true, named := ["errors.errorType"], apart := false, laid := [("errors.errorType", laid_errors_errorType)], narrowed := true }
def CircEvalsUptoSaid : Prop := circEvalsUptoRow.holds Tryd.pinned (OpenSpec.upto circEvalsSpec)

/-- 'twainlaw09.CircWords', WHERE WHAT IT READS IS OF BULK AT MOST 1048576: true; the input reads as it did. -/
def circWordsUptoRow : OpenClaim := { program := "ytkclklnfohaheaadoor", sum := "d5678bdfe3b80b4fdd892acdc3e810d1dd7ee5158eac75c5586388f333ece730", func := "twain/twainlaw09.CircWords", spec := "circWords", inPlace := ["internal/reflectlite.ValueOf", "(internal/reflectlite.Value).Type", "(internal/reflectlite.Value).IsNil", "internal/reflectlite.TypeOf", "(internal/reflectlite.Value).Elem", "(internal/reflectlite.Value).Set"], unfollowed := true, recurses := true, named := ["errors.errorType"], apart := false, laid := [("errors.errorType", laid_errors_errorType)], narrowed := true }
def CircWordsUptoSaid : Prop := circWordsUptoRow.holds Tryd.pinned (OpenSpec.upto circWordsSpec)

/-- 'twainlaw09.CircMakes', WHERE WHAT IT READS IS OF BULK AT MOST 1048576: true; the input reads as it did. -/
def circMakesUptoRow : OpenClaim := { program := "ytkclklnfohaheaadoor", sum := "d5678bdfe3b80b4fdd892acdc3e810d1dd7ee5158eac75c5586388f333ece730", func := "twain/twainlaw09.CircMakes", spec := "circMakes", inPlace := ["internal/reflectlite.ValueOf", "(internal/reflectlite.Value).Type", "(internal/reflectlite.Value).IsNil", "internal/reflectlite.TypeOf", "(internal/reflectlite.Value).Elem", "(internal/reflectlite.Value).Set"], unfollowed := true, recurses := true, named := ["errors.errorType"], apart := false, laid := [("errors.errorType", laid_errors_errorType)], narrowed := true }
def CircMakesUptoSaid : Prop := circMakesUptoRow.holds Tryd.pinned (OpenSpec.upto circMakesSpec)

/-- 'twainlaw06.NetOrder', WHERE WHAT IT READS IS OF BULK AT MOST 1048576: true; the input reads as it did. -/
def netOrderUptoRow : OpenClaim := { program := "ytkclklnfohaheaadoor", sum := "d5678bdfe3b80b4fdd892acdc3e810d1dd7ee5158eac75c5586388f333ece730", func := "twain/twainlaw06.NetOrder", spec := "netOrder", inPlace := ["internal/reflectlite.ValueOf", "(internal/reflectlite.Value).Type", "(internal/reflectlite.Value).IsNil", "internal/reflectlite.TypeOf", "(internal/reflectlite.Value).Elem", "(internal/reflectlite.Value).Set"], unfollowed := true, recurses := true, named := ["errors.errorType"], apart := false, laid := [("errors.errorType", laid_errors_errorType)], narrowed := true }
def NetOrderUptoSaid : Prop := netOrderUptoRow.holds Tryd.pinned (OpenSpec.upto netOrderSpec)

/-- 'twainlaw06.NetOwn', WHERE WHAT IT READS IS OF BULK AT MOST 1048576: true; the input reads as it did. -/
def netOwnUptoRow : OpenClaim := { program := "ytkclklnfohaheaadoor", sum := "d5678bdfe3b80b4fdd892acdc3e810d1dd7ee5158eac75c5586388f333ece730", func := "twain/twainlaw06.NetOwn", spec := "netOwn", inPlace := ["internal/reflectlite.ValueOf", "(internal/reflectlite.Value).Type", "(internal/reflectlite.Value).IsNil", "internal/reflectlite.TypeOf", "(internal/reflectlite.Value).Elem", "(internal/reflectlite.Value).Set"], unfollowed := true, recurses := true, named := ["errors.errorType"], apart := false, laid := [("errors.errorType", laid_errors_errorType)], narrowed := true }
def NetOwnUptoSaid : Prop := netOwnUptoRow.holds Tryd.pinned (OpenSpec.upto netOwnSpec)

/-- 'twainlaw06.NetFull', WHERE WHAT IT READS IS OF BULK AT MOST 1048576: true; the input reads as it did. -/
def netFullUptoRow : OpenClaim := { program := "ytkclklnfohaheaadoor", sum := "d5678bdfe3b80b4fdd892acdc3e810d1dd7ee5158eac75c5586388f333ece730", func := "twain/twainlaw06.NetFull", spec := "netFull", inPlace := ["internal/reflectlite.ValueOf", "(internal/reflectlite.Value).Type", "(internal/reflectlite.Value).IsNil", "internal/reflectlite.TypeOf", "(internal/reflectlite.Value).Elem", "(internal/reflectlite.Value).Set"], unfollowed := true, recurses := true, named := ["errors.errorType"], apart := false, laid := [("errors.errorType", laid_errors_errorType)], narrowed := true }
def NetFullUptoSaid : Prop := netFullUptoRow.holds Tryd.pinned (OpenSpec.upto netFullSpec)

/-- 'twainlaw06.NetPlays', WHERE WHAT IT READS IS OF BULK AT MOST 1048576: true; the input reads as it did. -/
def netPlaysUptoRow : OpenClaim := { program := "ytkclklnfohaheaadoor", sum := "d5678bdfe3b80b4fdd892acdc3e810d1dd7ee5158eac75c5586388f333ece730", func := "twain/twainlaw06.NetPlays", spec := "netPlays", inPlace := ["internal/reflectlite.ValueOf", "(internal/reflectlite.Value).Type", "(internal/reflectlite.Value).IsNil", "internal/reflectlite.TypeOf", "(internal/reflectlite.Value).Elem", "(internal/reflectlite.Value).Set"], unfollowed := true, recurses := true, named := ["errors.errorType"], apart := false, laid := [("errors.errorType", laid_errors_errorType)], narrowed := true }
def NetPlaysUptoSaid : Prop := netPlaysUptoRow.holds Tryd.pinned (OpenSpec.upto netPlaysSpec)

end Rows
end Go.Proofs.YtkclklnfohaheaaDoor
