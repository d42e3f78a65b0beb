/-
  NARROWER THAN 'FOR EVERY INPUT', by the rows' own cells (each row's printed sentence says how): CorrFits: laid · CorrApart: laid · CorrLoads: laid · CorrSpent: laid · CorrDeals: laid · CircMakes: laid · GarbleFree: laid · GarbleRight: laid · GarbleTables: laid · GarbleEvals: laid · GarbleChooses: laid · GarbleMade: laid.
  DERIVED. THE GIVEN ROWS OF THIS SEAT. 12 by the template 'for every input the law returns true; each argument reads behind the call as it read before'; 0 by the template 'total and deterministic' (their statements: YteofdmdpaejgaaaDoorTotals.lean).
  GIVEN WITH THE SEED: the statements are not yours to turn. If you find one false, say at which input.
  Laid BY PROGRAM, IN A SANDBOX (cutbox-rows.mjs): the forced cells as the released guide's own fill.sh prints them over the translation 89334392a966ffe7… (all of the seat's roots in one cut). By AI agents, Wed Nov 11 2026. No macro, syntax, notation, axiom, sorry.
-/
import Derived.Test.YteofdmdpaejgaaaDoorChecked
import GoSem.Claim
import GoSem.ClaimJoined
import GoSem.ClaimMapViews
import Derived.JoinedTies
import Derived.KernelRfl
namespace Go.Proofs.YteofdmdpaejgaaaDoor
/- THE CELL 'sum', in the pinned program and in every row, IS THE sha256 OF THE DUMP (.gsa) THAT YteofdmdpaejgaaaDoorProg.lean LOADS. Nothing in Lean hashes anything: it is a label: what it is worth is what the hold of that sum in a sandbox is worth. -/
noncomputable def Tryd.pinned : Pinned := { name := "yteofdmdpaejgaaadoor", sum := "89334392a966ffe7ab06290f4e05485c09a9b4649a595fe62500fa7394e1dd6d", checked := Tryd.checked }
namespace Rows
def none {H : Type} : Left H := { results := [], args := [] }

/- WHAT THE LISTED PACKAGE-LEVEL VARIABLES READ AS WHEN THE CALL BEGINS. Each datum BY PROGRAM (the guide's laid-datum.mjs) off the statement by which the dump's own 'gosem.cut.vars' lays the variable. In a bare row this is a premise. The card (YteofdmdpaejgaaaDoorCards.lean) ties it to the program's text. -/
def laid_errors_errorType {H : Type} : DataW H := .iface "internal/reflectlite.rtype" (.agg [.ptr (.lit (.string [101, 114, 114, 111, 114]))])

/-- 'twainlaw08.CorrFits': WHATEVER THE INPUT: true; the input reads as it did. -/
def corrFitsSpec : ChangeSpec := { name := "corrFits", fn := fun _ => fun
  | [d] => { results := [.lit (.bool true)], args := [d] }
  | _ => none }
def corrFitsRow : OpenClaim := { program := "yteofdmdpaejgaaadoor", sum := "89334392a966ffe7ab06290f4e05485c09a9b4649a595fe62500fa7394e1dd6d", func := "twain/twainlaw08.CorrFits", spec := "corrFits", inPlace := ["internal/reflectlite.ValueOf", "(internal/reflectlite.Value).Type", "(internal/reflectlite.Value).IsNil", "internal/reflectlite.TypeOf", "(internal/reflectlite.Value).Elem", "(internal/reflectlite.Value).Set"], unfollowed := true, recurses := true, named := ["errors.errorType"], apart := false, laid := [("errors.errorType", laid_errors_errorType)] }
def CorrFitsSaid : Prop := corrFitsRow.holds Tryd.pinned (OpenSpec.ofChange corrFitsSpec)

/-- ITS FALSE NEIGHBOUR: 'it returns false'. Refute it at one input. -/
def corrFitsWrong : ChangeSpec := { name := "corrFits", fn := fun _ => fun
  | [d] => { results := [.lit (.bool false)], args := [d] }
  | _ => none }
def CorrFitsWrongFalsely : Prop := corrFitsRow.holds Tryd.pinned (OpenSpec.ofChange corrFitsWrong)

/-- 'twainlaw08.CorrApart': WHATEVER THE INPUT: true; the input reads as it did. -/
def corrApartSpec : ChangeSpec := { name := "corrApart", fn := fun _ => fun
  | [d1, d2, d3] => { results := [.lit (.bool true)], args := [d1, d2, d3] }
  | _ => none }
def corrApartRow : OpenClaim := { program := "yteofdmdpaejgaaadoor", sum := "89334392a966ffe7ab06290f4e05485c09a9b4649a595fe62500fa7394e1dd6d", func := "twain/twainlaw08.CorrApart", spec := "corrApart", inPlace := ["internal/reflectlite.ValueOf", "(internal/reflectlite.Value).Type", "(internal/reflectlite.Value).IsNil", "internal/reflectlite.TypeOf", "(internal/reflectlite.Value).Elem", "(internal/reflectlite.Value).Set"], unfollowed := true, recurses := true, named := ["errors.errorType"], apart := false, laid := [("errors.errorType", laid_errors_errorType)] }
def CorrApartSaid : Prop := corrApartRow.holds Tryd.pinned (OpenSpec.ofChange corrApartSpec)

/-- ITS FALSE NEIGHBOUR: 'it returns false'. Refute it at one input. -/
def corrApartWrong : ChangeSpec := { name := "corrApart", fn := fun _ => fun
  | [d1, d2, d3] => { results := [.lit (.bool false)], args := [d1, d2, d3] }
  | _ => none }
def CorrApartWrongFalsely : Prop := corrApartRow.holds Tryd.pinned (OpenSpec.ofChange corrApartWrong)

/-- 'twainlaw08.CorrLoads': WHATEVER THE INPUT: true; the input reads as it did. -/
def corrLoadsSpec : ChangeSpec := { name := "corrLoads", fn := fun _ => fun
  | [d1, d2, d3] => { results := [.lit (.bool true)], args := [d1, d2, d3] }
  | _ => none }
def corrLoadsRow : OpenClaim := { program := "yteofdmdpaejgaaadoor", sum := "89334392a966ffe7ab06290f4e05485c09a9b4649a595fe62500fa7394e1dd6d", func := "twain/twainlaw08.CorrLoads", spec := "corrLoads", inPlace := ["internal/reflectlite.ValueOf", "(internal/reflectlite.Value).Type", "(internal/reflectlite.Value).IsNil", "internal/reflectlite.TypeOf", "(internal/reflectlite.Value).Elem", "(internal/reflectlite.Value).Set"], unfollowed := true, recurses := true, named := ["errors.errorType"], apart := false, laid := [("errors.errorType", laid_errors_errorType)] }
def CorrLoadsSaid : Prop := corrLoadsRow.holds Tryd.pinned (OpenSpec.ofChange corrLoadsSpec)

/-- ITS FALSE NEIGHBOUR: 'it returns false'. Refute it at one input. -/
def corrLoadsWrong : ChangeSpec := { name := "corrLoads", fn := fun _ => fun
  | [d1, d2, d3] => { results := [.lit (.bool false)], args := [d1, d2, d3] }
  | _ => none }
def CorrLoadsWrongFalsely : Prop := corrLoadsRow.holds Tryd.pinned (OpenSpec.ofChange corrLoadsWrong)

/-- 'twainlaw08.CorrSpent': WHATEVER THE INPUT: true; the input reads as it did. -/
def corrSpentSpec : ChangeSpec := { name := "corrSpent", fn := fun _ => fun
  | [d1, d2, d3] => { results := [.lit (.bool true)], args := [d1, d2, d3] }
  | _ => none }
def corrSpentRow : OpenClaim := { program := "yteofdmdpaejgaaadoor", sum := "89334392a966ffe7ab06290f4e05485c09a9b4649a595fe62500fa7394e1dd6d", func := "twain/twainlaw08.CorrSpent", spec := "corrSpent", inPlace := ["internal/reflectlite.ValueOf", "(internal/reflectlite.Value).Type", "(internal/reflectlite.Value).IsNil", "internal/reflectlite.TypeOf", "(internal/reflectlite.Value).Elem", "(internal/reflectlite.Value).Set"], unfollowed := true, recurses := true, named := ["errors.errorType"], apart := false, laid := [("errors.errorType", laid_errors_errorType)] }
def CorrSpentSaid : Prop := corrSpentRow.holds Tryd.pinned (OpenSpec.ofChange corrSpentSpec)

/-- ITS FALSE NEIGHBOUR: 'it returns false'. Refute it at one input. -/
def corrSpentWrong : ChangeSpec := { name := "corrSpent", fn := fun _ => fun
  | [d1, d2, d3] => { results := [.lit (.bool false)], args := [d1, d2, d3] }
  | _ => none }
def CorrSpentWrongFalsely : Prop := corrSpentRow.holds Tryd.pinned (OpenSpec.ofChange corrSpentWrong)

/-- 'twainlaw08.CorrDeals': WHATEVER THE INPUT: true; the input reads as it did. -/
def corrDealsSpec : ChangeSpec := { name := "corrDeals", fn := fun _ => fun
  | [d1, d2, d3] => { results := [.lit (.bool true)], args := [d1, d2, d3] }
  | _ => none }
def corrDealsRow : OpenClaim := { program := "yteofdmdpaejgaaadoor", sum := "89334392a966ffe7ab06290f4e05485c09a9b4649a595fe62500fa7394e1dd6d", func := "twain/twainlaw08.CorrDeals", spec := "corrDeals", inPlace := ["internal/reflectlite.ValueOf", "(internal/reflectlite.Value).Type", "(internal/reflectlite.Value).IsNil", "internal/reflectlite.TypeOf", "(internal/reflectlite.Value).Elem", "(internal/reflectlite.Value).Set"], unfollowed := true, recurses := true, named := ["errors.errorType"], apart := false, laid := [("errors.errorType", laid_errors_errorType)] }
def CorrDealsSaid : Prop := corrDealsRow.holds Tryd.pinned (OpenSpec.ofChange corrDealsSpec)

/-- ITS FALSE NEIGHBOUR: 'it returns false'. Refute it at one input. -/
def corrDealsWrong : ChangeSpec := { name := "corrDeals", fn := fun _ => fun
  | [d1, d2, d3] => { results := [.lit (.bool false)], args := [d1, d2, d3] }
  | _ => none }
def CorrDealsWrongFalsely : Prop := corrDealsRow.holds Tryd.pinned (OpenSpec.ofChange corrDealsWrong)

/-- 'twainlaw09.CircMakes': WHATEVER THE INPUT: true; the input reads as it did. -/
def circMakesSpec : ChangeSpec := { name := "circMakes", fn := fun _ => fun
  | [d1, d2, d3] => { results := [.lit (.bool true)], args := [d1, d2, d3] }
  | _ => none }
def circMakesRow : OpenClaim := { program := "yteofdmdpaejgaaadoor", sum := "89334392a966ffe7ab06290f4e05485c09a9b4649a595fe62500fa7394e1dd6d", func := "twain/twainlaw09.CircMakes", spec := "circMakes", inPlace := ["internal/reflectlite.ValueOf", "(internal/reflectlite.Value).Type", "(internal/reflectlite.Value).IsNil", "internal/reflectlite.TypeOf", "(internal/reflectlite.Value).Elem", "(internal/reflectlite.Value).Set"], unfollowed := true, recurses := true, named := ["errors.errorType"], apart := false, laid := [("errors.errorType", laid_errors_errorType)] }
def CircMakesSaid : Prop := circMakesRow.holds Tryd.pinned (OpenSpec.ofChange circMakesSpec)

/-- ITS FALSE NEIGHBOUR: 'it returns false'. Refute it at one input. -/
def circMakesWrong : ChangeSpec := { name := "circMakes", fn := fun _ => fun
  | [d1, d2, d3] => { results := [.lit (.bool false)], args := [d1, d2, d3] }
  | _ => none }
def CircMakesWrongFalsely : Prop := circMakesRow.holds Tryd.pinned (OpenSpec.ofChange circMakesWrong)

/-- 'twainlaw10.GarbleFree': WHATEVER THE INPUT: true; the input reads as it did. -/
def garbleFreeSpec : ChangeSpec := { name := "garbleFree", fn := fun _ => fun
  | [d1, d2] => { results := [.lit (.bool true)], args := [d1, d2] }
  | _ => none }
def garbleFreeRow : OpenClaim := { program := "yteofdmdpaejgaaadoor", sum := "89334392a966ffe7ab06290f4e05485c09a9b4649a595fe62500fa7394e1dd6d", func := "twain/twainlaw10.GarbleFree", spec := "garbleFree", inPlace := ["internal/reflectlite.ValueOf", "(internal/reflectlite.Value).Type", "(internal/reflectlite.Value).IsNil", "internal/reflectlite.TypeOf", "(internal/reflectlite.Value).Elem", "(internal/reflectlite.Value).Set"], unfollowed := true, recurses := true, named := ["errors.errorType"], apart := false, laid := [("errors.errorType", laid_errors_errorType)] }
def GarbleFreeSaid : Prop := garbleFreeRow.holds Tryd.pinned (OpenSpec.ofChange garbleFreeSpec)

/-- ITS FALSE NEIGHBOUR: 'it returns false'. Refute it at one input. -/
def garbleFreeWrong : ChangeSpec := { name := "garbleFree", fn := fun _ => fun
  | [d1, d2] => { results := [.lit (.bool false)], args := [d1, d2] }
  | _ => none }
def GarbleFreeWrongFalsely : Prop := garbleFreeRow.holds Tryd.pinned (OpenSpec.ofChange garbleFreeWrong)

/-- 'twainlaw10.GarbleRight': WHATEVER THE INPUT: true; the input reads as it did. -/
def garbleRightSpec : ChangeSpec := { name := "garbleRight", fn := fun _ => fun
  | [d1, d2, d3] => { results := [.lit (.bool true)], args := [d1, d2, d3] }
  | _ => none }
def garbleRightRow : OpenClaim := { program := "yteofdmdpaejgaaadoor", sum := "89334392a966ffe7ab06290f4e05485c09a9b4649a595fe62500fa7394e1dd6d", func := "twain/twainlaw10.GarbleRight", spec := "garbleRight", inPlace := ["internal/reflectlite.ValueOf", "(internal/reflectlite.Value).Type", "(internal/reflectlite.Value).IsNil", "internal/reflectlite.TypeOf", "(internal/reflectlite.Value).Elem", "(internal/reflectlite.Value).Set"], unfollowed := true, recurses := true, named := ["errors.errorType"], apart := false, laid := [("errors.errorType", laid_errors_errorType)] }
def GarbleRightSaid : Prop := garbleRightRow.holds Tryd.pinned (OpenSpec.ofChange garbleRightSpec)

/-- ITS FALSE NEIGHBOUR: 'it returns false'. Refute it at one input. -/
def garbleRightWrong : ChangeSpec := { name := "garbleRight", fn := fun _ => fun
  | [d1, d2, d3] => { results := [.lit (.bool false)], args := [d1, d2, d3] }
  | _ => none }
def GarbleRightWrongFalsely : Prop := garbleRightRow.holds Tryd.pinned (OpenSpec.ofChange garbleRightWrong)

/-- 'twainlaw10.GarbleTables': WHATEVER THE INPUT: true; the input reads as it did. -/
def garbleTablesSpec : ChangeSpec := { name := "garbleTables", fn := fun _ => fun
  | [d1, d2] => { results := [.lit (.bool true)], args := [d1, d2] }
  | _ => none }
def garbleTablesRow : OpenClaim := { program := "yteofdmdpaejgaaadoor", sum := "89334392a966ffe7ab06290f4e05485c09a9b4649a595fe62500fa7394e1dd6d", func := "twain/twainlaw10.GarbleTables", spec := "garbleTables", inPlace := ["internal/reflectlite.ValueOf", "(internal/reflectlite.Value).Type", "(internal/reflectlite.Value).IsNil", "internal/reflectlite.TypeOf", "(internal/reflectlite.Value).Elem", "(internal/reflectlite.Value).Set"], unfollowed := true, recurses := true, named := ["errors.errorType"], apart := false, laid := [("errors.errorType", laid_errors_errorType)] }
def GarbleTablesSaid : Prop := garbleTablesRow.holds Tryd.pinned (OpenSpec.ofChange garbleTablesSpec)

/-- ITS FALSE NEIGHBOUR: 'it returns false'. Refute it at one input. -/
def garbleTablesWrong : ChangeSpec := { name := "garbleTables", fn := fun _ => fun
  | [d1, d2] => { results := [.lit (.bool false)], args := [d1, d2] }
  | _ => none }
def GarbleTablesWrongFalsely : Prop := garbleTablesRow.holds Tryd.pinned (OpenSpec.ofChange garbleTablesWrong)

/-- 'twainlaw10.GarbleEvals': WHATEVER THE INPUT: true; the input reads as it did. -/
def garbleEvalsSpec : ChangeSpec := { name := "garbleEvals", fn := fun _ => fun
  | [d1, d2, d3] => { results := [.lit (.bool true)], args := [d1, d2, d3] }
  | _ => none }
def garbleEvalsRow : OpenClaim := { program := "yteofdmdpaejgaaadoor", sum := "89334392a966ffe7ab06290f4e05485c09a9b4649a595fe62500fa7394e1dd6d", func := "twain/twainlaw10.GarbleEvals", spec := "garbleEvals", inPlace := ["internal/reflectlite.ValueOf", "(internal/reflectlite.Value).Type", "(internal/reflectlite.Value).IsNil", "internal/reflectlite.TypeOf", "(internal/reflectlite.Value).Elem", "(internal/reflectlite.Value).Set"], unfollowed := true, recurses := true, named := ["errors.errorType"], apart := false, laid := [("errors.errorType", laid_errors_errorType)] }
def GarbleEvalsSaid : Prop := garbleEvalsRow.holds Tryd.pinned (OpenSpec.ofChange garbleEvalsSpec)

/-- ITS FALSE NEIGHBOUR: 'it returns false'. Refute it at one input. -/
def garbleEvalsWrong : ChangeSpec := { name := "garbleEvals", fn := fun _ => fun
  | [d1, d2, d3] => { results := [.lit (.bool false)], args := [d1, d2, d3] }
  | _ => none }
def GarbleEvalsWrongFalsely : Prop := garbleEvalsRow.holds Tryd.pinned (OpenSpec.ofChange garbleEvalsWrong)

/-- 'twainlaw10.GarbleChooses': WHATEVER THE INPUT: true; the input reads as it did. -/
def garbleChoosesSpec : ChangeSpec := { name := "garbleChooses", fn := fun _ => fun
  | [d1, d2, d3] => { results := [.lit (.bool true)], args := [d1, d2, d3] }
  | _ => none }
def garbleChoosesRow : OpenClaim := { program := "yteofdmdpaejgaaadoor", sum := "89334392a966ffe7ab06290f4e05485c09a9b4649a595fe62500fa7394e1dd6d", func := "twain/twainlaw10.GarbleChooses", spec := "garbleChooses", inPlace := ["internal/reflectlite.ValueOf", "(internal/reflectlite.Value).Type", "(internal/reflectlite.Value).IsNil", "internal/reflectlite.TypeOf", "(internal/reflectlite.Value).Elem", "(internal/reflectlite.Value).Set"], unfollowed := true, recurses := true, named := ["errors.errorType"], apart := false, laid := [("errors.errorType", laid_errors_errorType)] }
def GarbleChoosesSaid : Prop := garbleChoosesRow.holds Tryd.pinned (OpenSpec.ofChange garbleChoosesSpec)

/-- ITS FALSE NEIGHBOUR: 'it returns false'. Refute it at one input. -/
def garbleChoosesWrong : ChangeSpec := { name := "garbleChooses", fn := fun _ => fun
  | [d1, d2, d3] => { results := [.lit (.bool false)], args := [d1, d2, d3] }
  | _ => none }
def GarbleChoosesWrongFalsely : Prop := garbleChoosesRow.holds Tryd.pinned (OpenSpec.ofChange garbleChoosesWrong)

/-- 'twainlaw10.GarbleMade': WHATEVER THE INPUT: true; the input reads as it did. -/
def garbleMadeSpec : ChangeSpec := { name := "garbleMade", fn := fun _ => fun
  | [d1, d2, d3] => { results := [.lit (.bool true)], args := [d1, d2, d3] }
  | _ => none }
def garbleMadeRow : OpenClaim := { program := "yteofdmdpaejgaaadoor", sum := "89334392a966ffe7ab06290f4e05485c09a9b4649a595fe62500fa7394e1dd6d", func := "twain/twainlaw10.GarbleMade", spec := "garbleMade", inPlace := ["internal/reflectlite.ValueOf", "(internal/reflectlite.Value).Type", "(internal/reflectlite.Value).IsNil", "internal/reflectlite.TypeOf", "(internal/reflectlite.Value).Elem", "(internal/reflectlite.Value).Set"], unfollowed := true, recurses := true, named := ["errors.errorType"], apart := false, laid := [("errors.errorType", laid_errors_errorType)] }
def GarbleMadeSaid : Prop := garbleMadeRow.holds Tryd.pinned (OpenSpec.ofChange garbleMadeSpec)

/-- ITS FALSE NEIGHBOUR: 'it returns false'. Refute it at one input. -/
def garbleMadeWrong : ChangeSpec := { name := "garbleMade", fn := fun _ => fun
  | [d1, d2, d3] => { results := [.lit (.bool false)], args := [d1, d2, d3] }
  | _ => none }
def GarbleMadeWrongFalsely : Prop := garbleMadeRow.holds Tryd.pinned (OpenSpec.ofChange garbleMadeWrong)

/- THE SECOND FORM. 'bulk': how many values and letters a reading holds, each counted each time it is reached (what is shared counts as often as it is met; a slice's spare places count too). A statement '..UptoSaid' is the law's where the arguments, and the package variables that the reading takes, are together of bulk at most 1048576: NARROWER than '..Said'. Prove '..Said' where nothing that the law and all that it calls make is longer than what came in: it says more and counts as full. Else prove '..UptoSaid'. A law counts once. -/
mutual
def uptoBulk {H : Type} : DataW H → Nat
  | .lit (.string bytes) => bytes.length + 1
  | .lit _ => 1
  | .nil => 1
  | .ptr d => uptoBulk d + 1
  | .slice elems spare => uptoBulkAll elems + uptoBulkAll spare + 1
  | .agg parts => uptoBulkAll parts + 1
  | .iface _ d => uptoBulk d + 1
  | .map entries => uptoBulkEntries entries + 1
  | .held _ => 1
def uptoBulkAll {H : Type} : List (DataW H) → Nat
  | [] => 0
  | d :: r => uptoBulk d + uptoBulkAll r
def uptoBulkEntries {H : Type} : List (Lit × DataW H) → Nat
  | [] => 0
  | x :: r => uptoBulkEntry x + uptoBulkEntries r
def uptoBulkEntry {H : Type} : Lit × DataW H → Nat
  | (.string bytes, d) => bytes.length + uptoBulk d + 1
  | (_, d) => uptoBulk d + 1
 end
def uptoSmall : (H : Type) → List (DataW H) → Bool := fun _ ds => decide (uptoBulkAll ds ≤ 1048576)
def OpenSpec.upto (s : _root_.Go.ChangeSpec) : _root_.Go.OpenSpec := { _root_.Go.OpenSpec.ofChange s with cond := some uptoSmall }

/-- 'twainlaw08.CorrFits', WHERE WHAT IT READS IS OF BULK AT MOST 1048576: true; the input reads as it did. -/
def corrFitsUptoRow : OpenClaim := { program := "yteofdmdpaejgaaadoor", sum := "89334392a966ffe7ab06290f4e05485c09a9b4649a595fe62500fa7394e1dd6d", func := "twain/twainlaw08.CorrFits", spec := "corrFits", inPlace := ["internal/reflectlite.ValueOf", "(internal/reflectlite.Value).Type", "(internal/reflectlite.Value).IsNil", "internal/reflectlite.TypeOf", "(internal/reflectlite.Value).Elem", "(internal/reflectlite.Value).Set"], unfollowed := true, recurses := true, named := ["errors.errorType"], apart := false, laid := [("errors.errorType", laid_errors_errorType)], narrowed := true }
def CorrFitsUptoSaid : Prop := corrFitsUptoRow.holds Tryd.pinned (OpenSpec.upto corrFitsSpec)

/-- 'twainlaw08.CorrApart', WHERE WHAT IT READS IS OF BULK AT MOST 1048576: true; the input reads as it did. -/
def corrApartUptoRow : OpenClaim := { program := "yteofdmdpaejgaaadoor", sum := "89334392a966ffe7ab06290f4e05485c09a9b4649a595fe62500fa7394e1dd6d", func := "twain/twainlaw08.CorrApart", spec := "corrApart", inPlace := ["internal/reflectlite.ValueOf", "(internal/reflectlite.Value).Type", "(internal/reflectlite.Value).IsNil", "internal/reflectlite.TypeOf", "(internal/reflectlite.Value).Elem", "(internal/reflectlite.Value).Set"], unfollowed := true, recurses := true, named := ["errors.errorType"], apart := false, laid := [("errors.errorType", laid_errors_errorType)], narrowed := true }
def CorrApartUptoSaid : Prop := corrApartUptoRow.holds Tryd.pinned (OpenSpec.upto corrApartSpec)

/-- 'twainlaw08.CorrLoads', WHERE WHAT IT READS IS OF BULK AT MOST 1048576: true; the input reads as it did. -/
def corrLoadsUptoRow : OpenClaim := { program := "yteofdmdpaejgaaadoor", sum := "89334392a966ffe7ab06290f4e05485c09a9b4649a595fe62500fa7394e1dd6d", func := "twain/twainlaw08.CorrLoads", spec := "corrLoads", inPlace := ["internal/reflectlite.ValueOf", "(internal/reflectlite.Value).Type", "(internal/reflectlite.Value).IsNil", "internal/reflectlite.TypeOf", "(internal/reflectlite.Value).Elem", "(internal/reflectlite.Value).Set"], unfollowed := true, recurses := true, named := ["errors.errorType"], apart := false, laid := [("errors.errorType", laid_errors_errorType)], narrowed := true }
def CorrLoadsUptoSaid : Prop := corrLoadsUptoRow.holds Tryd.pinned (OpenSpec.upto corrLoadsSpec)

/-- 'twainlaw08.CorrSpent', WHERE WHAT IT READS IS OF BULK AT MOST 1048576: true; the input reads as it did. -/
def corrSpentUptoRow : OpenClaim := { program := "yteofdmdpaejgaaadoor", sum := "89334392a966ffe7ab06290f4e05485c09a9b4649a595fe62500fa7394e1dd6d", func := "twain/twainlaw08.CorrSpent", spec := "corrSpent", inPlace := ["internal/reflectlite.ValueOf", "(internal/reflectlite.Value).Type", "(internal/reflectlite.Value).IsNil", "internal/reflectlite.TypeOf", "(internal/reflectlite.Value).Elem", "(internal/reflectlite.Value).Set"], unfollowed := true, recurses := true, named := ["errors.errorType"], apart := false, laid := [("errors.errorType", laid_errors_errorType)], narrowed := true }
def CorrSpentUptoSaid : Prop := corrSpentUptoRow.holds Tryd.pinned (OpenSpec.upto corrSpentSpec)

/-- 'twainlaw08.CorrDeals', WHERE WHAT IT READS IS OF BULK AT MOST 1048576: true; the input reads as it did. -/
def corrDealsUptoRow : OpenClaim := { program := "yteofdmdpaejgaaadoor", sum := "89334392a966ffe7ab06290f4e05485c09a9b4649a595fe62500fa7394e1dd6d", func := "twain/twainlaw08.CorrDeals", spec := "corrDeals", inPlace := ["internal/reflectlite.ValueOf", "(internal/reflectlite.Value).Type", "(internal/reflectlite.Value).IsNil", "internal/reflectlite.TypeOf", "(internal/reflectlite.Value).Elem", "(internal/reflectlite.Value).Set"], unfollowed := true, recurses := true, named := ["errors.errorType"], apart := false, laid := [("errors.errorType", laid_errors_errorType)], narrowed := true }
def CorrDealsUptoSaid : Prop := corrDealsUptoRow.holds Tryd.pinned (OpenSpec.upto corrDealsSpec)

/-- 'twainlaw09.CircMakes', WHERE WHAT IT READS IS OF BULK AT MOST 1048576: true; the input reads as it did. -/
def circMakesUptoRow : OpenClaim := { program := "yteofdmdpaejgaaadoor", sum := "89334392a966ffe7ab06290f4e05485c09a9b4649a595fe62500fa7394e1dd6d", func := "twain/twainlaw09.CircMakes", spec := "circMakes", inPlace := ["internal/reflectlite.ValueOf", "(internal/reflectlite.Value).Type", "(internal/reflectlite.Value).IsNil", "internal/reflectlite.TypeOf", "(internal/reflectlite.Value).Elem", "(internal/reflectlite.Value).Set"], unfollowed := true, recurses := true, named := ["errors.errorType"], apart := false, laid := [("errors.errorType", laid_errors_errorType)], narrowed := true }
def CircMakesUptoSaid : Prop := circMakesUptoRow.holds Tryd.pinned (OpenSpec.upto circMakesSpec)

/-- 'twainlaw10.GarbleFree', WHERE WHAT IT READS IS OF BULK AT MOST 1048576: true; the input reads as it did. -/
def garbleFreeUptoRow : OpenClaim := { program := "yteofdmdpaejgaaadoor", sum := "89334392a966ffe7ab06290f4e05485c09a9b4649a595fe62500fa7394e1dd6d", func := "twain/twainlaw10.GarbleFree", spec := "garbleFree", inPlace := ["internal/reflectlite.ValueOf", "(internal/reflectlite.Value).Type", "(internal/reflectlite.Value).IsNil", "internal/reflectlite.TypeOf", "(internal/reflectlite.Value).Elem", "(internal/reflectlite.Value).Set"], unfollowed := true, recurses := true, named := ["errors.errorType"], apart := false, laid := [("errors.errorType", laid_errors_errorType)], narrowed := true }
def GarbleFreeUptoSaid : Prop := garbleFreeUptoRow.holds Tryd.pinned (OpenSpec.upto garbleFreeSpec)

/-- 'twainlaw10.GarbleRight', WHERE WHAT IT READS IS OF BULK AT MOST 1048576: true; the input reads as it did. -/
def garbleRightUptoRow : OpenClaim := { program := "yteofdmdpaejgaaadoor", sum := "89334392a966ffe7ab06290f4e05485c09a9b4649a595fe62500fa7394e1dd6d", func := "twain/twainlaw10.GarbleRight", spec := "garbleRight", inPlace := ["internal/reflectlite.ValueOf", "(internal/reflectlite.Value).Type", "(internal/reflectlite.Value).IsNil", "internal/reflectlite.TypeOf", "(internal/reflectlite.Value).Elem", "(internal/reflectlite.Value).Set"], unfollowed := true, recurses := true, named := ["errors.errorType"], apart := false, laid := [("errors.errorType", laid_errors_errorType)], narrowed := true }
def GarbleRightUptoSaid : Prop := garbleRightUptoRow.holds Tryd.pinned (OpenSpec.upto garbleRightSpec)

/-- 'twainlaw10.GarbleTables', WHERE WHAT IT READS IS OF BULK AT MOST 1048576: true; the input reads as it did. -/
def garbleTablesUptoRow : OpenClaim := { program := "yteofdmdpaejgaaadoor", sum := "89334392a966ffe7ab06290f4e05485c09a9b4649a595fe62500fa7394e1dd6d", func := "twain/twainlaw10.GarbleTables", spec := "garbleTables", inPlace := ["internal/reflectlite.ValueOf", "(internal/reflectlite.Value).Type", "(internal/reflectlite.Value).IsNil", "internal/reflectlite.TypeOf", "(internal/reflectlite.Value).Elem", "(internal/reflectlite.Value).Set"], unfollowed := true, recurses := true, named := ["errors.errorType"], apart := false, laid := [("errors.errorType", laid_errors_errorType)], narrowed := true }
def GarbleTablesUptoSaid : Prop := garbleTablesUptoRow.holds Tryd.pinned (OpenSpec.upto garbleTablesSpec)

/-- 'twainlaw10.GarbleEvals', WHERE WHAT IT READS IS OF BULK AT MOST 1048576: true; the input reads as it did. -/
def garbleEvalsUptoRow : OpenClaim := { program := "yteofdmdpaejgaaadoor", sum := "89334392a966ffe7ab06290f4e05485c09a9b4649a595fe62500fa7394e1dd6d", func := "twain/twainlaw10.GarbleEvals", spec := "garbleEvals", inPlace := ["internal/reflectlite.ValueOf", "(internal/reflectlite.Value).Type", "(internal/reflectlite.Value).IsNil", "internal/reflectlite.TypeOf", "(internal/reflectlite.Value).Elem", "(internal/reflectlite.Value).Set"], unfollowed := true, recurses := true, named := ["errors.errorType"], apart := false, laid := [("errors.errorType", laid_errors_errorType)], narrowed := true }
def GarbleEvalsUptoSaid : Prop := garbleEvalsUptoRow.holds Tryd.pinned (OpenSpec.upto garbleEvalsSpec)

/-- 'twainlaw10.GarbleChooses', WHERE WHAT IT READS IS OF BULK AT MOST 1048576: true; the input reads as it did. -/
def garbleChoosesUptoRow : OpenClaim := { program := "yteofdmdpaejgaaadoor", sum := "89334392a966ffe7ab06290f4e05485c09a9b4649a595fe62500fa7394e1dd6d", func := "twain/twainlaw10.GarbleChooses", spec := "garbleChooses", inPlace := ["internal/reflectlite.ValueOf", "(internal/reflectlite.Value).Type", "(internal/reflectlite.Value).IsNil", "internal/reflectlite.TypeOf", "(internal/reflectlite.Value).Elem", "(internal/reflectlite.Value).Set"], unfollowed := true, recurses := true, named := ["errors.errorType"], apart := false, laid := [("errors.errorType", laid_errors_errorType)], narrowed := true }
def GarbleChoosesUptoSaid : Prop := garbleChoosesUptoRow.holds Tryd.pinned (OpenSpec.upto garbleChoosesSpec)

/-- 'twainlaw10.GarbleMade', WHERE WHAT IT READS IS OF BULK AT MOST 1048576: true; the input reads as it did. -/
def garbleMadeUptoRow : OpenClaim := { program := "yteofdmdpaejgaaadoor", sum := "89334392a966ffe7ab06290f4e05485c09a9b4649a595fe62500fa7394e1dd6d", func := "twain/twainlaw10.GarbleMade", spec := "garbleMade", inPlace := ["internal/reflectlite.ValueOf", "(internal/reflectlite.Value).Type", "(internal/reflectlite.Value).IsNil", "internal/reflectlite.TypeOf", "(internal/reflectlite.Value).Elem", "(internal/reflectlite.Value).Set"], unfollowed := true, recurses := true, named := ["errors.errorType"], apart := false, laid := [("errors.errorType", laid_errors_errorType)], narrowed := true }
def GarbleMadeUptoSaid : Prop := garbleMadeUptoRow.holds Tryd.pinned (OpenSpec.upto garbleMadeSpec)

end Rows
end Go.Proofs.YteofdmdpaejgaaaDoor
