/-
  NARROWER THAN 'FOR EVERY INPUT', by the rows' own cells (each row's printed sentence says how): MicroSame: laid · MicroJoined: laid · MicroTapes: laid.
  DERIVED. THE GIVEN ROWS OF THIS SEAT. 3 by the template 'for every input the law returns true; each argument reads behind the call as it read before'; 0 by the template 'total and deterministic' (their statements: YtohngnahcgbfmaaGreatDoorTotals.lean).
  GIVEN WITH THE SEED: the statements are not yours to turn. If you find one false, say at which input.
  Laid BY PROGRAM, IN A SANDBOX (cutbox-rows.mjs): the forced cells as the released guide's own fill.sh prints them over the translation a31d457add7a746d… (all of the seat's roots in one cut). By AI agents, Wed Nov 11 2026. No macro, syntax, notation, axiom, sorry.
-/
import Derived.Test.YtohngnahcgbfmaaGreatDoorChecked
import GoSem.Claim
import GoSem.ClaimJoined
import GoSem.ClaimMapViews
import Derived.JoinedTies
import Derived.KernelRfl
namespace Go.Proofs.YtohngnahcgbfmaaGreatDoor
/- THE CELL 'sum', in the pinned program and in every row, IS THE sha256 OF THE DUMP (.gsa) THAT YtohngnahcgbfmaaGreatDoorProg.lean LOADS. Nothing in Lean hashes anything: it is a label: what it is worth is what the hold of that sum in a sandbox is worth. -/
noncomputable def Tryz.pinned : Pinned := { name := "ytohngnahcgbfmaagreatdoor", sum := "a31d457add7a746dcc90d5dae3d863e6f1372b5354b5a6f1873c743e19c6e181", checked := Tryz.checked }
namespace Rows
def none {H : Type} : Left H := { results := [], args := [] }

/- WHAT THE LISTED PACKAGE-LEVEL VARIABLES READ AS WHEN THE CALL BEGINS. Each datum BY PROGRAM (the guide's laid-datum.mjs) off the statement by which the dump's own 'gosem.cut.vars' lays the variable. In a bare row this is a premise. The card (YtohngnahcgbfmaaGreatDoorCards.lean) ties it to the program's text. -/
def laid_errors_errorType {H : Type} : DataW H := .iface "internal/reflectlite.rtype" (.agg [.ptr (.lit (.string [101, 114, 114, 111, 114]))])

/-- 'twainlaw11.MicroSame': WHATEVER THE INPUT: true; the input reads as it did. -/
def microSameSpec : ChangeSpec := { name := "microSame", fn := fun _ => fun
  | [d1, d2, d3] => { results := [.lit (.bool true)], args := [d1, d2, d3] }
  | _ => none }
def microSameRow : OpenClaim := { program := "ytohngnahcgbfmaagreatdoor", sum := "a31d457add7a746dcc90d5dae3d863e6f1372b5354b5a6f1873c743e19c6e181", func := "twain/twainlaw11.MicroSame", spec := "microSame", inPlace := ["internal/reflectlite.ValueOf", "(internal/reflectlite.Value).Type", "(internal/reflectlite.Value).IsNil", "internal/reflectlite.TypeOf", "(internal/reflectlite.Value).Elem", "(internal/reflectlite.Value).Set"], unfollowed := true, recurses := true, named := ["errors.errorType"], apart := false, laid := [("errors.errorType", laid_errors_errorType)] }
def MicroSameSaid : Prop := microSameRow.holds Tryz.pinned (OpenSpec.ofChange microSameSpec)

/-- ITS FALSE NEIGHBOUR: 'it returns false'. Refute it at one input. -/
def microSameWrong : ChangeSpec := { name := "microSame", fn := fun _ => fun
  | [d1, d2, d3] => { results := [.lit (.bool false)], args := [d1, d2, d3] }
  | _ => none }
def MicroSameWrongFalsely : Prop := microSameRow.holds Tryz.pinned (OpenSpec.ofChange microSameWrong)

/-- 'twainlaw11.MicroJoined': WHATEVER THE INPUT: true; the input reads as it did. -/
def microJoinedSpec : ChangeSpec := { name := "microJoined", fn := fun _ => fun
  | [d1, d2] => { results := [.lit (.bool true)], args := [d1, d2] }
  | _ => none }
def microJoinedRow : OpenClaim := { program := "ytohngnahcgbfmaagreatdoor", sum := "a31d457add7a746dcc90d5dae3d863e6f1372b5354b5a6f1873c743e19c6e181", func := "twain/twainlaw11.MicroJoined", spec := "microJoined", inPlace := ["internal/reflectlite.ValueOf", "(internal/reflectlite.Value).Type", "(internal/reflectlite.Value).IsNil", "internal/reflectlite.TypeOf", "(internal/reflectlite.Value).Elem", "(internal/reflectlite.Value).Set"], unfollowed := true, recurses := true, named := ["errors.errorType"], apart := false, laid := [("errors.errorType", laid_errors_errorType)] }
def MicroJoinedSaid : Prop := microJoinedRow.holds Tryz.pinned (OpenSpec.ofChange microJoinedSpec)

/-- ITS FALSE NEIGHBOUR: 'it returns false'. Refute it at one input. -/
def microJoinedWrong : ChangeSpec := { name := "microJoined", fn := fun _ => fun
  | [d1, d2] => { results := [.lit (.bool false)], args := [d1, d2] }
  | _ => none }
def MicroJoinedWrongFalsely : Prop := microJoinedRow.holds Tryz.pinned (OpenSpec.ofChange microJoinedWrong)

/-- 'twainlaw11.MicroTapes': WHATEVER THE INPUT: true; the input reads as it did. -/
def microTapesSpec : ChangeSpec := { name := "microTapes", fn := fun _ => fun
  | [d1, d2] => { results := [.lit (.bool true)], args := [d1, d2] }
  | _ => none }
def microTapesRow : OpenClaim := { program := "ytohngnahcgbfmaagreatdoor", sum := "a31d457add7a746dcc90d5dae3d863e6f1372b5354b5a6f1873c743e19c6e181", func := "twain/twainlaw11.MicroTapes", spec := "microTapes", inPlace := ["internal/reflectlite.ValueOf", "(internal/reflectlite.Value).Type", "(internal/reflectlite.Value).IsNil", "internal/reflectlite.TypeOf", "(internal/reflectlite.Value).Elem", "(internal/reflectlite.Value).Set"], unfollowed := true, recurses := true, named := ["errors.errorType"], apart := false, laid := [("errors.errorType", laid_errors_errorType)] }
def MicroTapesSaid : Prop := microTapesRow.holds Tryz.pinned (OpenSpec.ofChange microTapesSpec)

/-- ITS FALSE NEIGHBOUR: 'it returns false'. Refute it at one input. -/
def microTapesWrong : ChangeSpec := { name := "microTapes", fn := fun _ => fun
  | [d1, d2] => { results := [.lit (.bool false)], args := [d1, d2] }
  | _ => none }
def MicroTapesWrongFalsely : Prop := microTapesRow.holds Tryz.pinned (OpenSpec.ofChange microTapesWrong)

/- THE SECOND FORM. 'bulk': how many values and letters a reading holds, each counted each time it is reached (what is shared counts as often as it is met; a slice's spare places count too). A statement '..UptoSaid' is the law's where the arguments, and the package variables that the reading takes, are together of bulk at most 1048576: NARROWER than '..Said'. Prove '..Said' where nothing that the law and all that it calls make is longer than what came in: it says more and counts as full. Else prove '..UptoSaid'. A law counts once. -/
mutual
def uptoBulk {H : Type} : DataW H → Nat
  | .lit (.string bytes) => bytes.length + 1
  | .lit _ => 1
  | .nil => 1
  | .ptr d => uptoBulk d + 1
  | .slice elems spare => uptoBulkAll elems + uptoBulkAll spare + 1
  | .agg parts => uptoBulkAll parts + 1
  | .iface _ d => uptoBulk d + 1
  | .map entries => uptoBulkEntries entries + 1
  | .held _ => 1
def uptoBulkAll {H : Type} : List (DataW H) → Nat
  | [] => 0
  | d :: r => uptoBulk d + uptoBulkAll r
def uptoBulkEntries {H : Type} : List (Lit × DataW H) → Nat
  | [] => 0
  | x :: r => uptoBulkEntry x + uptoBulkEntries r
def uptoBulkEntry {H : Type} : Lit × DataW H → Nat
  | (.string bytes, d) => bytes.length + uptoBulk d + 1
  | (_, d) => uptoBulk d + 1
 end
def uptoSmall : (H : Type) → List (DataW H) → Bool := fun _ ds => decide (uptoBulkAll ds ≤ 1048576)
def OpenSpec.upto (s : _root_.Go.ChangeSpec) : _root_.Go.OpenSpec := { _root_.Go.OpenSpec.ofChange s with cond := some uptoSmall }

/-- 'twainlaw11.MicroSame', WHERE WHAT IT READS IS OF BULK AT MOST 1048576: true; the input reads as it did. -/
def microSameUptoRow : OpenClaim := { program := "ytohngnahcgbfmaagreatdoor", sum := "a31d457add7a746dcc90d5dae3d863e6f1372b5354b5a6f1873c743e19c6e181", func := "twain/twainlaw11.MicroSame", spec := "microSame", inPlace := ["internal/reflectlite.ValueOf", "(internal/reflectlite.Value).Type", "(internal/reflectlite.Value).IsNil", "internal/reflectlite.TypeOf", "(internal/reflectlite.Value).Elem", "(internal/reflectlite.Value).Set"], unfollowed := true, recurses := true, named := ["errors.errorType"], apart := false, laid := [("errors.errorType", laid_errors_errorType)], narrowed := true }
def MicroSameUptoSaid : Prop := microSameUptoRow.holds Tryz.pinned (OpenSpec.upto microSameSpec)

/-- 'twainlaw11.MicroJoined', WHERE WHAT IT READS IS OF BULK AT MOST 1048576: true; the input reads as it did. -/
def microJoinedUptoRow : OpenClaim := { program := "ytohngnahcgbfmaagreatdoor", sum := "a31d457add7a746dcc90d5dae3d863e6f1372b5354b5a6f1873c743e19c6e181", func := "twain/twainlaw11.MicroJoined", spec := "microJoined", inPlace := ["internal/reflectlite.ValueOf", "(internal/reflectlite.Value).Type", "(internal/reflectlite.Value).IsNil", "internal/reflectlite.TypeOf", "(internal/reflectlite.Value).Elem", "(internal/reflectlite.Value).Set"], unfollowed := true, recurses := true, named := ["errors.errorType"], apart := false, laid := [("errors.errorType", laid_errors_errorType)], narrowed := true }
def MicroJoinedUptoSaid : Prop := microJoinedUptoRow.holds Tryz.pinned (OpenSpec.upto microJoinedSpec)

/-- 'twainlaw11.MicroTapes', WHERE WHAT IT READS IS OF BULK AT MOST 1048576: true; the input reads as it did. -/
def microTapesUptoRow : OpenClaim := { program := "ytohngnahcgbfmaagreatdoor", sum := "a31d457add7a746dcc90d5dae3d863e6f1372b5354b5a6f1873c743e19c6e181", func := "twain/twainlaw11.MicroTapes", spec := "microTapes", inPlace := ["internal/reflectlite.ValueOf", "(internal/reflectlite.Value).Type", "(internal/reflectlite.Value).IsNil", "internal/reflectlite.TypeOf", "(internal/reflectlite.Value).Elem", "(internal/reflectlite.Value).Set"], unfollowed := true, recurses := true, named := ["errors.errorType"], apart := false, laid := [("errors.errorType", laid_errors_errorType)], narrowed := true }
def MicroTapesUptoSaid : Prop := microTapesUptoRow.holds Tryz.pinned (OpenSpec.upto microTapesSpec)

end Rows
end Go.Proofs.YtohngnahcgbfmaaGreatDoor
