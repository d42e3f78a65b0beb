/-
  NARROWER THAN 'FOR EVERY INPUT', by the rows' own cells (each row's printed sentence says how): NetOrder: laid · NetOwn: laid · LinkSure: laid · LinkOwn: laid · LinkTurned: laid · NetFull: laid · NetPlays: laid · LinkFull: laid · LinkEnds: laid.
  DERIVED. THE GIVEN ROWS OF THIS SEAT. 9 by the template 'for every input the law returns true; each argument reads behind the call as it read before'; 0 by the template 'total and deterministic' (their statements: YtpmmhpgfbfehmaaDoorTotals.lean).
  GIVEN WITH THE SEED: the statements are not yours to turn. If you find one false, say at which input.
  Laid BY PROGRAM, IN A SANDBOX (cutbox-rows.mjs): the forced cells as the released guide's own fill.sh prints them over the translation 167e8b63197317f9… (all of the seat's roots in one cut). By AI agents, Wed Nov 11 2026. No macro, syntax, notation, axiom, sorry.
-/
import Derived.Test.YtpmmhpgfbfehmaaDoorChecked
import GoSem.Claim
import GoSem.ClaimJoined
import GoSem.ClaimMapViews
import Derived.JoinedTies
import Derived.KernelRfl
namespace Go.Proofs.YtpmmhpgfbfehmaaDoor
/- THE CELL 'sum', in the pinned program and in every row, IS THE sha256 OF THE DUMP (.gsa) THAT YtpmmhpgfbfehmaaDoorProg.lean LOADS. Nothing in Lean hashes anything: it is a label: what it is worth is what the hold of that sum in a sandbox is worth. -/
noncomputable def Tryd.pinned : Pinned := { name := "ytpmmhpgfbfehmaadoor", sum := "167e8b63197317f9586352316e2e57625f659b7ae10180f6854700b79bcdeef1", checked := Tryd.checked }
namespace Rows
def none {H : Type} : Left H := { results := [], args := [] }

/- WHAT THE LISTED PACKAGE-LEVEL VARIABLES READ AS WHEN THE CALL BEGINS. Each datum BY PROGRAM (the guide's laid-datum.mjs) off the statement by which the dump's own 'gosem.cut.vars' lays the variable. In a bare row this is a premise. The card (YtpmmhpgfbfehmaaDoorCards.lean) ties it to the program's text. -/
def laid_errors_errorType {H : Type} : DataW H := .iface "internal/reflectlite.rtype" (.agg [.ptr (.lit (.string [101, 114, 114, 111, 114]))])

/-- 'twainlaw06.NetOrder': WHATEVER THE INPUT: true; the input reads as it did. -/
def netOrderSpec : ChangeSpec := { name := "netOrder", fn := fun _ => fun
  | [d1, d2, d3] => { results := [.lit (.bool true)], args := [d1, d2, d3] }
  | _ => none }
def netOrderRow : OpenClaim := { program := "ytpmmhpgfbfehmaadoor", sum := "167e8b63197317f9586352316e2e57625f659b7ae10180f6854700b79bcdeef1", func := "twain/twainlaw06.NetOrder", spec := "netOrder", inPlace := ["internal/reflectlite.ValueOf", "(internal/reflectlite.Value).Type", "(internal/reflectlite.Value).IsNil", "internal/reflectlite.TypeOf", "(internal/reflectlite.Value).Elem", "(internal/reflectlite.Value).Set"], unfollowed := true, recurses := true, named := ["errors.errorType"], apart := false, laid := [("errors.errorType", laid_errors_errorType)] }
def NetOrderSaid : Prop := netOrderRow.holds Tryd.pinned (OpenSpec.ofChange netOrderSpec)

/-- ITS FALSE NEIGHBOUR: 'it returns false'. Refute it at one input. -/
def netOrderWrong : ChangeSpec := { name := "netOrder", fn := fun _ => fun
  | [d1, d2, d3] => { results := [.lit (.bool false)], args := [d1, d2, d3] }
  | _ => none }
def NetOrderWrongFalsely : Prop := netOrderRow.holds Tryd.pinned (OpenSpec.ofChange netOrderWrong)

/-- 'twainlaw06.NetOwn': WHATEVER THE INPUT: true; the input reads as it did. -/
def netOwnSpec : ChangeSpec := { name := "netOwn", fn := fun _ => fun
  | [d1, d2] => { results := [.lit (.bool true)], args := [d1, d2] }
  | _ => none }
def netOwnRow : OpenClaim := { program := "ytpmmhpgfbfehmaadoor", sum := "167e8b63197317f9586352316e2e57625f659b7ae10180f6854700b79bcdeef1", func := "twain/twainlaw06.NetOwn", spec := "netOwn", inPlace := ["internal/reflectlite.ValueOf", "(internal/reflectlite.Value).Type", "(internal/reflectlite.Value).IsNil", "internal/reflectlite.TypeOf", "(internal/reflectlite.Value).Elem", "(internal/reflectlite.Value).Set"], unfollowed := true, recurses := true, named := ["errors.errorType"], apart := false, laid := [("errors.errorType", laid_errors_errorType)] }
def NetOwnSaid : Prop := netOwnRow.holds Tryd.pinned (OpenSpec.ofChange netOwnSpec)

/-- ITS FALSE NEIGHBOUR: 'it returns false'. Refute it at one input. -/
def netOwnWrong : ChangeSpec := { name := "netOwn", fn := fun _ => fun
  | [d1, d2] => { results := [.lit (.bool false)], args := [d1, d2] }
  | _ => none }
def NetOwnWrongFalsely : Prop := netOwnRow.holds Tryd.pinned (OpenSpec.ofChange netOwnWrong)

/-- 'twainlaw07.LinkSure': WHATEVER THE INPUT: true; the input reads as it did. -/
def linkSureSpec : ChangeSpec := { name := "linkSure", fn := fun _ => fun
  | [d] => { results := [.lit (.bool true)], args := [d] }
  | _ => none }
def linkSureRow : OpenClaim := { program := "ytpmmhpgfbfehmaadoor", sum := "167e8b63197317f9586352316e2e57625f659b7ae10180f6854700b79bcdeef1", func := "twain/twainlaw07.LinkSure", spec := "linkSure", inPlace := ["internal/reflectlite.ValueOf", "(internal/reflectlite.Value).Type", "(internal/reflectlite.Value).IsNil", "internal/reflectlite.TypeOf", "(internal/reflectlite.Value).Elem", "(internal/reflectlite.Value).Set"], unfollowed := true, recurses := true, named := ["errors.errorType"], apart := false, laid := [("errors.errorType", laid_errors_errorType)] }
def LinkSureSaid : Prop := linkSureRow.holds Tryd.pinned (OpenSpec.ofChange linkSureSpec)

/-- ITS FALSE NEIGHBOUR: 'it returns false'. Refute it at one input. -/
def linkSureWrong : ChangeSpec := { name := "linkSure", fn := fun _ => fun
  | [d] => { results := [.lit (.bool false)], args := [d] }
  | _ => none }
def LinkSureWrongFalsely : Prop := linkSureRow.holds Tryd.pinned (OpenSpec.ofChange linkSureWrong)

/-- 'twainlaw07.LinkOwn': WHATEVER THE INPUT: true; the input reads as it did. -/
def linkOwnSpec : ChangeSpec := { name := "linkOwn", fn := fun _ => fun
  | [d] => { results := [.lit (.bool true)], args := [d] }
  | _ => none }
def linkOwnRow : OpenClaim := { program := "ytpmmhpgfbfehmaadoor", sum := "167e8b63197317f9586352316e2e57625f659b7ae10180f6854700b79bcdeef1", func := "twain/twainlaw07.LinkOwn", spec := "linkOwn", inPlace := ["internal/reflectlite.ValueOf", "(internal/reflectlite.Value).Type", "(internal/reflectlite.Value).IsNil", "internal/reflectlite.TypeOf", "(internal/reflectlite.Value).Elem", "(internal/reflectlite.Value).Set"], unfollowed := true, recurses := true, named := ["errors.errorType"], apart := false, laid := [("errors.errorType", laid_errors_errorType)] }
def LinkOwnSaid : Prop := linkOwnRow.holds Tryd.pinned (OpenSpec.ofChange linkOwnSpec)

/-- ITS FALSE NEIGHBOUR: 'it returns false'. Refute it at one input. -/
def linkOwnWrong : ChangeSpec := { name := "linkOwn", fn := fun _ => fun
  | [d] => { results := [.lit (.bool false)], args := [d] }
  | _ => none }
def LinkOwnWrongFalsely : Prop := linkOwnRow.holds Tryd.pinned (OpenSpec.ofChange linkOwnWrong)

/-- 'twainlaw07.LinkTurned': WHATEVER THE INPUT: true; the input reads as it did. -/
def linkTurnedSpec : ChangeSpec := { name := "linkTurned", fn := fun _ => fun
  | [d1, d2, d3] => { results := [.lit (.bool true)], args := [d1, d2, d3] }
  | _ => none }
def linkTurnedRow : OpenClaim := { program := "ytpmmhpgfbfehmaadoor", sum := "167e8b63197317f9586352316e2e57625f659b7ae10180f6854700b79bcdeef1", func := "twain/twainlaw07.LinkTurned", spec := "linkTurned", inPlace := ["internal/reflectlite.ValueOf", "(internal/reflectlite.Value).Type", "(internal/reflectlite.Value).IsNil", "internal/reflectlite.TypeOf", "(internal/reflectlite.Value).Elem", "(internal/reflectlite.Value).Set"], unfollowed := true, recurses := true, named := ["errors.errorType"], apart := false, laid := [("errors.errorType", laid_errors_errorType)] }
def LinkTurnedSaid : Prop := linkTurnedRow.holds Tryd.pinned (OpenSpec.ofChange linkTurnedSpec)

/-- ITS FALSE NEIGHBOUR: 'it returns false'. Refute it at one input. -/
def linkTurnedWrong : ChangeSpec := { name := "linkTurned", fn := fun _ => fun
  | [d1, d2, d3] => { results := [.lit (.bool false)], args := [d1, d2, d3] }
  | _ => none }
def LinkTurnedWrongFalsely : Prop := linkTurnedRow.holds Tryd.pinned (OpenSpec.ofChange linkTurnedWrong)

/-- 'twainlaw06.NetFull': WHATEVER THE INPUT: true; the input reads as it did. -/
def netFullSpec : ChangeSpec := { name := "netFull", fn := fun _ => fun
  | [d1, d2, d3] => { results := [.lit (.bool true)], args := [d1, d2, d3] }
  | _ => none }
def netFullRow : OpenClaim := { program := "ytpmmhpgfbfehmaadoor", sum := "167e8b63197317f9586352316e2e57625f659b7ae10180f6854700b79bcdeef1", func := "twain/twainlaw06.NetFull", spec := "netFull", inPlace := ["internal/reflectlite.ValueOf", "(internal/reflectlite.Value).Type", "(internal/reflectlite.Value).IsNil", "internal/reflectlite.TypeOf", "(internal/reflectlite.Value).Elem", "(internal/reflectlite.Value).Set"], unfollowed := true, recurses := true, named := ["errors.errorType"], apart := false, laid := [("errors.errorType", laid_errors_errorType)] }
def NetFullSaid : Prop := netFullRow.holds Tryd.pinned (OpenSpec.ofChange netFullSpec)

/-- ITS FALSE NEIGHBOUR: 'it returns false'. Refute it at one input. -/
def netFullWrong : ChangeSpec := { name := "netFull", fn := fun _ => fun
  | [d1, d2, d3] => { results := [.lit (.bool false)], args := [d1, d2, d3] }
  | _ => none }
def NetFullWrongFalsely : Prop := netFullRow.holds Tryd.pinned (OpenSpec.ofChange netFullWrong)

/-- 'twainlaw06.NetPlays': WHATEVER THE INPUT: true; the input reads as it did. -/
def netPlaysSpec : ChangeSpec := { name := "netPlays", fn := fun _ => fun
  | [d] => { results := [.lit (.bool true)], args := [d] }
  | _ => none }
def netPlaysRow : OpenClaim := { program := "ytpmmhpgfbfehmaadoor", sum := "167e8b63197317f9586352316e2e57625f659b7ae10180f6854700b79bcdeef1", func := "twain/twainlaw06.NetPlays", spec := "netPlays", inPlace := ["internal/reflectlite.ValueOf", "(internal/reflectlite.Value).Type", "(internal/reflectlite.Value).IsNil", "internal/reflectlite.TypeOf", "(internal/reflectlite.Value).Elem", "(internal/reflectlite.Value).Set"], unfollowed := true, recurses := true, named := ["errors.errorType"], apart := false, laid := [("errors.errorType", laid_errors_errorType)] }
def NetPlaysSaid : Prop := netPlaysRow.holds Tryd.pinned (OpenSpec.ofChange netPlaysSpec)

/-- ITS FALSE NEIGHBOUR: 'it returns false'. Refute it at one input. -/
def netPlaysWrong : ChangeSpec := { name := "netPlays", fn := fun _ => fun
  | [d] => { results := [.lit (.bool false)], args := [d] }
  | _ => none }
def NetPlaysWrongFalsely : Prop := netPlaysRow.holds Tryd.pinned (OpenSpec.ofChange netPlaysWrong)

/-- 'twainlaw07.LinkFull': WHATEVER THE INPUT: true; the input reads as it did. -/
def linkFullSpec : ChangeSpec := { name := "linkFull", fn := fun _ => fun
  | [d] => { results := [.lit (.bool true)], args := [d] }
  | _ => none }
def linkFullRow : OpenClaim := { program := "ytpmmhpgfbfehmaadoor", sum := "167e8b63197317f9586352316e2e57625f659b7ae10180f6854700b79bcdeef1", func := "twain/twainlaw07.LinkFull", spec := "linkFull", inPlace := ["internal/reflectlite.ValueOf", "(internal/reflectlite.Value).Type", "(internal/reflectlite.Value).IsNil", "internal/reflectlite.TypeOf", "(internal/reflectlite.Value).Elem", "(internal/reflectlite.Value).Set"], unfollowed := true, recurses := true, named := ["errors.errorType"], apart := false, laid := [("errors.errorType", laid_errors_errorType)] }
def LinkFullSaid : Prop := linkFullRow.holds Tryd.pinned (OpenSpec.ofChange linkFullSpec)

/-- ITS FALSE NEIGHBOUR: 'it returns false'. Refute it at one input. -/
def linkFullWrong : ChangeSpec := { name := "linkFull", fn := fun _ => fun
  | [d] => { results := [.lit (.bool false)], args := [d] }
  | _ => none }
def LinkFullWrongFalsely : Prop := linkFullRow.holds Tryd.pinned (OpenSpec.ofChange linkFullWrong)

/-- 'twainlaw07.LinkEnds': WHATEVER THE INPUT: true; the input reads as it did. -/
def linkEndsSpec : ChangeSpec := { name := "linkEnds", fn := fun _ => fun
  | [d] => { results := [.lit (.bool true)], args := [d] }
  | _ => none }
def linkEndsRow : OpenClaim := { program := "ytpmmhpgfbfehmaadoor", sum := "167e8b63197317f9586352316e2e57625f659b7ae10180f6854700b79bcdeef1", func := "twain/twainlaw07.LinkEnds", spec := "linkEnds", inPlace := ["internal/reflectlite.ValueOf", "(internal/reflectlite.Value).Type", "(internal/reflectlite.Value).IsNil", "internal/reflectlite.TypeOf", "(internal/reflectlite.Value).Elem", "(internal/reflectlite.Value).Set"], unfollowed := true, recurses := true, named := ["errors.errorType"], apart := false, laid := [("errors.errorType", laid_errors_errorType)] }
def LinkEndsSaid : Prop := linkEndsRow.holds Tryd.pinned (OpenSpec.ofChange linkEndsSpec)

/-- ITS FALSE NEIGHBOUR: 'it returns false'. Refute it at one input. -/
def linkEndsWrong : ChangeSpec := { name := "linkEnds", fn := fun _ => fun
  | [d] => { results := [.lit (.bool false)], args := [d] }
  | _ => none }
def LinkEndsWrongFalsely : Prop := linkEndsRow.holds Tryd.pinned (OpenSpec.ofChange linkEndsWrong)

/- THE SECOND FORM. 'bulk': how many values and letters a reading holds, each counted each time it is reached (what is shared counts as often as it is met; a slice's spare places count too). A statement '..UptoSaid' is the law's where the arguments, and the package variables that the reading takes, are together of bulk at most 1048576: NARROWER than '..Said'. Prove '..Said' where nothing that the law and all that it calls make is longer than what came in: it says more and counts as full. Else prove '..UptoSaid'. A law counts once. -/
mutual
def uptoBulk {H : Type} : DataW H → Nat
  | .lit (.string bytes) => bytes.length + 1
  | .lit _ => 1
  | .nil => 1
  | .ptr d => uptoBulk d + 1
  | .slice elems spare => uptoBulkAll elems + uptoBulkAll spare + 1
  | .agg parts => uptoBulkAll parts + 1
  | .iface _ d => uptoBulk d + 1
  | .map entries => uptoBulkEntries entries + 1
  | .held _ => 1
def uptoBulkAll {H : Type} : List (DataW H) → Nat
  | [] => 0
  | d :: r => uptoBulk d + uptoBulkAll r
def uptoBulkEntries {H : Type} : List (Lit × DataW H) → Nat
  | [] => 0
  | x :: r => uptoBulkEntry x + uptoBulkEntries r
def uptoBulkEntry {H : Type} : Lit × DataW H → Nat
  | (.string bytes, d) => bytes.length + uptoBulk d + 1
  | (_, d) => uptoBulk d + 1
 end
def uptoSmall : (H : Type) → List (DataW H) → Bool := fun _ ds => decide (uptoBulkAll ds ≤ 1048576)
def OpenSpec.upto (s : _root_.Go.ChangeSpec) : _root_.Go.OpenSpec := { _root_.Go.OpenSpec.ofChange s with cond := some uptoSmall }

/-- 'twainlaw06.NetOrder', WHERE WHAT IT READS IS OF BULK AT MOST 1048576: true; the input reads as it did. -/
def netOrderUptoRow : OpenClaim := { program := "ytpmmhpgfbfehmaadoor", sum := "167e8b63197317f9586352316e2e57625f659b7ae10180f6854700b79bcdeef1", func := "twain/twainlaw06.NetOrder", spec := "netOrder", inPlace := ["internal/reflectlite.ValueOf", "(internal/reflectlite.Value).Type", "(internal/reflectlite.Value).IsNil", "internal/reflectlite.TypeOf", "(internal/reflectlite.Value).Elem", "(internal/reflectlite.Value).Set"], unfollowed := true, recurses := true, named := ["errors.errorType"], apart := false, laid := [("errors.errorType", laid_errors_errorType)], narrowed := true }
def NetOrderUptoSaid : Prop := netOrderUptoRow.holds Tryd.pinned (OpenSpec.upto netOrderSpec)

/-- 'twainlaw06.NetOwn', WHERE WHAT IT READS IS OF BULK AT MOST 1048576: true; the input reads as it did. -/
def netOwnUptoRow : OpenClaim := { program := "ytpmmhpgfbfehmaadoor", sum := "167e8b63197317f9586352316e2e57625f659b7ae10180f6854700b79bcdeef1", func := "twain/twainlaw06.NetOwn", spec := "netOwn", inPlace := ["internal/reflectlite.ValueOf", "(internal/reflectlite.Value).Type", "(internal/reflectlite.Value).IsNil", "internal/reflectlite.TypeOf", "(internal/reflectlite.Value).Elem", "(internal/reflectlite.Value).Set"], unfollowed := true, recurses := true, named := ["errors.errorType"], apart := false, laid := [("errors.errorType", laid_errors_errorType)], narrowed := true }
def NetOwnUptoSaid : Prop := netOwnUptoRow.holds Tryd.pinned (OpenSpec.upto netOwnSpec)

/-- 'twainlaw07.LinkSure', WHERE WHAT IT READS IS OF BULK AT MOST 1048576: true; the input reads as it did. -/
def linkSureUptoRow : OpenClaim := { program := "ytpmmhpgfbfehmaadoor", sum := "167e8b63197317f9586352316e2e57625f659b7ae10180f6854700b79bcdeef1", func := "twain/twainlaw07.LinkSure", spec := "linkSure", inPlace := ["internal/reflectlite.ValueOf", "(internal/reflectlite.Value).Type", "(internal/reflectlite.Value).IsNil", "internal/reflectlite.TypeOf", "(internal/reflectlite.Value).Elem", "(internal/reflectlite.Value).Set"], unfollowed := true, recurses := true, named := ["errors.errorType"], apart := false, laid := [("errors.errorType", laid_errors_errorType)], narrowed := true }
def LinkSureUptoSaid : Prop := linkSureUptoRow.holds Tryd.pinned (OpenSpec.upto linkSureSpec)

/-- 'twainlaw07.LinkOwn', WHERE WHAT IT READS IS OF BULK AT MOST 1048576: true; the input reads as it did. -/
def linkOwnUptoRow : OpenClaim := { program := "ytpmmhpgfbfehmaadoor", sum := "167e8b63197317f9586352316e2e57625f659b7ae10180f6854700b79bcdeef1", func := "twain/twainlaw07.LinkOwn", spec := "linkOwn", inPlace := ["internal/reflectlite.ValueOf", "(internal/reflectlite.Value).Type", "(internal/reflectlite.Value).IsNil", "internal/reflectlite.TypeOf", "(internal/reflectlite.Value).Elem", "(internal/reflectlite.Value).Set"], unfollowed := true, recurses := true, named := ["errors.errorType"], apart := false, laid := [("errors.errorType", laid_errors_errorType)], narrowed := true }
def LinkOwnUptoSaid : Prop := linkOwnUptoRow.holds Tryd.pinned (OpenSpec.upto linkOwnSpec)

/-- 'twainlaw07.LinkTurned', WHERE WHAT IT READS IS OF BULK AT MOST 1048576: true; the input reads as it did. -/
def linkTurnedUptoRow : OpenClaim := { program := "ytpmmhpgfbfehmaadoor", sum := "167e8b63197317f9586352316e2e57625f659b7ae10180f6854700b79bcdeef1", func := "twain/twainlaw07.LinkTurned", spec := "linkTurned", inPlace := ["internal/reflectlite.ValueOf", "(internal/reflectlite.Value).Type", "(internal/reflectlite.Value).IsNil", "internal/reflectlite.TypeOf", "(internal/reflectlite.Value).Elem", "(internal/reflectlite.Value).Set"], unfollowed := true, recurses := true, named := ["errors.errorType"], apart := false, laid := [("errors.errorType", laid_errors_errorType)], narrowed := true }
def LinkTurnedUptoSaid : Prop := linkTurnedUptoRow.holds Tryd.pinned (OpenSpec.upto linkTurnedSpec)

/-- 'twainlaw06.NetFull', WHERE WHAT IT READS IS OF BULK AT MOST 1048576: true; the input reads as it did. -/
def netFullUptoRow : OpenClaim := { program := "ytpmmhpgfbfehmaadoor", sum := "167e8b63197317f9586352316e2e57625f659b7ae10180f6854700b79bcdeef1", func := "twain/twainlaw06.NetFull", spec := "netFull", inPlace := ["internal/reflectlite.ValueOf", "(internal/reflectlite.Value).Type", "(internal/reflectlite.Value).IsNil", "internal/reflectlite.TypeOf", "(internal/reflectlite.Value).Elem", "(internal/reflectlite.Value).Set"], unfollowed := true, recurses := true, named := ["errors.errorType"], apart := false, laid := [("errors.errorType", laid_errors_errorType)], narrowed := true }
def NetFullUptoSaid : Prop := netFullUptoRow.holds Tryd.pinned (OpenSpec.upto netFullSpec)

/-- 'twainlaw06.NetPlays', WHERE WHAT IT READS IS OF BULK AT MOST 1048576: true; the input reads as it did. -/
def netPlaysUptoRow : OpenClaim := { program := "ytpmmhpgfbfehmaadoor", sum := "167e8b63197317f9586352316e2e57625f659b7ae10180f6854700b79bcdeef1", func := "twain/twainlaw06.NetPlays", spec := "netPlays", inPlace := ["internal/reflectlite.ValueOf", "(internal/reflectlite.Value).Type", "(internal/reflectlite.Value).IsNil", "internal/reflectlite.TypeOf", "(internal/reflectlite.Value).Elem", "(internal/reflectlite.Value).Set"], unfollowed := true, recurses := true, named := ["errors.errorType"], apart := false, laid := [("errors.errorType", laid_errors_errorType)], narrowed := true }
def NetPlaysUptoSaid : Prop := netPlaysUptoRow.holds Tryd.pinned (OpenSpec.upto netPlaysSpec)

/-- 'twainlaw07.LinkFull', WHERE WHAT IT READS IS OF BULK AT MOST 1048576: true; the input reads as it did. -/
def linkFullUptoRow : OpenClaim := { program := "ytpmmhpgfbfehmaadoor", sum := "167e8b63197317f9586352316e2e57625f659b7ae10180f6854700b79bcdeef1", func := "twain/twainlaw07.LinkFull", spec := "linkFull", inPlace := ["internal/reflectlite.ValueOf", "(internal/reflectlite.Value).Type", "(internal/reflectlite.Value).IsNil", "internal/reflectlite.TypeOf", "(internal/reflectlite.Value).Elem", "(internal/reflectlite.Value).Set"], unfollowed := true, recurses := true, named := ["errors.errorType"], apart := false, laid := [("errors.errorType", laid_errors_errorType)], narrowed := true }
def LinkFullUptoSaid : Prop := linkFullUptoRow.holds Tryd.pinned (OpenSpec.upto linkFullSpec)

/-- 'twainlaw07.LinkEnds', WHERE WHAT IT READS IS OF BULK AT MOST 1048576: true; the input reads as it did. -/
def linkEndsUptoRow : OpenClaim := { program := "ytpmmhpgfbfehmaadoor", sum := "167e8b63197317f9586352316e2e57625f659b7ae10180f6854700b79bcdeef1", func := "twain/twainlaw07.LinkEnds", spec := "linkEnds", inPlace := ["internal/reflectlite.ValueOf", "(internal/reflectlite.Value).Type", "(internal/reflectlite.Value).IsNil", "internal/reflectlite.TypeOf", "(internal/reflectlite.Value).Elem", "(internal/reflectlite.Value).Set"], unfollowed := true, recurses := true, named := ["errors.errorType"], apart := false, laid := [("errors.errorType", laid_errors_errorType)], narrowed := true }
def LinkEndsUptoSaid : Prop := linkEndsUptoRow.holds Tryd.pinned (OpenSpec.upto linkEndsSpec)

end Rows
end Go.Proofs.YtpmmhpgfbfehmaaDoor
