/-
  No cell of these rows narrows 'for every input' (looked for: loops, veiled, ifaces, maps, wideKeys, modest, calm, conditions, laid).
  DERIVED. THE GIVEN ROWS OF THIS SEAT. 5 by the template 'for every input the law returns true; each argument reads behind the call as it read before'; 0 by the template 'total and deterministic' (their statements: YtcnkllkieelahaaTotals.lean).
  GIVEN WITH THE SEED: the statements are not yours to turn. If you find one false, say at which input.
  Laid BY PROGRAM, IN A SANDBOX (cutbox-rows.mjs): the forced cells as the released guide's own fill.sh prints them over the translation 5bc4e73e50da6a14… (all of the seat's roots in one cut). By AI agents, Wed Nov 11 2026. No macro, syntax, notation, axiom, sorry.
-/
import Derived.Test.YtcnkllkieelahaaChecked
import GoSem.Claim
import GoSem.ClaimJoined
import GoSem.ClaimMapViews
import Derived.JoinedTies
import Derived.KernelRfl
namespace Go.Proofs.Ytcnkllkieelahaa
/- THE CELL 'sum', in the pinned program and in every row, IS THE sha256 OF THE DUMP (.gsa) THAT YtcnkllkieelahaaProg.lean LOADS. Nothing in Lean hashes anything: it is a label: what it is worth is what the hold of that sum in a sandbox is worth. -/
noncomputable def Try.pinned : Pinned := { name := "ytcnkllkieelahaa", sum := "5bc4e73e50da6a14d38d3ff07f43d7d0e33034fd37fc2f26c86c558034523ce7", checked := Try.checked }
namespace Rows
def none {H : Type} : Left H := { results := [], args := [] }

/-- 'twainlaw03.AesBlocks': WHATEVER THE INPUT: true; the input reads as it did. -/
def aesBlocksSpec : ChangeSpec := { name := "aesBlocks", fn := fun _ => fun
  | [d1, d2] => { results := [.lit (.bool true)], args := [d1, d2] }
  | _ => none }
def aesBlocksRow : OpenClaim := { program := "ytcnkllkieelahaa", sum := "5bc4e73e50da6a14d38d3ff07f43d7d0e33034fd37fc2f26c86c558034523ce7", func := "twain/twainlaw03.AesBlocks", spec := "aesBlocks", apart := false }
def AesBlocksSaid : Prop := aesBlocksRow.holds Try.pinned (OpenSpec.ofChange aesBlocksSpec)

/-- ITS FALSE NEIGHBOUR: 'it returns false'. Refute it at one input. -/
def aesBlocksWrong : ChangeSpec := { name := "aesBlocks", fn := fun _ => fun
  | [d1, d2] => { results := [.lit (.bool false)], args := [d1, d2] }
  | _ => none }
def AesBlocksWrongFalsely : Prop := aesBlocksRow.holds Try.pinned (OpenSpec.ofChange aesBlocksWrong)

/-- 'twainlaw03.AesApart': WHATEVER THE INPUT: true; the input reads as it did. -/
def aesApartSpec : ChangeSpec := { name := "aesApart", fn := fun _ => fun
  | [d1, d2, d3] => { results := [.lit (.bool true)], args := [d1, d2, d3] }
  | _ => none }
def aesApartRow : OpenClaim := { program := "ytcnkllkieelahaa", sum := "5bc4e73e50da6a14d38d3ff07f43d7d0e33034fd37fc2f26c86c558034523ce7", func := "twain/twainlaw03.AesApart", spec := "aesApart", apart := false }
def AesApartSaid : Prop := aesApartRow.holds Try.pinned (OpenSpec.ofChange aesApartSpec)

/-- ITS FALSE NEIGHBOUR: 'it returns false'. Refute it at one input. -/
def aesApartWrong : ChangeSpec := { name := "aesApart", fn := fun _ => fun
  | [d1, d2, d3] => { results := [.lit (.bool false)], args := [d1, d2, d3] }
  | _ => none }
def AesApartWrongFalsely : Prop := aesApartRow.holds Try.pinned (OpenSpec.ofChange aesApartWrong)

/-- 'twainlaw03.AesWords': WHATEVER THE INPUT: true; the input reads as it did. -/
def aesWordsSpec : ChangeSpec := { name := "aesWords", fn := fun _ => fun
  | [d1, d2] => { results := [.lit (.bool true)], args := [d1, d2] }
  | _ => none }
def aesWordsRow : OpenClaim := { program := "ytcnkllkieelahaa", sum := "5bc4e73e50da6a14d38d3ff07f43d7d0e33034fd37fc2f26c86c558034523ce7", func := "twain/twainlaw03.AesWords", spec := "aesWords", apart := false }
def AesWordsSaid : Prop := aesWordsRow.holds Try.pinned (OpenSpec.ofChange aesWordsSpec)

/-- ITS FALSE NEIGHBOUR: 'it returns false'. Refute it at one input. -/
def aesWordsWrong : ChangeSpec := { name := "aesWords", fn := fun _ => fun
  | [d1, d2] => { results := [.lit (.bool false)], args := [d1, d2] }
  | _ => none }
def AesWordsWrongFalsely : Prop := aesWordsRow.holds Try.pinned (OpenSpec.ofChange aesWordsWrong)

/-- 'twainlaw03.AesHashes': WHATEVER THE INPUT: true; the input reads as it did. -/
def aesHashesSpec : ChangeSpec := { name := "aesHashes", fn := fun _ => fun
  | [d1, d2, d3] => { results := [.lit (.bool true)], args := [d1, d2, d3] }
  | _ => none }
def aesHashesRow : OpenClaim := { program := "ytcnkllkieelahaa", sum := "5bc4e73e50da6a14d38d3ff07f43d7d0e33034fd37fc2f26c86c558034523ce7", func := "twain/twainlaw03.AesHashes", spec := "aesHashes", apart := false }
def AesHashesSaid : Prop := aesHashesRow.holds Try.pinned (OpenSpec.ofChange aesHashesSpec)

/-- ITS FALSE NEIGHBOUR: 'it returns false'. Refute it at one input. -/
def aesHashesWrong : ChangeSpec := { name := "aesHashes", fn := fun _ => fun
  | [d1, d2, d3] => { results := [.lit (.bool false)], args := [d1, d2, d3] }
  | _ => none }
def AesHashesWrongFalsely : Prop := aesHashesRow.holds Try.pinned (OpenSpec.ofChange aesHashesWrong)

/-- 'twainlaw03.AesFixedKey': WHATEVER THE INPUT: true; the input reads as it did. -/
def aesFixedKeySpec : ChangeSpec := { name := "aesFixedKey", fn := fun _ => fun
  | [d1, d2, d3] => { results := [.lit (.bool true)], args := [d1, d2, d3] }
  | _ => none }
def aesFixedKeyRow : OpenClaim := { program := "ytcnkllkieelahaa", sum := "5bc4e73e50da6a14d38d3ff07f43d7d0e33034fd37fc2f26c86c558034523ce7", func := "twain/twainlaw03.AesFixedKey", spec := "aesFixedKey", apart := false }
def AesFixedKeySaid : Prop := aesFixedKeyRow.holds Try.pinned (OpenSpec.ofChange aesFixedKeySpec)

/-- ITS FALSE NEIGHBOUR: 'it returns false'. Refute it at one input. -/
def aesFixedKeyWrong : ChangeSpec := { name := "aesFixedKey", fn := fun _ => fun
  | [d1, d2, d3] => { results := [.lit (.bool false)], args := [d1, d2, d3] }
  | _ => none }
def AesFixedKeyWrongFalsely : Prop := aesFixedKeyRow.holds Try.pinned (OpenSpec.ofChange aesFixedKeyWrong)

/- THE SECOND FORM. 'bulk': how many values and letters a reading holds, each counted each time it is reached (what is shared counts as often as it is met; a slice's spare places count too). A statement '..UptoSaid' is the law's where the arguments, and the package variables that the reading takes, are together of bulk at most 1048576: NARROWER than '..Said'. Prove '..Said' where nothing that the law and all that it calls make is longer than what came in: it says more and counts as full. Else prove '..UptoSaid'. A law counts once. -/
mutual
def uptoBulk {H : Type} : DataW H → Nat
  | .lit (.string bytes) => bytes.length + 1
  | .lit _ => 1
  | .nil => 1
  | .ptr d => uptoBulk d + 1
  | .slice elems spare => uptoBulkAll elems + uptoBulkAll spare + 1
  | .agg parts => uptoBulkAll parts + 1
  | .iface _ d => uptoBulk d + 1
  | .map entries => uptoBulkEntries entries + 1
  | .held _ => 1
def uptoBulkAll {H : Type} : List (DataW H) → Nat
  | [] => 0
  | d :: r => uptoBulk d + uptoBulkAll r
def uptoBulkEntries {H : Type} : List (Lit × DataW H) → Nat
  | [] => 0
  | x :: r => uptoBulkEntry x + uptoBulkEntries r
def uptoBulkEntry {H : Type} : Lit × DataW H → Nat
  | (.string bytes, d) => bytes.length + uptoBulk d + 1
  | (_, d) => uptoBulk d + 1
 end
def uptoSmall : (H : Type) → List (DataW H) → Bool := fun _ ds => decide (uptoBulkAll ds ≤ 1048576)
def OpenSpec.upto (s : _root_.Go.ChangeSpec) : _root_.Go.OpenSpec := { _root_.Go.OpenSpec.ofChange s with cond := some uptoSmall }

/-- 'twainlaw03.AesBlocks', WHERE WHAT IT READS IS OF BULK AT MOST 1048576: true; the input reads as it did. -/
def aesBlocksUptoRow : OpenClaim := { program := "ytcnkllkieelahaa", sum := "5bc4e73e50da6a14d38d3ff07f43d7d0e33034fd37fc2f26c86c558034523ce7", func := "twain/twainlaw03.AesBlocks", spec := "aesBlocks", apart := false, narrowed := true }
def AesBlocksUptoSaid : Prop := aesBlocksUptoRow.holds Try.pinned (OpenSpec.upto aesBlocksSpec)

/-- 'twainlaw03.AesApart', WHERE WHAT IT READS IS OF BULK AT MOST 1048576: true; the input reads as it did. -/
def aesApartUptoRow : OpenClaim := { program := "ytcnkllkieelahaa", sum := "5bc4e73e50da6a14d38d3ff07f43d7d0e33034fd37fc2f26c86c558034523ce7", func := "twain/twainlaw03.AesApart", spec := "aesApart", apart := false, narrowed := true }
def AesApartUptoSaid : Prop := aesApartUptoRow.holds Try.pinned (OpenSpec.upto aesApartSpec)

/-- 'twainlaw03.AesWords', WHERE WHAT IT READS IS OF BULK AT MOST 1048576: true; the input reads as it did. -/
def aesWordsUptoRow : OpenClaim := { program := "ytcnkllkieelahaa", sum := "5bc4e73e50da6a14d38d3ff07f43d7d0e33034fd37fc2f26c86c558034523ce7", func := "twain/twainlaw03.AesWords", spec := "aesWords", apart := false, narrowed := true }
def AesWordsUptoSaid : Prop := aesWordsUptoRow.holds Try.pinned (OpenSpec.upto aesWordsSpec)

/-- 'twainlaw03.AesHashes', WHERE WHAT IT READS IS OF BULK AT MOST 1048576: true; the input reads as it did. -/
def aesHashesUptoRow : OpenClaim := { program := "ytcnkllkieelahaa", sum := "5bc4e73e50da6a14d38d3ff07f43d7d0e33034fd37fc2f26c86c558034523ce7", func := "twain/twainlaw03.AesHashes", spec := "aesHashes", apart := false, narrowed := true }
def AesHashesUptoSaid : Prop := aesHashesUptoRow.holds Try.pinned (OpenSpec.upto aesHashesSpec)

/-- 'twainlaw03.AesFixedKey', WHERE WHAT IT READS IS OF BULK AT MOST 1048576: true; the input reads as it did. -/
def aesFixedKeyUptoRow : OpenClaim := { program := "ytcnkllkieelahaa", sum := "5bc4e73e50da6a14d38d3ff07f43d7d0e33034fd37fc2f26c86c558034523ce7", func := "twain/twainlaw03.AesFixedKey", spec := "aesFixedKey", apart := false, narrowed := true }
def AesFixedKeyUptoSaid : Prop := aesFixedKeyUptoRow.holds Try.pinned (OpenSpec.upto aesFixedKeySpec)

end Rows
end Go.Proofs.Ytcnkllkieelahaa
