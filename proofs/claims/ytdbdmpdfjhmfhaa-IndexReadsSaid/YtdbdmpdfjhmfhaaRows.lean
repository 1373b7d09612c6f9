/-
  No cell of these rows narrows 'for every input' (looked for: loops, veiled, ifaces, maps, wideKeys, modest, calm, conditions, laid).
  DERIVED. THE GIVEN ROWS OF THIS SEAT. 4 by the template 'for every input the law returns true; each argument reads behind the call as it read before'; 0 by the template 'total and deterministic' (their statements: YtdbdmpdfjhmfhaaTotals.lean).
  GIVEN WITH THE SEED: the statements are not yours to turn. If you find one false, say at which input.
  Laid BY PROGRAM, IN A SANDBOX (cutbox-rows.mjs): the forced cells as the released guide's own fill.sh prints them over the translation ba1ee86eb8dfb719… (all of the seat's roots in one cut). By AI agents, Wed Nov 11 2026. No macro, syntax, notation, axiom, sorry.
-/
import Derived.Test.YtdbdmpdfjhmfhaaChecked
import GoSem.Claim
import GoSem.ClaimJoined
import GoSem.ClaimMapViews
import Derived.JoinedTies
import Derived.KernelRfl
namespace Go.Proofs.Ytdbdmpdfjhmfhaa
/- THE CELL 'sum', in the pinned program and in every row, IS THE sha256 OF THE DUMP (.gsa) THAT YtdbdmpdfjhmfhaaProg.lean LOADS. Nothing in Lean hashes anything: it is a label: what it is worth is what the hold of that sum in a sandbox is worth. -/
noncomputable def Try.pinned : Pinned := { name := "ytdbdmpdfjhmfhaa", sum := "ba1ee86eb8dfb7197fc139849899a8f48e7eb37d9d693cb41ae424a1f7b040bb", checked := Try.checked }
namespace Rows
def none {H : Type} : Left H := { results := [], args := [] }

/-- 'laceworklaw25.IndexSizes': WHATEVER THE INPUT: true; the input reads as it did. -/
def indexSizesSpec : ChangeSpec := { name := "indexSizes", fn := fun _ => fun
  | [d] => { results := [.lit (.bool true)], args := [d] }
  | _ => none }
def indexSizesRow : OpenClaim := { program := "ytdbdmpdfjhmfhaa", sum := "ba1ee86eb8dfb7197fc139849899a8f48e7eb37d9d693cb41ae424a1f7b040bb", func := "lacework/laceworklaw25.IndexSizes", spec := "indexSizes", inPlace := ["internal/abi.NoEscape"], apart := false }
def IndexSizesSaid : Prop := indexSizesRow.holds Try.pinned (OpenSpec.ofChange indexSizesSpec)

/-- ITS FALSE NEIGHBOUR: 'it returns false'. Refute it at one input. -/
def indexSizesWrong : ChangeSpec := { name := "indexSizes", fn := fun _ => fun
  | [d] => { results := [.lit (.bool false)], args := [d] }
  | _ => none }
def IndexSizesWrongFalsely : Prop := indexSizesRow.holds Try.pinned (OpenSpec.ofChange indexSizesWrong)

/-- 'laceworklaw25.IndexReads': WHATEVER THE INPUT: true; the input reads as it did. -/
def indexReadsSpec : ChangeSpec := { name := "indexReads", fn := fun _ => fun
  | [d1, d2] => { results := [.lit (.bool true)], args := [d1, d2] }
  | _ => none }
def indexReadsRow : OpenClaim := { program := "ytdbdmpdfjhmfhaa", sum := "ba1ee86eb8dfb7197fc139849899a8f48e7eb37d9d693cb41ae424a1f7b040bb", func := "lacework/laceworklaw25.IndexReads", spec := "indexReads", apart := false }
def IndexReadsSaid : Prop := indexReadsRow.holds Try.pinned (OpenSpec.ofChange indexReadsSpec)

/-- ITS FALSE NEIGHBOUR: 'it returns false'. Refute it at one input. -/
def indexReadsWrong : ChangeSpec := { name := "indexReads", fn := fun _ => fun
  | [d1, d2] => { results := [.lit (.bool false)], args := [d1, d2] }
  | _ => none }
def IndexReadsWrongFalsely : Prop := indexReadsRow.holds Try.pinned (OpenSpec.ofChange indexReadsWrong)

/-- 'laceworklaw25.IndexWrites': WHATEVER THE INPUT: true; the input reads as it did. -/
def indexWritesSpec : ChangeSpec := { name := "indexWrites", fn := fun _ => fun
  | [d] => { results := [.lit (.bool true)], args := [d] }
  | _ => none }
def indexWritesRow : OpenClaim := { program := "ytdbdmpdfjhmfhaa", sum := "ba1ee86eb8dfb7197fc139849899a8f48e7eb37d9d693cb41ae424a1f7b040bb", func := "lacework/laceworklaw25.IndexWrites", spec := "indexWrites", inPlace := ["internal/abi.NoEscape"], apart := false }
def IndexWritesSaid : Prop := indexWritesRow.holds Try.pinned (OpenSpec.ofChange indexWritesSpec)

/-- ITS FALSE NEIGHBOUR: 'it returns false'. Refute it at one input. -/
def indexWritesWrong : ChangeSpec := { name := "indexWrites", fn := fun _ => fun
  | [d] => { results := [.lit (.bool false)], args := [d] }
  | _ => none }
def IndexWritesWrongFalsely : Prop := indexWritesRow.holds Try.pinned (OpenSpec.ofChange indexWritesWrong)

/-- 'laceworklaw25.IndexTurned': WHATEVER THE INPUT: true; the input reads as it did. -/
def indexTurnedSpec : ChangeSpec := { name := "indexTurned", fn := fun _ => fun
  | [d1, d2, d3] => { results := [.lit (.bool true)], args := [d1, d2, d3] }
  | _ => none }
def indexTurnedRow : OpenClaim := { program := "ytdbdmpdfjhmfhaa", sum := "ba1ee86eb8dfb7197fc139849899a8f48e7eb37d9d693cb41ae424a1f7b040bb", func := "lacework/laceworklaw25.IndexTurned", spec := "indexTurned", inPlace := ["internal/abi.NoEscape"], apart := false }
def IndexTurnedSaid : Prop := indexTurnedRow.holds Try.pinned (OpenSpec.ofChange indexTurnedSpec)

/-- ITS FALSE NEIGHBOUR: 'it returns false'. Refute it at one input. -/
def indexTurnedWrong : ChangeSpec := { name := "indexTurned", fn := fun _ => fun
  | [d1, d2, d3] => { results := [.lit (.bool false)], args := [d1, d2, d3] }
  | _ => none }
def IndexTurnedWrongFalsely : Prop := indexTurnedRow.holds Try.pinned (OpenSpec.ofChange indexTurnedWrong)

/- THE SECOND FORM. 'bulk': how many values and letters a reading holds, each counted each time it is reached (what is shared counts as often as it is met; a slice's spare places count too). A statement '..UptoSaid' is the law's where the arguments, and the package variables that the reading takes, are together of bulk at most 1048576: NARROWER than '..Said'. Prove '..Said' where nothing that the law and all that it calls make is longer than what came in: it says more and counts as full. Else prove '..UptoSaid'. A law counts once. -/
mutual
def uptoBulk {H : Type} : DataW H → Nat
  | .lit (.string bytes) => bytes.length + 1
  | .lit _ => 1
  | .nil => 1
  | .ptr d => uptoBulk d + 1
  | .slice elems spare => uptoBulkAll elems + uptoBulkAll spare + 1
  | .agg parts => uptoBulkAll parts + 1
  | .iface _ d => uptoBulk d + 1
  | .map entries => uptoBulkEntries entries + 1
  | .held _ => 1
def uptoBulkAll {H : Type} : List (DataW H) → Nat
  | [] => 0
  | d :: r => uptoBulk d + uptoBulkAll r
def uptoBulkEntries {H : Type} : List (Lit × DataW H) → Nat
  | [] => 0
  | x :: r => uptoBulkEntry x + uptoBulkEntries r
def uptoBulkEntry {H : Type} : Lit × DataW H → Nat
  | (.string bytes, d) => bytes.length + uptoBulk d + 1
  | (_, d) => uptoBulk d + 1
 end
def uptoSmall : (H : Type) → List (DataW H) → Bool := fun _ ds => decide (uptoBulkAll ds ≤ 1048576)
def OpenSpec.upto (s : _root_.Go.ChangeSpec) : _root_.Go.OpenSpec := { _root_.Go.OpenSpec.ofChange s with cond := some uptoSmall }

/-- 'laceworklaw25.IndexSizes', WHERE WHAT IT READS IS OF BULK AT MOST 1048576: true; the input reads as it did. -/
def indexSizesUptoRow : OpenClaim := { program := "ytdbdmpdfjhmfhaa", sum := "ba1ee86eb8dfb7197fc139849899a8f48e7eb37d9d693cb41ae424a1f7b040bb", func := "lacework/laceworklaw25.IndexSizes", spec := "indexSizes", inPlace := ["internal/abi.NoEscape"], apart := false, narrowed := true }
def IndexSizesUptoSaid : Prop := indexSizesUptoRow.holds Try.pinned (OpenSpec.upto indexSizesSpec)

/-- 'laceworklaw25.IndexReads', WHERE WHAT IT READS IS OF BULK AT MOST 1048576: true; the input reads as it did. -/
def indexReadsUptoRow : OpenClaim := { program := "ytdbdmpdfjhmfhaa", sum := "ba1ee86eb8dfb7197fc139849899a8f48e7eb37d9d693cb41ae424a1f7b040bb", func := "lacework/laceworklaw25.IndexReads", spec := "indexReads", apart := false, narrowed := true }
def IndexReadsUptoSaid : Prop := indexReadsUptoRow.holds Try.pinned (OpenSpec.upto indexReadsSpec)

/-- 'laceworklaw25.IndexWrites', WHERE WHAT IT READS IS OF BULK AT MOST 1048576: true; the input reads as it did. -/
def indexWritesUptoRow : OpenClaim := { program := "ytdbdmpdfjhmfhaa", sum := "ba1ee86eb8dfb7197fc139849899a8f48e7eb37d9d693cb41ae424a1f7b040bb", func := "lacework/laceworklaw25.IndexWrites", spec := "indexWrites", inPlace := ["internal/abi.NoEscape"], apart := false, narrowed := true }
def IndexWritesUptoSaid : Prop := indexWritesUptoRow.holds Try.pinned (OpenSpec.upto indexWritesSpec)

/-- 'laceworklaw25.IndexTurned', WHERE WHAT IT READS IS OF BULK AT MOST 1048576: true; the input reads as it did. -/
def indexTurnedUptoRow : OpenClaim := { program := "ytdbdmpdfjhmfhaa", sum := "ba1ee86eb8dfb7197fc139849899a8f48e7eb37d9d693cb41ae424a1f7b040bb", func := "lacework/laceworklaw25.IndexTurned", spec := "indexTurned", inPlace := ["internal/abi.NoEscape"], apart := false, narrowed := true }
def IndexTurnedUptoSaid : Prop := indexTurnedUptoRow.holds Try.pinned (OpenSpec.upto indexTurnedSpec)

end Rows
end Go.Proofs.Ytdbdmpdfjhmfhaa
