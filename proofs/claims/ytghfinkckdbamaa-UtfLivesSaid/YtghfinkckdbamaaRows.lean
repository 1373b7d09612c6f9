/-
  No cell of these rows narrows 'for every input' (looked for: loops, veiled, ifaces, maps, wideKeys, modest, calm, conditions, laid).
  DERIVED. THE GIVEN ROWS OF THIS SEAT. 6 by the template 'for every input the law returns true; each argument reads behind the call as it read before'; 0 by the template 'total and deterministic' (their statements: YtghfinkckdbamaaTotals.lean).
  GIVEN WITH THE SEED: the statements are not yours to turn. If you find one false, say at which input.
  Laid BY PROGRAM, IN A SANDBOX (cutbox-rows.mjs): the forced cells as the released guide's own fill.sh prints them over the translation 70beca2e01ebcf07… (all of the seat's roots in one cut). By AI agents, Wed Nov 11 2026. No macro, syntax, notation, axiom, sorry.
-/
import Derived.Test.YtghfinkckdbamaaChecked
import GoSem.Claim
import GoSem.ClaimJoined
import GoSem.ClaimMapViews
import Derived.JoinedTies
import Derived.KernelRfl
namespace Go.Proofs.Ytghfinkckdbamaa
/- THE CELL 'sum', in the pinned program and in every row, IS THE sha256 OF THE DUMP (.gsa) THAT YtghfinkckdbamaaProg.lean LOADS. Nothing in Lean hashes anything: it is a label: what it is worth is what the hold of that sum in a sandbox is worth. -/
noncomputable def Try.pinned : Pinned := { name := "ytghfinkckdbamaa", sum := "70beca2e01ebcf072826227b7e6469658fa2d6d8f3eb0a49b7c6b058557e01ae", checked := Try.checked }
namespace Rows
def none {H : Type} : Left H := { results := [], args := [] }

/-- 'laceworklaw09.UtfSteps': WHATEVER THE INPUT: true; the input reads as it did. -/
def utfStepsSpec : ChangeSpec := { name := "utfSteps", fn := fun _ => fun
  | [d1, d2] => { results := [.lit (.bool true)], args := [d1, d2] }
  | _ => none }
def utfStepsRow : OpenClaim := { program := "ytghfinkckdbamaa", sum := "70beca2e01ebcf072826227b7e6469658fa2d6d8f3eb0a49b7c6b058557e01ae", func := "lacework/laceworklaw09.UtfSteps", spec := "utfSteps", apart := false }
def UtfStepsSaid : Prop := utfStepsRow.holds Try.pinned (OpenSpec.ofChange utfStepsSpec)

/-- ITS FALSE NEIGHBOUR: 'it returns false'. Refute it at one input. -/
def utfStepsWrong : ChangeSpec := { name := "utfSteps", fn := fun _ => fun
  | [d1, d2] => { results := [.lit (.bool false)], args := [d1, d2] }
  | _ => none }
def UtfStepsWrongFalsely : Prop := utfStepsRow.holds Try.pinned (OpenSpec.ofChange utfStepsWrong)

/-- 'laceworklaw09.UtfLives': WHATEVER THE INPUT: true; the input reads as it did. -/
def utfLivesSpec : ChangeSpec := { name := "utfLives", fn := fun _ => fun
  | [d] => { results := [.lit (.bool true)], args := [d] }
  | _ => none }
def utfLivesRow : OpenClaim := { program := "ytghfinkckdbamaa", sum := "70beca2e01ebcf072826227b7e6469658fa2d6d8f3eb0a49b7c6b058557e01ae", func := "lacework/laceworklaw09.UtfLives", spec := "utfLives", apart := false }
def UtfLivesSaid : Prop := utfLivesRow.holds Try.pinned (OpenSpec.ofChange utfLivesSpec)

/-- ITS FALSE NEIGHBOUR: 'it returns false'. Refute it at one input. -/
def utfLivesWrong : ChangeSpec := { name := "utfLives", fn := fun _ => fun
  | [d] => { results := [.lit (.bool false)], args := [d] }
  | _ => none }
def UtfLivesWrongFalsely : Prop := utfLivesRow.holds Try.pinned (OpenSpec.ofChange utfLivesWrong)

/-- 'laceworklaw09.UtfLong': WHATEVER THE INPUT: true; the input reads as it did. -/
def utfLongSpec : ChangeSpec := { name := "utfLong", fn := fun _ => fun
  | [d] => { results := [.lit (.bool true)], args := [d] }
  | _ => none }
def utfLongRow : OpenClaim := { program := "ytghfinkckdbamaa", sum := "70beca2e01ebcf072826227b7e6469658fa2d6d8f3eb0a49b7c6b058557e01ae", func := "lacework/laceworklaw09.UtfLong", spec := "utfLong", apart := false }
def UtfLongSaid : Prop := utfLongRow.holds Try.pinned (OpenSpec.ofChange utfLongSpec)

/-- ITS FALSE NEIGHBOUR: 'it returns false'. Refute it at one input. -/
def utfLongWrong : ChangeSpec := { name := "utfLong", fn := fun _ => fun
  | [d] => { results := [.lit (.bool false)], args := [d] }
  | _ => none }
def UtfLongWrongFalsely : Prop := utfLongRow.holds Try.pinned (OpenSpec.ofChange utfLongWrong)

/-- 'laceworklaw09.UtfTwo': WHATEVER THE INPUT: true; the input reads as it did. -/
def utfTwoSpec : ChangeSpec := { name := "utfTwo", fn := fun _ => fun
  | [d1, d2] => { results := [.lit (.bool true)], args := [d1, d2] }
  | _ => none }
def utfTwoRow : OpenClaim := { program := "ytghfinkckdbamaa", sum := "70beca2e01ebcf072826227b7e6469658fa2d6d8f3eb0a49b7c6b058557e01ae", func := "lacework/laceworklaw09.UtfTwo", spec := "utfTwo", apart := false }
def UtfTwoSaid : Prop := utfTwoRow.holds Try.pinned (OpenSpec.ofChange utfTwoSpec)

/-- ITS FALSE NEIGHBOUR: 'it returns false'. Refute it at one input. -/
def utfTwoWrong : ChangeSpec := { name := "utfTwo", fn := fun _ => fun
  | [d1, d2] => { results := [.lit (.bool false)], args := [d1, d2] }
  | _ => none }
def UtfTwoWrongFalsely : Prop := utfTwoRow.holds Try.pinned (OpenSpec.ofChange utfTwoWrong)

/-- 'laceworklaw09.UtfScalars': WHATEVER THE INPUT: true; the input reads as it did. -/
def utfScalarsSpec : ChangeSpec := { name := "utfScalars", fn := fun _ => fun
  | [d1, d2] => { results := [.lit (.bool true)], args := [d1, d2] }
  | _ => none }
def utfScalarsRow : OpenClaim := { program := "ytghfinkckdbamaa", sum := "70beca2e01ebcf072826227b7e6469658fa2d6d8f3eb0a49b7c6b058557e01ae", func := "lacework/laceworklaw09.UtfScalars", spec := "utfScalars", apart := false }
def UtfScalarsSaid : Prop := utfScalarsRow.holds Try.pinned (OpenSpec.ofChange utfScalarsSpec)

/-- ITS FALSE NEIGHBOUR: 'it returns false'. Refute it at one input. -/
def utfScalarsWrong : ChangeSpec := { name := "utfScalars", fn := fun _ => fun
  | [d1, d2] => { results := [.lit (.bool false)], args := [d1, d2] }
  | _ => none }
def UtfScalarsWrongFalsely : Prop := utfScalarsRow.holds Try.pinned (OpenSpec.ofChange utfScalarsWrong)

/-- 'laceworklaw09.UtfBack': WHATEVER THE INPUT: true; the input reads as it did. -/
def utfBackSpec : ChangeSpec := { name := "utfBack", fn := fun _ => fun
  | [d1, d2] => { results := [.lit (.bool true)], args := [d1, d2] }
  | _ => none }
def utfBackRow : OpenClaim := { program := "ytghfinkckdbamaa", sum := "70beca2e01ebcf072826227b7e6469658fa2d6d8f3eb0a49b7c6b058557e01ae", func := "lacework/laceworklaw09.UtfBack", spec := "utfBack", apart := false }
def UtfBackSaid : Prop := utfBackRow.holds Try.pinned (OpenSpec.ofChange utfBackSpec)

/-- ITS FALSE NEIGHBOUR: 'it returns false'. Refute it at one input. -/
def utfBackWrong : ChangeSpec := { name := "utfBack", fn := fun _ => fun
  | [d1, d2] => { results := [.lit (.bool false)], args := [d1, d2] }
  | _ => none }
def UtfBackWrongFalsely : Prop := utfBackRow.holds Try.pinned (OpenSpec.ofChange utfBackWrong)

/- THE SECOND FORM. 'bulk': how many values and letters a reading holds, each counted each time it is reached (what is shared counts as often as it is met; a slice's spare places count too). A statement '..UptoSaid' is the law's where the arguments, and the package variables that the reading takes, are together of bulk at most 1048576: NARROWER than '..Said'. Prove '..Said' where nothing that the law and all that it calls make is longer than what came in: it says more and counts as full. Else prove '..UptoSaid'. A law counts once. -/
mutual
def uptoBulk {H : Type} : DataW H → Nat
  | .lit (.string bytes) => bytes.length + 1
  | .lit _ => 1
  | .nil => 1
  | .ptr d => uptoBulk d + 1
  | .slice elems spare => uptoBulkAll elems + uptoBulkAll spare + 1
  | .agg parts => uptoBulkAll parts + 1
  | .iface _ d => uptoBulk d + 1
  | .map entries => uptoBulkEntries entries + 1
  | .held _ => 1
def uptoBulkAll {H : Type} : List (DataW H) → Nat
  | [] => 0
  | d :: r => uptoBulk d + uptoBulkAll r
def uptoBulkEntries {H : Type} : List (Lit × DataW H) → Nat
  | [] => 0
  | x :: r => uptoBulkEntry x + uptoBulkEntries r
def uptoBulkEntry {H : Type} : Lit × DataW H → Nat
  | (.string bytes, d) => bytes.length + uptoBulk d + 1
  | (_, d) => uptoBulk d + 1
 end
def uptoSmall : (H : Type) → List (DataW H) → Bool := fun _ ds => decide (uptoBulkAll ds ≤ 1048576)
def OpenSpec.upto (s : _root_.Go.ChangeSpec) : _root_.Go.OpenSpec := { _root_.Go.OpenSpec.ofChange s with cond := some uptoSmall }

/-- 'laceworklaw09.UtfSteps', WHERE WHAT IT READS IS OF BULK AT MOST 1048576: true; the input reads as it did. -/
def utfStepsUptoRow : OpenClaim := { program := "ytghfinkckdbamaa", sum := "70beca2e01ebcf072826227b7e6469658fa2d6d8f3eb0a49b7c6b058557e01ae", func := "lacework/laceworklaw09.UtfSteps", spec := "utfSteps", apart := false, narrowed := true }
def UtfStepsUptoSaid : Prop := utfStepsUptoRow.holds Try.pinned (OpenSpec.upto utfStepsSpec)

/-- 'laceworklaw09.UtfLives', WHERE WHAT IT READS IS OF BULK AT MOST 1048576: true; the input reads as it did. -/
def utfLivesUptoRow : OpenClaim := { program := "ytghfinkckdbamaa", sum := "70beca2e01ebcf072826227b7e6469658fa2d6d8f3eb0a49b7c6b058557e01ae", func := "lacework/laceworklaw09.UtfLives", spec := "utfLives", apart := false, narrowed := true }
def UtfLivesUptoSaid : Prop := utfLivesUptoRow.holds Try.pinned (OpenSpec.upto utfLivesSpec)

/-- 'laceworklaw09.UtfLong', WHERE WHAT IT READS IS OF BULK AT MOST 1048576: true; the input reads as it did. -/
def utfLongUptoRow : OpenClaim := { program := "ytghfinkckdbamaa", sum := "70beca2e01ebcf072826227b7e6469658fa2d6d8f3eb0a49b7c6b058557e01ae", func := "lacework/laceworklaw09.UtfLong", spec := "utfLong", apart := false, narrowed := true }
def UtfLongUptoSaid : Prop := utfLongUptoRow.holds Try.pinned (OpenSpec.upto utfLongSpec)

/-- 'laceworklaw09.UtfTwo', WHERE WHAT IT READS IS OF BULK AT MOST 1048576: true; the input reads as it did. -/
def utfTwoUptoRow : OpenClaim := { program := "ytghfinkckdbamaa", sum := "70beca2e01ebcf072826227b7e6469658fa2d6d8f3eb0a49b7c6b058557e01ae", func := "lacework/laceworklaw09.UtfTwo", spec := "utfTwo", apart := false, narrowed := true }
def UtfTwoUptoSaid : Prop := utfTwoUptoRow.holds Try.pinned (OpenSpec.upto utfTwoSpec)

/-- 'laceworklaw09.UtfScalars', WHERE WHAT IT READS IS OF BULK AT MOST 1048576: true; the input reads as it did. -/
def utfScalarsUptoRow : OpenClaim := { program := "ytghfinkckdbamaa", sum := "70beca2e01ebcf072826227b7e6469658fa2d6d8f3eb0a49b7c6b058557e01ae", func := "lacework/laceworklaw09.UtfScalars", spec := "utfScalars", apart := false, narrowed := true }
def UtfScalarsUptoSaid : Prop := utfScalarsUptoRow.holds Try.pinned (OpenSpec.upto utfScalarsSpec)

/-- 'laceworklaw09.UtfBack', WHERE WHAT IT READS IS OF BULK AT MOST 1048576: true; the input reads as it did. -/
def utfBackUptoRow : OpenClaim := { program := "ytghfinkckdbamaa", sum := "70beca2e01ebcf072826227b7e6469658fa2d6d8f3eb0a49b7c6b058557e01ae", func := "lacework/laceworklaw09.UtfBack", spec := "utfBack", apart := false, narrowed := true }
def UtfBackUptoSaid : Prop := utfBackUptoRow.holds Try.pinned (OpenSpec.upto utfBackSpec)

end Rows
end Go.Proofs.Ytghfinkckdbamaa
