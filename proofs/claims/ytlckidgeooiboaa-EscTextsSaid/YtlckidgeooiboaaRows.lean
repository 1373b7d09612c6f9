/-
  No cell of these rows narrows 'for every input' (looked for: loops, veiled, ifaces, maps, wideKeys, modest, calm, conditions, laid).
  DERIVED. THE GIVEN ROWS OF THIS SEAT. 6 by the template 'for every input the law returns true; each argument reads behind the call as it read before'; 0 by the template 'total and deterministic' (their statements: YtlckidgeooiboaaTotals.lean).
  GIVEN WITH THE SEED: the statements are not yours to turn. If you find one false, say at which input.
  Laid BY PROGRAM, IN A SANDBOX (cutbox-rows.mjs): the forced cells as the released guide's own fill.sh prints them over the translation 1c10452e70a5c876… (all of the seat's roots in one cut). By AI agents, Wed Nov 11 2026. No macro, syntax, notation, axiom, sorry.
-/
import Derived.Test.YtlckidgeooiboaaChecked
import GoSem.Claim
import GoSem.ClaimJoined
import GoSem.ClaimMapViews
import Derived.JoinedTies
import Derived.KernelRfl
namespace Go.Proofs.Ytlckidgeooiboaa
/- THE CELL 'sum', in the pinned program and in every row, IS THE sha256 OF THE DUMP (.gsa) THAT YtlckidgeooiboaaProg.lean LOADS. Nothing in Lean hashes anything: it is a label: what it is worth is what the hold of that sum in a sandbox is worth. -/
noncomputable def Try.pinned : Pinned := { name := "ytlckidgeooiboaa", sum := "1c10452e70a5c8769790c5ebdbc24e3ddb3903beed436b67bb09e04aae669430", checked := Try.checked }
namespace Rows
def none {H : Type} : Left H := { results := [], args := [] }

/-- 'laceworklaw11.EscCuts': WHATEVER THE INPUT: true; the input reads as it did. -/
def escCutsSpec : ChangeSpec := { name := "escCuts", fn := fun _ => fun
  | [d1, d2, d3] => { results := [.lit (.bool true)], args := [d1, d2, d3] }
  | _ => none }
def escCutsRow : OpenClaim := { program := "ytlckidgeooiboaa", sum := "1c10452e70a5c8769790c5ebdbc24e3ddb3903beed436b67bb09e04aae669430", func := "lacework/laceworklaw11.EscCuts", spec := "escCuts", inPlace := ["internal/abi.NoEscape"], unfollowed := true, recurses := true, apart := false }
def EscCutsSaid : Prop := escCutsRow.holds Try.pinned (OpenSpec.ofChange escCutsSpec)

/-- ITS FALSE NEIGHBOUR: 'it returns false'. Refute it at one input. -/
def escCutsWrong : ChangeSpec := { name := "escCuts", fn := fun _ => fun
  | [d1, d2, d3] => { results := [.lit (.bool false)], args := [d1, d2, d3] }
  | _ => none }
def EscCutsWrongFalsely : Prop := escCutsRow.holds Try.pinned (OpenSpec.ofChange escCutsWrong)

/-- 'laceworklaw11.EscTexts': WHATEVER THE INPUT: true; the input reads as it did. -/
def escTextsSpec : ChangeSpec := { name := "escTexts", fn := fun _ => fun
  | [d] => { results := [.lit (.bool true)], args := [d] }
  | _ => none }
def escTextsRow : OpenClaim := { program := "ytlckidgeooiboaa", sum := "1c10452e70a5c8769790c5ebdbc24e3ddb3903beed436b67bb09e04aae669430", func := "lacework/laceworklaw11.EscTexts", spec := "escTexts", inPlace := ["internal/abi.NoEscape"], unfollowed := true, recurses := true, apart := false }
def EscTextsSaid : Prop := escTextsRow.holds Try.pinned (OpenSpec.ofChange escTextsSpec)

/-- ITS FALSE NEIGHBOUR: 'it returns false'. Refute it at one input. -/
def escTextsWrong : ChangeSpec := { name := "escTexts", fn := fun _ => fun
  | [d] => { results := [.lit (.bool false)], args := [d] }
  | _ => none }
def EscTextsWrongFalsely : Prop := escTextsRow.holds Try.pinned (OpenSpec.ofChange escTextsWrong)

/-- 'laceworklaw11.EscEquals': WHATEVER THE INPUT: true; the input reads as it did. -/
def escEqualsSpec : ChangeSpec := { name := "escEquals", fn := fun _ => fun
  | [d1, d2] => { results := [.lit (.bool true)], args := [d1, d2] }
  | _ => none }
def escEqualsRow : OpenClaim := { program := "ytlckidgeooiboaa", sum := "1c10452e70a5c8769790c5ebdbc24e3ddb3903beed436b67bb09e04aae669430", func := "lacework/laceworklaw11.EscEquals", spec := "escEquals", inPlace := ["internal/abi.NoEscape"], unfollowed := true, recurses := true, apart := false }
def EscEqualsSaid : Prop := escEqualsRow.holds Try.pinned (OpenSpec.ofChange escEqualsSpec)

/-- ITS FALSE NEIGHBOUR: 'it returns false'. Refute it at one input. -/
def escEqualsWrong : ChangeSpec := { name := "escEquals", fn := fun _ => fun
  | [d1, d2] => { results := [.lit (.bool false)], args := [d1, d2] }
  | _ => none }
def EscEqualsWrongFalsely : Prop := escEqualsRow.holds Try.pinned (OpenSpec.ofChange escEqualsWrong)

/-- 'laceworklaw11.EscQuotes': WHATEVER THE INPUT: true; the input reads as it did. -/
def escQuotesSpec : ChangeSpec := { name := "escQuotes", fn := fun _ => fun
  | [d] => { results := [.lit (.bool true)], args := [d] }
  | _ => none }
def escQuotesRow : OpenClaim := { program := "ytlckidgeooiboaa", sum := "1c10452e70a5c8769790c5ebdbc24e3ddb3903beed436b67bb09e04aae669430", func := "lacework/laceworklaw11.EscQuotes", spec := "escQuotes", inPlace := ["internal/abi.NoEscape"], unfollowed := true, recurses := true, apart := false }
def EscQuotesSaid : Prop := escQuotesRow.holds Try.pinned (OpenSpec.ofChange escQuotesSpec)

/-- ITS FALSE NEIGHBOUR: 'it returns false'. Refute it at one input. -/
def escQuotesWrong : ChangeSpec := { name := "escQuotes", fn := fun _ => fun
  | [d] => { results := [.lit (.bool false)], args := [d] }
  | _ => none }
def EscQuotesWrongFalsely : Prop := escQuotesRow.holds Try.pinned (OpenSpec.ofChange escQuotesWrong)

/-- 'laceworklaw11.EscTwo': WHATEVER THE INPUT: true; the input reads as it did. -/
def escTwoSpec : ChangeSpec := { name := "escTwo", fn := fun _ => fun
  | [d1, d2] => { results := [.lit (.bool true)], args := [d1, d2] }
  | _ => none }
def escTwoRow : OpenClaim := { program := "ytlckidgeooiboaa", sum := "1c10452e70a5c8769790c5ebdbc24e3ddb3903beed436b67bb09e04aae669430", func := "lacework/laceworklaw11.EscTwo", spec := "escTwo", inPlace := ["internal/abi.NoEscape"], unfollowed := true, recurses := true, apart := false }
def EscTwoSaid : Prop := escTwoRow.holds Try.pinned (OpenSpec.ofChange escTwoSpec)

/-- ITS FALSE NEIGHBOUR: 'it returns false'. Refute it at one input. -/
def escTwoWrong : ChangeSpec := { name := "escTwo", fn := fun _ => fun
  | [d1, d2] => { results := [.lit (.bool false)], args := [d1, d2] }
  | _ => none }
def EscTwoWrongFalsely : Prop := escTwoRow.holds Try.pinned (OpenSpec.ofChange escTwoWrong)

/-- 'laceworklaw11.EscBack': WHATEVER THE INPUT: true; the input reads as it did. -/
def escBackSpec : ChangeSpec := { name := "escBack", fn := fun _ => fun
  | [d] => { results := [.lit (.bool true)], args := [d] }
  | _ => none }
def escBackRow : OpenClaim := { program := "ytlckidgeooiboaa", sum := "1c10452e70a5c8769790c5ebdbc24e3ddb3903beed436b67bb09e04aae669430", func := "lacework/laceworklaw11.EscBack", spec := "escBack", inPlace := ["internal/abi.NoEscape"], unfollowed := true, recurses := true, apart := false }
def EscBackSaid : Prop := escBackRow.holds Try.pinned (OpenSpec.ofChange escBackSpec)

/-- ITS FALSE NEIGHBOUR: 'it returns false'. Refute it at one input. -/
def escBackWrong : ChangeSpec := { name := "escBack", fn := fun _ => fun
  | [d] => { results := [.lit (.bool false)], args := [d] }
  | _ => none }
def EscBackWrongFalsely : Prop := escBackRow.holds Try.pinned (OpenSpec.ofChange escBackWrong)

/- THE SECOND FORM. 'bulk': how many values and letters a reading holds, each counted each time it is reached (what is shared counts as often as it is met; a slice's spare places count too). A statement '..UptoSaid' is the law's where the arguments, and the package variables that the reading takes, are together of bulk at most 1048576: NARROWER than '..Said'. Prove '..Said' where nothing that the law and all that it calls make is longer than what came in: it says more and counts as full. Else prove '..UptoSaid'. A law counts once. -/
mutual
def uptoBulk {H : Type} : DataW H → Nat
  | .lit (.string bytes) => bytes.length + 1
  | .lit _ => 1
  | .nil => 1
  | .ptr d => uptoBulk d + 1
  | .slice elems spare => uptoBulkAll elems + uptoBulkAll spare + 1
  | .agg parts => uptoBulkAll parts + 1
  | .iface _ d => uptoBulk d + 1
  | .map entries => uptoBulkEntries entries + 1
  | .held _ => 1
def uptoBulkAll {H : Type} : List (DataW H) → Nat
  | [] => 0
  | d :: r => uptoBulk d + uptoBulkAll r
def uptoBulkEntries {H : Type} : List (Lit × DataW H) → Nat
  | [] => 0
  | x :: r => uptoBulkEntry x + uptoBulkEntries r
def uptoBulkEntry {H : Type} : Lit × DataW H → Nat
  | (.string bytes, d) => bytes.length + uptoBulk d + 1
  | (_, d) => uptoBulk d + 1
 end
def uptoSmall : (H : Type) → List (DataW H) → Bool := fun _ ds => decide (uptoBulkAll ds ≤ 1048576)
def OpenSpec.upto (s : _root_.Go.ChangeSpec) : _root_.Go.OpenSpec := { _root_.Go.OpenSpec.ofChange s with cond := some uptoSmall }

/-- 'laceworklaw11.EscCuts', WHERE WHAT IT READS IS OF BULK AT MOST 1048576: true; the input reads as it did. -/
def escCutsUptoRow : OpenClaim := { program := "ytlckidgeooiboaa", sum := "1c10452e70a5c8769790c5ebdbc24e3ddb3903beed436b67bb09e04aae669430", func := "lacework/laceworklaw11.EscCuts", spec := "escCuts", inPlace := ["internal/abi.NoEscape"], unfollowed := true, recurses := true, apart := false, narrowed := true }
def EscCutsUptoSaid : Prop := escCutsUptoRow.holds Try.pinned (OpenSpec.upto escCutsSpec)

/-- 'laceworklaw11.EscTexts', WHERE WHAT IT READS IS OF BULK AT MOST 1048576: true; the input reads as it did. -/
def escTextsUptoRow : OpenClaim := { program := "ytlckidgeooiboaa", sum := "1c10452e70a5c8769790c5ebdbc24e3ddb3903beed436b67bb09e04aae669430", func := "lacework/laceworklaw11.EscTexts", spec := "escTexts", inPlace := ["internal/abi.NoEscape"], unfollowed := true, recurses := true, apart := false, narrowed := true }
def EscTextsUptoSaid : Prop := escTextsUptoRow.holds Try.pinned (OpenSpec.upto escTextsSpec)

/-- 'laceworklaw11.EscEquals', WHERE WHAT IT READS IS OF BULK AT MOST 1048576: true; the input reads as it did. -/
def escEqualsUptoRow : OpenClaim := { program := "ytlckidgeooiboaa", sum := "1c10452e70a5c8769790c5ebdbc24e3ddb3903beed436b67bb09e04aae669430", func := "lacework/laceworklaw11.EscEquals", spec := "escEquals", inPlace := ["internal/abi.NoEscape"], unfollowed := true, recurses := true, apart := false, narrowed := true }
def EscEqualsUptoSaid : Prop := escEqualsUptoRow.holds Try.pinned (OpenSpec.upto escEqualsSpec)

/-- 'laceworklaw11.EscQuotes', WHERE WHAT IT READS IS OF BULK AT MOST 1048576: true; the input reads as it did. -/
def escQuotesUptoRow : OpenClaim := { program := "ytlckidgeooiboaa", sum := "1c10452e70a5c8769790c5ebdbc24e3ddb3903beed436b67bb09e04aae669430", func := "lacework/laceworklaw11.EscQuotes", spec := "escQuotes", inPlace := ["internal/abi.NoEscape"], unfollowed := true, recurses := true, apart := false, narrowed := true }
def EscQuotesUptoSaid : Prop := escQuotesUptoRow.holds Try.pinned (OpenSpec.upto escQuotesSpec)

/-- 'laceworklaw11.EscTwo', WHERE WHAT IT READS IS OF BULK AT MOST 1048576: true; the input reads as it did. -/
def escTwoUptoRow : OpenClaim := { program := "ytlckidgeooiboaa", sum := "1c10452e70a5c8769790c5ebdbc24e3ddb3903beed436b67bb09e04aae669430", func := "lacework/laceworklaw11.EscTwo", spec := "escTwo", inPlace := ["internal/abi.NoEscape"], unfollowed := true, recurses := true, apart := false, narrowed := true }
def EscTwoUptoSaid : Prop := escTwoUptoRow.holds Try.pinned (OpenSpec.upto escTwoSpec)

/-- 'laceworklaw11.EscBack', WHERE WHAT IT READS IS OF BULK AT MOST 1048576: true; the input reads as it did. -/
def escBackUptoRow : OpenClaim := { program := "ytlckidgeooiboaa", sum := "1c10452e70a5c8769790c5ebdbc24e3ddb3903beed436b67bb09e04aae669430", func := "lacework/laceworklaw11.EscBack", spec := "escBack", inPlace := ["internal/abi.NoEscape"], unfollowed := true, recurses := true, apart := false, narrowed := true }
def EscBackUptoSaid : Prop := escBackUptoRow.holds Try.pinned (OpenSpec.upto escBackSpec)

end Rows
end Go.Proofs.Ytlckidgeooiboaa
