/- TopText: walks and plain laws, part 46: lemmas on what the functions that the law comes to compute. -/
import Derived.Test.YtjelneeeijjpiaaGreatDoorCards
import Derived.Test.YtjelneeeijjpiaaGreatDoorTie
import Derived.KernelRfl
set_option linter.unusedVariables false
set_option linter.unusedSimpArgs false
section
namespace Go.Proofs.YtjelneeeijjpiaaGreatDoor.topText
open Go
set_option maxRecDepth 100000
theorem cardW : Rows.topTextRow.wfByText (OpenSpec.ofChange Rows.topTextSpec) = true := by kernel_rfl
theorem cardM : Tryz.pinned.checked.prog.mainIs = some ((true, "ba6c0a68b293bb22059ec78f6a151f5ed42e20c0f9d2065219fb0f055823ae93").1, (true, "ba6c0a68b293bb22059ec78f6a151f5ed42e20c0f9d2065219fb0f055823ae93").2.toList) := by kernel_rfl
theorem cardG : false = Rows.topTextRow.goesBy Tryz.pinned.checked.prog := by kernel_rfl
theorem cardL : true = Tryz.pinned.checked.prog.looks [] := by kernel_rfl
theorem cardF : Tryz.prog.funcNamed "lacework/laceworktop.TopText" = some 3 := by kernel_rfl
end Go.Proofs.YtjelneeeijjpiaaGreatDoor.topText
end
