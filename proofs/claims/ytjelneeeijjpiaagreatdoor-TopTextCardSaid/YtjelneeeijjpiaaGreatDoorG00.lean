/- TopText: walks and plain laws, part 0: lemmas on what the functions that the law comes to compute. -/
import Derived.Test.YtjelneeeijjpiaaGreatDoorCards
import Derived.Test.YtjelneeeijjpiaaGreatDoorTie
import Derived.ProofKit
import Derived.LaidMore
import Derived.LaidHandle
import Derived.OpenShut
import Derived.Stop.Joined
import Derived.Stop.LaidErr
import Derived.MakeChecks
import Derived.Lib.LaidTab
set_option linter.unusedVariables false
set_option linter.unusedSimpArgs false
section
namespace Go.Proofs.YtjelneeeijjpiaaGreatDoor.topText
open Go.ChangeShapes Go.WideShapes Go.ChangeAt Go.RowKit
set_option maxRecDepth 100000
def flat1 : DataW Unit → List Value
  | .lit (.int k z) => [.int k z]
  | .agg l => l.map fun | .lit (.int k z) => .int k z | _ => undef
  | _ => []
def flat : DataW Unit → Array Value
  | .agg l => (l.flatMap flat1).toArray
  | _ => #[]
noncomputable def laidWorld (os : Os) : World :=
  { World.holding Tryz.prog os ⟨#[], #[], []⟩ with heap := Rows.topTextRow.laid.foldl (fun h x => match Tryz.prog.globalNamed x.1 with | some g => h.modify g (fun | .cells _ t f => .cells (flat x.2) t f | o => o) | none => h) (World.holding Tryz.prog os ⟨#[], #[], []⟩).heap }
theorem laid_met (os : Os) : laidMetH Tryz.prog Rows.topTextRow.laid ((laidWorld os).forCall (fun _ _ => 0) ⟨#[], #[.string ByteArray.empty, .bool false], []⟩).memory :=
  laidMetH_of_parts3 (fuel := 8) (laidMet_of_run' 8 (by kernel_rfl) (by kernel_rfl)) (by kernel_rfl) (by kernel_rfl)
theorem gTab : Tryz.prog.globalNamed "math/bits.deBruijn64tab" = some 4 := by kernel_rfl
end Go.Proofs.YtjelneeeijjpiaaGreatDoor.topText
end
