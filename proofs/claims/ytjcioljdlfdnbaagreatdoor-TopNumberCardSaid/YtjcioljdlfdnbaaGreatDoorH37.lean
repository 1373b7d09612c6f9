/- Part 37: lemmas for TopNumber; no conditions. -/
import Derived.Test.YtjcioljdlfdnbaaGreatDoorHq
import Derived.Test.YtjcioljdlfdnbaaGreatDoorCards
import Derived.Test.YtjcioljdlfdnbaaGreatDoorTie
set_option linter.unusedVariables false
set_option linter.unusedSimpArgs false
set_option maxRecDepth 100000
set_option maxHeartbeats 2000000
open Go.Proofs.Tryz
namespace Go.Proofs.YtjcioljdlfdnbaaGreatDoor
namespace topNumber
open Go
set_option maxRecDepth 100000
theorem cardW: Rows.topNumberRow.wfByText (OpenSpec.ofChange Rows.topNumberSpec)=true:=by kernel_rfl
theorem cardM: Tryz.pinned.checked.prog.mainIs=some ((true, "021abe7f36458d77e79323ee24004c41b6ccba96d769e3b3112140430ab4814b").1,(true, "021abe7f36458d77e79323ee24004c41b6ccba96d769e3b3112140430ab4814b").2.toList):=by kernel_rfl
theorem cardG: false=Rows.topNumberRow.goesBy Tryz.pinned.checked.prog:=by kernel_rfl
theorem cardL: true=Tryz.pinned.checked.prog.looks []:=by kernel_rfl
theorem cardF: prog.funcNamed "lacework/laceworktop.TopNumber"=some 3:=by kernel_rfl
end topNumber
end Go.Proofs.YtjcioljdlfdnbaaGreatDoor
