/-
  DERIVED. GIVEN WITH THE SEED: THE CARDS: each row of YtjcioljdlfdnbaaGreatDoorRows.lean that lists a variable, with what it lists TIED to the program's text (the seventh form; the later family's looks); each row that meets fmt, with fmt's text TOLD by the authors' own Lean function (tested against real Go, not proved from fmt's source: count such statements apart). THE CARD IS WHAT COUNTS. Prove the row's statement (the work); the ties are given (YtjcioljdlfdnbaaGreatDoorTie.lean); close each card by the builder's one call (the guide's Derived/Test/ToyasCard.lean, 'card_holds'). Laid BY PROGRAM, IN A SANDBOX (cutbox-door.mjs). By AI agents, Wed Nov 11 2026. No macro, syntax, notation, axiom, sorry.
-/
import Derived.Test.YtjcioljdlfdnbaaGreatDoorRows
import GoSem.ClaimSeven
namespace Go.Proofs.YtjcioljdlfdnbaaGreatDoor
namespace Rows

/-- THE TIED CARD OF 'laceworktop.TopNumber'. -/
def topNumberCard : Claim7 := { stood := { row := topNumberRow, standIns := [], harness := (true, "021abe7f36458d77e79323ee24004c41b6ccba96d769e3b3112140430ab4814b"), looks := true }, kinds := [], alts := [], laidByText := true, laidKinds := [.data, .data, .data, .data, .pinned], laidTests := true, laidLooks := .later }
def TopNumberCardSaid : Prop := Claim7.holds Tryz.pinned (.plain (OpenSpec.ofChange topNumberSpec)) topNumberCard

/-- THE SECOND FORM's CARD OF 'laceworktop.TopNumber'. -/
def topNumberUptoCard : Claim7 := { stood := { row := topNumberUptoRow, standIns := [], harness := (true, "021abe7f36458d77e79323ee24004c41b6ccba96d769e3b3112140430ab4814b"), looks := true }, kinds := [], alts := [], laidByText := true, laidKinds := [.data, .data, .data, .data, .pinned], laidTests := true, laidLooks := .later }
def TopNumberUptoCardSaid : Prop := Claim7.holds Tryz.pinned (.plain (OpenSpec.upto topNumberSpec)) topNumberUptoCard
end Rows
end Go.Proofs.YtjcioljdlfdnbaaGreatDoor
