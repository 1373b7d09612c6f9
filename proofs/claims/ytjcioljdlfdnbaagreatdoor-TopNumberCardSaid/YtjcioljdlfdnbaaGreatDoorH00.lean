/- Part 0: lemmas for TopNumber; no conditions. -/
import Derived.Test.YtjcioljdlfdnbaaGreatDoorHq
import Derived.Test.YtjcioljdlfdnbaaGreatDoorCards
import Derived.Test.YtjcioljdlfdnbaaGreatDoorTie
import Derived.ProofKit
import Derived.LaidMore
import Derived.OpenShut
import Derived.Stop.LaidErr
import Derived.Lib.LaidTab
set_option linter.unusedVariables false
set_option linter.unusedSimpArgs false
set_option maxRecDepth 100000
set_option maxHeartbeats 2000000
open Go.Proofs.Tryz
namespace Go.Proofs.YtjcioljdlfdnbaaGreatDoor
namespace topNumber
open Go.ChangeShapes Go.WideShapes Go.ChangeAt Go.RowKit
set_option maxRecDepth 100000
def flat1:DataW Unit→List Value
 | .lit (.int k z)=>[.int k z]
 | .agg l=>l.map fun|.lit (.int k z)=>.int k z|_=>undef
 | _=>[]
def flat:DataW Unit→Array Value
 | .agg l=>(l.flatMap flat1).toArray
 | _=>#[]
noncomputable def laidWorld (os:Os):World:=
 { World.holding prog os ⟨#[],#[],[]⟩ with heap:=Rows.topNumberRow.laid.foldl (fun h x=>match prog.globalNamed x.1 with|some g=>h.modify g (fun|.cells _ t f=>.cells (flat x.2) t f|o=>o)|none=>h) (World.holding prog os ⟨#[],#[],[]⟩).heap }
theorem laid_met(os:Os): laidMetH prog Rows.topNumberRow.laid ((laidWorld os).forCall (fun _ _=>0) ⟨#[],#[.string ByteArray.empty,.int .i64 0],[]⟩).memory:=
 laidMetH_of_parts3 (fuel:=8) (laidMet_of_run' 8 (by kernel_rfl) (by kernel_rfl)) (by kernel_rfl) (by kernel_rfl)
theorem gPow: prog.globalNamed "internal/strconv.uint64pow10"=some 4:=by kernel_rfl
theorem gTab: prog.globalNamed "math/bits.deBruijn64tab"=some 6:=by kernel_rfl
end topNumber
end Go.Proofs.YtjcioljdlfdnbaaGreatDoor
