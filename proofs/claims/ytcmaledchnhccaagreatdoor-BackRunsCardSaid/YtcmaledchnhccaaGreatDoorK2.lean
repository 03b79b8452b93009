/- BackRuns, called in whatever world, returns true and turns nothing that was there. No condition. -/
import Derived.Test.YtcmaledchnhccaaGreatDoorK1
namespace Go.Proofs.YtcmaledchnhccaaGreatDoor
open Go Go.RowKit
/-- BackRuns, called in whatever world. -/
theorem backRuns_any (w : World) : Enters Tryz.prog 3 ∧ Calls Tryz.prog 3 #[] w fun e w' => e = .returned (.bool true) ∧ Fr w [] w' :=
  closed_runk mixed names extW_ok (by kernel_rfl) backRuns_run w
end Go.Proofs.YtcmaledchnhccaaGreatDoor
