/- The law PtsCalls, reckoned: part 0. -/
import Derived.Test.YtgnedhojpmijkaaGreatDoorPPtsCallsa
namespace Go.Proofs.YtgnedhojpmijkaaGreatDoor.ptsCalls
open Go Go.RowKit Ev
set_option maxRecDepth 1000000
theorem part0 : allN 2 (fun k => some0 (Nat.add 0 k)) = true := by decide +kernel
end Go.Proofs.YtgnedhojpmijkaaGreatDoor.ptsCalls
