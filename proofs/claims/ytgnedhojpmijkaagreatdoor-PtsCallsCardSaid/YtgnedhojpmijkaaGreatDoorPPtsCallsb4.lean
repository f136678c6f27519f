/- The law PtsCalls, reckoned: part 4. -/
import Derived.Test.YtgnedhojpmijkaaGreatDoorPPtsCallsa
namespace Go.Proofs.YtgnedhojpmijkaaGreatDoor.ptsCalls
open Go Go.RowKit Ev
set_option maxRecDepth 1000000
theorem part4 : allN 1 (fun k => some1 4 (Nat.add 0 k)) = true := by decide +kernel
end Go.Proofs.YtgnedhojpmijkaaGreatDoor.ptsCalls
