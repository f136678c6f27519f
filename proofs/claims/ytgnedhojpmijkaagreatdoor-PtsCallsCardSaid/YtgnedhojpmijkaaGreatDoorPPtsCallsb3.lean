/- The law PtsCalls, reckoned: part 3. -/
import Derived.Test.YtgnedhojpmijkaaGreatDoorPPtsCallsa
namespace Go.Proofs.YtgnedhojpmijkaaGreatDoor.ptsCalls
open Go Go.RowKit Ev
set_option maxRecDepth 1000000
theorem part3 : allN 1 (fun k => some1 3 (Nat.add 2 k)) = true := by decide +kernel
end Go.Proofs.YtgnedhojpmijkaaGreatDoor.ptsCalls
