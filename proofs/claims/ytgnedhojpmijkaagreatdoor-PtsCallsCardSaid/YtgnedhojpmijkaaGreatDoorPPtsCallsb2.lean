/- The law PtsCalls, reckoned: part 2. -/
import Derived.Test.YtgnedhojpmijkaaGreatDoorPPtsCallsa
namespace Go.Proofs.YtgnedhojpmijkaaGreatDoor.ptsCalls
open Go Go.RowKit Ev
set_option maxRecDepth 1000000
theorem part2 : allN 2 (fun k => some1 3 (Nat.add 0 k)) = true := by decide +kernel
end Go.Proofs.YtgnedhojpmijkaaGreatDoor.ptsCalls
