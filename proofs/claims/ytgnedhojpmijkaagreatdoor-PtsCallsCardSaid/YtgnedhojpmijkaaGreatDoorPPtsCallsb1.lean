/- The law PtsCalls, reckoned: part 1. -/
import Derived.Test.YtgnedhojpmijkaaGreatDoorPPtsCallsa
namespace Go.Proofs.YtgnedhojpmijkaaGreatDoor.ptsCalls
open Go Go.RowKit Ev
set_option maxRecDepth 1000000
theorem part1 : allN 1 (fun k => some0 (Nat.add 2 k)) = true := by decide +kernel
end Go.Proofs.YtgnedhojpmijkaaGreatDoor.ptsCalls
