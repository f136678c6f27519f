/- The law InlCalls, reckoned: part 2. -/
import Derived.Test.YtgnedhojpmijkaaGreatDoorPInlCallsa
namespace Go.Proofs.YtgnedhojpmijkaaGreatDoor.inlCalls
open Go Go.RowKit Ev
set_option maxRecDepth 1000000
theorem part2 : allN 2 (fun k => some0 (Nat.add 5 k)) = true := by decide +kernel
end Go.Proofs.YtgnedhojpmijkaaGreatDoor.inlCalls
