/- The law InlCalls, reckoned: part 4. -/
import Derived.Test.YtgnedhojpmijkaaGreatDoorPInlCallsa
namespace Go.Proofs.YtgnedhojpmijkaaGreatDoor.inlCalls
open Go Go.RowKit Ev
set_option maxRecDepth 1000000
theorem part4 : allN 1 (fun k => some0 (Nat.add 9 k)) = true := by decide +kernel
end Go.Proofs.YtgnedhojpmijkaaGreatDoor.inlCalls
