/- The law InlCalls, reckoned: part 6. -/
import Derived.Test.YtgnedhojpmijkaaGreatDoorPInlCallsa
namespace Go.Proofs.YtgnedhojpmijkaaGreatDoor.inlCalls
open Go Go.RowKit Ev
set_option maxRecDepth 1000000
theorem part6 : allN 1 (fun k => some0 (Nat.add 11 k)) = true := by decide +kernel
end Go.Proofs.YtgnedhojpmijkaaGreatDoor.inlCalls
