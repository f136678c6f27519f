/- The law InlCalls, reckoned: part 3. -/
import Derived.Test.YtgnedhojpmijkaaGreatDoorPInlCallsa
namespace Go.Proofs.YtgnedhojpmijkaaGreatDoor.inlCalls
open Go Go.RowKit Ev
set_option maxRecDepth 1000000
theorem part3 : allN 2 (fun k => some0 (Nat.add 7 k)) = true := by decide +kernel
end Go.Proofs.YtgnedhojpmijkaaGreatDoor.inlCalls
