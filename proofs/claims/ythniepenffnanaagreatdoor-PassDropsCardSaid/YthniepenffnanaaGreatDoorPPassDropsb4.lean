/- The law PassDrops, reckoned: part 4. -/
import Derived.Test.YthniepenffnanaaGreatDoorPPassDropsa
namespace Go.Proofs.YthniepenffnanaaGreatDoor.passDrops
open Go Go.RowKit Ev
set_option maxRecDepth 1000000
theorem part4 : allN 1 (fun k => some0 (Nat.add 7 k)) = true := by decide +kernel
end Go.Proofs.YthniepenffnanaaGreatDoor.passDrops
