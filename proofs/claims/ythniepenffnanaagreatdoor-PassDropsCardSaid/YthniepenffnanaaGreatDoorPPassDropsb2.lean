/- The law PassDrops, reckoned: part 2. -/
import Derived.Test.YthniepenffnanaaGreatDoorPPassDropsa
namespace Go.Proofs.YthniepenffnanaaGreatDoor.passDrops
open Go Go.RowKit Ev
set_option maxRecDepth 1000000
theorem part2 : allN 1 (fun k => some0 (Nat.add 5 k)) = true := by decide +kernel
theorem part3 : allN 1 (fun k => some0 (Nat.add 6 k)) = true := by decide +kernel
end Go.Proofs.YthniepenffnanaaGreatDoor.passDrops
