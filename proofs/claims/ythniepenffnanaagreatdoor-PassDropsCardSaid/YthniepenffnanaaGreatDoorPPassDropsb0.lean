/- The law PassDrops, reckoned: part 0. -/
import Derived.Test.YthniepenffnanaaGreatDoorPPassDropsa
namespace Go.Proofs.YthniepenffnanaaGreatDoor.passDrops
open Go Go.RowKit Ev
set_option maxRecDepth 1000000
theorem part0 : allN 3 (fun k => some0 (Nat.add 0 k)) = true := by decide +kernel
theorem part1 : allN 2 (fun k => some0 (Nat.add 3 k)) = true := by decide +kernel
end Go.Proofs.YthniepenffnanaaGreatDoor.passDrops
