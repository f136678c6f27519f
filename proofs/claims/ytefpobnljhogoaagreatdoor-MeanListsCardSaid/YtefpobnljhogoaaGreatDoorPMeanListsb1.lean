/- The law MeanLists, reckoned: part 1. -/
import Derived.Test.YtefpobnljhogoaaGreatDoorPMeanListsa
namespace Go.Proofs.YtefpobnljhogoaaGreatDoor.meanLists
open Go Go.RowKit Ev
set_option maxRecDepth 1000000
theorem part1 : allN 2 (fun k => some0 (Nat.add 3 k)) = true := by decide +kernel
end Go.Proofs.YtefpobnljhogoaaGreatDoor.meanLists
