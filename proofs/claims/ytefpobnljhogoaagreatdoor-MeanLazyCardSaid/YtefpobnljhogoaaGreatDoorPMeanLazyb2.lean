/- The law MeanLazy, reckoned: part 2. -/
import Derived.Test.YtefpobnljhogoaaGreatDoorPMeanLazya
namespace Go.Proofs.YtefpobnljhogoaaGreatDoor.meanLazy
open Go Go.RowKit Ev
set_option maxRecDepth 1000000
theorem part2 : allN 1 (fun k => some0 (Nat.add 2 k)) = true := by decide +kernel
end Go.Proofs.YtefpobnljhogoaaGreatDoor.meanLazy
