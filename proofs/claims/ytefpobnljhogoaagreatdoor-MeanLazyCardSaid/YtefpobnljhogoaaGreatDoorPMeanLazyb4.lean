/- The law MeanLazy, reckoned: part 4. -/
import Derived.Test.YtefpobnljhogoaaGreatDoorPMeanLazya
namespace Go.Proofs.YtefpobnljhogoaaGreatDoor.meanLazy
open Go Go.RowKit Ev
set_option maxRecDepth 1000000
theorem part4 : allN 1 (fun k => some0 (Nat.add 4 k)) = true := by decide +kernel
end Go.Proofs.YtefpobnljhogoaaGreatDoor.meanLazy
