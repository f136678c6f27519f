/- The law MeanLazy, reckoned: part 6. -/
import Derived.Test.YtefpobnljhogoaaGreatDoorPMeanLazya
namespace Go.Proofs.YtefpobnljhogoaaGreatDoor.meanLazy
open Go Go.RowKit Ev
set_option maxRecDepth 1000000
theorem part6 : allN 1 (fun k => some0 (Nat.add 6 k)) = true := by decide +kernel
end Go.Proofs.YtefpobnljhogoaaGreatDoor.meanLazy
