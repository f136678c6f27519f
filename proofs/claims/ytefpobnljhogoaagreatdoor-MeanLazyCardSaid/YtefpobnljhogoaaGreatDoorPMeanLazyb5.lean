/- The law MeanLazy, reckoned: part 5. -/
import Derived.Test.YtefpobnljhogoaaGreatDoorPMeanLazya
namespace Go.Proofs.YtefpobnljhogoaaGreatDoor.meanLazy
open Go Go.RowKit Ev
set_option maxRecDepth 1000000
theorem part5 : allN 1 (fun k => some0 (Nat.add 5 k)) = true := by decide +kernel
end Go.Proofs.YtefpobnljhogoaaGreatDoor.meanLazy
