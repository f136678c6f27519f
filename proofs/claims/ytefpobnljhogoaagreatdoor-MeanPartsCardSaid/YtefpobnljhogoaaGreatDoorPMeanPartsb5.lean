/- The law MeanParts, reckoned: part 5. -/
import Derived.Test.YtefpobnljhogoaaGreatDoorPMeanPartsa
namespace Go.Proofs.YtefpobnljhogoaaGreatDoor.meanParts
open Go Go.RowKit Ev
set_option maxRecDepth 1000000
theorem part5 : allN 1 (fun k => some1 3 (Nat.add 0 k)) = true := by decide +kernel
end Go.Proofs.YtefpobnljhogoaaGreatDoor.meanParts
