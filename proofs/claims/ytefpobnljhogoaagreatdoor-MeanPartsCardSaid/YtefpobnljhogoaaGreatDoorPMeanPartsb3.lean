/- The law MeanParts, reckoned: part 3. -/
import Derived.Test.YtefpobnljhogoaaGreatDoorPMeanPartsa
namespace Go.Proofs.YtefpobnljhogoaaGreatDoor.meanParts
open Go Go.RowKit Ev
set_option maxRecDepth 1000000
theorem part3 : allN 1 (fun k => some1 2 (Nat.add 1 k)) = true := by decide +kernel
end Go.Proofs.YtefpobnljhogoaaGreatDoor.meanParts
