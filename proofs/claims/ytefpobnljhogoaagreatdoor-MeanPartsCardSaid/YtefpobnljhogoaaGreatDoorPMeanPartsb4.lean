/- The law MeanParts, reckoned: part 4. -/
import Derived.Test.YtefpobnljhogoaaGreatDoorPMeanPartsa
namespace Go.Proofs.YtefpobnljhogoaaGreatDoor.meanParts
open Go Go.RowKit Ev
set_option maxRecDepth 1000000
theorem part4 : allN 1 (fun k => some1 2 (Nat.add 2 k)) = true := by decide +kernel
end Go.Proofs.YtefpobnljhogoaaGreatDoor.meanParts
