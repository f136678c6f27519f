/- The law MeanParts, reckoned: part 10. -/
import Derived.Test.YtefpobnljhogoaaGreatDoorPMeanPartsa
namespace Go.Proofs.YtefpobnljhogoaaGreatDoor.meanParts
open Go Go.RowKit Ev
set_option maxRecDepth 1000000
theorem part10 : allN 1 (fun k => some1 4 (Nat.add 1 k)) = true := by decide +kernel
end Go.Proofs.YtefpobnljhogoaaGreatDoor.meanParts
