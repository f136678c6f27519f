/- The law MeanOrder, reckoned: part 7. -/
import Derived.Test.YtefpobnljhogoaaGreatDoorPMeanOrdera
namespace Go.Proofs.YtefpobnljhogoaaGreatDoor.meanOrder
open Go Go.RowKit Ev
set_option maxRecDepth 1000000
theorem part7 : allN 1 (fun k => some1 2 (Nat.add 1 k)) = true := by decide +kernel
end Go.Proofs.YtefpobnljhogoaaGreatDoor.meanOrder
