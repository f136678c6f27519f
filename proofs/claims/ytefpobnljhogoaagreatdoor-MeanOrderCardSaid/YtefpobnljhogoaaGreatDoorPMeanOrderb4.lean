/- The law MeanOrder, reckoned: part 4. -/
import Derived.Test.YtefpobnljhogoaaGreatDoorPMeanOrdera
namespace Go.Proofs.YtefpobnljhogoaaGreatDoor.meanOrder
open Go Go.RowKit Ev
set_option maxRecDepth 1000000
theorem part4 : allN 1 (fun k => some1 1 (Nat.add 1 k)) = true := by decide +kernel
end Go.Proofs.YtefpobnljhogoaaGreatDoor.meanOrder
