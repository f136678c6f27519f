/- The law MeanOrder, reckoned: part 0. -/
import Derived.Test.YtefpobnljhogoaaGreatDoorPMeanOrdera
namespace Go.Proofs.YtefpobnljhogoaaGreatDoor.meanOrder
open Go Go.RowKit Ev
set_option maxRecDepth 1000000
theorem part0 : allN 1 (fun k => some1 0 (Nat.add 0 k)) = true := by decide +kernel
end Go.Proofs.YtefpobnljhogoaaGreatDoor.meanOrder
