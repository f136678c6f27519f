/- The law MeanOrder, reckoned: part 1. -/
import Derived.Test.YtefpobnljhogoaaGreatDoorPMeanOrdera
namespace Go.Proofs.YtefpobnljhogoaaGreatDoor.meanOrder
open Go Go.RowKit Ev
set_option maxRecDepth 1000000
theorem part1 : allN 1 (fun k => some1 0 (Nat.add 1 k)) = true := by decide +kernel
end Go.Proofs.YtefpobnljhogoaaGreatDoor.meanOrder
