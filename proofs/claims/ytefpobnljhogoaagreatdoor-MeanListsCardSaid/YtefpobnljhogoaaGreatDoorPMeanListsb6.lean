/- The law MeanLists, reckoned: part 6. -/
import Derived.Test.YtefpobnljhogoaaGreatDoorPMeanListsa
namespace Go.Proofs.YtefpobnljhogoaaGreatDoor.meanLists
open Go Go.RowKit Ev
set_option maxRecDepth 1000000
theorem part6 : allN 1 (fun k => some0 (Nat.add 10 k)) = true := by decide +kernel
end Go.Proofs.YtefpobnljhogoaaGreatDoor.meanLists
