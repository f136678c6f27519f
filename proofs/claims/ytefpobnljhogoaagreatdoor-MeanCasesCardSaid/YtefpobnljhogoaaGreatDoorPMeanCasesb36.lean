/- The law MeanCases, reckoned: part 36. -/
import Derived.Test.YtefpobnljhogoaaGreatDoorPMeanCasesa
namespace Go.Proofs.YtefpobnljhogoaaGreatDoor.meanCases
open Go Go.RowKit Ev
set_option maxRecDepth 1000000
theorem part36 : allN 1 (fun k => some1 4 (Nat.add 4 k)) = true := by decide +kernel
theorem part37 : allN 1 (fun k => some1 4 (Nat.add 5 k)) = true := by decide +kernel
theorem part38 : allN 1 (fun k => some1 4 (Nat.add 6 k)) = true := by decide +kernel
theorem part39 : allN 1 (fun k => some1 4 (Nat.add 7 k)) = true := by decide +kernel
end Go.Proofs.YtefpobnljhogoaaGreatDoor.meanCases
