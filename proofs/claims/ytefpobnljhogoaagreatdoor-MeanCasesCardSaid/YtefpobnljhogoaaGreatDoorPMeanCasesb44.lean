/- The law MeanCases, reckoned: part 44. -/
import Derived.Test.YtefpobnljhogoaaGreatDoorPMeanCasesa
namespace Go.Proofs.YtefpobnljhogoaaGreatDoor.meanCases
open Go Go.RowKit Ev
set_option maxRecDepth 1000000
theorem part44 : allN 1 (fun k => some1 5 (Nat.add 4 k)) = true := by decide +kernel
theorem part45 : allN 1 (fun k => some1 5 (Nat.add 5 k)) = true := by decide +kernel
theorem part46 : allN 1 (fun k => some1 5 (Nat.add 6 k)) = true := by decide +kernel
theorem part47 : allN 1 (fun k => some1 5 (Nat.add 7 k)) = true := by decide +kernel
end Go.Proofs.YtefpobnljhogoaaGreatDoor.meanCases
