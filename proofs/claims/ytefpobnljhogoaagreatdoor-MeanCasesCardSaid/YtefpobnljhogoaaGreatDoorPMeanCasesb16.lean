/- The law MeanCases, reckoned: part 16. -/
import Derived.Test.YtefpobnljhogoaaGreatDoorPMeanCasesa
namespace Go.Proofs.YtefpobnljhogoaaGreatDoor.meanCases
open Go Go.RowKit Ev
set_option maxRecDepth 1000000
theorem part16 : allN 1 (fun k => some1 2 (Nat.add 0 k)) = true := by decide +kernel
theorem part17 : allN 1 (fun k => some1 2 (Nat.add 1 k)) = true := by decide +kernel
theorem part18 : allN 1 (fun k => some1 2 (Nat.add 2 k)) = true := by decide +kernel
theorem part19 : allN 1 (fun k => some1 2 (Nat.add 3 k)) = true := by decide +kernel
end Go.Proofs.YtefpobnljhogoaaGreatDoor.meanCases
