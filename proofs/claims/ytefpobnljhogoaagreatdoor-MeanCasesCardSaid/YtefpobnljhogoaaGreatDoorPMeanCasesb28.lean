/- The law MeanCases, reckoned: part 28. -/
import Derived.Test.YtefpobnljhogoaaGreatDoorPMeanCasesa
namespace Go.Proofs.YtefpobnljhogoaaGreatDoor.meanCases
open Go Go.RowKit Ev
set_option maxRecDepth 1000000
theorem part28 : allN 1 (fun k => some1 3 (Nat.add 4 k)) = true := by decide +kernel
theorem part29 : allN 1 (fun k => some1 3 (Nat.add 5 k)) = true := by decide +kernel
theorem part30 : allN 1 (fun k => some1 3 (Nat.add 6 k)) = true := by decide +kernel
theorem part31 : allN 1 (fun k => some1 3 (Nat.add 7 k)) = true := by decide +kernel
end Go.Proofs.YtefpobnljhogoaaGreatDoor.meanCases
