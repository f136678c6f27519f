/- The law MeanCases, reckoned: part 12. -/
import Derived.Test.YtefpobnljhogoaaGreatDoorPMeanCasesa
namespace Go.Proofs.YtefpobnljhogoaaGreatDoor.meanCases
open Go Go.RowKit Ev
set_option maxRecDepth 1000000
theorem part12 : allN 1 (fun k => some1 1 (Nat.add 4 k)) = true := by decide +kernel
theorem part13 : allN 1 (fun k => some1 1 (Nat.add 5 k)) = true := by decide +kernel
theorem part14 : allN 1 (fun k => some1 1 (Nat.add 6 k)) = true := by decide +kernel
theorem part15 : allN 1 (fun k => some1 1 (Nat.add 7 k)) = true := by decide +kernel
end Go.Proofs.YtefpobnljhogoaaGreatDoor.meanCases
