/- The law MeanCases, reckoned: part 40. -/
import Derived.Test.YtefpobnljhogoaaGreatDoorPMeanCasesa
namespace Go.Proofs.YtefpobnljhogoaaGreatDoor.meanCases
open Go Go.RowKit Ev
set_option maxRecDepth 1000000
theorem part40 : allN 1 (fun k => some1 5 (Nat.add 0 k)) = true := by decide +kernel
theorem part41 : allN 1 (fun k => some1 5 (Nat.add 1 k)) = true := by decide +kernel
theorem part42 : allN 1 (fun k => some1 5 (Nat.add 2 k)) = true := by decide +kernel
theorem part43 : allN 1 (fun k => some1 5 (Nat.add 3 k)) = true := by decide +kernel
end Go.Proofs.YtefpobnljhogoaaGreatDoor.meanCases
