/- The law MeanCases, reckoned: part 32. -/
import Derived.Test.YtefpobnljhogoaaGreatDoorPMeanCasesa
namespace Go.Proofs.YtefpobnljhogoaaGreatDoor.meanCases
open Go Go.RowKit Ev
set_option maxRecDepth 1000000
theorem part32 : allN 1 (fun k => some1 4 (Nat.add 0 k)) = true := by decide +kernel
theorem part33 : allN 1 (fun k => some1 4 (Nat.add 1 k)) = true := by decide +kernel
theorem part34 : allN 1 (fun k => some1 4 (Nat.add 2 k)) = true := by decide +kernel
theorem part35 : allN 1 (fun k => some1 4 (Nat.add 3 k)) = true := by decide +kernel
end Go.Proofs.YtefpobnljhogoaaGreatDoor.meanCases
