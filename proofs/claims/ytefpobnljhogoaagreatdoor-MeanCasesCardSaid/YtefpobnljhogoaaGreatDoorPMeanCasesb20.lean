/- The law MeanCases, reckoned: part 20. -/
import Derived.Test.YtefpobnljhogoaaGreatDoorPMeanCasesa
namespace Go.Proofs.YtefpobnljhogoaaGreatDoor.meanCases
open Go Go.RowKit Ev
set_option maxRecDepth 1000000
theorem part20 : allN 1 (fun k => some1 2 (Nat.add 4 k)) = true := by decide +kernel
theorem part21 : allN 1 (fun k => some1 2 (Nat.add 5 k)) = true := by decide +kernel
theorem part22 : allN 1 (fun k => some1 2 (Nat.add 6 k)) = true := by decide +kernel
theorem part23 : allN 1 (fun k => some1 2 (Nat.add 7 k)) = true := by decide +kernel
end Go.Proofs.YtefpobnljhogoaaGreatDoor.meanCases
