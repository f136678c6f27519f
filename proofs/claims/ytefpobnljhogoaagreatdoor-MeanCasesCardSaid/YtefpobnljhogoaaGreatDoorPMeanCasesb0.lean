/- The law MeanCases, reckoned: part 0. -/
import Derived.Test.YtefpobnljhogoaaGreatDoorPMeanCasesa
namespace Go.Proofs.YtefpobnljhogoaaGreatDoor.meanCases
open Go Go.RowKit Ev
set_option maxRecDepth 1000000
theorem part0 : allN 1 (fun k => some1 0 (Nat.add 0 k)) = true := by decide +kernel
theorem part1 : allN 1 (fun k => some1 0 (Nat.add 1 k)) = true := by decide +kernel
theorem part2 : allN 1 (fun k => some1 0 (Nat.add 2 k)) = true := by decide +kernel
theorem part3 : allN 1 (fun k => some1 0 (Nat.add 3 k)) = true := by decide +kernel
end Go.Proofs.YtefpobnljhogoaaGreatDoor.meanCases
