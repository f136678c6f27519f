/- The law MeanCases, reckoned: part 24. -/
import Derived.Test.YtefpobnljhogoaaGreatDoorPMeanCasesa
namespace Go.Proofs.YtefpobnljhogoaaGreatDoor.meanCases
open Go Go.RowKit Ev
set_option maxRecDepth 1000000
theorem part24 : allN 1 (fun k => some1 3 (Nat.add 0 k)) = true := by decide +kernel
theorem part25 : allN 1 (fun k => some1 3 (Nat.add 1 k)) = true := by decide +kernel
theorem part26 : allN 1 (fun k => some1 3 (Nat.add 2 k)) = true := by decide +kernel
theorem part27 : allN 1 (fun k => some1 3 (Nat.add 3 k)) = true := by decide +kernel
end Go.Proofs.YtefpobnljhogoaaGreatDoor.meanCases
