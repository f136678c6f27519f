/- The law ObsDeep, reckoned: part 18. -/
import Derived.Test.YtnphjnlehehpfaaGreatDoorPObsDeepa
namespace Go.Proofs.YtnphjnlehehpfaaGreatDoor.obsDeep
open Go Go.RowKit Ev
set_option maxRecDepth 1000000
theorem part18 : allN 4 (fun k => some1 1 (Nat.add 32 k)) = true := by decide +kernel
theorem part19 : allN 3 (fun k => some1 1 (Nat.add 36 k)) = true := by decide +kernel
theorem part20 : allN 4 (fun k => some1 2 (Nat.add 0 k)) = true := by decide +kernel
end Go.Proofs.YtnphjnlehehpfaaGreatDoor.obsDeep
