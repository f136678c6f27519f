/- The law ObsDeep, reckoned: part 24. -/
import Derived.Test.YtnphjnlehehpfaaGreatDoorPObsDeepa
namespace Go.Proofs.YtnphjnlehehpfaaGreatDoor.obsDeep
open Go Go.RowKit Ev
set_option maxRecDepth 1000000
theorem part24 : allN 4 (fun k => some1 2 (Nat.add 16 k)) = true := by decide +kernel
theorem part25 : allN 4 (fun k => some1 2 (Nat.add 20 k)) = true := by decide +kernel
theorem part26 : allN 4 (fun k => some1 2 (Nat.add 24 k)) = true := by decide +kernel
end Go.Proofs.YtnphjnlehehpfaaGreatDoor.obsDeep
