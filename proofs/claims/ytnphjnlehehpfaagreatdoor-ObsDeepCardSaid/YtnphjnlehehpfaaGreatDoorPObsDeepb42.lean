/- The law ObsDeep, reckoned: part 42. -/
import Derived.Test.YtnphjnlehehpfaaGreatDoorPObsDeepa
namespace Go.Proofs.YtnphjnlehehpfaaGreatDoor.obsDeep
open Go Go.RowKit Ev
set_option maxRecDepth 1000000
theorem part42 : allN 12 (fun k => some1 4 (Nat.add 12 k)) = true := by decide +kernel
theorem part43 : allN 12 (fun k => some1 4 (Nat.add 24 k)) = true := by decide +kernel
theorem part44 : allN 6 (fun k => some1 4 (Nat.add 36 k)) = true := by decide +kernel
end Go.Proofs.YtnphjnlehehpfaaGreatDoor.obsDeep
