/- The law ObsDeep, reckoned: part 33. -/
import Derived.Test.YtnphjnlehehpfaaGreatDoorPObsDeepa
namespace Go.Proofs.YtnphjnlehehpfaaGreatDoor.obsDeep
open Go Go.RowKit Ev
set_option maxRecDepth 1000000
theorem part33 : allN 4 (fun k => some1 3 (Nat.add 12 k)) = true := by decide +kernel
theorem part34 : allN 4 (fun k => some1 3 (Nat.add 16 k)) = true := by decide +kernel
theorem part35 : allN 4 (fun k => some1 3 (Nat.add 20 k)) = true := by decide +kernel
end Go.Proofs.YtnphjnlehehpfaaGreatDoor.obsDeep
