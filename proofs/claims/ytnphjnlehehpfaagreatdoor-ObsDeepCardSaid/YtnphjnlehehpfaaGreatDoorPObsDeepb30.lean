/- The law ObsDeep, reckoned: part 30. -/
import Derived.Test.YtnphjnlehehpfaaGreatDoorPObsDeepa
namespace Go.Proofs.YtnphjnlehehpfaaGreatDoor.obsDeep
open Go Go.RowKit Ev
set_option maxRecDepth 1000000
theorem part30 : allN 4 (fun k => some1 3 (Nat.add 0 k)) = true := by decide +kernel
theorem part31 : allN 4 (fun k => some1 3 (Nat.add 4 k)) = true := by decide +kernel
theorem part32 : allN 4 (fun k => some1 3 (Nat.add 8 k)) = true := by decide +kernel
end Go.Proofs.YtnphjnlehehpfaaGreatDoor.obsDeep
