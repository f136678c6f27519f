/- The law ObsDeep, reckoned: part 9. -/
import Derived.Test.YtnphjnlehehpfaaGreatDoorPObsDeepa
namespace Go.Proofs.YtnphjnlehehpfaaGreatDoor.obsDeep
open Go Go.RowKit Ev
set_option maxRecDepth 1000000
theorem part9 : allN 2 (fun k => some1 0 (Nat.add 36 k)) = true := by decide +kernel
theorem part10 : allN 4 (fun k => some1 1 (Nat.add 0 k)) = true := by decide +kernel
theorem part11 : allN 4 (fun k => some1 1 (Nat.add 4 k)) = true := by decide +kernel
end Go.Proofs.YtnphjnlehehpfaaGreatDoor.obsDeep
