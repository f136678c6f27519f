/- The law ObsDeep, reckoned: part 6. -/
import Derived.Test.YtnphjnlehehpfaaGreatDoorPObsDeepa
namespace Go.Proofs.YtnphjnlehehpfaaGreatDoor.obsDeep
open Go Go.RowKit Ev
set_option maxRecDepth 1000000
theorem part6 : allN 4 (fun k => some1 0 (Nat.add 24 k)) = true := by decide +kernel
theorem part7 : allN 4 (fun k => some1 0 (Nat.add 28 k)) = true := by decide +kernel
theorem part8 : allN 4 (fun k => some1 0 (Nat.add 32 k)) = true := by decide +kernel
end Go.Proofs.YtnphjnlehehpfaaGreatDoor.obsDeep
