/- The law ObsDeep, reckoned: part 39. -/
import Derived.Test.YtnphjnlehehpfaaGreatDoorPObsDeepa
namespace Go.Proofs.YtnphjnlehehpfaaGreatDoor.obsDeep
open Go Go.RowKit Ev
set_option maxRecDepth 1000000
theorem part39 : allN 4 (fun k => some1 3 (Nat.add 36 k)) = true := by decide +kernel
theorem part40 : allN 1 (fun k => some1 3 (Nat.add 40 k)) = true := by decide +kernel
theorem part41 : allN 12 (fun k => some1 4 (Nat.add 0 k)) = true := by decide +kernel
end Go.Proofs.YtnphjnlehehpfaaGreatDoor.obsDeep
