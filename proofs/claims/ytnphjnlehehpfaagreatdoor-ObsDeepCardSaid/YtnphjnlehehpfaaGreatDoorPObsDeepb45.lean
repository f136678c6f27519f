/- The law ObsDeep, reckoned: part 45. -/
import Derived.Test.YtnphjnlehehpfaaGreatDoorPObsDeepa
namespace Go.Proofs.YtnphjnlehehpfaaGreatDoor.obsDeep
open Go Go.RowKit Ev
set_option maxRecDepth 1000000
theorem part45 : allN 12 (fun k => some1 5 (Nat.add 0 k)) = true := by decide +kernel
theorem part46 : allN 12 (fun k => some1 5 (Nat.add 12 k)) = true := by decide +kernel
theorem part47 : allN 12 (fun k => some1 5 (Nat.add 24 k)) = true := by decide +kernel
end Go.Proofs.YtnphjnlehehpfaaGreatDoor.obsDeep
