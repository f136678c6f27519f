/- The law ObsDeep, reckoned: part 15. -/
import Derived.Test.YtnphjnlehehpfaaGreatDoorPObsDeepa
namespace Go.Proofs.YtnphjnlehehpfaaGreatDoor.obsDeep
open Go Go.RowKit Ev
set_option maxRecDepth 1000000
theorem part15 : allN 4 (fun k => some1 1 (Nat.add 20 k)) = true := by decide +kernel
theorem part16 : allN 4 (fun k => some1 1 (Nat.add 24 k)) = true := by decide +kernel
theorem part17 : allN 4 (fun k => some1 1 (Nat.add 28 k)) = true := by decide +kernel
end Go.Proofs.YtnphjnlehehpfaaGreatDoor.obsDeep
