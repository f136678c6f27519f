/- The law ObsDeep, reckoned: part 21. -/
import Derived.Test.YtnphjnlehehpfaaGreatDoorPObsDeepa
namespace Go.Proofs.YtnphjnlehehpfaaGreatDoor.obsDeep
open Go Go.RowKit Ev
set_option maxRecDepth 1000000
theorem part21 : allN 4 (fun k => some1 2 (Nat.add 4 k)) = true := by decide +kernel
theorem part22 : allN 4 (fun k => some1 2 (Nat.add 8 k)) = true := by decide +kernel
theorem part23 : allN 4 (fun k => some1 2 (Nat.add 12 k)) = true := by decide +kernel
end Go.Proofs.YtnphjnlehehpfaaGreatDoor.obsDeep
