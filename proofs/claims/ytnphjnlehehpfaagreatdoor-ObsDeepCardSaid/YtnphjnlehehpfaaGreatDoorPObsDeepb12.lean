/- The law ObsDeep, reckoned: part 12. -/
import Derived.Test.YtnphjnlehehpfaaGreatDoorPObsDeepa
namespace Go.Proofs.YtnphjnlehehpfaaGreatDoor.obsDeep
open Go Go.RowKit Ev
set_option maxRecDepth 1000000
theorem part12 : allN 4 (fun k => some1 1 (Nat.add 8 k)) = true := by decide +kernel
theorem part13 : allN 4 (fun k => some1 1 (Nat.add 12 k)) = true := by decide +kernel
theorem part14 : allN 4 (fun k => some1 1 (Nat.add 16 k)) = true := by decide +kernel
end Go.Proofs.YtnphjnlehehpfaaGreatDoor.obsDeep
