/- The law ObsDeep, reckoned: part 0. -/
import Derived.Test.YtnphjnlehehpfaaGreatDoorPObsDeepa
namespace Go.Proofs.YtnphjnlehehpfaaGreatDoor.obsDeep
open Go Go.RowKit Ev
set_option maxRecDepth 1000000
theorem part0 : allN 4 (fun k => some1 0 (Nat.add 0 k)) = true := by decide +kernel
theorem part1 : allN 4 (fun k => some1 0 (Nat.add 4 k)) = true := by decide +kernel
theorem part2 : allN 4 (fun k => some1 0 (Nat.add 8 k)) = true := by decide +kernel
end Go.Proofs.YtnphjnlehehpfaaGreatDoor.obsDeep
