/- The law ObsDeep, reckoned: part 27. -/
import Derived.Test.YtnphjnlehehpfaaGreatDoorPObsDeepa
namespace Go.Proofs.YtnphjnlehehpfaaGreatDoor.obsDeep
open Go Go.RowKit Ev
set_option maxRecDepth 1000000
theorem part27 : allN 4 (fun k => some1 2 (Nat.add 28 k)) = true := by decide +kernel
theorem part28 : allN 4 (fun k => some1 2 (Nat.add 32 k)) = true := by decide +kernel
theorem part29 : allN 4 (fun k => some1 2 (Nat.add 36 k)) = true := by decide +kernel
end Go.Proofs.YtnphjnlehehpfaaGreatDoor.obsDeep
