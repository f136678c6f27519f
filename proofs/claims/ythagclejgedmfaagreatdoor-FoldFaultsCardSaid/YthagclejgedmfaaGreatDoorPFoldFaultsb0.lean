/- The law FoldFaults, reckoned: part 0. -/
import Derived.Test.YthagclejgedmfaaGreatDoorPFoldFaultsa
namespace Go.Proofs.YthagclejgedmfaaGreatDoor.foldFaults
open Go Go.RowKit Ev
set_option maxRecDepth 1000000
theorem part0 : allN 2 (fun k => some0 (Nat.add 0 k)) = true := by decide +kernel
end Go.Proofs.YthagclejgedmfaaGreatDoor.foldFaults
