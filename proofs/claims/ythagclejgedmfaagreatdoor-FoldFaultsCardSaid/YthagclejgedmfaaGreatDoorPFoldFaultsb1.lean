/- The law FoldFaults, reckoned: part 1. -/
import Derived.Test.YthagclejgedmfaaGreatDoorPFoldFaultsa
namespace Go.Proofs.YthagclejgedmfaaGreatDoor.foldFaults
open Go Go.RowKit Ev
set_option maxRecDepth 1000000
theorem part1 : allN 2 (fun k => some0 (Nat.add 2 k)) = true := by decide +kernel
end Go.Proofs.YthagclejgedmfaaGreatDoor.foldFaults
