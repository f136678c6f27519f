/- The law FoldChains, reckoned: part 0. -/
import Derived.Test.YtokiabfhdicfoaaGreatDoorPFoldChainsa
namespace Go.Proofs.YtokiabfhdicfoaaGreatDoor.foldChains
open Go Go.RowKit Ev
set_option maxRecDepth 1000000
theorem part0 : allN 1 (fun k => some0 (Nat.add 0 k)) = true := by decide +kernel
theorem part1 : allN 1 (fun k => some0 (Nat.add 1 k)) = true := by decide +kernel
theorem part2 : allN 1 (fun k => some0 (Nat.add 2 k)) = true := by decide +kernel
theorem part3 : allN 1 (fun k => some0 (Nat.add 3 k)) = true := by decide +kernel
end Go.Proofs.YtokiabfhdicfoaaGreatDoor.foldChains
