/- The law FoldChains, reckoned: part 4. -/
import Derived.Test.YtokiabfhdicfoaaGreatDoorPFoldChainsa
namespace Go.Proofs.YtokiabfhdicfoaaGreatDoor.foldChains
open Go Go.RowKit Ev
set_option maxRecDepth 1000000
theorem part4 : allN 1 (fun k => some0 (Nat.add 4 k)) = true := by decide +kernel
theorem part5 : allN 1 (fun k => some0 (Nat.add 5 k)) = true := by decide +kernel
theorem part6 : allN 1 (fun k => some0 (Nat.add 6 k)) = true := by decide +kernel
theorem part7 : allN 1 (fun k => some0 (Nat.add 7 k)) = true := by decide +kernel
end Go.Proofs.YtokiabfhdicfoaaGreatDoor.foldChains
