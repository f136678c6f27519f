/- The law FoldChains, reckoned: part 8. -/
import Derived.Test.YtokiabfhdicfoaaGreatDoorPFoldChainsa
namespace Go.Proofs.YtokiabfhdicfoaaGreatDoor.foldChains
open Go Go.RowKit Ev
set_option maxRecDepth 1000000
theorem part8 : allN 1 (fun k => some1 8 (Nat.add 0 k)) = true := by decide +kernel
theorem part9 : allN 1 (fun k => some1 8 (Nat.add 1 k)) = true := by decide +kernel
theorem part10 : allN 1 (fun k => some1 9 (Nat.add 0 k)) = true := by decide +kernel
theorem part11 : allN 1 (fun k => some1 9 (Nat.add 1 k)) = true := by decide +kernel
end Go.Proofs.YtokiabfhdicfoaaGreatDoor.foldChains
