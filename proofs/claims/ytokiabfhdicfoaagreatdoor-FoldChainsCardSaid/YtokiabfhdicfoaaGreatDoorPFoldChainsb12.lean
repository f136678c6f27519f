/- The law FoldChains, reckoned: part 12. -/
import Derived.Test.YtokiabfhdicfoaaGreatDoorPFoldChainsa
namespace Go.Proofs.YtokiabfhdicfoaaGreatDoor.foldChains
open Go Go.RowKit Ev
set_option maxRecDepth 1000000
theorem part12 : allN 1 (fun k => some1 10 (Nat.add 0 k)) = true := by decide +kernel
theorem part13 : allN 1 (fun k => some1 10 (Nat.add 1 k)) = true := by decide +kernel
theorem part14 : allN 1 (fun k => some1 11 (Nat.add 0 k)) = true := by decide +kernel
theorem part15 : allN 1 (fun k => some1 11 (Nat.add 1 k)) = true := by decide +kernel
end Go.Proofs.YtokiabfhdicfoaaGreatDoor.foldChains
