/- The law FoldChains, reckoned: part 28. -/
import Derived.Test.YtokiabfhdicfoaaGreatDoorPFoldChainsa
namespace Go.Proofs.YtokiabfhdicfoaaGreatDoor.foldChains
open Go Go.RowKit Ev
set_option maxRecDepth 1000000
theorem part28 : allN 1 (fun k => some1 18 (Nat.add 0 k)) = true := by decide +kernel
theorem part29 : allN 1 (fun k => some1 18 (Nat.add 1 k)) = true := by decide +kernel
theorem part30 : allN 1 (fun k => some1 19 (Nat.add 0 k)) = true := by decide +kernel
theorem part31 : allN 1 (fun k => some1 19 (Nat.add 1 k)) = true := by decide +kernel
end Go.Proofs.YtokiabfhdicfoaaGreatDoor.foldChains
