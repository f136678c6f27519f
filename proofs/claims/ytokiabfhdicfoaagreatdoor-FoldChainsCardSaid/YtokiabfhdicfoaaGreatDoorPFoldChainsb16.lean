/- The law FoldChains, reckoned: part 16. -/
import Derived.Test.YtokiabfhdicfoaaGreatDoorPFoldChainsa
namespace Go.Proofs.YtokiabfhdicfoaaGreatDoor.foldChains
open Go Go.RowKit Ev
set_option maxRecDepth 1000000
theorem part16 : allN 1 (fun k => some1 12 (Nat.add 0 k)) = true := by decide +kernel
theorem part17 : allN 1 (fun k => some1 12 (Nat.add 1 k)) = true := by decide +kernel
theorem part18 : allN 1 (fun k => some1 13 (Nat.add 0 k)) = true := by decide +kernel
theorem part19 : allN 1 (fun k => some1 13 (Nat.add 1 k)) = true := by decide +kernel
end Go.Proofs.YtokiabfhdicfoaaGreatDoor.foldChains
