/- The law FoldChains, reckoned: part 20. -/
import Derived.Test.YtokiabfhdicfoaaGreatDoorPFoldChainsa
namespace Go.Proofs.YtokiabfhdicfoaaGreatDoor.foldChains
open Go Go.RowKit Ev
set_option maxRecDepth 1000000
theorem part20 : allN 1 (fun k => some1 14 (Nat.add 0 k)) = true := by decide +kernel
theorem part21 : allN 1 (fun k => some1 14 (Nat.add 1 k)) = true := by decide +kernel
theorem part22 : allN 1 (fun k => some1 15 (Nat.add 0 k)) = true := by decide +kernel
theorem part23 : allN 1 (fun k => some1 15 (Nat.add 1 k)) = true := by decide +kernel
end Go.Proofs.YtokiabfhdicfoaaGreatDoor.foldChains
