/- The law FoldChains, reckoned: part 24. -/
import Derived.Test.YtokiabfhdicfoaaGreatDoorPFoldChainsa
namespace Go.Proofs.YtokiabfhdicfoaaGreatDoor.foldChains
open Go Go.RowKit Ev
set_option maxRecDepth 1000000
theorem part24 : allN 1 (fun k => some1 16 (Nat.add 0 k)) = true := by decide +kernel
theorem part25 : allN 1 (fun k => some1 16 (Nat.add 1 k)) = true := by decide +kernel
theorem part26 : allN 1 (fun k => some1 17 (Nat.add 0 k)) = true := by decide +kernel
theorem part27 : allN 1 (fun k => some1 17 (Nat.add 1 k)) = true := by decide +kernel
end Go.Proofs.YtokiabfhdicfoaaGreatDoor.foldChains
