/- The law ScopeShadows, reckoned: part 1. -/
import Derived.Test.YthagclejgedmfaaGreatDoorPScopeShadowsa
namespace Go.Proofs.YthagclejgedmfaaGreatDoor.scopeShadows
open Go Go.RowKit Ev
set_option maxRecDepth 1000000
theorem part1 : allN 2 (fun k => some0 (Nat.add 3 k)) = true := by decide +kernel
end Go.Proofs.YthagclejgedmfaaGreatDoor.scopeShadows
