/- The law ScopeShadows, reckoned: part 8. -/
import Derived.Test.YthagclejgedmfaaGreatDoorPScopeShadowsa
namespace Go.Proofs.YthagclejgedmfaaGreatDoor.scopeShadows
open Go Go.RowKit Ev
set_option maxRecDepth 1000000
theorem part8 : allN 1 (fun k => some0 (Nat.add 12 k)) = true := by decide +kernel
end Go.Proofs.YthagclejgedmfaaGreatDoor.scopeShadows
