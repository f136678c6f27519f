/- The law ScopeShadows, reckoned: part 18. -/
import Derived.Test.YthagclejgedmfaaGreatDoorPScopeShadowsa
namespace Go.Proofs.YthagclejgedmfaaGreatDoor.scopeShadows
open Go Go.RowKit Ev
set_option maxRecDepth 1000000
theorem part18 : allN 1 (fun k => some1 14 (Nat.add 0 k)) = true := by decide +kernel
end Go.Proofs.YthagclejgedmfaaGreatDoor.scopeShadows
