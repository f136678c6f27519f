/- The law ScopeShadows, reckoned: part 22. -/
import Derived.Test.YthagclejgedmfaaGreatDoorPScopeShadowsa
namespace Go.Proofs.YthagclejgedmfaaGreatDoor.scopeShadows
open Go Go.RowKit Ev
set_option maxRecDepth 1000000
theorem part22 : allN 1 (fun k => some1 15 (Nat.add 1 k)) = true := by decide +kernel
end Go.Proofs.YthagclejgedmfaaGreatDoor.scopeShadows
