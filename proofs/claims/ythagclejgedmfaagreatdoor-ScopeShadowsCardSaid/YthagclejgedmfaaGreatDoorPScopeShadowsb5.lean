/- The law ScopeShadows, reckoned: part 5. -/
import Derived.Test.YthagclejgedmfaaGreatDoorPScopeShadowsa
namespace Go.Proofs.YthagclejgedmfaaGreatDoor.scopeShadows
open Go Go.RowKit Ev
set_option maxRecDepth 1000000
theorem part5 : allN 1 (fun k => some0 (Nat.add 9 k)) = true := by decide +kernel
end Go.Proofs.YthagclejgedmfaaGreatDoor.scopeShadows
