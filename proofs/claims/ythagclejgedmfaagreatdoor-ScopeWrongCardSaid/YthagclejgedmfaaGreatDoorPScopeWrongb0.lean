/- The law ScopeWrong, reckoned: part 0. -/
import Derived.Test.YthagclejgedmfaaGreatDoorPScopeWronga
namespace Go.Proofs.YthagclejgedmfaaGreatDoor.scopeWrong
open Go Go.RowKit Ev
set_option maxRecDepth 1000000
theorem part0 : allN 1 (fun k => some0 (Nat.add 0 k)) = true := by decide +kernel
end Go.Proofs.YthagclejgedmfaaGreatDoor.scopeWrong
