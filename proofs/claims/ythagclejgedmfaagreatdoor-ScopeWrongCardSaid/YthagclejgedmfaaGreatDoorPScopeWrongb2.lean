/- The law ScopeWrong, reckoned: part 2. -/
import Derived.Test.YthagclejgedmfaaGreatDoorPScopeWronga
namespace Go.Proofs.YthagclejgedmfaaGreatDoor.scopeWrong
open Go Go.RowKit Ev
set_option maxRecDepth 1000000
theorem part2 : allN 1 (fun k => some0 (Nat.add 2 k)) = true := by decide +kernel
end Go.Proofs.YthagclejgedmfaaGreatDoor.scopeWrong
