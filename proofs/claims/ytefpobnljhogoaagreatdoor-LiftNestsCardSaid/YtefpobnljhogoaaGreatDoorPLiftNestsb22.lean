/- The law LiftNests, reckoned: part 22. -/
import Derived.Test.YtefpobnljhogoaaGreatDoorPLiftNestsa
namespace Go.Proofs.YtefpobnljhogoaaGreatDoor.liftNests
open Go Go.RowKit Ev
set_option maxRecDepth 1000000
theorem part22 : allN 2 (fun k => some1 2 (Nat.add 0 k)) = true := by decide +kernel
end Go.Proofs.YtefpobnljhogoaaGreatDoor.liftNests
