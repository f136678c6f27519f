/- The law LiftNests, reckoned: part 15. -/
import Derived.Test.YtefpobnljhogoaaGreatDoorPLiftNestsa
namespace Go.Proofs.YtefpobnljhogoaaGreatDoor.liftNests
open Go Go.RowKit Ev
set_option maxRecDepth 1000000
theorem part15 : allN 1 (fun k => some1 7 (Nat.add 6 k)) = true := by decide +kernel
end Go.Proofs.YtefpobnljhogoaaGreatDoor.liftNests
