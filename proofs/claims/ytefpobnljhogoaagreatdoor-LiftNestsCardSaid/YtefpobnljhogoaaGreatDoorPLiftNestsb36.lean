/- The law LiftNests, reckoned: part 36. -/
import Derived.Test.YtefpobnljhogoaaGreatDoorPLiftNestsa
namespace Go.Proofs.YtefpobnljhogoaaGreatDoor.liftNests
open Go Go.RowKit Ev
set_option maxRecDepth 1000000
theorem part36 : allN 1 (fun k => some1 5 (Nat.add 5 k)) = true := by decide +kernel
end Go.Proofs.YtefpobnljhogoaaGreatDoor.liftNests
