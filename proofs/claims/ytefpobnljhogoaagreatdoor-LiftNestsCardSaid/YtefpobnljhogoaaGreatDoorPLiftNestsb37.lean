/- The law LiftNests, reckoned: part 37. -/
import Derived.Test.YtefpobnljhogoaaGreatDoorPLiftNestsa
namespace Go.Proofs.YtefpobnljhogoaaGreatDoor.liftNests
open Go Go.RowKit Ev
set_option maxRecDepth 1000000
theorem part37 : allN 1 (fun k => some1 6 (Nat.add 0 k)) = true := by decide +kernel
end Go.Proofs.YtefpobnljhogoaaGreatDoor.liftNests
