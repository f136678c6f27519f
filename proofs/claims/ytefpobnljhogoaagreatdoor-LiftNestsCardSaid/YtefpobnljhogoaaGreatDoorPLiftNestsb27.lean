/- The law LiftNests, reckoned: part 27. -/
import Derived.Test.YtefpobnljhogoaaGreatDoorPLiftNestsa
namespace Go.Proofs.YtefpobnljhogoaaGreatDoor.liftNests
open Go Go.RowKit Ev
set_option maxRecDepth 1000000
theorem part27 : allN 1 (fun k => some1 4 (Nat.add 1 k)) = true := by decide +kernel
end Go.Proofs.YtefpobnljhogoaaGreatDoor.liftNests
