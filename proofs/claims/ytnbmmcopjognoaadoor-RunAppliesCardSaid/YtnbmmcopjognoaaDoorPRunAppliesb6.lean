/- The law RunApplies, reckoned: part 6. -/
import Derived.Test.YtnbmmcopjognoaaDoorPRunAppliesa
namespace Go.Proofs.YtnbmmcopjognoaaDoor.runApplies
open Go Go.RowKit Ev
set_option maxRecDepth 1000000
theorem part6 : allN 1 (fun k => some1 4 (Nat.add 4 k)) = true := by decide +kernel
end Go.Proofs.YtnbmmcopjognoaaDoor.runApplies
