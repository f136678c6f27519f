/- The law RunApplies, reckoned: part 4. -/
import Derived.Test.YtnbmmcopjognoaaDoorPRunAppliesa
namespace Go.Proofs.YtnbmmcopjognoaaDoor.runApplies
open Go Go.RowKit Ev
set_option maxRecDepth 1000000
theorem part4 : allN 2 (fun k => some1 4 (Nat.add 0 k)) = true := by decide +kernel
end Go.Proofs.YtnbmmcopjognoaaDoor.runApplies
