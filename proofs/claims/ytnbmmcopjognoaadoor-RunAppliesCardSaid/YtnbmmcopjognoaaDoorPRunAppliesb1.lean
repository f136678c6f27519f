/- The law RunApplies, reckoned: part 1. -/
import Derived.Test.YtnbmmcopjognoaaDoorPRunAppliesa
namespace Go.Proofs.YtnbmmcopjognoaaDoor.runApplies
open Go Go.RowKit Ev
set_option maxRecDepth 1000000
theorem part1 : allN 1 (fun k => some0 (Nat.add 2 k)) = true := by decide +kernel
end Go.Proofs.YtnbmmcopjognoaaDoor.runApplies
