/- The law RunOnce, reckoned: part 1. -/
import Derived.Test.YtnbmmcopjognoaaDoorPRunOncea
namespace Go.Proofs.YtnbmmcopjognoaaDoor.runOnce
open Go Go.RowKit Ev
set_option maxRecDepth 1000000
theorem part1 : allN 3 (fun k => some0 (Nat.add 3 k)) = true := by decide +kernel
end Go.Proofs.YtnbmmcopjognoaaDoor.runOnce
