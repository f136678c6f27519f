/- The law RunFaults, reckoned: part 1. -/
import Derived.Test.YtnbmmcopjognoaaDoorPRunFaultsa
namespace Go.Proofs.YtnbmmcopjognoaaDoor.runFaults
open Go Go.RowKit Ev
set_option maxRecDepth 1000000
theorem part1 : allN 6 (fun k => some0 (Nat.add 6 k)) = true := by decide +kernel
end Go.Proofs.YtnbmmcopjognoaaDoor.runFaults
