/- The law RunFaults, reckoned: part 0. -/
import Derived.Test.YtnbmmcopjognoaaDoorPRunFaultsa
namespace Go.Proofs.YtnbmmcopjognoaaDoor.runFaults
open Go Go.RowKit Ev
set_option maxRecDepth 1000000
theorem part0 : allN 6 (fun k => some0 (Nat.add 0 k)) = true := by decide +kernel
end Go.Proofs.YtnbmmcopjognoaaDoor.runFaults
