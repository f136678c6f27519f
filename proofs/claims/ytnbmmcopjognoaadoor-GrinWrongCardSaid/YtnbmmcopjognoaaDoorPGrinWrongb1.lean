/- The law GrinWrong, reckoned: part 1. -/
import Derived.Test.YtnbmmcopjognoaaDoorPGrinWronga
namespace Go.Proofs.YtnbmmcopjognoaaDoor.grinWrong
open Go Go.RowKit Ev
set_option maxRecDepth 1000000
theorem part1 : allN 3 (fun k => some0 (Nat.add 3 k)) = true := by decide +kernel
end Go.Proofs.YtnbmmcopjognoaaDoor.grinWrong
