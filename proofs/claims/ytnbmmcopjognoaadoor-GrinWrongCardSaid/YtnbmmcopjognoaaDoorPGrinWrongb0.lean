/- The law GrinWrong, reckoned: part 0. -/
import Derived.Test.YtnbmmcopjognoaaDoorPGrinWronga
namespace Go.Proofs.YtnbmmcopjognoaaDoor.grinWrong
open Go Go.RowKit Ev
set_option maxRecDepth 1000000
theorem part0 : allN 3 (fun k => some0 (Nat.add 0 k)) = true := by decide +kernel
end Go.Proofs.YtnbmmcopjognoaaDoor.grinWrong
