/- The law GrinWrong, reckoned: part 3. -/
import Derived.Test.YtnbmmcopjognoaaDoorPGrinWronga
namespace Go.Proofs.YtnbmmcopjognoaaDoor.grinWrong
open Go Go.RowKit Ev
set_option maxRecDepth 1000000
theorem part3 : allN 2 (fun k => some0 (Nat.add 9 k)) = true := by decide +kernel
end Go.Proofs.YtnbmmcopjognoaaDoor.grinWrong
