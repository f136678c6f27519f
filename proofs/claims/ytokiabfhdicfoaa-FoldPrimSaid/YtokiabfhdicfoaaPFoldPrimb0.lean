/- The law FoldPrim, reckoned: of no word; of too few or too many numbers. -/
import Derived.Test.YtokiabfhdicfoaaPFoldPrima
namespace Go.Proofs.Ytokiabfhdicfoaa.foldPrim
open Go Go.RowKit Ev
set_option maxRecDepth 1000000
theorem uA : runU 0 9223372036854775807 [] 5 9223372036854775807 = true := by decide +kernel
theorem uB : runU 21 9223372036854775807 [] 0 4 = true := by decide +kernel
theorem uC0 : runU 0 20 ne 0 0 = true := by decide +kernel
theorem uC1 : runU 0 20 ne 1 4 = true := by decide +kernel
theorem lo0 : runD 1 43 0 1 = true := by decide +kernel
theorem hi0 : runD 1 43 3 4 = true := by decide +kernel
theorem lo1 : runD 1 45 0 1 = true := by decide +kernel
theorem hi1 : runD 1 45 3 4 = true := by decide +kernel
theorem lo2 : runD 1 42 0 1 = true := by decide +kernel
theorem hi2 : runD 1 42 3 4 = true := by decide +kernel
theorem lo3 : runD 3 6580598 0 1 = true := by decide +kernel
theorem hi3 : runD 3 6580598 3 4 = true := by decide +kernel
theorem lo4 : runD 3 7171940 0 1 = true := by decide +kernel
theorem hi4 : runD 3 7171940 3 4 = true := by decide +kernel
theorem lo5 : runD 1 60 0 1 = true := by decide +kernel
theorem hi5 : runD 1 60 3 4 = true := by decide +kernel
theorem lo6 : runD 1 61 0 1 = true := by decide +kernel
theorem hi6 : runD 1 61 3 4 = true := by decide +kernel
theorem lo7 : runD 2 26155 0 1 = true := by decide +kernel
theorem hi7 : runD 2 26155 3 4 = true := by decide +kernel
theorem lo8 : runD 2 26157 0 1 = true := by decide +kernel
theorem hi8 : runD 2 26157 3 4 = true := by decide +kernel
theorem lo9 : runD 2 26154 0 1 = true := by decide +kernel
theorem hi9 : runD 2 26154 3 4 = true := by decide +kernel
theorem lo10 : runD 2 26159 0 1 = true := by decide +kernel
theorem hi10 : runD 2 26159 3 4 = true := by decide +kernel
theorem lo11 : runD 2 26172 0 1 = true := by decide +kernel
theorem hi11 : runD 2 26172 3 4 = true := by decide +kernel
theorem lo12 : runD 2 26173 0 1 = true := by decide +kernel
theorem hi12 : runD 2 26173 3 4 = true := by decide +kernel
theorem lo13 : runD 5 439905902964 0 0 = true := by decide +kernel
theorem hi13 : runD 5 439905902964 2 4 = true := by decide +kernel
theorem lo14 : runD 5 512853240933 0 0 = true := by decide +kernel
theorem hi14 : runD 5 512853240933 2 4 = true := by decide +kernel
theorem lo15 : runD 3 7562609 0 1 = true := by decide +kernel
theorem hi15 : runD 3 7562609 3 4 = true := by decide +kernel
end Go.Proofs.Ytokiabfhdicfoaa.foldPrim
