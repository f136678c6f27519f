/- The law FoldPrim, reckoned: of words and numbers. -/
import Derived.Test.YtokiabfhdicfoaaPFoldPrima
namespace Go.Proofs.Ytokiabfhdicfoaa.foldPrim
open Go Go.RowKit Ev
set_option maxRecDepth 1000000
def q4_0 : Orc := [(⟨0, (.v 0), (.c (.ofNat 2))⟩, false)]
theorem leaf4_0 : runE 3 7171940 2 q4_0 = true := by decide +kernel
def q4_1 : Orc := [(⟨0, (.v 0), (.c (.ofNat 2))⟩, true), (⟨0, (.v 2), (.c (.ofNat 2))⟩, false)]
theorem leaf4_1 : runE 3 7171940 2 q4_1 = true := by decide +kernel
def q4_2 : Orc := [(⟨0, (.v 0), (.c (.ofNat 2))⟩, true), (⟨0, (.v 2), (.c (.ofNat 2))⟩, true), (⟨0, (.v 3), (.c (.ofNat 0))⟩, true)]
theorem leaf4_2 : runE 3 7171940 2 q4_2 = true := by decide +kernel
def q4_3 : Orc := [(⟨0, (.v 0), (.c (.ofNat 2))⟩, true), (⟨0, (.v 2), (.c (.ofNat 2))⟩, true), (⟨0, (.v 3), (.c (.ofNat 0))⟩, false), (⟨0, (.v 3), (.c (-1))⟩, false)]
theorem leaf4_3 : runE 3 7171940 2 q4_3 = true := by decide +kernel
def q4_4 : Orc := [(⟨0, (.v 0), (.c (.ofNat 2))⟩, true), (⟨0, (.v 2), (.c (.ofNat 2))⟩, true), (⟨0, (.v 3), (.c (.ofNat 0))⟩, false), (⟨0, (.v 3), (.c (-1))⟩, true), (⟨0, (.o 176 (.v 1) (.v 3)), (.c (.ofNat 0))⟩, true)]
theorem leaf4_4 : runE 3 7171940 2 q4_4 = true := by decide +kernel
def q5_0 : Orc := [(⟨0, (.v 0), (.c (.ofNat 2))⟩, false)]
theorem leaf5_0 : runE 1 60 2 q5_0 = true := by decide +kernel
def q5_1 : Orc := [(⟨0, (.v 0), (.c (.ofNat 2))⟩, true), (⟨0, (.v 2), (.c (.ofNat 2))⟩, false)]
theorem leaf5_1 : runE 1 60 2 q5_1 = true := by decide +kernel
def q5_2 : Orc := [(⟨0, (.v 0), (.c (.ofNat 2))⟩, true), (⟨0, (.v 2), (.c (.ofNat 2))⟩, true), (⟨1, (.v 1), (.v 3)⟩, true)]
theorem leaf5_2 : runE 1 60 2 q5_2 = true := by decide +kernel
def q5_3 : Orc := [(⟨0, (.v 0), (.c (.ofNat 2))⟩, true), (⟨0, (.v 2), (.c (.ofNat 2))⟩, true), (⟨1, (.v 1), (.v 3)⟩, false)]
theorem leaf5_3 : runE 1 60 2 q5_3 = true := by decide +kernel
def q6_0 : Orc := [(⟨0, (.v 0), (.c (.ofNat 2))⟩, false)]
theorem leaf6_0 : runE 1 61 2 q6_0 = true := by decide +kernel
def q6_1 : Orc := [(⟨0, (.v 0), (.c (.ofNat 2))⟩, true), (⟨0, (.v 2), (.c (.ofNat 2))⟩, false)]
theorem leaf6_1 : runE 1 61 2 q6_1 = true := by decide +kernel
def q6_2 : Orc := [(⟨0, (.v 0), (.c (.ofNat 2))⟩, true), (⟨0, (.v 2), (.c (.ofNat 2))⟩, true), (⟨0, (.v 1), (.v 3)⟩, true)]
theorem leaf6_2 : runE 1 61 2 q6_2 = true := by decide +kernel
def q6_3 : Orc := [(⟨0, (.v 0), (.c (.ofNat 2))⟩, true), (⟨0, (.v 2), (.c (.ofNat 2))⟩, true), (⟨0, (.v 1), (.v 3)⟩, false)]
theorem leaf6_3 : runE 1 61 2 q6_3 = true := by decide +kernel
def q7_0 : Orc := [(⟨0, (.v 0), (.c (.ofNat 3))⟩, false)]
theorem leaf7_0 : runE 2 26155 2 q7_0 = true := by decide +kernel
def q7_1 : Orc := [(⟨0, (.v 0), (.c (.ofNat 3))⟩, true), (⟨0, (.v 2), (.c (.ofNat 3))⟩, false)]
theorem leaf7_1 : runE 2 26155 2 q7_1 = true := by decide +kernel
def q7_2 : Orc := [(⟨0, (.v 0), (.c (.ofNat 3))⟩, true), (⟨0, (.v 2), (.c (.ofNat 3))⟩, true), (⟨3, (.o 256 (.o 146 (.v 1) (.v 1)) (.o 146 (.v 3) (.v 3))), (.c (.ofNat 0))⟩, true)]
theorem leaf7_2 : runE 2 26155 2 q7_2 = true := by decide +kernel
def q7_3 : Orc := [(⟨0, (.v 0), (.c (.ofNat 3))⟩, true), (⟨0, (.v 2), (.c (.ofNat 3))⟩, true), (⟨3, (.o 256 (.o 146 (.v 1) (.v 1)) (.o 146 (.v 3) (.v 3))), (.c (.ofNat 0))⟩, false), (⟨0, (.o 50 (.o 130 (.o 370 (.o 256 (.o 146 (.v 1) (.v 1)) (.o 146 (.v 3) (.v 3))) (.o 256 (.o 146 (.v 1) (.v 1)) (.o 146 (.v 3) (.v 3)))) (.c (.ofNat 52))) (.c (.ofNat 2047))), (.c (.ofNat 2047))⟩, false)]
theorem leaf7_3 : runE 2 26155 2 q7_3 = true := by decide +kernel
def q7_4 : Orc := [(⟨0, (.v 0), (.c (.ofNat 3))⟩, true), (⟨0, (.v 2), (.c (.ofNat 3))⟩, true), (⟨3, (.o 256 (.o 146 (.v 1) (.v 1)) (.o 146 (.v 3) (.v 3))), (.c (.ofNat 0))⟩, false), (⟨0, (.o 50 (.o 130 (.o 370 (.o 256 (.o 146 (.v 1) (.v 1)) (.o 146 (.v 3) (.v 3))) (.o 256 (.o 146 (.v 1) (.v 1)) (.o 146 (.v 3) (.v 3)))) (.c (.ofNat 52))) (.c (.ofNat 2047))), (.c (.ofNat 2047))⟩, true), (⟨0, (.o 50 (.o 370 (.o 256 (.o 146 (.v 1) (.v 1)) (.o 146 (.v 3) (.v 3))) (.o 256 (.o 146 (.v 1) (.v 1)) (.o 146 (.v 3) (.v 3)))) (.c (.ofNat 4503599627370495))), (.c (.ofNat 0))⟩, true)]
theorem leaf7_4 : runE 2 26155 2 q7_4 = true := by decide +kernel
end Go.Proofs.Ytokiabfhdicfoaa.foldPrim
