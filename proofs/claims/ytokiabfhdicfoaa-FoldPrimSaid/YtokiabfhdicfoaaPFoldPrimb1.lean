/- The law FoldPrim, reckoned: of words and numbers. -/
import Derived.Test.YtokiabfhdicfoaaPFoldPrima
namespace Go.Proofs.Ytokiabfhdicfoaa.foldPrim
open Go Go.RowKit Ev
set_option maxRecDepth 1000000
def q0_0 : Orc := [(⟨0, (.v 0), (.c (.ofNat 2))⟩, false)]
theorem leaf0_0 : runE 1 43 2 q0_0 = true := by decide +kernel
def q0_1 : Orc := [(⟨0, (.v 0), (.c (.ofNat 2))⟩, true), (⟨0, (.v 2), (.c (.ofNat 2))⟩, true)]
theorem leaf0_1 : runE 1 43 2 q0_1 = true := by decide +kernel
def q0_2 : Orc := [(⟨0, (.v 0), (.c (.ofNat 2))⟩, true), (⟨0, (.v 2), (.c (.ofNat 2))⟩, false)]
theorem leaf0_2 : runE 1 43 2 q0_2 = true := by decide +kernel
def q1_0 : Orc := [(⟨0, (.v 0), (.c (.ofNat 2))⟩, false)]
theorem leaf1_0 : runE 1 45 2 q1_0 = true := by decide +kernel
def q1_1 : Orc := [(⟨0, (.v 0), (.c (.ofNat 2))⟩, true), (⟨0, (.v 2), (.c (.ofNat 2))⟩, true)]
theorem leaf1_1 : runE 1 45 2 q1_1 = true := by decide +kernel
def q1_2 : Orc := [(⟨0, (.v 0), (.c (.ofNat 2))⟩, true), (⟨0, (.v 2), (.c (.ofNat 2))⟩, false)]
theorem leaf1_2 : runE 1 45 2 q1_2 = true := by decide +kernel
def q2_0 : Orc := [(⟨0, (.v 0), (.c (.ofNat 2))⟩, false)]
theorem leaf2_0 : runE 1 42 2 q2_0 = true := by decide +kernel
def q2_1 : Orc := [(⟨0, (.v 0), (.c (.ofNat 2))⟩, true), (⟨0, (.v 2), (.c (.ofNat 2))⟩, true)]
theorem leaf2_1 : runE 1 42 2 q2_1 = true := by decide +kernel
def q2_2 : Orc := [(⟨0, (.v 0), (.c (.ofNat 2))⟩, true), (⟨0, (.v 2), (.c (.ofNat 2))⟩, false)]
theorem leaf2_2 : runE 1 42 2 q2_2 = true := by decide +kernel
def q3_0 : Orc := [(⟨0, (.v 0), (.c (.ofNat 2))⟩, false)]
theorem leaf3_0 : runE 3 6580598 2 q3_0 = true := by decide +kernel
def q3_1 : Orc := [(⟨0, (.v 0), (.c (.ofNat 2))⟩, true), (⟨0, (.v 2), (.c (.ofNat 2))⟩, false)]
theorem leaf3_1 : runE 3 6580598 2 q3_1 = true := by decide +kernel
def q3_2 : Orc := [(⟨0, (.v 0), (.c (.ofNat 2))⟩, true), (⟨0, (.v 2), (.c (.ofNat 2))⟩, true), (⟨0, (.v 3), (.c (.ofNat 0))⟩, true)]
theorem leaf3_2 : runE 3 6580598 2 q3_2 = true := by decide +kernel
def q3_3 : Orc := [(⟨0, (.v 0), (.c (.ofNat 2))⟩, true), (⟨0, (.v 2), (.c (.ofNat 2))⟩, true), (⟨0, (.v 3), (.c (.ofNat 0))⟩, false), (⟨0, (.v 3), (.c (-1))⟩, false)]
theorem leaf3_3 : runE 3 6580598 2 q3_3 = true := by decide +kernel
def q3_4 : Orc := [(⟨0, (.v 0), (.c (.ofNat 2))⟩, true), (⟨0, (.v 2), (.c (.ofNat 2))⟩, true), (⟨0, (.v 3), (.c (.ofNat 0))⟩, false), (⟨0, (.v 3), (.c (-1))⟩, true), (⟨0, (.o 160 (.v 1) (.v 3)), (.o 16 (.c (.ofNat 0)) (.v 1))⟩, true)]
theorem leaf3_4 : runE 3 6580598 2 q3_4 = true := by decide +kernel
end Go.Proofs.Ytokiabfhdicfoaa.foldPrim
