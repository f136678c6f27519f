/- The law FoldPrim, reckoned: of words and numbers. -/
import Derived.Test.YtokiabfhdicfoaaPFoldPrima
namespace Go.Proofs.Ytokiabfhdicfoaa.foldPrim
open Go Go.RowKit Ev
set_option maxRecDepth 1000000
def q8_0 : Orc := [(⟨0, (.v 0), (.c (.ofNat 3))⟩, false)]
theorem leaf8_0 : runE 2 26157 2 q8_0 = true := by decide +kernel
def q8_1 : Orc := [(⟨0, (.v 0), (.c (.ofNat 3))⟩, true), (⟨0, (.v 2), (.c (.ofNat 3))⟩, false)]
theorem leaf8_1 : runE 2 26157 2 q8_1 = true := by decide +kernel
def q8_2 : Orc := [(⟨0, (.v 0), (.c (.ofNat 3))⟩, true), (⟨0, (.v 2), (.c (.ofNat 3))⟩, true), (⟨3, (.o 272 (.o 146 (.v 1) (.v 1)) (.o 146 (.v 3) (.v 3))), (.c (.ofNat 0))⟩, true)]
theorem leaf8_2 : runE 2 26157 2 q8_2 = true := by decide +kernel
def q8_3 : Orc := [(⟨0, (.v 0), (.c (.ofNat 3))⟩, true), (⟨0, (.v 2), (.c (.ofNat 3))⟩, true), (⟨3, (.o 272 (.o 146 (.v 1) (.v 1)) (.o 146 (.v 3) (.v 3))), (.c (.ofNat 0))⟩, false), (⟨0, (.o 50 (.o 130 (.o 370 (.o 272 (.o 146 (.v 1) (.v 1)) (.o 146 (.v 3) (.v 3))) (.o 272 (.o 146 (.v 1) (.v 1)) (.o 146 (.v 3) (.v 3)))) (.c (.ofNat 52))) (.c (.ofNat 2047))), (.c (.ofNat 2047))⟩, false)]
theorem leaf8_3 : runE 2 26157 2 q8_3 = true := by decide +kernel
def q8_4 : Orc := [(⟨0, (.v 0), (.c (.ofNat 3))⟩, true), (⟨0, (.v 2), (.c (.ofNat 3))⟩, true), (⟨3, (.o 272 (.o 146 (.v 1) (.v 1)) (.o 146 (.v 3) (.v 3))), (.c (.ofNat 0))⟩, false), (⟨0, (.o 50 (.o 130 (.o 370 (.o 272 (.o 146 (.v 1) (.v 1)) (.o 146 (.v 3) (.v 3))) (.o 272 (.o 146 (.v 1) (.v 1)) (.o 146 (.v 3) (.v 3)))) (.c (.ofNat 52))) (.c (.ofNat 2047))), (.c (.ofNat 2047))⟩, true), (⟨0, (.o 50 (.o 370 (.o 272 (.o 146 (.v 1) (.v 1)) (.o 146 (.v 3) (.v 3))) (.o 272 (.o 146 (.v 1) (.v 1)) (.o 146 (.v 3) (.v 3)))) (.c (.ofNat 4503599627370495))), (.c (.ofNat 0))⟩, true)]
theorem leaf8_4 : runE 2 26157 2 q8_4 = true := by decide +kernel
def q9_0 : Orc := [(⟨0, (.v 0), (.c (.ofNat 3))⟩, false)]
theorem leaf9_0 : runE 2 26154 2 q9_0 = true := by decide +kernel
def q9_1 : Orc := [(⟨0, (.v 0), (.c (.ofNat 3))⟩, true), (⟨0, (.v 2), (.c (.ofNat 3))⟩, false)]
theorem leaf9_1 : runE 2 26154 2 q9_1 = true := by decide +kernel
def q9_2 : Orc := [(⟨0, (.v 0), (.c (.ofNat 3))⟩, true), (⟨0, (.v 2), (.c (.ofNat 3))⟩, true), (⟨3, (.o 288 (.o 146 (.v 1) (.v 1)) (.o 146 (.v 3) (.v 3))), (.c (.ofNat 0))⟩, true)]
theorem leaf9_2 : runE 2 26154 2 q9_2 = true := by decide +kernel
def q9_3 : Orc := [(⟨0, (.v 0), (.c (.ofNat 3))⟩, true), (⟨0, (.v 2), (.c (.ofNat 3))⟩, true), (⟨3, (.o 288 (.o 146 (.v 1) (.v 1)) (.o 146 (.v 3) (.v 3))), (.c (.ofNat 0))⟩, false), (⟨0, (.o 50 (.o 130 (.o 370 (.o 288 (.o 146 (.v 1) (.v 1)) (.o 146 (.v 3) (.v 3))) (.o 288 (.o 146 (.v 1) (.v 1)) (.o 146 (.v 3) (.v 3)))) (.c (.ofNat 52))) (.c (.ofNat 2047))), (.c (.ofNat 2047))⟩, false)]
theorem leaf9_3 : runE 2 26154 2 q9_3 = true := by decide +kernel
def q9_4 : Orc := [(⟨0, (.v 0), (.c (.ofNat 3))⟩, true), (⟨0, (.v 2), (.c (.ofNat 3))⟩, true), (⟨3, (.o 288 (.o 146 (.v 1) (.v 1)) (.o 146 (.v 3) (.v 3))), (.c (.ofNat 0))⟩, false), (⟨0, (.o 50 (.o 130 (.o 370 (.o 288 (.o 146 (.v 1) (.v 1)) (.o 146 (.v 3) (.v 3))) (.o 288 (.o 146 (.v 1) (.v 1)) (.o 146 (.v 3) (.v 3)))) (.c (.ofNat 52))) (.c (.ofNat 2047))), (.c (.ofNat 2047))⟩, true), (⟨0, (.o 50 (.o 370 (.o 288 (.o 146 (.v 1) (.v 1)) (.o 146 (.v 3) (.v 3))) (.o 288 (.o 146 (.v 1) (.v 1)) (.o 146 (.v 3) (.v 3)))) (.c (.ofNat 4503599627370495))), (.c (.ofNat 0))⟩, true)]
theorem leaf9_4 : runE 2 26154 2 q9_4 = true := by decide +kernel
def q10_0 : Orc := [(⟨0, (.v 0), (.c (.ofNat 3))⟩, false)]
theorem leaf10_0 : runE 2 26159 2 q10_0 = true := by decide +kernel
def q10_1 : Orc := [(⟨0, (.v 0), (.c (.ofNat 3))⟩, true), (⟨0, (.v 2), (.c (.ofNat 3))⟩, false)]
theorem leaf10_1 : runE 2 26159 2 q10_1 = true := by decide +kernel
def q10_2 : Orc := [(⟨0, (.v 0), (.c (.ofNat 3))⟩, true), (⟨0, (.v 2), (.c (.ofNat 3))⟩, true), (⟨3, (.o 304 (.o 146 (.v 1) (.v 1)) (.o 146 (.v 3) (.v 3))), (.c (.ofNat 0))⟩, true)]
theorem leaf10_2 : runE 2 26159 2 q10_2 = true := by decide +kernel
def q10_3 : Orc := [(⟨0, (.v 0), (.c (.ofNat 3))⟩, true), (⟨0, (.v 2), (.c (.ofNat 3))⟩, true), (⟨3, (.o 304 (.o 146 (.v 1) (.v 1)) (.o 146 (.v 3) (.v 3))), (.c (.ofNat 0))⟩, false), (⟨0, (.o 50 (.o 130 (.o 370 (.o 304 (.o 146 (.v 1) (.v 1)) (.o 146 (.v 3) (.v 3))) (.o 304 (.o 146 (.v 1) (.v 1)) (.o 146 (.v 3) (.v 3)))) (.c (.ofNat 52))) (.c (.ofNat 2047))), (.c (.ofNat 2047))⟩, false)]
theorem leaf10_3 : runE 2 26159 2 q10_3 = true := by decide +kernel
def q10_4 : Orc := [(⟨0, (.v 0), (.c (.ofNat 3))⟩, true), (⟨0, (.v 2), (.c (.ofNat 3))⟩, true), (⟨3, (.o 304 (.o 146 (.v 1) (.v 1)) (.o 146 (.v 3) (.v 3))), (.c (.ofNat 0))⟩, false), (⟨0, (.o 50 (.o 130 (.o 370 (.o 304 (.o 146 (.v 1) (.v 1)) (.o 146 (.v 3) (.v 3))) (.o 304 (.o 146 (.v 1) (.v 1)) (.o 146 (.v 3) (.v 3)))) (.c (.ofNat 52))) (.c (.ofNat 2047))), (.c (.ofNat 2047))⟩, true), (⟨0, (.o 50 (.o 370 (.o 304 (.o 146 (.v 1) (.v 1)) (.o 146 (.v 3) (.v 3))) (.o 304 (.o 146 (.v 1) (.v 1)) (.o 146 (.v 3) (.v 3)))) (.c (.ofNat 4503599627370495))), (.c (.ofNat 0))⟩, true)]
theorem leaf10_4 : runE 2 26159 2 q10_4 = true := by decide +kernel
def q11_0 : Orc := [(⟨0, (.v 0), (.c (.ofNat 3))⟩, false)]
theorem leaf11_0 : runE 2 26172 2 q11_0 = true := by decide +kernel
def q11_1 : Orc := [(⟨0, (.v 0), (.c (.ofNat 3))⟩, true), (⟨0, (.v 2), (.c (.ofNat 3))⟩, false)]
theorem leaf11_1 : runE 2 26172 2 q11_1 = true := by decide +kernel
def q11_2 : Orc := [(⟨0, (.v 0), (.c (.ofNat 3))⟩, true), (⟨0, (.v 2), (.c (.ofNat 3))⟩, true), (⟨5, (.o 146 (.v 1) (.v 1)), (.o 146 (.v 3) (.v 3))⟩, true)]
theorem leaf11_2 : runE 2 26172 2 q11_2 = true := by decide +kernel
def q11_3 : Orc := [(⟨0, (.v 0), (.c (.ofNat 3))⟩, true), (⟨0, (.v 2), (.c (.ofNat 3))⟩, true), (⟨5, (.o 146 (.v 1) (.v 1)), (.o 146 (.v 3) (.v 3))⟩, false)]
theorem leaf11_3 : runE 2 26172 2 q11_3 = true := by decide +kernel
end Go.Proofs.Ytokiabfhdicfoaa.foldPrim
