/- The law FloZeros, reckoned, whatever was asked. -/
import Derived.Test.YtomjoiaahalahaaDoorPFloZerosa
namespace Go.Proofs.YtomjoiaahalahaaDoor.floZeros
open Go Go.RowKit Ev
set_option maxRecDepth 1000000
def q0 : Orc := [(⟨3, (.v 0), (.c (.ofNat 0))⟩, true), (⟨3, (.o 272 (.v 0) (.v 0)), (.c (.ofNat 0))⟩, true), (⟨3, (.o 288 (.v 0) (.c (.ofNat 4607182418800017408))), (.c (.ofNat 0))⟩, true), (⟨3, (.o 272 (.v 0) (.c (.ofNat 0))), (.c (.ofNat 0))⟩, true)]
theorem leaf0 : run q0 = true := by decide +kernel
def q1 : Orc := [(⟨3, (.v 0), (.c (.ofNat 0))⟩, false), (⟨3, (.o 272 (.v 0) (.v 0)), (.c (.ofNat 0))⟩, true), (⟨3, (.o 288 (.v 0) (.c (.ofNat 4607182418800017408))), (.c (.ofNat 0))⟩, false), (⟨3, (.o 272 (.v 0) (.c (.ofNat 0))), (.c (.ofNat 0))⟩, false), (⟨0, (.o 50 (.o 130 (.v 0) (.c (.ofNat 52))) (.c (.ofNat 2047))), (.c (.ofNat 2047))⟩, true), (⟨0, (.o 370 (.o 288 (.v 0) (.c (.ofNat 4607182418800017408))) (.o 288 (.v 0) (.c (.ofNat 4607182418800017408)))), (.v 0)⟩, true), (⟨0, (.o 370 (.o 272 (.v 0) (.c (.ofNat 0))) (.o 272 (.v 0) (.c (.ofNat 0)))), (.v 0)⟩, true)]
theorem leaf1 : run q1 = true := by decide +kernel
def q2 : Orc := [(⟨3, (.v 0), (.c (.ofNat 0))⟩, false), (⟨3, (.o 272 (.v 0) (.v 0)), (.c (.ofNat 0))⟩, false), (⟨3, (.o 288 (.v 0) (.c (.ofNat 4607182418800017408))), (.c (.ofNat 0))⟩, false), (⟨3, (.o 272 (.v 0) (.c (.ofNat 0))), (.c (.ofNat 0))⟩, false), (⟨0, (.o 50 (.o 130 (.v 0) (.c (.ofNat 52))) (.c (.ofNat 2047))), (.c (.ofNat 2047))⟩, false), (⟨0, (.o 370 (.o 288 (.v 0) (.c (.ofNat 4607182418800017408))) (.o 288 (.v 0) (.c (.ofNat 4607182418800017408)))), (.v 0)⟩, true), (⟨0, (.o 370 (.o 272 (.v 0) (.c (.ofNat 0))) (.o 272 (.v 0) (.c (.ofNat 0)))), (.v 0)⟩, true), (⟨0, (.o 370 (.o 272 (.v 0) (.v 0)) (.o 272 (.v 0) (.v 0))), (.c (.ofNat 0))⟩, true)]
theorem leaf2 : run q2 = true := by decide +kernel
end Go.Proofs.YtomjoiaahalahaaDoor.floZeros
