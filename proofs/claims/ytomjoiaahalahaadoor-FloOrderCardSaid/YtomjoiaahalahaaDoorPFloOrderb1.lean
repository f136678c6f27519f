/- The law FloOrder, reckoned, whatever was asked. -/
import Derived.Test.YtomjoiaahalahaaDoorPFloOrdera
namespace Go.Proofs.YtomjoiaahalahaaDoor.floOrder
open Go Go.RowKit Ev
set_option maxRecDepth 1000000
def q30 : Orc := [(⟨5, (.v 0), (.v 1)⟩, false), (⟨5, (.v 1), (.v 2)⟩, false), (⟨5, (.v 0), (.v 2)⟩, false), (⟨3, (.o 256 (.v 0) (.v 2)), (.c (.ofNat 0))⟩, false), (⟨3, (.o 256 (.v 1) (.v 2)), (.c (.ofNat 0))⟩, false), (⟨5, (.o 256 (.v 1) (.v 2)), (.o 256 (.v 0) (.v 2))⟩, true), (⟨5, (.o 82 (.v 1) (.c (.ofNat 9223372036854775808))), (.o 82 (.v 0) (.c (.ofNat 9223372036854775808)))⟩, false)]
theorem leaf30 : run q30 = true := by decide +kernel
def q31 : Orc := [(⟨5, (.v 0), (.v 1)⟩, false), (⟨5, (.v 1), (.v 2)⟩, false), (⟨5, (.v 0), (.v 2)⟩, false), (⟨3, (.o 256 (.v 0) (.v 2)), (.c (.ofNat 0))⟩, false), (⟨3, (.o 256 (.v 1) (.v 2)), (.c (.ofNat 0))⟩, false), (⟨5, (.o 256 (.v 1) (.v 2)), (.o 256 (.v 0) (.v 2))⟩, false), (⟨5, (.o 82 (.v 1) (.c (.ofNat 9223372036854775808))), (.o 82 (.v 0) (.c (.ofNat 9223372036854775808)))⟩, false)]
theorem leaf31 : run q31 = true := by decide +kernel
end Go.Proofs.YtomjoiaahalahaaDoor.floOrder
