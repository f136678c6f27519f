/- The law GenShows, a float whose bits are not told, reckoned. -/
import Derived.Test.YtcecklededfccaaGreatDoorPGenShowsx
namespace Go.Proofs.YtcecklededfccaaGreatDoor.genShows
open Go Go.RowKit Ev
set_option maxRecDepth 1000000
theorem leaff3 : runX tf qf 3 = true := by decide +kernel
theorem leaff7 : runX tf qf 7 = true := by decide +kernel
theorem leaff8 : runX tf qf 8 = true := by decide +kernel
theorem leaff9 : runX tf qf 9 = true := by decide +kernel
end Go.Proofs.YtcecklededfccaaGreatDoor.genShows
