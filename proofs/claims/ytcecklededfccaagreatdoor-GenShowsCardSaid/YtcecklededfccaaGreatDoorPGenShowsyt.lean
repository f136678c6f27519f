/- The law GenShows, a float whose bits are not told, reckoned. -/
import Derived.Test.YtcecklededfccaaGreatDoorPGenShowsx
namespace Go.Proofs.YtcecklededfccaaGreatDoor.genShows
open Go Go.RowKit Ev
set_option maxRecDepth 1000000
theorem leaft3 : runX tt qt 3 = true := by decide +kernel
theorem leaft7 : runX tt qt 7 = true := by decide +kernel
theorem leaft8 : runX tt qt 8 = true := by decide +kernel
theorem leaft9 : runX tt qt 9 = true := by decide +kernel
end Go.Proofs.YtcecklededfccaaGreatDoor.genShows
