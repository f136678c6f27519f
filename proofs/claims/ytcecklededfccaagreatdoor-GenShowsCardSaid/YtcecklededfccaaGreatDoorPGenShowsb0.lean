/- The law GenShows, reckoned: part 0. -/
import Derived.Test.YtcecklededfccaaGreatDoorPGenShowsa
namespace Go.Proofs.YtcecklededfccaaGreatDoor.genShows
open Go Go.RowKit Ev
set_option maxRecDepth 1000000
theorem part0 : allN 1 (fun k => some0 (Nat.add 0 k)) = true := by decide +kernel
end Go.Proofs.YtcecklededfccaaGreatDoor.genShows
