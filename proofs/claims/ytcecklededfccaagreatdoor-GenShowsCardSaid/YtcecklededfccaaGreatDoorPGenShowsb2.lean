/- The law GenShows, reckoned: part 2. -/
import Derived.Test.YtcecklededfccaaGreatDoorPGenShowsa
namespace Go.Proofs.YtcecklededfccaaGreatDoor.genShows
open Go Go.RowKit Ev
set_option maxRecDepth 1000000
theorem part2 : allN 1 (fun k => some0 (Nat.add 3 k)) = true := by decide +kernel
end Go.Proofs.YtcecklededfccaaGreatDoor.genShows
