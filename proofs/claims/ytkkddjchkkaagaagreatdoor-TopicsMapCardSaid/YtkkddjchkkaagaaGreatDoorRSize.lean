/- The document's size of a config. -/
import Derived.Test.YtkkddjchkkaagaaGreatDoorPlanC
namespace Go.Proofs.YtkkddjchkkaagaaGreatDoor
open Go Go.Hx
set_option maxRecDepth 8000

end Go.Proofs.YtkkddjchkkaagaaGreatDoor
