/- What the document's arena of a config is made as. -/
import Derived.Test.YtkkddjchkkaagaaGreatDoorMakeTwo
import Derived.Test.YtkkddjchkkaagaaGreatDoorHyc
namespace Go.Proofs.YtkkddjchkkaagaaGreatDoor
open Go Go.Hx
set_option maxRecDepth 8000





section
variable {a0 a1 a2 a3 a4 a5 a6 a7 a8 : Int}
end
end Go.Proofs.YtkkddjchkkaagaaGreatDoor
