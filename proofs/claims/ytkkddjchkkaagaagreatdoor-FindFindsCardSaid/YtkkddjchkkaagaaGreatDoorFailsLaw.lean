/- FindFails: the law: an attempt fails only if the number is odd, or was changed. -/
import Derived.Test.YtkkddjchkkaagaaGreatDoorFailsRows
namespace Go.Proofs.YtkkddjchkkaagaaGreatDoor
open Go Go.Hx
set_option maxRecDepth 8000
section
variable {T start : Nat} {R st n w2 : Int} {W : List Int}
end
end Go.Proofs.YtkkddjchkkaagaaGreatDoor
