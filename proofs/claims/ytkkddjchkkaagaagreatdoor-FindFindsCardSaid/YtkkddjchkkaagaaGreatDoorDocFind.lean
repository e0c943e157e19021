/- Find: the steps of the run of the document that finds. -/
import Derived.Test.YtkkddjchkkaagaaGreatDoorFailsRows
import Derived.Test.YtkkddjchkkaagaaGreatDoorRefArena
import Derived.Test.YtkkddjchkkaagaaGreatDoorControl
namespace Go.Proofs.YtkkddjchkkaagaaGreatDoor
open Go Go.Hx
set_option maxRecDepth 8000
section
variable {T : Nat} {R : Int} {start : Nat} {W : List Int} {st kd wd vl : Int} {ch : Bool} {key seq : Int} {i : Nat} {fd pl ep : Int} {lg : Bool} {er tm dp de : Int}
end
end Go.Proofs.YtkkddjchkkaagaaGreatDoor
