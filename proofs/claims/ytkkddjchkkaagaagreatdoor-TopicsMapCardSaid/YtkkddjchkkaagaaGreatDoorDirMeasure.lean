/- The directory: how long a run may take alone. -/
import Derived.Test.YtkkddjchkkaagaaGreatDoorDirKeep
namespace Go.Proofs.YtkkddjchkkaagaaGreatDoor
open Go Go.Hx
set_option maxRecDepth 8000
section
variable {T : Nat} {R st : Int} {start : Nat} {s : TS} {W : List Int}
end
end Go.Proofs.YtkkddjchkkaagaaGreatDoor
