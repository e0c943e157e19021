/- FindFails: a turn: up to what it is. -/
import Derived.Test.YtkkddjchkkaagaaGreatDoorFailsWorld
namespace Go.Proofs.YtkkddjchkkaagaaGreatDoor
open Go Go.Hx
set_option maxRecDepth 8000
section
variable {T : Nat} {R : Int} {N cap : Nat} {key : Int} {o : Nat → Int × Int × Int × Bool} {x : XS} {ρ : Nat → Nat × Nat} {w : World} {I : Act → World → Prop}
end
end Go.Proofs.YtkkddjchkkaagaaGreatDoor

/- FindFails: a turn that lays something, or looks. -/
namespace Go.Proofs.YtkkddjchkkaagaaGreatDoor
open Go Go.Hx
set_option maxRecDepth 8000
section
variable {T : Nat} {R : Int} {N cap : Nat} {key : Int} {o : Nat → Int × Int × Int × Bool} {x : XS} {ρ : Nat → Nat × Nat} {w : World} {I : Act → World → Prop}
end
end Go.Proofs.YtkkddjchkkaagaaGreatDoor
