/- Find: the steps of the run of the document that lists. -/
import Derived.Test.YtkkddjchkkaagaaGreatDoorDocFind
import Derived.Test.YtkkddjchkkaagaaGreatDoorHyc

namespace Go.Proofs.YtkkddjchkkaagaaGreatDoor
open Go Go.Hx
set_option maxRecDepth 8000
section
variable {T : Nat} {R : Int} {W : List Int} {st kd wd vl : Int} {ch : Bool} {seq : Int} {i : Nat} {fd er tm de : Int} {told : Option (List Int)} {ρ : Nat → Nat × Nat} {w : World}

end
end Go.Proofs.YtkkddjchkkaagaaGreatDoor

/- Find: the steps of the run of the document that lists, as contracts. -/

namespace Go.Proofs.YtkkddjchkkaagaaGreatDoor
open Go Go.Hx
set_option maxRecDepth 8000
section
variable {T : Nat} {R : Int} {W : List Int} {st kd wd vl : Int} {ch : Bool} {seq : Int} {i : Nat} {fd er tm de : Int} {told : Option (List Int)} {ρ : Nat → Nat × Nat} {w : World}
end
end Go.Proofs.YtkkddjchkkaagaaGreatDoor

/- Find: every step of the document, told by the law; as rows. -/
namespace Go.Proofs.YtkkddjchkkaagaaGreatDoor
open Go Go.Hx
set_option maxRecDepth 8000
section
variable {T : Nat} {R : Int} {start : Nat} {W : List Int} {st kd wd vl : Int} {ch : Bool} {dp de : Int}
end
end Go.Proofs.YtkkddjchkkaagaaGreatDoor
