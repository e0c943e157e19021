/- FindPlays: the law: the document's runs tell what the program's tell. -/
import Derived.Test.YtkkddjchkkaagaaGreatDoorDocList
namespace Go.Proofs.YtkkddjchkkaagaaGreatDoor
open Go Go.Hx
set_option maxRecDepth 8000
/-! A list in order. -/
section
variable {T : Nat} {R : Int} {start : Nat} {W : List Int} {st : Int}
/-! Of the run that finds. -/
end
end Go.Proofs.YtkkddjchkkaagaaGreatDoor

/- FindPlays: two lists compared. -/
namespace Go.Proofs.YtkkddjchkkaagaaGreatDoor
open Go Go.Hx
set_option maxRecDepth 8000
end Go.Proofs.YtkkddjchkkaagaaGreatDoor
