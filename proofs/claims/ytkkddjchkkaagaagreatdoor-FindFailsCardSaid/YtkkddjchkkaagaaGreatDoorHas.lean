/- Is a number in a row: a contract. -/
import Derived.Test.YtkkddjchkkaagaaGreatDoorRSize
import Derived.Test.YtkkddjchkkaagaaGreatDoorHyc
namespace Go.Proofs.YtkkddjchkkaagaaGreatDoor
open Go Go.Hx
set_option maxRecDepth 8000
abbrev IB (l : List Int) : HE := .obj (.buf .i64 l 1 3)
end Go.Proofs.YtkkddjchkkaagaaGreatDoor
