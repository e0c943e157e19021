/- The directory: what is so, whoever holds it. -/
import Derived.Test.YtkkddjchkkaagaaGreatDoorDirLaw
namespace Go.Proofs.YtkkddjchkkaagaaGreatDoor
open Go Go.Hx
set_option maxRecDepth 8000
theorem gone_fitW {w : Int} : fitC ((epW w + 1) % 32768) 0 0 := ⟨by omega, by omega, by decide, by decide, by decide, by decide⟩
section
variable {T : Nat} {sf : Int → Nat} {R st : Int} {s : TS} {W W' : List Int} {c : Nat → Option TS} {a : Nat} {o : Option TS}
end
end Go.Proofs.YtkkddjchkkaagaaGreatDoor
