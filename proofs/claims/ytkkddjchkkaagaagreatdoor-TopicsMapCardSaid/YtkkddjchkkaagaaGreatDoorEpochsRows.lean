/- TopicsEpochs: rows: a run is made; a run that is done does nothing. -/
import Derived.Test.YtkkddjchkkaagaaGreatDoorWorld
namespace Go.Proofs.YtkkddjchkkaagaaGreatDoor
open Go Go.Hx
set_option maxRecDepth 8000
section
variable {T : Nat} {R : Int} {key : Int}

theorem clZ {P : Prop} (h : P := by repeat' (first | exact rfl | exact trivial | exact sim_refl _ | exact sim_erV | exact okP_erV | exact sim_hlV rfl | exact okP_hlV rfl | refine And.intro ?_ ?_)) : P := h
end
end Go.Proofs.YtkkddjchkkaagaaGreatDoor
