/- The directory: a run that nobody disturbs, from its beginning to its end. -/
import Derived.Test.YtkkddjchkkaagaaGreatDoorThreeLaw
namespace Go.Proofs.YtkkddjchkkaagaaGreatDoor
open Go Go.Hx
set_option maxRecDepth 8000
section
variable {T : Nat} {R n st : Int} {W0 : List Int} {s : TS} {W : List Int}
theorem e2_ne {q : Nat} : cP T q ≠ 2 := by unfold cP; omega
theorem get2e {W : List Int} {v : Int} {p : Nat} : (W.set 2 v).getD (eP p) 0 = W.getD (eP p) 0 := by rw [set_getD, if_neg (fun g => eP_2 g.1.symm)]
theorem get2c {W : List Int} {v : Int} {p : Nat} : (W.set 2 v).getD (cP T p) 0 = W.getD (cP T p) 0 := by rw [set_getD, if_neg (fun g => e2_ne g.1.symm)]
end
end Go.Proofs.YtkkddjchkkaagaaGreatDoor
