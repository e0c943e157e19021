/- SlotsNamed: the words are laid. -/
import Derived.Test.YtfdkaakllceebaaNamedSeen
namespace Go.Proofs.Ytfdkaakllceebaa
open Go Go.Hx
set_option maxRecDepth 8000
theorem take1 {x : Int} : List.take (mulS 1 1) (List.drop 0 [x]) = [x] := rfl
theorem clhT {P : Prop} (h : P := by repeat' (first | exact rfl | exact trivial | exact sim_refl _ | exact simO_refl _ | exact sim_slVr rfl | exact subE_same rfl ren_slE | exact len_setN | exact lenA | assumption | refine And.intro ?_ ?_)) : P := h
section
variable {ρ : Nat → Nat × Nat} {w : World} {z W : List Int} {cap : Nat} {I : Act → World → Prop}
end
end Go.Proofs.Ytfdkaakllceebaa
