/- SlotsNamed: whole. -/
import Derived.Test.YtfdkaakllceebaaNamedLay
namespace Go.Proofs.Ytfdkaakllceebaa
open Go Go.Hx
set_option maxRecDepth 8000
section
variable {ρ : Nat → Nat × Nat} {w : World} {z W : List Int} {cap : Nat} {I : Act → World → Prop}
end
theorem nm_nil {W : List Int} (hl : 13 ≤ W.length) (h0 : ∀ j, j < 8 → W.getD (5 + j) 0 = 0) : nmV W = [] := by
  apply List.eq_nil_iff_forall_not_mem.2
  intro x hx
  have := (named_mem (z := []) (n := 0) hl h0 (Nat.zero_le _)).1 hx
  cases this
namespace slotsNamed
end slotsNamed
end Go.Proofs.Ytfdkaakllceebaa
