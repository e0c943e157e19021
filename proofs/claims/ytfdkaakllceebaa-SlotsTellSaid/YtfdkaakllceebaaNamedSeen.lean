/- SlotsNamed: the walk. -/
import Derived.Test.YtfdkaakllceebaaNamedLaid
namespace Go.Proofs.Ytfdkaakllceebaa
open Go Go.Hx
set_option maxRecDepth 8000
/-- The words at the slots are words. -/
def bdN (W : List Int) : Prop := ∀ j, j < 8 → 0 ≤ W.getD (5 + j) 0 ∧ W.getD (5 + j) 0 < 18446744073709551616
def cfg7S : List SV → Option (List Prop × SV)
  | [.int .i64 n] => some ([n = 7], C9 1 4 8 4 4 2 6 2 2)
  | _ => none
theorem cfg7S_ok : PureOk 9 cfg7S := by
  intro args ob V hs ho
  unfold cfg7S at hs
  split at hs
  · simp only [Option.some.injEq, Prod.mk.injEq] at hs
    obtain ⟨rfl, rfl⟩ := hs
    have h := ho _ (List.mem_cons_self ..)
    subst h
    have := config_fn 7
    rw [show cAnd 7 7 = 8 from by decide] at this
    exact ⟨rfl, rfl, this⟩
  · simp at hs
section
variable {ρ : Nat → Nat × Nat} {w : World} {z : List Int}
variable {a x : List Int}
end
end Go.Proofs.Ytfdkaakllceebaa
