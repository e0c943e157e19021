/- Is a number in a row: a contract. -/
import Derived.Test.YtkkddjchkkaagaaGreatDoorRSize
import Derived.Test.YtkkddjchkkaagaaGreatDoorHyc
namespace Go.Proofs.YtkkddjchkkaagaaGreatDoor
open Go Go.Hx
set_option maxRecDepth 8000
abbrev IB (l : List Int) : HE := .obj (.buf .i64 l 1 3)
theorem set_self {H : List HE} {h : Nat} {o : SO} (hg : getH H h = some o) : H.set h (.obj o) = H := by
  have := getH_some.1 hg
  apply List.ext_getElem?
  intro i
  rw [List.getElem?_set]
  split
  · rename_i e; subst e
    have hl : h < H.length := by
      rcases Nat.lt_or_ge h H.length with h1 | h1
      · exact h1
      · rw [List.getElem?_eq_none h1] at this; simp at this
    rw [List.getElem?_eq_getElem hl] at this ⊢
    rw [if_pos hl, Option.some.inj this]
  · rfl
end Go.Proofs.YtkkddjchkkaagaaGreatDoor
