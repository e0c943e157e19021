/- FindFails: a turn: up to what it is. -/
import Derived.Test.YtkkddjchkkaagaaGreatDoorFailsWorld
namespace Go.Proofs.YtkkddjchkkaagaaGreatDoor
open Go Go.Hx
set_option maxRecDepth 8000
theorem fb_set {T : Nat} {R st v : Int} {W : List Int} {k : Nat} (B : FB T R W st) (h : st + 1 < 1000000) (v0 : 0 ≤ v) (v1 : v < 18446744073709551616) : FB T R (W.set k v) (st + 1) :=
  ⟨B.t1, B.t8, B.r1, B.r4, by rw [List.length_set]; exact B.hl, fun j => by
    rw [List.getD_eq_getElem?_getD, List.getElem?_set]
    split
    · split
      · exact ⟨v0, v1⟩
      · simp
    · rw [← List.getD_eq_getElem?_getD]; exact B.hw j, by have := B.s0; omega, h⟩
theorem fb_st {T : Nat} {R st : Int} {W : List Int} (B : FB T R W st) (h : st + 1 < 1000000) : FB T R W (st + 1) := ⟨B.t1, B.t8, B.r1, B.r4, B.hl, B.hw, by have := B.s0; omega, h⟩
section
variable {T : Nat} {R : Int} {N cap : Nat} {key : Int} {o : Nat → Int × Int × Int × Bool} {x : XS} {ρ : Nat → Nat × Nat} {w : World} {I : Act → World → Prop}
end
end Go.Proofs.YtkkddjchkkaagaaGreatDoor
