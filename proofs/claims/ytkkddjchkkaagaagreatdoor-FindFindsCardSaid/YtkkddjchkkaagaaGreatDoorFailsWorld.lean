/- FindFails: the world of a turn, and what is so. -/
import Derived.Test.YtkkddjchkkaagaaGreatDoorFailsLaw
import Derived.Test.YtkkddjchkkaagaaGreatDoorArenaSteps
namespace Go.Proofs.YtkkddjchkkaagaaGreatDoor
open Go Go.Hx
set_option maxRecDepth 8000
structure Fq where
  (W : List Int) (st kd wd vl : Int) (ch : Bool) (f : FS) (l : LS) (n0 n1 : Int)
section
variable {σ : Nat → Nat} {H H' : List HE} {h g i : Nat} {T R : Int} {s : FS} {l : LS}
theorem subE_fnC (hg : H[σ i]? = some (.obj (fnC T R h s))) (hs : σ i = h) : subE σ H i (.obj (fnC T R i s)) := by
  subst hs
  simp only [subE, getH_some.2 hg, simG, ren_fnC]
  exact simO_refl _
theorem subE_lsC {a b a' b' : Nat} (hg : H[σ i]? = some (.obj (lsC T R a' b' l))) (hs : σ a = a' ∧ σ b = b') : subE σ H i (.obj (lsC T R a b l)) := by
  obtain ⟨rfl, rfl⟩ := hs
  simp only [subE, getH_some.2 hg, simG, ren_lsC]
  exact simO_refl _
theorem subE_lsC0 {a b a' b' : Nat} (ht : l.told = none) (hg : H[σ i]? = some (.obj (lsC T R a' b' l))) (hs : σ a = a') : subE σ H i (.obj (lsC T R a b l)) := by
  obtain rfl := hs
  simp only [subE, getH_some.2 hg, simG, ren_lsC]
  have e : lsC T R (σ a) b' l = lsC T R (σ a) (σ b) l := by unfold lsC; rw [ht]; rfl
  rw [e]
  exact simO_refl _
theorem okP_fnx {A : Nat → Bool} {ph a : Nat} (h : A a = true) : okP A (fnx ph a) := by unfold fnx; split <;> first | exact trivial | exact ⟨⟨h, trivial⟩, trivial⟩
theorem okP_lnx {A : Nat → Bool} {ph a : Nat} (h : A a = true) : okP A (lnx ph a) := by unfold lnx; split <;> first | exact trivial | exact ⟨⟨h, trivial⟩, trivial⟩
theorem okE_fnC {A : Nat → Bool} {a : Nat} (h : A a = true) : okE A (.obj (fnC T R a s)) := by
  show okPs A _
  repeat' (first | exact okP_fnx h | exact okP_erV | exact ⟨⟨h, trivial⟩, trivial⟩ | exact trivial | refine And.intro ?_ ?_)
theorem okP_slF {A : Nat → Bool} {o : Option (List Int)} {b : Nat} {k : IntKind} {ty : TypeId} (e : A b = (slE o k ty).there) : okP A (slV o b) := by
  cases o with
  | none => trivial
  | some l => simpa [slV, okP, slE, HE.there] using e
theorem okE_lsC {A : Nat → Bool} {a b : Nat} (h : A a = true) (h2 : A b = (slE l.told .i64 3).there) : okE A (.obj (lsC T R a b l)) := by
  show okPs A _
  repeat' (first | exact okP_lnx h | exact okP_erV | exact okP_slF h2 | exact ⟨⟨h, trivial⟩, trivial⟩ | exact trivial | refine And.intro ?_ ?_)
end
structure XS where
  (i : Nat) (z : Fq) (sq : Int)
section
end
def f00 : FS := ⟨1, 1, 0, 0, 0, 0, 0, false, 0, 0⟩
def l00 : LS := ⟨1, 0, 0, 0, none, 0, 0⟩
end Go.Proofs.YtkkddjchkkaagaaGreatDoor
