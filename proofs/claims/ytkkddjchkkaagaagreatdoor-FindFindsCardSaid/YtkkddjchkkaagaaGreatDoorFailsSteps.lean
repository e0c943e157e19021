/- FindFails: the run that finds does a step. -/
import Derived.Test.YtkkddjchkkaagaaGreatDoorPlTurns
namespace Go.Proofs.YtkkddjchkkaagaaGreatDoor
open Go Go.Hx
set_option maxRecDepth 8000
theorem gw0 {a b : Int} : [a, b].getD 0 0 = a := rfl
theorem gw1 {a b : Int} : [a, b].getD 1 0 = b := rfl
theorem fc_new {T : Nat} {R key : Int} (k1 : 1 ≤ key) (k2 : key ≤ 2147483647) (r1 : 1 ≤ R) : FC T R ⟨key, 1, 0, 0, 0, 0, 0, false, 0, 0⟩ :=
  ⟨k1, k2, Nat.le_refl 1, (by omega : 1 ≤ 4), Int.le_refl 0, (by omega : (0 : Int) < R), fun q => absurd q (show ¬ (1 : Nat) = 2 by decide), fun q => absurd q (show ¬ (1 : Nat) = 3 by decide)⟩
section
variable {T : Nat} {R : Int} {N cap : Nat} {key : Int} {o : Nat → Int × Int × Int × Bool} {x : XS} {ρ : Nat → Nat × Nat} {w : World} {I : Act → World → Prop}
end
end Go.Proofs.YtkkddjchkkaagaaGreatDoor

/- FindFails: the run that lists does a step. -/
namespace Go.Proofs.YtkkddjchkkaagaaGreatDoor
open Go Go.Hx
set_option maxRecDepth 8000
theorem lt_mv {T : Nat} {R st : Int} {s : LS} {W : List Int} {r : LR} (hr : lStep T R s W st = r) : (mvB s W = true → ∃ l, r.s.told = some l) ∧ (mvB s W = false → r.s.told = none ∨ r.s.told = s.told) ∧ (r.s.ph = 0 → mvB s W = false) := by
  subst hr
  unfold lStep mvB
  by_cases e1 : s.ph = 1
  · rw [if_pos e1]
    have e2 : decide (s.ph = 2) = false := decide_eq_false (by omega)
    rw [e2]
    refine ⟨fun q => by simp at q, fun _ => ?_, fun _ => rfl⟩
    dsimp only
    unfold lFail
    split
    · split <;> exact .inl rfl
    · exact .inl rfl
  · rw [if_neg e1]
    by_cases e2 : s.ph = 2
    · rw [if_pos e2, decide_eq_true e2]
      refine ⟨fun q => ?_, fun q => ?_, fun q => ?_⟩
      · simp only [Bool.true_and] at q
        simp only [q, if_true]
        exact ⟨_, rfl⟩
      · simp only [Bool.true_and] at q
        dsimp only
        rw [if_neg (by rw [q]; decide)]
        exact .inr rfl
      · dsimp only at q
        split at q <;> omega
    · rw [if_neg e2]
      have e3 : decide (s.ph = 2) = false := decide_eq_false e2
      rw [e3]
      refine ⟨fun q => by simp at q, fun _ => ?_, fun _ => rfl⟩
      dsimp only
      unfold lFail
      split
      · exact .inr rfl
      · split <;> exact .inl rfl
section
variable {T : Nat} {R : Int} {N cap : Nat} {key : Int} {o : Nat → Int × Int × Int × Bool} {x : XS} {ρ : Nat → Nat × Nat} {w : World} {I : Act → World → Prop}
end
end Go.Proofs.YtkkddjchkkaagaaGreatDoor
