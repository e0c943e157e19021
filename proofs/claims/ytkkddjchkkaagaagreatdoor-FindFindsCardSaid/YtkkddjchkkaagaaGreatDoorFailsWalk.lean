/- FindFails: an attempt fails only if the number is odd, or was changed: a run is done with ErrRetry only if that was so as often as there are attempts. -/
import Derived.Test.YtkkddjchkkaagaaGreatDoorFailsSteps
import Derived.Test.YtkkddjchkkaagaaGreatDoorPlTurns
import Derived.Test.YtkkddjchkkaagaaGreatDoorRefArena
import Derived.Test.YtkkddjchkkaagaaGreatDoorMakeWords
namespace Go.Proofs.YtkkddjchkkaagaaGreatDoor
open Go Go.Hx
set_option maxRecDepth 8000
section
variable {T : Nat} {R : Int} {N cap : Nat} {key : Int} {o : Nat → Int × Int × Int × Bool} {x : XS} {ρ : Nat → Nat × Nat} {w : World} {I : Act → World → Prop}
end
theorem arLen_fn {W : List Int} {st kd wd vl : Int} {ch : Bool} : Gives Tryz.prog 33 [.ptr 0 0] [AOx 1 W st kd wd vl ch, WO W] (Is (.int .i64 (W.length : Int)) [AOx 1 W st kd wd vl ch, WO W]) := by
  refine gives_x hXR (fn := Tryz.f33) rfl rfl rfl rfl fun ρ w => ?_
  refine sx hXR [] 4000 rfl (by (simp [-List.getD_eq_getElem?_getD, -List.length_eq_zero_iff, conjP])) ?_
  (exact ss_end hXR [0, 1] rfl rfl trivial rfl rfl rfl rfl (by (repeat' (first | exact rfl | exact trivial | exact sim_refl _ | refine And.intro ?_ ?_))) (by (repeat' (first | exact rfl | exact trivial | exact sim_refl _ | refine And.intro ?_ ?_))) (by (repeat' (first | exact rfl | exact trivial | exact sim_refl _ | refine And.intro ?_ ?_))) (by (repeat' (first | exact rfl | exact trivial | exact sim_refl _ | refine And.intro ?_ ?_))))
def arLenS : Hx.Spec := fun args H => match args with
  | [.ptr h 0] => match arP H h with
    | some (hw, ⟨W, st, kd, wd, vl, ch⟩, ob) => some (ob, .int .i64 (W.length : Int), (H.set h (AOx hw W st kd wd vl ch)).set hw (WO W))
    | none => none
  | _ => none
theorem arLenS_ok {args : List SV} {H : List HE} {ob : List Prop} {V : SV} {L : List HE} (hs : arLenS args H = some (ob, V, L)) (ho : AllP ob) : Gives Tryz.prog 33 args H (Is V L) := by
  unfold arLenS at hs
  split at hs
  · rename_i _ h
    split at hs
    · rename_i _ hw W st kd wd vl ch ob' hp
      simp only [Option.some.injEq, Prod.mk.injEq] at hs
      obtain ⟨rfl, rfl, rfl⟩ := hs
      obtain ⟨_, g1, g2, g3⟩ := arP_ok hp ho
      exact frame2n (H := H) (h0 := h) (h1 := hw) ⟨_, hTE⟩ arLen_fn rfl rfl rfl g3 g1 g2 rfl rfl rfl
    · simp at hs
  · simp at hs
theorem cfgF_cases (q0 q1 : Int) : ∃ T : Nat, 1 ≤ T ∧ T ≤ 8 ∧ cAnd 7 q0 = (T : Int) ∧ 1 ≤ cAnd 3 q1 ∧ cAnd 3 q1 ≤ 4 := by
  have h7 := cAnd7 q0
  have h3 := cAnd3 q1
  exact ⟨(cAnd 7 q0).toNat, by omega, by omega, by omega, by omega, by omega⟩
end Go.Proofs.YtkkddjchkkaagaaGreatDoor
namespace Go.Proofs.YtkkddjchkkaagaaGreatDoor.findFails
open Go Go.Hx
end Go.Proofs.YtkkddjchkkaagaaGreatDoor.findFails
