/- Runs that are done, or are none: their steps, as rows; who holds, as a row. -/
import Derived.Test.YtmghcelohnlceaaGreatDoorAloneHold
namespace Go.Proofs.YtmghcelohnlceaaGreatDoor
open Go Go.Hx
set_option maxRecDepth 8000
set_option linter.unusedVariables false
def ctSu : Nat → Option Hx.Spec
  | _ => none
theorem ctSu_ok : ∀ f s args H ob V L, ctSu f = some s → s args H = some (ob, V, L) → AllP ob → Gives Tryz.prog f args H (Is V L) := by
  intro f s args H ob V L h hs ho
  unfold ctSu at h
  split at h
  · simp at h
noncomputable def XSu : Tabs := tabs tr ft xt (fun _ => none) ctSu 20
theorem hXSu : TOk Tryz.prog (XSu) := ⟨hTE, hFT, ctSu_ok, hXT, fun t ks h => by simp [XSu, tabs] at h, mixed⟩
section
variable {R ep sn fl cm tm i c : Int} {n : Nat} {hd : Bool}
end
section
variable {R : Int} {s : WS}
end
end Go.Proofs.YtmghcelohnlceaaGreatDoor
