/- cause.Top, where the laid variable is the second thing; a script that is there, or not. -/
import Derived.Test.YtmghcelohnlceaaGreatDoorFailsLaw
namespace Go.Proofs.YtmghcelohnlceaaGreatDoor
open Go Go.Hx
set_option maxRecDepth 8000
/-- cause.Top, where the laid variable is the second thing. -/
def top1S : Hx.Spec := fun args H => match args with
  | [.niliface] => some ([], .int .i64 0, H)
  | [.iface 55 (.int .i64 n)] => match H with
    | _ :: .obj (.pin 0 v) :: _ => some ([v = RTV], .int .i64 n, H)
    | _ => none
  | _ => none
theorem top1S_ok {args : List SV} {H : List HE} {ob : List Prop} {V : SV} {L : List HE} (hs : top1S args H = some (ob, V, L)) (ho : AllP ob) : Gives Tryz.prog 17 args H (Is V L) := by
  unfold top1S at hs
  split at hs
  · exact topS_ok (by unfold topS; exact hs) ho
  · rename_i _ n
    split at hs
    · rename_i _ e v r
      simp only [Option.some.injEq, Prod.mk.injEq] at hs
      obtain ⟨rfl, rfl, rfl⟩ := hs
      have hv := ho _ (List.mem_cons_self ..)
      subst hv
      have := frame1 (H := e :: pinE RTV :: r) (h0 := 1) (N := []) ⟨_, hTE⟩ (top_code n) rfl rfl rfl rfl rfl
      simp only [List.map_nil, List.append_nil, SO.ren] at this
      exact this
    · simp at hs
  · simp at hs
/-- The script's actions; or there are none. -/
def scE (bb : Bool) (N : Nat) (o : Nat → Int × Int) : HE := bif bb then .obj (.rows N 2 (actR o)) else .absent
theorem ren_scE {bb : Bool} {N : Nat} {o : Nat → Int × Int} {σ : Nat → Nat} : (scE bb N o).ren σ = scE bb N o := by cases bb <;> rfl
theorem okE_scE {bb : Bool} {N : Nat} {o : Nat → Int × Int} {A : Nat → Bool} : okE A (scE bb N o) := by cases bb <;> trivial
end Go.Proofs.YtmghcelohnlceaaGreatDoor
