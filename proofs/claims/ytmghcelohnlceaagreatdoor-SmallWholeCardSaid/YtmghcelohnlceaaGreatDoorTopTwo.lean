/- cause.Top, where the laid variable is the second thing; a script that is there, or not. -/
import Derived.Test.YtmghcelohnlceaaGreatDoorFailsLaw
namespace Go.Proofs.YtmghcelohnlceaaGreatDoor
open Go Go.Hx
set_option maxRecDepth 8000
/-- cause.Top, where the laid variable is the second thing. -/
def top1S : Hx.Spec := fun args H => match args with
  | [.niliface] => some ([], .int .i64 0, H)
  | [.iface 55 (.int .i64 n)] => match H with
    | _ :: .obj (.pin 0 v) :: _ => some ([v = RTV], .int .i64 n, H)
    | _ => none
  | _ => none
theorem top1S_ok {args : List SV} {H : List HE} {ob : List Prop} {V : SV} {L : List HE} (hs : top1S args H = some (ob, V, L)) (ho : AllP ob) : Gives Tryz.prog 17 args H (Is V L) := by
  unfold top1S at hs
  split at hs
  · exact topS_ok (by unfold topS; exact hs) ho
  · rename_i _ n
    split at hs
    · rename_i _ e v r
      simp only [Option.some.injEq, Prod.mk.injEq] at hs
      obtain ⟨rfl, rfl, rfl⟩ := hs
      have hv := ho _ (List.mem_cons_self ..)
      subst hv
      have := frame1 (H := e :: pinE RTV :: r) (h0 := 1) (N := []) ⟨_, hTE⟩ (top_code n) rfl rfl rfl rfl rfl
      simp only [List.map_nil, List.append_nil, SO.ren] at this
      exact this
    · simp at hs
  · simp at hs
/-- The script's actions; or there are none. -/
def scE (bb : Bool) (N : Nat) (o : Nat → Int × Int) : HE := bif bb then .obj (.rows N 2 (actR o)) else .absent
theorem ren_scE {bb : Bool} {N : Nat} {o : Nat → Int × Int} {σ : Nat → Nat} : (scE bb N o).ren σ = scE bb N o := by cases bb <;> rfl
theorem okE_scE {bb : Bool} {N : Nat} {o : Nat → Int × Int} {A : Nat → Bool} : okE A (scE bb N o) := by cases bb <;> trivial
/-- A list of numbers: as it was made, or grown. -/
def mnV (b : Bool) (h : Nat) (m : List Int) : SV := bif b then .sbuf h 1 0 m.length else .slice h 0 1 1
def mnE (b : Bool) (m : List Int) : HE := bif b then .obj (.buf .i64 m 1 3) else .obj (.ints .i64 m 3)
theorem ren_mnE {b : Bool} {m : List Int} {σ : Nat → Nat} : (mnE b m).ren σ = mnE b m := by cases b <;> rfl
theorem sim_mnV {b : Bool} {m : List Int} {σ : Nat → Nat} {h h' : Nat} (hs : σ h = h') : sim (mnV b h' m) ((mnV b h m).ren σ) := by subst hs; cases b <;> exact sim_refl _
theorem okE_mnE {b : Bool} {m : List Int} {A : Nat → Bool} : okE A (mnE b m) := by cases b <;> trivial
theorem okP_mnV {H' : List HE} {b : Bool} {m : List Int} {h : Nat} (e : thereF H' h = (mnE b m).there) : okP (thereF H') (mnV b h m) := by cases b <;> simpa [mnV, okP, mnE, HE.there] using e
/-- Closes what is so of a heap in another's names. -/
theorem clhA {P : Prop} (h : P := by repeat' (first | exact rfl | exact trivial | exact sim_refl _ | exact simO_refl _ | exact subE_same rfl ren_scE | exact subE_same rfl ren_mnE | exact sim_mnV rfl | exact subE_same rfl ren_wlE | exact subE_same rfl ren_rlE | exact subE_same rfl ren_bwE | exact subE_wrE rfl rfl | exact subE_rdE rfl rfl | exact sim_wrP rfl | exact sim_rdP rfl | exact sim_bsV rfl | assumption | refine And.intro ?_ ?_)) : P := h
theorem clkA {P : Prop} (h : P := by repeat' (first | exact rfl | exact trivial | exact okE_scE | exact okE_mnE | exact okE_wlE | exact okE_rlE | exact okE_bwE | exact okE_wrE rfl | exact okE_rdE rfl | exact okP_wrP (i := 13) rfl | exact okP_wrP (i := 15) rfl | exact okP_rdP (i := 17) rfl | exact okP_rdP (i := 19) rfl | exact okP_bsV rfl | exact okP_mnV rfl | refine And.intro ?_ ?_)) : P := h
end Go.Proofs.YtmghcelohnlceaaGreatDoor
