/- ArenaNil: of no arena nothing comes. -/
import Derived.Test.YticejfomcekolaaDoorLaid
import Derived.Test.YticejfomcekolaaDoorPlanZ
namespace Go.Proofs.YticejfomcekolaaDoor
open Go Go.Hx
set_option maxRecDepth 8000
def ctA0 : Nat → Option Hx.Spec
  | 16 => some (topS)
  | _ => none
theorem ctA0_ok : ∀ f s args H ob V L, ctA0 f = some s → s args H = some (ob, V, L) → AllP ob → Gives Tryd.prog f args H (Is V L) := by
  intro f s args H ob V L h hs ho
  unfold ctA0 at h
  split at h
  · simp at h; subst h; exact topS_ok hs ho
  · simp at h
noncomputable def XA0 : Tabs := tabs tr ft xt (fun _ => none) ctA0 20
theorem hXA0 : TOk Tryd.prog XA0 := ⟨hTE, hFT, ctA0_ok, hXT, fun t ks h => by simp [XA0, tabs] at h, mixed⟩
set_option maxHeartbeats 4000000 in
theorem awake03_fn : Gives Tryd.prog 10 [] [] (Is .tt []) := by
  refine gives_x hXA0 (fn := Tryd.f10) rfl rfl rfl rfl fun ρ w => ?_
  refine sx hXA0 (List.replicate 12 .C) 4000 rfl (by simp [conjP, addOP, getH, HE.so]) ?_
  exact ss_end hXA0 [] rfl rfl trivial rfl rfl rfl rfl (by first | ((repeat' (first | exact rfl | exact trivial | exact sim_refl _ | refine And.intro ?_ ?_)); done) | (simp [tupF, SV.ren, sim, simO0]; done)) (by (repeat' (first | exact rfl | exact trivial | exact sim_refl _ | refine And.intro ?_ ?_))) (by (repeat' (first | exact rfl | exact trivial | exact sim_refl _ | refine And.intro ?_ ?_))) (by (repeat' (first | exact rfl | exact trivial | exact sim_refl _ | refine And.intro ?_ ?_)))
def aw03S : List SV → Option (List Prop × SV)
  | [] => some ([], .tt)
  | _ => none
theorem aw03S_ok : PureOk 10 aw03S := by
  intro args ob V hs ho
  unfold aw03S at hs
  split at hs
  · simp only [Option.some.injEq, Prod.mk.injEq] at hs
    obtain ⟨rfl, rfl⟩ := hs
    exact ⟨rfl, rfl, awake03_fn⟩
  · simp at hs
def ctAn : Nat → Option Hx.Spec
  | 16 => some (topS)
  | 10 => some (pureS aw03S)
  | _ => none
theorem ctAn_ok : ∀ f s args H ob V L, ctAn f = some s → s args H = some (ob, V, L) → AllP ob → Gives Tryd.prog f args H (Is V L) := by
  intro f s args H ob V L h hs ho
  unfold ctAn at h
  split at h
  · simp at h; subst h; exact topS_ok hs ho
  · simp at h; subst h; exact pureS_ok ⟨_, hTE⟩ (aw03S_ok) hs ho
  · simp at h
noncomputable def XAn : Tabs := tabs tr ft xt (fun _ => none) ctAn 20
theorem hXAn : TOk Tryd.prog XAn := ⟨hTE, hFT, ctAn_ok, hXT, fun t ks h => by simp [XAn, tabs] at h, mixed⟩
set_option maxHeartbeats 4000000 in
theorem arenaNil_fn (i v : Int) : Gives Tryd.prog 4 [.int .i64 i, .int .u64 v] [pinE RTV] (Is .tt [pinE RTV]) := by
  refine gives_x hXAn (fn := Tryd.f4) rfl rfl rfl rfl fun ρ w => ?_
  refine sx hXAn [] 4000 rfl (by (simp [-List.getD_eq_getElem?_getD, -List.length_eq_zero_iff, conjP, addOP, getH, HE.so] <;> (first | omega | ((repeat' (refine And.intro ?_ ?_)) <;> (first | omega | exact decide_eq_false (by omega) | exact decide_eq_true (by omega)))))) ?_
  refine sx hXAn [.T] 4000 rfl (by (simp [-List.getD_eq_getElem?_getD, -List.length_eq_zero_iff, conjP, addOP, getH, HE.so] <;> (first | omega | ((repeat' (refine And.intro ?_ ?_)) <;> (first | omega | exact decide_eq_false (by omega) | exact decide_eq_true (by omega)))))) ?_
  refine sx hXAn [.T] 4000 rfl (by (simp [-List.getD_eq_getElem?_getD, -List.length_eq_zero_iff, conjP, addOP, getH, HE.so] <;> (first | omega | ((repeat' (refine And.intro ?_ ?_)) <;> (first | omega | exact decide_eq_false (by omega) | exact decide_eq_true (by omega)))))) ?_
  refine sx hXAn [.T] 4000 rfl (by (simp [-List.getD_eq_getElem?_getD, -List.length_eq_zero_iff, conjP, addOP, getH, HE.so] <;> (first | omega | ((repeat' (refine And.intro ?_ ?_)) <;> (first | omega | exact decide_eq_false (by omega) | exact decide_eq_true (by omega)))))) ?_
  refine sx hXAn [.T] 4000 rfl (by (simp [-List.getD_eq_getElem?_getD, -List.length_eq_zero_iff, conjP, addOP, getH, HE.so] <;> (first | omega | ((repeat' (refine And.intro ?_ ?_)) <;> (first | omega | exact decide_eq_false (by omega) | exact decide_eq_true (by omega)))))) ?_
  refine sx hXAn [.T] 4000 rfl (by (simp [-List.getD_eq_getElem?_getD, -List.length_eq_zero_iff, conjP, addOP, getH, HE.so] <;> (first | omega | ((repeat' (refine And.intro ?_ ?_)) <;> (first | omega | exact decide_eq_false (by omega) | exact decide_eq_true (by omega)))))) ?_
  refine sx hXAn [.F] 4000 rfl (by (simp [-List.getD_eq_getElem?_getD, -List.length_eq_zero_iff, conjP, addOP, getH, HE.so] <;> (first | omega | ((repeat' (refine And.intro ?_ ?_)) <;> (first | omega | exact decide_eq_false (by omega) | exact decide_eq_true (by omega)))))) ?_
  (exact ss_end hXAn [0] rfl rfl trivial rfl rfl rfl rfl (by first | ((repeat' (first | exact rfl | exact trivial | exact sim_refl _ | refine And.intro ?_ ?_)); done) | (simp [tupF, SV.ren, sim, simO0]; done)) (by (repeat' (first | exact rfl | exact trivial | exact sim_refl _ | refine And.intro ?_ ?_))) (by (repeat' (first | exact rfl | exact trivial | exact sim_refl _ | refine And.intro ?_ ?_))) (by (repeat' (first | exact rfl | exact trivial | exact sim_refl _ | refine And.intro ?_ ?_))))
end Go.Proofs.YticejfomcekolaaDoor
namespace Go.Proofs.YticejfomcekolaaDoor.arenaNil
open Go Go.Hx
theorem walk (i : Int) (_ : (Lit.int .i64 i).wf = true) (v : Int) (_ : (Lit.int .u64 v).wf = true) : Gives Tryd.prog 4 [.int .i64 i, .int .u64 v] [pinE RTV] (Is .tt [pinE RTV]) := arenaNil_fn i v
end Go.Proofs.YticejfomcekolaaDoor.arenaNil
