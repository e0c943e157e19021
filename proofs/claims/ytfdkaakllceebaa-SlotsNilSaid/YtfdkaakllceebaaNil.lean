/- Sn1: a text of this seat. -/
import Derived.Test.YtfdkaakllceebaaPlanZ
import Derived.Test.YtfdkaakllceebaaCfgL
namespace Go.Proofs.Ytfdkaakllceebaa
open Go Go.Hx
set_option maxRecDepth 8000

theorem awake_fn : Gives Try.prog 10 [] [] (Is .tt []) := by
  refine gives_x hXR (fn := Try.f10) rfl rfl rfl rfl fun ρ w => ?_
  refine sx hXR (List.replicate 100 .C) 2000 rfl (by simp [conjP, IntKind.wrap_i64]) ?_
  exact ss_end hXR [] rfl rfl trivial rfl rfl rfl rfl (by repeat' (first | exact rfl | exact trivial | exact sim_refl _ | refine And.intro ?_ ?_)) trivial (by repeat' (first | exact rfl | exact trivial | exact sim_refl _ | refine And.intro ?_ ?_)) trivial
def ttS : List SV → Option (List Prop × SV)
  | [] => some ([], .tt)
  | _ => none
theorem ttS_ok {f : Nat} (h : Gives Try.prog f [] [] (Is .tt [])) : PureOk f ttS := by
  intro args ob V hs _
  unfold ttS at hs
  split at hs
  · simp at hs; obtain ⟨rfl, rfl⟩ := hs; exact ⟨rfl, rfl, h⟩
  · simp at hs
def ctN : Nat → Option Hx.Spec
  | 42 => none
  | 10 => some (pureS ttS)
  | f => ctR f
theorem ctN_ok : ∀ f s args H ob V L, ctN f = some s → s args H = some (ob, V, L) → AllP ob → Gives Try.prog f args H (Is V L) := by
  intro f s args H ob V L h hs ho
  unfold ctN at h
  split at h
  · simp at h
  · simp at h; subst h; exact pureS_ok ⟨_, hTE⟩ (ttS_ok awake_fn) hs ho
  · exact ctR_ok f s args H ob V L h hs ho
noncomputable def XN : Tabs := tabs tr ft xt (fun _ => none) ctN 20
theorem hXN : TOk Try.prog XN := ⟨hTE, hFT, ctN_ok, hXT, fun t ks h => by simp [XN, tabs] at h, mixed⟩

theorem slots_right (n : Int) : rightB 1 4 (cAnd 7 n) 4 4 2 6 2 2 = true := by
  have := cAnd7 n
  exact right_iff.2 (by omega)

set_option maxHeartbeats 4000000 in
theorem slotsNil_fn (n c s : Int) : Gives Try.prog 3 [.int .i64 n, .int .i64 c, .int .i64 s] [] (Is .tt []) := by
  have hr := slots_right n
  have hn := cAnd7 n
  unfold cAnd at hr hn
  refine gives_x hXN (fn := Try.f3) rfl rfl rfl rfl fun ρ w => ?_
  have e0 : rightB 0 0 0 0 0 0 0 0 0 = false := by decide
  by_cases c1 : c < 0
  · by_cases s1 : s < 0
    · refine sx hXN [.C, .F, .T, .F, .C, .F, .T, .C, .F, .C, .T, .C, .T, .C] 2000 rfl (by simp [conjP, getH, hr, e0]; omega) ?_
      exact ss_end hXN [] rfl rfl trivial rfl rfl rfl rfl (by repeat' (first | exact rfl | exact trivial | exact sim_refl _ | refine And.intro ?_ ?_)) trivial (by repeat' (first | exact rfl | exact trivial | exact sim_refl _ | refine And.intro ?_ ?_)) trivial
    · by_cases s2 : IntKind.i64.wrap (1 + ibits .and .i64 n 7) ≤ s
      · refine sx hXN [.C, .F, .T, .F, .C, .F, .F, .T, .C, .T, .T, .T, .C, .T, .C] 2000 rfl (by simp [conjP, getH, hr, e0]; omega) ?_
        exact ss_end hXN [] rfl rfl trivial rfl rfl rfl rfl (by repeat' (first | exact rfl | exact trivial | exact sim_refl _ | refine And.intro ?_ ?_)) trivial (by repeat' (first | exact rfl | exact trivial | exact sim_refl _ | refine And.intro ?_ ?_)) trivial
      · have e5 : IntKind.i64.wrap (5 + s) = 5 + s := wi64 (by omega) (by omega)
        refine sx hXN [.C, .F, .T, .F, .C, .F, .F, .F, .F, .T, .T, .T, .C, .T, .C] 2000 rfl (by simp [conjP, getH, hr, e0, e5]; omega) ?_
        exact ss_end hXN [] rfl rfl trivial rfl rfl rfl rfl (by repeat' (first | exact rfl | exact trivial | exact sim_refl _ | refine And.intro ?_ ?_)) trivial (by repeat' (first | exact rfl | exact trivial | exact sim_refl _ | refine And.intro ?_ ?_)) trivial
  · by_cases c2 : 4 ≤ c
    · by_cases s1 : s < 0
      · refine sx hXN [.C, .F, .F, .T, .T, .T, .F, .T, .C, .F, .C, .T, .C, .T, .C] 2000 rfl (by simp [conjP, getH, hr, e0]; omega) ?_
        exact ss_end hXN [] rfl rfl trivial rfl rfl rfl rfl (by repeat' (first | exact rfl | exact trivial | exact sim_refl _ | refine And.intro ?_ ?_)) trivial (by repeat' (first | exact rfl | exact trivial | exact sim_refl _ | refine And.intro ?_ ?_)) trivial
      · by_cases s2 : IntKind.i64.wrap (1 + ibits .and .i64 n 7) ≤ s
        · refine sx hXN [.C, .F, .F, .T, .T, .T, .F, .F, .T, .C, .T, .T, .T, .C, .T, .C] 2000 rfl (by simp [conjP, getH, hr, e0]; omega) ?_
          exact ss_end hXN [] rfl rfl trivial rfl rfl rfl rfl (by repeat' (first | exact rfl | exact trivial | exact sim_refl _ | refine And.intro ?_ ?_)) trivial (by repeat' (first | exact rfl | exact trivial | exact sim_refl _ | refine And.intro ?_ ?_)) trivial
        · have e5 : IntKind.i64.wrap (5 + s) = 5 + s := wi64 (by omega) (by omega)
          refine sx hXN [.C, .F, .F, .T, .T, .T, .F, .F, .F, .F, .T, .T, .T, .C, .T, .C] 2000 rfl (by simp [conjP, getH, hr, e0, e5]; omega) ?_
          exact ss_end hXN [] rfl rfl trivial rfl rfl rfl rfl (by repeat' (first | exact rfl | exact trivial | exact sim_refl _ | refine And.intro ?_ ?_)) trivial (by repeat' (first | exact rfl | exact trivial | exact sim_refl _ | refine And.intro ?_ ?_)) trivial
    · by_cases s1 : s < 0
      · refine sx hXN [.C, .F, .F, .F, .T, .T, .F, .T, .C, .F, .C, .T, .C, .T, .C] 2000 rfl (by simp [conjP, getH, hr, e0]; omega) ?_
        exact ss_end hXN [] rfl rfl trivial rfl rfl rfl rfl (by repeat' (first | exact rfl | exact trivial | exact sim_refl _ | refine And.intro ?_ ?_)) trivial (by repeat' (first | exact rfl | exact trivial | exact sim_refl _ | refine And.intro ?_ ?_)) trivial
      · by_cases s2 : IntKind.i64.wrap (1 + ibits .and .i64 n 7) ≤ s
        · refine sx hXN [.C, .F, .F, .F, .T, .T, .F, .F, .T, .C, .T, .T, .T, .C, .T, .C] 2000 rfl (by simp [conjP, getH, hr, e0]; omega) ?_
          exact ss_end hXN [] rfl rfl trivial rfl rfl rfl rfl (by repeat' (first | exact rfl | exact trivial | exact sim_refl _ | refine And.intro ?_ ?_)) trivial (by repeat' (first | exact rfl | exact trivial | exact sim_refl _ | refine And.intro ?_ ?_)) trivial
        · have e5 : IntKind.i64.wrap (5 + s) = 5 + s := wi64 (by omega) (by omega)
          refine sx hXN [.C, .F, .F, .F, .T, .T, .F, .F, .F, .F, .T, .T, .T, .C, .T, .C] 2000 rfl (by simp [conjP, getH, hr, e0, e5]; omega) ?_
          exact ss_end hXN [] rfl rfl trivial rfl rfl rfl rfl (by repeat' (first | exact rfl | exact trivial | exact sim_refl _ | refine And.intro ?_ ?_)) trivial (by repeat' (first | exact rfl | exact trivial | exact sim_refl _ | refine And.intro ?_ ?_)) trivial
end Go.Proofs.Ytfdkaakllceebaa
