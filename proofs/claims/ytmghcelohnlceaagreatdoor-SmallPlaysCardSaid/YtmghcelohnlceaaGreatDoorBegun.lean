/- The world of these laws, as it is made. -/
import Derived.Test.YtmghcelohnlceaaGreatDoorHyc
import Derived.Test.YtmghcelohnlceaaGreatDoorWriteSteps
namespace Go.Proofs.YtmghcelohnlceaaGreatDoor
open Go Go.Hx
set_option maxRecDepth 8000
theorem configM_fn (r : Int) : Gives Tryz.prog 29 [.int .i64 r] [] (Is (CS (cAnd 7 r)) []) := by
  refine gives_x hXR (fn := Tryz.f29) rfl rfl rfl rfl fun ρ w => ?_
  refine sx hXR [] 4000 rfl (by (simp [-List.getD_eq_getElem?_getD, -List.length_eq_zero_iff, conjP, getH, HE.so] <;> (first | omega | ((repeat' (refine And.intro ?_ ?_)) <;> (first | omega | exact decide_eq_false (by omega) | exact decide_eq_true (by omega)))))) ?_
  (exact ss_end hXR [] rfl rfl trivial rfl rfl rfl rfl (by (repeat' (first | exact rfl | exact trivial | exact sim_refl _ | refine And.intro ?_ ?_))) (by (repeat' (first | exact rfl | exact trivial | exact sim_refl _ | refine And.intro ?_ ?_))) (by (repeat' (first | exact rfl | exact trivial | exact sim_refl _ | refine And.intro ?_ ?_))) (by (repeat' (first | exact rfl | exact trivial | exact sim_refl _ | refine And.intro ?_ ?_))))
def cfgMS : List SV → Option (List Prop × SV)
  | [.int .i64 r] => some ([], CS (cAnd 7 r))
  | _ => none
theorem cfgMS_ok : PureOk 29 cfgMS := by
  intro args ob V hs ho
  unfold cfgMS at hs
  split at hs
  · simp only [Option.some.injEq, Prod.mk.injEq] at hs
    obtain ⟨rfl, rfl⟩ := hs
    exact ⟨rfl, rfl, configM_fn _⟩
  · simp at hs
def ctSb : Nat → Option Hx.Spec
  | 29 => some (pureS cfgMS)
  | 37 => some (makeS)
  | 22 => some (pureS ctlKS)
  | 41 => some (pureS ctlKS)
  | 40 => some (pureS rbornS)
  | 51 => some (arStoreS)
  | 71 => some (raStoreS)
  | _ => none
theorem ctSb_ok : ∀ f s args H ob V L, ctSb f = some s → s args H = some (ob, V, L) → AllP ob → Gives Tryz.prog f args H (Is V L) := by
  intro f s args H ob V L h hs ho
  unfold ctSb at h
  split at h
  · simp at h; subst h; exact pureS_ok ⟨_, hTE⟩ (cfgMS_ok) hs ho
  · simp at h; subst h; exact makeS_ok hs ho
  · simp at h; subst h; exact pureS_ok ⟨_, hTE⟩ (ctlKS_ok) hs ho
  · simp at h; subst h; exact pureS_ok ⟨_, hTE⟩ (rctlKS_ok) hs ho
  · simp at h; subst h; exact pureS_ok ⟨_, hTE⟩ (rbornS_ok) hs ho
  · simp at h; subst h; exact arStoreS_ok hs ho
  · simp at h; subst h; exact raStoreS_ok hs ho
  · simp at h
noncomputable def XSb : Tabs := tabs tr ft xt (fun _ => none) ctSb 20
theorem hXSb : TOk Tryz.prog (XSb) := ⟨hTE, hFT, ctSb_ok, hXT, fun t ks h => by simp [XSb, tabs] at h, mixed⟩
abbrev cl0 : SO := .cells [.nilptr, .nilptr, .nilptr, .nilptr, .int .u64 0] 47
abbrev kO (h0 h1 h2 h3 : Nat) : SO := .cells [.ptr h0 0, .ptr h1 0, .ptr h2 0, .ptr h3 0] 30
abbrev xO (R : Int) (ha hb hk : Nat) (n : Int) : SO := .cells [.int .i64 1, .int .i64 4, .int .i64 1, .int .i64 4, .int .i64 4, .int .i64 1, .int .i64 6, .int .i64 0, .int .i64 R, .ptr ha 0, .ptr hb 0, .slice hk 0 4 4, .int .u64 n] 41
def bgB (R : Int) : List (Nat × SV) := [(16, CS R), (17, .ptr 2 0), (18, CS R), (19, .ptr 10 0), (20, .agg [.nilptr, .nilptr, .nilptr, .nilptr, .int .u64 0]), (21, .ptr 3 0), (22, .agg [.nilptr, .nilptr, .nilptr, .nilptr, .int .u64 0]), (23, .ptr 4 0), (24, .agg [.nilptr, .nilptr, .nilptr, .nilptr, .int .u64 0]), (25, .ptr 5 0), (26, .agg [.nilptr, .nilptr, .nilptr, .nilptr, .int .u64 0]), (27, .ptr 6 0), (28, .slice 7 0 4 4), (29, .agg [.int .i64 1, .int .i64 4, .int .i64 1, .int .i64 4, .int .i64 4, .int .i64 1, .int .i64 6, .int .i64 0, .int .i64 R, .ptr 2 0, .ptr 10 0, .slice 7 0 4 4, .int .u64 0]), (30, .ptr 8 0), (6, .ptr 8 0)]
def bgC (R : Int) : List (Nat × SO) := [(5, cl0), (7, cl0), (9, cl0), (11, cl0), (12, kO 3 4 5 6), (14, xO R 2 10 7 0)]
/-- The world as it is made. -/
def bgH (R : Int) (W : List Int) (st : Int) : List HE := [.obj (xO R 1 3 5 0), AOx 2 W st 2 7 (bornW 0) true, WO W, ROx 4 W st 2 7 (bornW 0) true, WO W, .obj (kO 6 7 8 9), .obj cl0, .obj cl0, .obj cl0, .obj cl0]
def bgW (R : Int) : List Int := (mkA 1 4 1 4 4 1 6 0 R).W.set 7 (bornW 0)
def bgS (R : Int) : Int := (mkA 1 4 1 4 4 1 6 0 R).st + 1
theorem bgW_len (R : Int) : (bgW R).length = 21 := by
  unfold bgW
  rw [List.length_set, mkA_len]
  decide
set_option maxHeartbeats 8000000 in
theorem begun_fn (r : Int) : Gives Tryz.prog 10 [.int .i64 r] [] (Is (.ptr 0 0) (bgH (cAnd 7 r) (bgW (cAnd 7 r)) (bgS (cAnd 7 r)))) := by
  obtain ⟨c1, c2⟩ := cAnd7 r
  have hr := csR c1 c2
  have hl : (mkA 1 4 1 4 4 1 6 0 (cAnd 7 r)).W.length = 21 := by rw [mkA_len]; decide
  have h7 : 7 < (mkA 1 4 1 4 4 1 6 0 (cAnd 7 r)).W.length := by omega
  have hst := mkA_st hr
  have hst1 : 0 ≤ (mkA 1 4 1 4 4 1 6 0 (cAnd 7 r)).st := by omega
  have hst2 : (mkA 1 4 1 4 4 1 6 0 (cAnd 7 r)).st < 9000000000000000000 := by omega
  have hm := rmake_fn hr
  have e0 : IntKind.u64.wrap 0 = 0 := by decide
  refine gives_x hXSb (fn := Tryz.f10) rfl rfl rfl rfl fun ρ w => ?_
  refine sxb hXSb [.r 5] [] 4000 rfl (by simp [conjP, hr]) ?_
  refine ss_drawC hXSb (bgB (cAnd 7 r)) (bgC (cAnd 7 r)) 3 38 [CS (cAnd 7 r)] (.ptr 1 0) _ [] rfl rfl rfl rfl ?g1 ?g2 hm ?g3 ?g4
  case g1 => (repeat' (first | exact rfl | exact trivial | exact sim_refl _ | refine And.intro ?_ ?_)); done
  case g2 => (repeat' (first | exact rfl | exact trivial | exact sim_refl _ | refine And.intro ?_ ?_)); done
  case g3 => repeat' (first | exact rfl | exact trivial | exact sim_refl _ | refine And.intro ?_ ?_ | exact ⟨_, rfl⟩)
  case g4 =>
    refine sx hXSb [] 4000 rfl (by (simp [-List.getD_eq_getElem?_getD, -List.length_eq_zero_iff, conjP, getH, HE.so, c1, c2, hl, hst1, hst2] <;> (first | omega | ((repeat' (refine And.intro ?_ ?_)) <;> (first | omega | exact decide_eq_false (by omega) | exact decide_eq_true (by omega)))))) ?_
    (refine ss_end hXSb [8, 2, 1, 10, 9, 7, 3, 4, 5, 6] rfl rfl trivial rfl rfl rfl rfl (by (repeat' (first | exact rfl | exact trivial | exact sim_refl _ | refine And.intro ?_ ?_))) ?hh (by (repeat' (first | exact rfl | exact trivial | exact sim_refl _ | refine And.intro ?_ ?_))) (by (repeat' (first | exact rfl | exact trivial | exact sim_refl _ | refine And.intro ?_ ?_))); (case hh => unfold bgH bgW bgS; (repeat' (first | exact rfl | exact trivial | exact sim_refl _ | (simp; done) | refine And.intro ?_ ?_)); done))
end Go.Proofs.YtmghcelohnlceaaGreatDoor
