/- Config, the chapter's example, the tables. -/
import Derived.Test.YtmghcelohnlceaaPoolSteps
namespace Go.Proofs.Ytmghcelohnlceaa
open Go Go.Hx
set_option maxRecDepth 8000

abbrev L2 (l0 l1 : Int) : SV := .agg [.int .i64 l0, .int .i64 l1]
theorem configP_fn (l0 l1 : Int) : Gives Try.prog 9 [L2 l0 l1] [] (Is (C9 1 4 1 2 4 (cMod 6 l0) 6 (cMod 6 l1) 2) []) := by
  refine gives_x hXS1 (fn := Try.f9) rfl rfl rfl rfl fun ρ w => ?_
  refine sx hXS1 [] 4000 rfl (by (simp [-List.getD_eq_getElem?_getD, -List.length_eq_zero_iff, conjP, getH, HE.so] <;> (first | omega | ((repeat' (refine And.intro ?_ ?_)) <;> (first | omega | exact decide_eq_false (by omega) | exact decide_eq_true (by omega)))))) ?_
  (exact ss_end hXS1 [] rfl rfl trivial rfl rfl rfl rfl (by (repeat' (first | exact rfl | exact trivial | exact sim_refl _ | refine And.intro ?_ ?_))) (by (repeat' (first | exact rfl | exact trivial | exact sim_refl _ | refine And.intro ?_ ?_))) (by (repeat' (first | exact rfl | exact trivial | exact sim_refl _ | refine And.intro ?_ ?_))) (by (repeat' (first | exact rfl | exact trivial | exact sim_refl _ | refine And.intro ?_ ?_))))
def cfgPS : List SV → Option (List Prop × SV)
  | [.agg [.int .i64 l0, .int .i64 l1]] => some ([], C9 1 4 1 2 4 (cMod 6 l0) 6 (cMod 6 l1) 2)
  | _ => none
theorem cfgPS_ok : PureOk 9 cfgPS := by
  intro args ob V hs ho
  unfold cfgPS at hs
  split at hs
  · simp only [Option.some.injEq, Prod.mk.injEq] at hs
    obtain ⟨rfl, rfl⟩ := hs
    exact ⟨rfl, rfl, configP_fn _ _⟩
  · simp at hs
theorem cMod6 (x : Int) : 0 ≤ cMod 6 x ∧ cMod 6 x ≤ 5 := by
  have := cModB 6 x (by decide) (by decide)
  omega
def ctPa : Nat → Option Hx.Spec
  | 63 => some (pureS rightS)
  | 42 => some (pureS (placeS classF))
  | 43 => some (pureS (placeS blockF))
  | 32 => some (pureS hBlockS)
  | 33 => some (pureS hTagS)
  | 92 => some (pureS hTurnS)
  | 40 => some (pureS pHeadS)
  | 85 => some (arLoadS)
  | 38 => some (arStoreS)
  | 91 => some (arSwapS)
  | 17 => some (arWordsS)
  | 10 => some (makeS)
  | 9 => some (pureS cfgPS)
  | _ => none
theorem ctPa_ok : ∀ f s args H ob V L, ctPa f = some s → s args H = some (ob, V, L) → AllP ob → Gives Try.prog f args H (Is V L) := by
  intro f s args H ob V L h hs ho
  unfold ctPa at h
  split at h
  · simp at h; subst h; exact pureS_ok ⟨_, hTE⟩ (rightS_ok right63) hs ho
  · simp at h; subst h; exact pureS_ok ⟨_, hTE⟩ (placeS_ok (v := classF) class_fn) hs ho
  · simp at h; subst h; exact pureS_ok ⟨_, hTE⟩ (placeS_ok (v := blockF) block_fn) hs ho
  · simp at h; subst h; exact pureS_ok ⟨_, hTE⟩ (hBlockS_ok) hs ho
  · simp at h; subst h; exact pureS_ok ⟨_, hTE⟩ (hTagS_ok) hs ho
  · simp at h; subst h; exact pureS_ok ⟨_, hTE⟩ (hTurnS_ok) hs ho
  · simp at h; subst h; exact pureS_ok ⟨_, hTE⟩ (pHeadS_ok) hs ho
  · simp at h; subst h; exact arLoadS_ok hs ho
  · simp at h; subst h; exact arStoreS_ok hs ho
  · simp at h; subst h; exact arSwapS_ok hs ho
  · simp at h; subst h; exact arWordsS_ok hs ho
  · simp at h; subst h; exact makeS_ok hs ho
  · simp at h; subst h; exact pureS_ok ⟨_, hTE⟩ (cfgPS_ok) hs ho
  · simp at h
noncomputable def XPa : Tabs := tabs tr ft xt (fun _ => none) ctPa 20
theorem hXPa : TOk Try.prog (XPa) := ⟨hTE, hFT, ctPa_ok, hXT, fun t ks h => by simp [XPa, tabs] at h, mixed⟩
set_option maxHeartbeats 8000000 in
theorem awakeP_fn : Gives Try.prog 8 [] [] (Is .tt []) := by
  have e2 : cMod 6 2 = 2 := by decide
  have e0 : cMod 6 0 = 0 := by decide
  have hr : rightB 1 4 1 2 4 2 6 0 2 = true := by decide
  have hl : (mkA 1 4 1 2 4 2 6 0 2).W.length = 26 := by rw [mkA_len]; decide
  have hst := mkA_st hr
  have w3 : (mkA 1 4 1 2 4 2 6 0 2).W.getD 3 0 = 1 := by rw [mkA_low hr (by decide)]; decide
  have b1 : blockF 1 4 1 2 4 2 6 0 2 1 = 16 := by decide
  have c1 : classF 1 4 1 2 4 2 6 0 2 1 = 0 := by decide
  have w16 : (mkA 1 4 1 2 4 2 6 0 2).W.getD 16 0 = 2 := by
    have := mkA_next hr (b := 1) (by decide) (by decide)
    have e : (blockV 1 4 1 4 2 6 0 1).toNat = 16 := by decide
    rw [e] at this; rw [this]; decide
  have t1 : turnV 1 2 = 4294967298 := by decide
  have s3 : (mkA 1 4 1 2 4 2 6 0 2).W.set 3 4294967298 ≠ [] := by intro h; have := congrArg List.length h; simp [hl] at this
  have g3 : ((mkA 1 4 1 2 4 2 6 0 2).W.set 3 4294967298).getD 3 0 = 4294967298 := by rw [set_getD, if_pos ⟨rfl, by omega⟩]
  have sw : swW (mkA 1 4 1 2 4 2 6 0 2).W 3 1 4294967298 = (mkA 1 4 1 2 4 2 6 0 2).W.set 3 4294967298 := by
    unfold swW; rw [if_pos (by exact w3)]; rfl
  have i1 : Int.emod 1 4294967296 = 1 := by decide
  have i2 : Int.emod 2 4294967296 = 2 := by decide
  refine gives_x hXPa (fn := Try.f8) rfl rfl rfl rfl fun ρ w => ?_
  refine sx hXPa [] 4000 rfl (by (simp [-List.getD_eq_getElem?_getD, -List.length_eq_zero_iff, conjP, e2, e0, hr] <;> (first | omega | ((repeat' (refine And.intro ?_ ?_)) <;> (first | omega | exact decide_eq_false (by omega) | exact decide_eq_true (by omega)))))) ?_
  refine sx hXPa [.F] 4000 rfl (by (simp [-List.getD_eq_getElem?_getD, -List.length_eq_zero_iff, conjP, e2, e0, hr] <;> (first | omega | ((repeat' (refine And.intro ?_ ?_)) <;> (first | omega | exact decide_eq_false (by omega) | exact decide_eq_true (by omega)))))) ?_
  refine sx hXPa [.F] 4000 rfl (by (simp [-List.getD_eq_getElem?_getD, -List.length_eq_zero_iff, conjP, getH, HE.so, e2, e0, hr, hl, w3] <;> (first | omega | ((repeat' (refine And.intro ?_ ?_)) <;> (first | omega | exact decide_eq_false (by omega) | exact decide_eq_true (by omega)))))) ?_
  refine sx hXPa [.F] 4000 rfl (by (simp [-List.getD_eq_getElem?_getD, -List.length_eq_zero_iff, conjP, getH, HE.so, e2, e0, hr, hl, w3, b1, c1, w16] <;> (first | omega | ((repeat' (refine And.intro ?_ ?_)) <;> (first | omega | exact decide_eq_false (by omega) | exact decide_eq_true (by omega)))))) ?_
  refine sx hXPa [.T] 4000 rfl (by (simp [-List.getD_eq_getElem?_getD, -List.length_eq_zero_iff, conjP, addOP, e2, e0, w3] <;> (first | omega | ((repeat' (refine And.intro ?_ ?_)) <;> (first | omega | exact decide_eq_false (by omega) | exact decide_eq_true (by omega)))))) ?_
  refine sx hXPa [.T] 4000 rfl (by (simp [-List.getD_eq_getElem?_getD, -List.length_eq_zero_iff, conjP, addOP, e2, e0, w3] <;> (first | omega | ((repeat' (refine And.intro ?_ ?_)) <;> (first | omega | exact decide_eq_false (by omega) | exact decide_eq_true (by omega)))))) ?_
  refine sx hXPa [.T] 4000 rfl (by (simp [-List.getD_eq_getElem?_getD, -List.length_eq_zero_iff, conjP, e2, e0, hl, w3, b1, w16, t1, g3, sw, cellOff] <;> (first | omega | ((repeat' (refine And.intro ?_ ?_)) <;> (first | omega | exact decide_eq_false (by omega) | exact decide_eq_true (by omega)))))) ?_
  refine sx hXPa [.T] 4000 rfl (by (simp [-List.getD_eq_getElem?_getD, -List.length_eq_zero_iff, conjP, e2, e0, hl, w3, b1, w16, t1, g3, sw, cellOff] <;> (first | omega | ((repeat' (refine And.intro ?_ ?_)) <;> (first | omega | exact decide_eq_false (by omega) | exact decide_eq_true (by omega)))))) ?_
  (exact ss_end hXPa [] rfl rfl trivial rfl rfl rfl rfl (by ((first | ((repeat' (first | exact rfl | exact trivial | exact sim_refl _ | refine And.intro ?_ ?_)); done) | (simp [tupF, SV.ren, sim, simO0]; done)))) (by (repeat' (first | exact rfl | exact trivial | exact sim_refl _ | refine And.intro ?_ ?_))) (by (repeat' (first | exact rfl | exact trivial | exact sim_refl _ | refine And.intro ?_ ?_))) (by (repeat' (first | exact rfl | exact trivial | exact sim_refl _ | refine And.intro ?_ ?_))))
end Go.Proofs.Ytmghcelohnlceaa
