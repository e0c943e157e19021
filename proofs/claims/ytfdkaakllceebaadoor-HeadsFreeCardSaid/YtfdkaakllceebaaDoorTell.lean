/- Heads: the config by numbers, the chapter's example, HeadsTell. -/
import Derived.Test.YtfdkaakllceebaaDoorListTab
import Derived.Test.YtfdkaakllceebaaDoorAsVar
namespace Go.Proofs.YtfdkaakllceebaaDoor
open Go Go.Hx
set_option maxRecDepth 8000
abbrev L4 (l0 l1 l2 l3 : Int) : SV := .agg [.int .i64 l0, .int .i64 l1, .int .i64 l2, .int .i64 l3]
theorem and1 (x : Int) : 0 ≤ ibits .and .i64 x 1 ∧ ibits .and .i64 x 1 ≤ 1 := andB (m := 1) x 1 (by decide) (by decide)
theorem cAnd1 (x : Int) : 1 ≤ cAnd 1 x ∧ cAnd 1 x ≤ 2 := by
  have := and1 x
  unfold cAnd; rw [wi64 (by omega) (by omega)]; omega
theorem cMod6 (x : Int) : 0 ≤ cMod 6 x ∧ cMod 6 x ≤ 5 := by
  have := cModB 6 x (by decide) (by decide)
  omega
theorem configH_fn (l0 l1 l2 l3 : Int) : Gives Tryd.prog 9 [L4 l0 l1 l2 l3] [] (Is (C9 (cAnd 1 l0) 4 (cAnd 1 l1) 2 4 (cMod 6 l2) 6 (cMod 6 l3) 2) []) := by
  refine gives_x hXS1 (fn := Tryd.f9) rfl rfl rfl rfl fun ρ w => ?_
  refine sx hXS1 [] 4000 rfl (by (simp [-List.getD_eq_getElem?_getD, -List.length_eq_zero_iff, conjP, getH, HE.so] <;> (first | omega | ((repeat' (refine And.intro ?_ ?_)) <;> (first | omega | exact decide_eq_false (by omega) | exact decide_eq_true (by omega)))))) ?_
  (exact ss_end hXS1 [] rfl rfl trivial rfl rfl rfl rfl (by (repeat' (first | exact rfl | exact trivial | exact sim_refl _ | refine And.intro ?_ ?_))) (by (repeat' (first | exact rfl | exact trivial | exact sim_refl _ | refine And.intro ?_ ?_))) (by (repeat' (first | exact rfl | exact trivial | exact sim_refl _ | refine And.intro ?_ ?_))) (by (repeat' (first | exact rfl | exact trivial | exact sim_refl _ | refine And.intro ?_ ?_))))
def cfgHS : List SV → Option (List Prop × SV)
  | [.agg [.int .i64 l0, .int .i64 l1, .int .i64 l2, .int .i64 l3]] => some ([], C9 (cAnd 1 l0) 4 (cAnd 1 l1) 2 4 (cMod 6 l2) 6 (cMod 6 l3) 2)
  | _ => none
theorem cfgHS_ok : PureOk 9 cfgHS := by
  intro args ob V hs ho
  unfold cfgHS at hs
  split at hs
  · simp only [Option.some.injEq, Prod.mk.injEq] at hs
    obtain ⟨rfl, rfl⟩ := hs
    exact ⟨rfl, rfl, configH_fn _ _ _ _⟩
  · simp at hs
theorem cfg_rightH (l0 l1 l2 l3 : Int) : rightB (cAnd 1 l0) 4 (cAnd 1 l1) 2 4 (cMod 6 l2) 6 (cMod 6 l3) 2 = true := by
  have := cAnd1 l0
  have := cAnd1 l1
  have := cMod6 l2
  have := cMod6 l3
  rw [right_iff]
  omega
def rmakeS : Hx.Spec := fun args H => match args with
  | [.agg [.int .i64 a0, .int .i64 a1, .int .i64 a2, .int .i64 a3, .int .i64 a4, .int .i64 a5, .int .i64 a6, .int .i64 a7, .int .i64 a8]] =>
    match nums[H.length]?, nums[H.length + 1]? with
    | some n0, some n1 => some ([rightB a0 a1 a2 a3 a4 a5 a6 a7 a8 = true], .ptr n1 0, H ++ [WOm (mkA a0 a1 a2 a3 a4 a5 a6 a7 a8), ROm n0 (mkA a0 a1 a2 a3 a4 a5 a6 a7 a8)])
    | _, _ => none
  | _ => none
theorem rmakeS_ok {args : List SV} {H : List HE} {ob : List Prop} {V : SV} {L : List HE} (hs : rmakeS args H = some (ob, V, L)) (ho : AllP ob) : Gives Tryd.prog 22 args H (Is V L) := by
  unfold rmakeS at hs
  split at hs
  · split at hs
    case h_2 => simp at hs
    rename_i n0 n1 e0 e1
    have e0' := nums_get _ _ e0
    have e1' := nums_get _ _ e1
    subst e0'; subst e1'
    simp only [Option.some.injEq, Prod.mk.injEq] at hs
    obtain ⟨rfl, rfl, rfl⟩ := hs
    have q := ho _ (List.mem_cons_self ..)
    have := frame0 (H := H) ⟨_, hTE⟩ (rmake_fn q) rfl rfl
    exact this
  · simp at hs
def ctAk (r0 r1 : HR) : Nat → Option Hx.Spec
  | 9 => some (pureS cfgHS)
  | 22 => some (rmakeS)
  | 11 => some (lsS2 r0 r1)
  | 26 => some (smS)
  | 12 => some (topS)
  | _ => none
theorem ctAk_ok (r0 r1 : HR) : ∀ f s args H ob V L, ctAk r0 r1 f = some s → s args H = some (ob, V, L) → AllP ob → Gives Tryd.prog f args H (Is V L) := by
  intro f s args H ob V L h hs ho
  unfold ctAk at h
  split at h
  · simp at h; subst h; exact pureS_ok ⟨_, hTE⟩ (cfgHS_ok) hs ho
  · simp at h; subst h; exact rmakeS_ok hs ho
  · simp at h; subst h; exact lsS2_ok hs ho
  · simp at h; subst h; exact smS_ok hs ho
  · simp at h; subst h; exact topS_ok hs ho
  · simp at h
noncomputable def XAk (r0 r1 : HR) : Tabs := tabs tr ft xt (fun _ => none) (ctAk r0 r1) 20
theorem hXAk (r0 r1 : HR) : TOk Tryd.prog (XAk r0 r1) := ⟨hTE, hFT, (ctAk_ok r0 r1), hXT, fun t ks h => by simp [XAk, tabs] at h, mixed⟩
def aw0 : HR := .ok (some [1, 2])
def aw1 : HR := .ok (some [3])
theorem awW : ∀ x ∈ (mkA 1 4 1 2 4 2 6 1 2).W, 0 ≤ x ∧ x < 18446744073709551616 := by decide +kernel
theorem aw_ls0 : hsR 1 4 1 2 4 2 6 1 2 0 (mkA 1 4 1 2 4 2 6 1 2).W.length (mkA 1 4 1 2 4 2 6 1 2).W = .ok (some [1, 2]) := by kernel_rfl
theorem aw_ls1 : hsR 1 4 1 2 4 2 6 1 2 1 (mkA 1 4 1 2 4 2 6 1 2).W.length (mkA 1 4 1 2 4 2 6 1 2).W = .ok (some [3]) := by kernel_rfl
set_option maxHeartbeats 8000000 in
theorem awakeH_fn : Gives Tryd.prog 8 [] [] (Is .tt []) := by
  have e0 : cAnd 1 0 = 1 := by decide
  have e1 : cMod 6 2 = 2 := by decide
  have e2 : cMod 6 1 = 1 := by decide
  have hr : rightB 1 4 1 2 4 2 6 1 2 = true := by decide
  have o0 : lsOb (.ok (some [1, 2])) (mkA 1 4 1 2 4 2 6 1 2).W.length (mkA 1 4 1 2 4 2 6 1 2).W.length (mkA 1 4 1 2 4 2 6 1 2).W := .inl ⟨rfl, rfl, awW⟩
  have o1 : lsOb (.ok (some [3])) (mkA 1 4 1 2 4 2 6 1 2).W.length (mkA 1 4 1 2 4 2 6 1 2).W.length (mkA 1 4 1 2 4 2 6 1 2).W := .inl ⟨rfl, rfl, awW⟩
  have q0 := aw_ls0
  have q1 := aw_ls1
  have hXA := hXAk (.ok (some [1, 2])) (.ok (some [3]))
  refine gives_x hXA (fn := Tryd.f8) rfl rfl rfl rfl fun ρ w => ?_
  refine sx hXA [] 4000 rfl (by (simp [-List.getD_eq_getElem?_getD, -List.length_eq_zero_iff, conjP, sel0, sel1, e0, e1, e2, hr, o0, o1, q0, q1] <;> (first | omega | ((repeat' (refine And.intro ?_ ?_)) <;> (first | omega | exact decide_eq_false (by omega) | exact decide_eq_true (by omega)))))) ?_
  refine sx hXA [.T] 4000 rfl (by (simp [-List.getD_eq_getElem?_getD, -List.length_eq_zero_iff, conjP, addOP] <;> (first | omega | ((repeat' (refine And.intro ?_ ?_)) <;> (first | omega | exact decide_eq_false (by omega) | exact decide_eq_true (by omega)))))) ?_
  refine sx hXA [.T] 4000 rfl (by (simp [-List.getD_eq_getElem?_getD, -List.length_eq_zero_iff, conjP, addOP] <;> (first | omega | ((repeat' (refine And.intro ?_ ?_)) <;> (first | omega | exact decide_eq_false (by omega) | exact decide_eq_true (by omega)))))) ?_
  refine sx hXA [.T] 4000 rfl (by (simp [-List.getD_eq_getElem?_getD, -List.length_eq_zero_iff, conjP, addOP] <;> (first | omega | ((repeat' (refine And.intro ?_ ?_)) <;> (first | omega | exact decide_eq_false (by omega) | exact decide_eq_true (by omega)))))) ?_
  (exact ss_end hXA [] rfl rfl trivial rfl rfl rfl rfl (by (repeat' (first | exact rfl | exact trivial | exact sim_refl _ | refine And.intro ?_ ?_))) (by (repeat' (first | exact rfl | exact trivial | exact sim_refl _ | refine And.intro ?_ ?_))) (by (repeat' (first | exact rfl | exact trivial | exact sim_refl _ | refine And.intro ?_ ?_))) (by (repeat' (first | exact rfl | exact trivial | exact sim_refl _ | refine And.intro ?_ ?_))))
def awHS : List SV → Option (List Prop × SV)
  | [] => some ([], .tt)
  | _ => none
theorem awHS_ok : PureOk 8 awHS := by
  intro args ob V hs ho
  unfold awHS at hs
  split at hs
  · simp only [Option.some.injEq, Prod.mk.injEq] at hs
    obtain ⟨rfl, rfl⟩ := hs
    exact ⟨rfl, rfl, awakeH_fn⟩
  · simp at hs
def ctHt : Nat → Option Hx.Spec
  | 8 => some (pureS awHS)
  | 15 => some (pureS hMakeS)
  | 17 => some (pureS hTagS)
  | 18 => some (pureS hBlockS)
  | 19 => some (pureS hTurnS)
  | 16 => some (pureS rhMakeS)
  | 20 => some (pureS rhTurnS)
  | _ => none
theorem ctHt_ok : ∀ f s args H ob V L, ctHt f = some s → s args H = some (ob, V, L) → AllP ob → Gives Tryd.prog f args H (Is V L) := by
  intro f s args H ob V L h hs ho
  unfold ctHt at h
  split at h
  · simp at h; subst h; exact pureS_ok ⟨_, hTE⟩ (awHS_ok) hs ho
  · simp at h; subst h; exact pureS_ok ⟨_, hTE⟩ (hMakeS_ok) hs ho
  · simp at h; subst h; exact pureS_ok ⟨_, hTE⟩ (hTagS_ok) hs ho
  · simp at h; subst h; exact pureS_ok ⟨_, hTE⟩ (hBlockS_ok) hs ho
  · simp at h; subst h; exact pureS_ok ⟨_, hTE⟩ (hTurnS_ok) hs ho
  · simp at h; subst h; exact pureS_ok ⟨_, hTE⟩ (rhMakeS_ok) hs ho
  · simp at h; subst h; exact pureS_ok ⟨_, hTE⟩ (rhTurnS_ok) hs ho
  · simp at h
noncomputable def XHt : Tabs := tabs tr ft xt (fun _ => none) ctHt 0
theorem hXHt : TOk Tryd.prog (XHt) := ⟨hTE, hFT, ctHt_ok, hXT, fun t ks h => by simp [XHt, tabs] at h, mixed⟩
theorem headsTell_fn (w tag b : Int) (w0 : 0 ≤ w) (w1 : w < 18446744073709551616) (t0 : 0 ≤ tag) (t1 : tag < 4294967296) :
    Gives Tryd.prog 4 [.int .u64 w, .int .u32 tag, .int .i64 b] [pinE RTV] (Is .tt [pinE RTV]) := by
  have h1 : (tag * 4294967296 + b % 4294967296) / 4294967296 = tag := by omega
  have h2 : (tag * 4294967296 + b % 4294967296) % 4294967296 = b % 4294967296 := by omega
  have h3 : w / 4294967296 * 4294967296 + w % 4294967296 % 4294967296 = w := by omega
  have h4 := and32i b
  refine gives_x hXHt (fn := Tryd.f4) rfl rfl rfl rfl fun ρ w => ?_
  refine sx hXHt [] 4000 rfl (by (simp [-List.getD_eq_getElem?_getD, -List.length_eq_zero_iff, conjP, t0, t1] <;> (first | omega | ((repeat' (refine And.intro ?_ ?_)) <;> (first | omega | exact decide_eq_false (by omega) | exact decide_eq_true (by omega)))))) ?_
  refine sx hXHt [.T] 4000 rfl (by (simp [-List.getD_eq_getElem?_getD, -List.length_eq_zero_iff, conjP] <;> (first | omega | ((repeat' (refine And.intro ?_ ?_)) <;> (first | omega | exact decide_eq_false (by omega) | exact decide_eq_true (by omega)))))) ?_
  refine sx hXHt [.T] 4000 rfl (by (simp [-List.getD_eq_getElem?_getD, -List.length_eq_zero_iff, conjP, h1] <;> (first | omega | ((repeat' (refine And.intro ?_ ?_)) <;> (first | omega | exact decide_eq_false (by omega) | exact decide_eq_true (by omega)))))) ?_
  refine sx hXHt [.T] 4000 rfl (by (simp [-List.getD_eq_getElem?_getD, -List.length_eq_zero_iff, conjP, w0, w1, h2, h4] <;> (first | omega | ((repeat' (refine And.intro ?_ ?_)) <;> (first | omega | exact decide_eq_false (by omega) | exact decide_eq_true (by omega)))))) ?_
  refine sx hXHt [.T] 4000 rfl (by (simp [-List.getD_eq_getElem?_getD, -List.length_eq_zero_iff, conjP, w0, w1] <;> (first | omega | ((repeat' (refine And.intro ?_ ?_)) <;> (first | omega | exact decide_eq_false (by omega) | exact decide_eq_true (by omega)))))) ?_
  (refine ss_end hXHt [0] rfl rfl trivial rfl rfl rfl rfl ?vv (by (repeat' (first | exact rfl | exact trivial | exact sim_refl _ | refine And.intro ?_ ?_))) (by (repeat' (first | exact rfl | exact trivial | exact sim_refl _ | refine And.intro ?_ ?_))) (by (repeat' (first | exact rfl | exact trivial | exact sim_refl _ | refine And.intro ?_ ?_))); (case vv => simp [tupF, SV.ren, sim, simO0]))
end Go.Proofs.YtfdkaakllceebaaDoor
namespace Go.Proofs.YtfdkaakllceebaaDoor.headsTell
open Go Go.Hx
theorem walk (w : Int) (hw : (Lit.int .u64 w).wf = true) (tag : Int) (ht : (Lit.int .u32 tag).wf = true) (b : Int) (_ : (Lit.int .i64 b).wf = true) :
    Gives Tryd.prog 4 [.int .u64 w, .int .u32 tag, .int .i64 b] [pinE RTV] (Is .tt [pinE RTV]) := by
  have h1 := wfU hw
  have h2 : 0 ≤ tag ∧ tag < 4294967296 := by
    simp only [Lit.wf, Bool.and_eq_true, decide_eq_true_eq] at ht
    have e1 : IntKind.u32.min = 0 := by decide
    have e2 : IntKind.u32.max = 4294967295 := by decide
    omega
  exact headsTell_fn w tag b h1.1 h1.2 h2.1 h2.2
end Go.Proofs.YtfdkaakllceebaaDoor.headsTell
