/- PlanTells: configs are checked, packed, and unpacked, as the document says. -/
import Derived.Test.YticejfomcekolaaDoorRefUnpack
import Derived.Test.YticejfomcekolaaDoorLaid
import Derived.Test.YticejfomcekolaaDoorHyc
namespace Go.Proofs.YticejfomcekolaaDoor
open Go Go.Hx
set_option maxRecDepth 8000

def rszS : List SV → Option (List Prop × SV)
  | [.agg [.int .i64 a0, .int .i64 a1, .int .i64 a2, .int .i64 a3, .int .i64 a4, .int .i64 a5, .int .i64 a6, .int .i64 a7, .int .i64 a8]] => some ([rightB a0 a1 a2 a3 a4 a5 a6 a7 a8 = true], .int .i64 (sizeV a0 a1 a2 a4 a5 a6 a7))
  | _ => none
theorem rszS_ok : PureOk 37 rszS := by
  intro args ob V hs ho
  unfold rszS at hs
  split at hs
  · simp only [Option.some.injEq, Prod.mk.injEq] at hs
    obtain ⟨rfl, rfl⟩ := hs
    have o1 := ho _ (List.mem_cons_self ..)
    exact ⟨rfl, rfl, rsize_fn o1⟩
  · simp at hs
def unyS : List SV → Option (List Prop × SV)
  | [.int .u64 w] => some ([0 ≤ w, w < 18446744073709551616, unB w], .tup [unC w, .niliface])
  | _ => none
theorem unyS_ok : PureOk 26 unyS := by
  intro args ob V hs ho
  unfold unyS at hs
  split at hs
  · simp only [Option.some.injEq, Prod.mk.injEq] at hs
    obtain ⟨rfl, rfl⟩ := hs
    have o1 := ho _ (List.mem_cons_self ..)
    have o2 := ho _ (List.mem_cons_of_mem _ (List.mem_cons_self ..))
    have o3 := ho _ (List.mem_cons_of_mem _ (List.mem_cons_of_mem _ (List.mem_cons_self ..)))
    exact ⟨rfl, rfl, unpack_yes o1 o2 o3⟩
  · simp at hs
def unnS : List SV → Option (List Prop × SV)
  | [.int .u64 w] => some ([0 ≤ w, w < 18446744073709551616, ¬ unB w], .tup [C9 0 0 0 0 0 0 0 0 0, .iface 32 (.int .i64 10)])
  | _ => none
theorem unnS_ok : PureOk 26 unnS := by
  intro args ob V hs ho
  unfold unnS at hs
  split at hs
  · simp only [Option.some.injEq, Prod.mk.injEq] at hs
    obtain ⟨rfl, rfl⟩ := hs
    have o1 := ho _ (List.mem_cons_self ..)
    have o2 := ho _ (List.mem_cons_of_mem _ (List.mem_cons_self ..))
    have o3 := ho _ (List.mem_cons_of_mem _ (List.mem_cons_of_mem _ (List.mem_cons_self ..)))
    exact ⟨rfl, rfl, unpack_no o1 o2 o3⟩
  · simp at hs
def runyS : List SV → Option (List Prop × SV)
  | [.int .u64 w] => some ([0 ≤ w, w < 18446744073709551616, unB w], .tup [unC w, .tt])
  | _ => none
theorem runyS_ok : PureOk 36 runyS := by
  intro args ob V hs ho
  unfold runyS at hs
  split at hs
  · simp only [Option.some.injEq, Prod.mk.injEq] at hs
    obtain ⟨rfl, rfl⟩ := hs
    have o1 := ho _ (List.mem_cons_self ..)
    have o2 := ho _ (List.mem_cons_of_mem _ (List.mem_cons_self ..))
    have o3 := ho _ (List.mem_cons_of_mem _ (List.mem_cons_of_mem _ (List.mem_cons_self ..)))
    exact ⟨rfl, rfl, runpack_yes o1 o2 o3⟩
  · simp at hs
def runnS : List SV → Option (List Prop × SV)
  | [.int .u64 w] => some ([0 ≤ w, w < 18446744073709551616, ¬ unB w], .tup [C9 0 0 0 0 0 0 0 0 0, .ff])
  | _ => none
theorem runnS_ok : PureOk 36 runnS := by
  intro args ob V hs ho
  unfold runnS at hs
  split at hs
  · simp only [Option.some.injEq, Prod.mk.injEq] at hs
    obtain ⟨rfl, rfl⟩ := hs
    have o1 := ho _ (List.mem_cons_self ..)
    have o2 := ho _ (List.mem_cons_of_mem _ (List.mem_cons_self ..))
    have o3 := ho _ (List.mem_cons_of_mem _ (List.mem_cons_of_mem _ (List.mem_cons_self ..)))
    exact ⟨rfl, rfl, runpack_no o1 o2 o3⟩
  · simp at hs
/-- Configs are compared part by part. -/
def etC : Nat → Option (List (Option IntKind))
  | 56 => some [some .i64, some .i64, some .i64, some .i64, some .i64, some .i64, some .i64, some .i64, some .i64]
  | _ => none
theorem etC_ok : ∀ t ks, etC t = some ks → EqOk Tryd.prog t ks := by
  intro t ks h
  unfold etC at h
  split at h
  · simp at h; subst h
    exact eqOk_of (by kernel_rfl) (by kernel_rfl)
  · simp at h
def ctTy : Nat → Option Hx.Spec
  | 51 => some (pureS rightS)
  | 35 => some (pureS rightS)
  | 47 => some (pureS sizeS)
  | 37 => some (pureS rszS)
  | 27 => some (pureS packS)
  | 28 => some (pureS rpackS)
  | 16 => some (topS)
  | _ => none
theorem ctTy_ok : ∀ f s args H ob V L, ctTy f = some s → s args H = some (ob, V, L) → AllP ob → Gives Tryd.prog f args H (Is V L) := by
  intro f s args H ob V L h hs ho
  unfold ctTy at h
  split at h
  · simp at h; subst h; exact pureS_ok ⟨_, hTE⟩ (rightS_ok right51) hs ho
  · simp at h; subst h; exact pureS_ok ⟨_, hTE⟩ (rightS_ok right35) hs ho
  · simp at h; subst h; exact pureS_ok ⟨_, hTE⟩ (sizeS_ok) hs ho
  · simp at h; subst h; exact pureS_ok ⟨_, hTE⟩ (rszS_ok) hs ho
  · simp at h; subst h; exact pureS_ok ⟨_, hTE⟩ (packS_ok) hs ho
  · simp at h; subst h; exact pureS_ok ⟨_, hTE⟩ (rpackS_ok) hs ho
  · simp at h; subst h; exact topS_ok hs ho
  · simp at h
noncomputable def XTy : Tabs := tabs tr ft xt (fun _ => none) ctTy 20
theorem hXTy : TOk Tryd.prog XTy := ⟨hTE, hFT, ctTy_ok, hXT, fun t ks h => by simp [XTy, tabs] at h, mixed⟩
def ctTn : Nat → Option Hx.Spec
  | 51 => some (pureS rightS)
  | 35 => some (pureS rightS)
  | 47 => some (pureS sizeS)
  | 27 => some (pureS packS)
  | 16 => some (topS)
  | _ => none
theorem ctTn_ok : ∀ f s args H ob V L, ctTn f = some s → s args H = some (ob, V, L) → AllP ob → Gives Tryd.prog f args H (Is V L) := by
  intro f s args H ob V L h hs ho
  unfold ctTn at h
  split at h
  · simp at h; subst h; exact pureS_ok ⟨_, hTE⟩ (rightS_ok right51) hs ho
  · simp at h; subst h; exact pureS_ok ⟨_, hTE⟩ (rightS_ok right35) hs ho
  · simp at h; subst h; exact pureS_ok ⟨_, hTE⟩ (sizeS_ok) hs ho
  · simp at h; subst h; exact pureS_ok ⟨_, hTE⟩ (packS_ok) hs ho
  · simp at h; subst h; exact topS_ok hs ho
  · simp at h
noncomputable def XTn : Tabs := tabs tr ft xt (fun _ => none) ctTn 20
theorem hXTn : TOk Tryd.prog XTn := ⟨hTE, hFT, ctTn_ok, hXT, fun t ks h => by simp [XTn, tabs] at h, mixed⟩
def ctUy : Nat → Option Hx.Spec
  | 26 => some (pureS unyS)
  | 36 => some (pureS runyS)
  | 16 => some (topS)
  | _ => none
theorem ctUy_ok : ∀ f s args H ob V L, ctUy f = some s → s args H = some (ob, V, L) → AllP ob → Gives Tryd.prog f args H (Is V L) := by
  intro f s args H ob V L h hs ho
  unfold ctUy at h
  split at h
  · simp at h; subst h; exact pureS_ok ⟨_, hTE⟩ (unyS_ok) hs ho
  · simp at h; subst h; exact pureS_ok ⟨_, hTE⟩ (runyS_ok) hs ho
  · simp at h; subst h; exact topS_ok hs ho
  · simp at h
noncomputable def XUy0 : Tabs := tabs tr ft xt (fun _ => none) ctUy 20
theorem hXUy0 : TOk Tryd.prog XUy0 := ⟨hTE, hFT, ctUy_ok, hXT, fun t ks h => by simp [XUy0, tabs] at h, mixed⟩
noncomputable def XUy : Tabs := tabs tr ft xt etC ctUy 20
theorem hXUy : TOk Tryd.prog XUy := ⟨hTE, hFT, ctUy_ok, hXT, etC_ok, mixed⟩
def ctUn : Nat → Option Hx.Spec
  | 26 => some (pureS unnS)
  | 36 => some (pureS runnS)
  | 16 => some (topS)
  | _ => none
theorem ctUn_ok : ∀ f s args H ob V L, ctUn f = some s → s args H = some (ob, V, L) → AllP ob → Gives Tryd.prog f args H (Is V L) := by
  intro f s args H ob V L h hs ho
  unfold ctUn at h
  split at h
  · simp at h; subst h; exact pureS_ok ⟨_, hTE⟩ (unnS_ok) hs ho
  · simp at h; subst h; exact pureS_ok ⟨_, hTE⟩ (runnS_ok) hs ho
  · simp at h; subst h; exact topS_ok hs ho
  · simp at h
noncomputable def XUn0 : Tabs := tabs tr ft xt (fun _ => none) ctUn 20
theorem hXUn0 : TOk Tryd.prog XUn0 := ⟨hTE, hFT, ctUn_ok, hXT, fun t ks h => by simp [XUn0, tabs] at h, mixed⟩
noncomputable def XUn : Tabs := tabs tr ft xt etC ctUn 20
theorem hXUn : TOk Tryd.prog XUn := ⟨hTE, hFT, ctUn_ok, hXT, etC_ok, mixed⟩

set_option maxHeartbeats 4000000 in
theorem tells_fn (a0 a1 a2 a3 a4 a5 a6 a7 a8 : Int) : Gives Tryd.prog 29 [C9 a0 a1 a2 a3 a4 a5 a6 a7 a8] [pinE RTV] (Is .tt [pinE RTV]) := by
  rcases Bool.eq_false_or_eq_true (rightB a0 a1 a2 a3 a4 a5 a6 a7 a8) with hr | hr
  · refine gives_x hXTy (fn := Tryd.f29) rfl rfl rfl rfl fun ρ w => ?_
    refine sx hXTy [] 4000 rfl (by (simp [-List.getD_eq_getElem?_getD, -List.length_eq_zero_iff, conjP] <;> (first | omega | ((repeat' (refine And.intro ?_ ?_)) <;> (first | omega | exact decide_eq_false (by omega) | exact decide_eq_true (by omega)))))) ?_
    refine sx hXTy [.T] 4000 rfl (by (simp [-List.getD_eq_getElem?_getD, -List.length_eq_zero_iff, conjP, hr] <;> (first | omega | ((repeat' (refine And.intro ?_ ?_)) <;> (first | omega | exact decide_eq_false (by omega) | exact decide_eq_true (by omega)))))) ?_
    refine sx hXTy [.T] 4000 rfl (by (simp [-List.getD_eq_getElem?_getD, -List.length_eq_zero_iff, conjP, addOP, hr] <;> (first | omega | ((repeat' (refine And.intro ?_ ?_)) <;> (first | omega | exact decide_eq_false (by omega) | exact decide_eq_true (by omega)))))) ?_
    refine sx hXTy [.F, .K, .T, .K, .K, .T] 4000 rfl (by (simp [-List.getD_eq_getElem?_getD, -List.length_eq_zero_iff, conjP, getH, HE.so, hr] <;> (first | omega | ((repeat' (refine And.intro ?_ ?_)) <;> (first | omega | exact decide_eq_false (by omega) | exact decide_eq_true (by omega)))))) ?_
    (refine ss_end hXTy [0] rfl rfl trivial rfl rfl rfl rfl ?vv (by (repeat' (first | exact rfl | exact trivial | exact sim_refl _ | refine And.intro ?_ ?_))) (by (repeat' (first | exact rfl | exact trivial | exact sim_refl _ | refine And.intro ?_ ?_))) (by (repeat' (first | exact rfl | exact trivial | exact sim_refl _ | refine And.intro ?_ ?_))); (case vv => first | (simp [tupF, SV.ren, sim, simO0, hr]; done) | ((repeat' (first | exact rfl | exact trivial | exact sim_refl _ | refine And.intro ?_ ?_)); done)))
  · refine gives_x hXTn (fn := Tryd.f29) rfl rfl rfl rfl fun ρ w => ?_
    refine sx hXTn [] 4000 rfl (by (simp [-List.getD_eq_getElem?_getD, -List.length_eq_zero_iff, conjP] <;> (first | omega | ((repeat' (refine And.intro ?_ ?_)) <;> (first | omega | exact decide_eq_false (by omega) | exact decide_eq_true (by omega)))))) ?_
    refine sx hXTn [.F] 4000 rfl (by (simp [-List.getD_eq_getElem?_getD, -List.length_eq_zero_iff, conjP, addOP, hr] <;> (first | omega | ((repeat' (refine And.intro ?_ ?_)) <;> (first | omega | exact decide_eq_false (by omega) | exact decide_eq_true (by omega)))))) ?_
    refine sx hXTn [.F] 4000 rfl (by (simp [-List.getD_eq_getElem?_getD, -List.length_eq_zero_iff, conjP, addOP, hr] <;> (first | omega | ((repeat' (refine And.intro ?_ ?_)) <;> (first | omega | exact decide_eq_false (by omega) | exact decide_eq_true (by omega)))))) ?_
    refine sx hXTn [.T, .F, .K, .T, .K, .K, .T, .T] 4000 rfl (by (simp [-List.getD_eq_getElem?_getD, -List.length_eq_zero_iff, conjP, getH, HE.so, hr] <;> (first | omega | ((repeat' (refine And.intro ?_ ?_)) <;> (first | omega | exact decide_eq_false (by omega) | exact decide_eq_true (by omega)))))) ?_
    (refine ss_end hXTn [0] rfl rfl trivial rfl rfl rfl rfl ?vv (by (repeat' (first | exact rfl | exact trivial | exact sim_refl _ | refine And.intro ?_ ?_))) (by (repeat' (first | exact rfl | exact trivial | exact sim_refl _ | refine And.intro ?_ ?_))) (by (repeat' (first | exact rfl | exact trivial | exact sim_refl _ | refine And.intro ?_ ?_))); (case vv => first | (simp [tupF, SV.ren, sim, simO0, hr]; done) | ((repeat' (first | exact rfl | exact trivial | exact sim_refl _ | refine And.intro ?_ ?_)); done)))
set_option maxHeartbeats 4000000 in
theorem unpacks_fn {w : Int} (h0 : 0 ≤ w) (h1 : w < 18446744073709551616) : Gives Tryd.prog 30 [.int .u64 w] [pinE RTV] (Is .tt [pinE RTV]) := by
  by_cases hu : unB w
  · refine gives_x hXUy (fn := Tryd.f30) rfl rfl rfl rfl fun ρ w => ?_
    refine sx hXUy [] 4000 rfl (by (simp [-List.getD_eq_getElem?_getD, -List.length_eq_zero_iff, conjP, h0, h1, hu] <;> (first | omega | ((repeat' (refine And.intro ?_ ?_)) <;> (first | omega | exact decide_eq_false (by omega) | exact decide_eq_true (by omega)))))) ?_
    refine sx hXUy [.T] 4000 rfl (by (simp [-List.getD_eq_getElem?_getD, -List.length_eq_zero_iff, conjP, addOP] <;> (first | omega | ((repeat' (refine And.intro ?_ ?_)) <;> (first | omega | exact decide_eq_false (by omega) | exact decide_eq_true (by omega)))))) ?_
    refine sx hXUy [.T] 4000 rfl (by (simp [-List.getD_eq_getElem?_getD, -List.length_eq_zero_iff, conjP, addOP] <;> (first | omega | ((repeat' (refine And.intro ?_ ?_)) <;> (first | omega | exact decide_eq_false (by omega) | exact decide_eq_true (by omega)))))) ?_
    (refine ss_end hXUy [0] rfl rfl trivial rfl rfl rfl rfl ?vv (by (repeat' (first | exact rfl | exact trivial | exact sim_refl _ | refine And.intro ?_ ?_))) (by (repeat' (first | exact rfl | exact trivial | exact sim_refl _ | refine And.intro ?_ ?_))) (by (repeat' (first | exact rfl | exact trivial | exact sim_refl _ | refine And.intro ?_ ?_))); (case vv => first | (simp [tupF, SV.ren, sim, simO0]; done) | ((repeat' (first | exact rfl | exact trivial | exact sim_refl _ | refine And.intro ?_ ?_)); done)))
  · refine gives_x hXUn (fn := Tryd.f30) rfl rfl rfl rfl fun ρ w => ?_
    refine sx hXUn [] 4000 rfl (by (simp [-List.getD_eq_getElem?_getD, -List.length_eq_zero_iff, conjP, h0, h1, hu] <;> (first | omega | ((repeat' (refine And.intro ?_ ?_)) <;> (first | omega | exact decide_eq_false (by omega) | exact decide_eq_true (by omega)))))) ?_
    refine sx hXUn [.T] 4000 rfl (by (simp [-List.getD_eq_getElem?_getD, -List.length_eq_zero_iff, conjP] <;> (first | omega | ((repeat' (refine And.intro ?_ ?_)) <;> (first | omega | exact decide_eq_false (by omega) | exact decide_eq_true (by omega)))))) ?_
    refine sx hXUn [.T] 4000 rfl (by (simp [-List.getD_eq_getElem?_getD, -List.length_eq_zero_iff, conjP] <;> (first | omega | ((repeat' (refine And.intro ?_ ?_)) <;> (first | omega | exact decide_eq_false (by omega) | exact decide_eq_true (by omega)))))) ?_
    (refine ss_end hXUn [0] rfl rfl trivial rfl rfl rfl rfl ?vv (by (repeat' (first | exact rfl | exact trivial | exact sim_refl _ | refine And.intro ?_ ?_))) (by (repeat' (first | exact rfl | exact trivial | exact sim_refl _ | refine And.intro ?_ ?_))) (by (repeat' (first | exact rfl | exact trivial | exact sim_refl _ | refine And.intro ?_ ?_))); (case vv => first | (simp [tupF, SV.ren, sim, simO0]; done) | ((repeat' (first | exact rfl | exact trivial | exact sim_refl _ | refine And.intro ?_ ?_)); done)))
def tellsS : Hx.Spec := fun args H => match args with
  | [.agg [.int .i64 a0, .int .i64 a1, .int .i64 a2, .int .i64 a3, .int .i64 a4, .int .i64 a5, .int .i64 a6, .int .i64 a7, .int .i64 a8]] => match findP 0 H with
    | some (_, v) => some ([v = RTV], .tt, H)
    | none => none
  | _ => none
theorem tellsS_ok {args : List SV} {H : List HE} {ob : List Prop} {V : SV} {L : List HE} (hs : tellsS args H = some (ob, V, L)) (ho : AllP ob) : Gives Tryd.prog 29 args H (Is V L) := by
  unfold tellsS at hs
  split at hs
  · split at hs
    · rename_i hp
      simp only [Option.some.injEq, Prod.mk.injEq] at hs
      obtain ⟨rfl, rfl, rfl⟩ := hs
      exact pin_frame (tells_fn _ _ _ _ _ _ _ _ _) rfl (fun _ => rfl) hp (ho _ (List.mem_cons_self ..))
    · simp at hs
  · simp at hs
def unpacksS : Hx.Spec := fun args H => match args with
  | [.int .u64 w] => match findP 0 H with
    | some (_, v) => some ([v = RTV, 0 ≤ w, w < 18446744073709551616], .tt, H)
    | none => none
  | _ => none
theorem unpacksS_ok {args : List SV} {H : List HE} {ob : List Prop} {V : SV} {L : List HE} (hs : unpacksS args H = some (ob, V, L)) (ho : AllP ob) : Gives Tryd.prog 30 args H (Is V L) := by
  unfold unpacksS at hs
  split at hs
  · split at hs
    · rename_i hp
      simp only [Option.some.injEq, Prod.mk.injEq] at hs
      obtain ⟨rfl, rfl, rfl⟩ := hs
      exact pin_frame (unpacks_fn (ho _ (by simp)) (ho _ (by simp))) rfl (fun _ => rfl) hp (ho _ (List.mem_cons_self ..))
    · simp at hs
  · simp at hs
def ctTl : Nat → Option Hx.Spec
  | 47 => some (pureS sizeS)
  | 25 => some (pureS configS)
  | 28 => some (pureS rpackS)
  | 29 => some (tellsS)
  | 30 => some (unpacksS)
  | _ => none
theorem ctTl_ok : ∀ f s args H ob V L, ctTl f = some s → s args H = some (ob, V, L) → AllP ob → Gives Tryd.prog f args H (Is V L) := by
  intro f s args H ob V L h hs ho
  unfold ctTl at h
  split at h
  · simp at h; subst h; exact pureS_ok ⟨_, hTE⟩ (sizeS_ok) hs ho
  · simp at h; subst h; exact pureS_ok ⟨_, hTE⟩ (configS_ok) hs ho
  · simp at h; subst h; exact pureS_ok ⟨_, hTE⟩ (rpackS_ok) hs ho
  · simp at h; subst h; exact tellsS_ok hs ho
  · simp at h; subst h; exact unpacksS_ok hs ho
  · simp at h
noncomputable def XTl : Tabs := tabs tr ft xt (fun _ => none) ctTl 20
theorem hXTl : TOk Tryd.prog XTl := ⟨hTE, hFT, ctTl_ok, hXT, fun t ks h => by simp [XTl, tabs] at h, mixed⟩
theorem xor_lo (x y : Int) : 0 ≤ ibits .xor .u64 x y := by simp only [ibits, IntKind.wrap_u64]; omega
theorem and_lo (x y : Int) : 0 ≤ ibits .and .u64 x y := by simp only [ibits, IntKind.wrap_u64]; omega
theorem xor_hi (x y : Int) : ibits .xor .u64 x y < 18446744073709551616 := by simp only [ibits, IntKind.wrap_u64]; omega
theorem awake30 : rightB 1 4 1 1 4 1 8 1 1 = true ∧ sizeV 1 4 1 4 1 8 1 = 30 := by decide
set_option maxHeartbeats 4000000 in
theorem planTells_fn (r0 r1 r2 r3 r4 r5 r6 r7 r8 l0 l1 l2 l3 l4 l5 l6 l7 l8 w : Int) (h0 : 0 ≤ w) (h1 : w < 18446744073709551616) :
    Gives Tryd.prog 7 [C9 r0 r1 r2 r3 r4 r5 r6 r7 r8, L9 l0 l1 l2 l3 l4 l5 l6 l7 l8, .int .u64 w] [pinE RTV] (Is .tt [pinE RTV]) := by
  have hr := cfg_right l0 l1 l2 l3 l4 l5 l6 l7 l8
  obtain ⟨ea, eb⟩ := awake30
  obtain ⟨q0, q1⟩ := pack_lt hr
  have q2 := Int.lt_trans q1 (show (9223372036854775808 : Int) < 18446744073709551616 by decide)
  refine gives_x hXTl (fn := Tryd.f7) rfl rfl rfl rfl fun ρ w => ?_
  refine sx hXTl [] 4000 rfl (by (simp [-List.getD_eq_getElem?_getD, -List.length_eq_zero_iff, conjP, hr] <;> (first | omega | ((repeat' (refine And.intro ?_ ?_)) <;> (first | omega | exact decide_eq_false (by omega) | exact decide_eq_true (by omega)))))) ?_
  refine sx hXTl [.T] 4000 rfl (by (simp [-List.getD_eq_getElem?_getD, -List.length_eq_zero_iff, conjP, h0, h1, ea, eb, q0, q2, xor_lo, xor_hi, and_lo] <;> (first | omega | ((repeat' (refine And.intro ?_ ?_)) <;> (first | omega | exact decide_eq_false (by omega) | exact decide_eq_true (by omega)))))) ?_
  (refine ss_end hXTl [0] rfl rfl trivial rfl rfl rfl rfl ?vv (by (repeat' (first | exact rfl | exact trivial | exact sim_refl _ | refine And.intro ?_ ?_))) (by (repeat' (first | exact rfl | exact trivial | exact sim_refl _ | refine And.intro ?_ ?_))) (by (repeat' (first | exact rfl | exact trivial | exact sim_refl _ | refine And.intro ?_ ?_))); (case vv => first | (simp [tupF, SV.ren, sim, simO0]; done) | ((repeat' (first | exact rfl | exact trivial | exact sim_refl _ | refine And.intro ?_ ?_)); done)))
end Go.Proofs.YticejfomcekolaaDoor
namespace Go.Proofs.YticejfomcekolaaDoor.planTells
open Go Go.Hx
theorem nine {l : List SV} (hl : okK [some .i64, some .i64, some .i64, some .i64, some .i64, some .i64, some .i64, some .i64, some .i64] l) : ∃ l0 l1 l2 l3 l4 l5 l6 l7 l8, .agg l = L9 l0 l1 l2 l3 l4 l5 l6 l7 l8 := by
  rcases l with _ | ⟨a, _ | ⟨b, _ | ⟨c, _ | ⟨d, _ | ⟨e, _ | ⟨f, _ | ⟨g, _ | ⟨h, _ | ⟨i, _ | ⟨j, r⟩⟩⟩⟩⟩⟩⟩⟩⟩⟩ <;> simp only [okK, and_false] at hl
  obtain ⟨⟨n0, rfl, _⟩, ⟨n1, rfl, _⟩, ⟨n2, rfl, _⟩, ⟨n3, rfl, _⟩, ⟨n4, rfl, _⟩, ⟨n5, rfl, _⟩, ⟨n6, rfl, _⟩, ⟨n7, rfl, _⟩, ⟨n8, rfl, _⟩, _⟩ := hl
  exact ⟨_, _, _, _, _, _, _, _, _, rfl⟩
theorem walk (r : List SV) (hq : okK [some .i64, some .i64, some .i64, some .i64, some .i64, some .i64, some .i64, some .i64, some .i64] r) (l : List SV) (hl : okK [some .i64, some .i64, some .i64, some .i64, some .i64, some .i64, some .i64, some .i64, some .i64] l) (w : Int) (hw : (Lit.int .u64 w).wf = true) :
    Gives Tryd.prog 7 [.agg r, .agg l, .int .u64 w] [pinE RTV] (Is .tt [pinE RTV]) := by
  obtain ⟨l0, l1, l2, l3, l4, l5, l6, l7, l8, e⟩ := nine hl
  obtain ⟨r0, r1, r2, r3, r4, r5, r6, r7, r8, e'⟩ := nine hq
  rw [e, e']
  exact planTells_fn _ _ _ _ _ _ _ _ _ _ _ _ _ _ _ _ _ _ w (wfU hw).1 (wfU hw).2
end Go.Proofs.YticejfomcekolaaDoor.planTells
