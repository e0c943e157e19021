/- TopicsNil: of no run nothing comes; of a key that may not be there is none. -/
import Derived.Test.YtkkddjchkkaagaaGreatDoorStepAll
import Derived.Test.YtkkddjchkkaagaaGreatDoorMakeWords
namespace Go.Proofs.YtkkddjchkkaagaaGreatDoor
open Go Go.Hx
set_option maxRecDepth 8000
def ctAb : Nat → Option Hx.Spec
  | 195 => some (pureS getS)
  | 147 => some (pureS setS)
  | _ => none
theorem ctAb_ok : ∀ f s args H ob V L, ctAb f = some s → s args H = some (ob, V, L) → AllP ob → Gives Tryz.prog f args H (Is V L) := by
  intro f s args H ob V L h hs ho
  unfold ctAb at h
  split at h
  · simp at h; subst h; exact pureS_ok ⟨_, hTE⟩ (getS_ok) hs ho
  · simp at h; subst h; exact pureS_ok ⟨_, hTE⟩ (setS_ok) hs ho
  · simp at h
noncomputable def XAb : Tabs := tabs tr ft xt (fun _ => none) ctAb 0
theorem hXAb : TOk Tryz.prog (XAb) := ⟨hTE, hFT, ctAb_ok, hXT, fun t ks h => by simp [XAb, tabs] at h, mixed⟩
def aupP : Nat → Int
  | 0 => 0
  | 1 => 16
  | 2 => 47
  | 3 => 48
  | 4 => 49
  | _ => 64
def aupT (i : Nat) : List (Nat × SV) := [(0, .int .u64 0), (2, .ptr 0 0), (4, .ptr 1 0), (5, .ptr 2 0), (6, .int .i64 (aupP i)), (13, .int .i64 (i : Int))]
def aupH : List HE := [.obj (.cells [.int .i64 0, .int .i64 0, .int .i64 0, .ff, .ff] 82), .obj (.ints .i64 [16, 31, 1, 1, 15] 235), .obj (.ints .i64 [0, 0, 0, 0, 0] 235)]
set_option maxHeartbeats 4000000 in
theorem unpk0_fn : Gives Tryz.prog 174 [.int .u64 0] [] (Is (.agg [.int .i64 0, .int .i64 0, .int .i64 0, .ff, .ff]) []) := by
  refine gives_x hXAb (fn := Tryz.f174) rfl rfl rfl rfl fun ρ w => ?_
  refine sxb hXAb [.l] [.F, .F] 4000 rfl (by simp [conjP]) ?_
  refine ss_sub hXAb (T' := aupT 0) (H' := aupH) [0, 5, 6] rfl rfl rfl rfl (by (repeat' (first | exact rfl | exact trivial | exact sim_refl _ | refine And.intro ?_ ?_))) (by (repeat' (first | exact rfl | exact trivial | exact sim_refl _ | refine And.intro ?_ ?_))) (by (repeat' (first | exact rfl | exact trivial | exact sim_refl _ | refine And.intro ?_ ?_))) (by (repeat' (first | exact rfl | exact trivial | exact sim_refl _ | refine And.intro ?_ ?_))) ?_
  refine ss_loop hXAb aupT (fun _ => aupH) (fun i => i ≤ 5) (fun i => 5 - i) 0 (by decide) ?_
  intro i hi I back
  have hi : i ≤ 5 := hi
  have hc : i = 0 ∨ i = 1 ∨ i = 2 ∨ i = 3 ∨ i = 4 ∨ i = 5 := by omega
  rcases hc with rfl | rfl | rfl | rfl | rfl | rfl
  · refine sx hXAb [] 400 rfl (by (simp [-List.getD_eq_getElem?_getD, -List.length_eq_zero_iff, conjP])) ?_
    refine sx hXAb [.T] 400 rfl (by (simp [-List.getD_eq_getElem?_getD, -List.length_eq_zero_iff, conjP, List.getD_cons_zero, aupP])) ?_
    (refine back 1 (by decide) (by decide) _ _ _ (sub_of [0, 1, 2] rfl rfl rfl rfl (by (repeat' (first | exact rfl | exact trivial | exact sim_refl _ | refine And.intro ?_ ?_))) (by (repeat' (first | exact rfl | exact trivial | exact sim_refl _ | refine And.intro ?_ ?_))) (by (repeat' (first | exact rfl | exact trivial | exact sim_refl _ | refine And.intro ?_ ?_))) (by (repeat' (first | exact rfl | exact trivial | exact sim_refl _ | refine And.intro ?_ ?_)))))
  · refine sx hXAb [] 400 rfl (by (simp [-List.getD_eq_getElem?_getD, -List.length_eq_zero_iff, conjP])) ?_
    refine sx hXAb [.T] 400 rfl (by (simp [-List.getD_eq_getElem?_getD, -List.length_eq_zero_iff, conjP, List.getD_cons_zero, List.getD_cons_succ, aupP])) ?_
    (refine back 2 (by decide) (by decide) _ _ _ (sub_of [0, 1, 2] rfl rfl rfl rfl (by (repeat' (first | exact rfl | exact trivial | exact sim_refl _ | refine And.intro ?_ ?_))) (by (repeat' (first | exact rfl | exact trivial | exact sim_refl _ | refine And.intro ?_ ?_))) (by (repeat' (first | exact rfl | exact trivial | exact sim_refl _ | refine And.intro ?_ ?_))) (by (repeat' (first | exact rfl | exact trivial | exact sim_refl _ | refine And.intro ?_ ?_)))))
  · refine sx hXAb [] 400 rfl (by (simp [-List.getD_eq_getElem?_getD, -List.length_eq_zero_iff, conjP])) ?_
    refine sx hXAb [.T] 400 rfl (by (simp [-List.getD_eq_getElem?_getD, -List.length_eq_zero_iff, conjP, List.getD_cons_zero, List.getD_cons_succ, aupP])) ?_
    (refine back 3 (by decide) (by decide) _ _ _ (sub_of [0, 1, 2] rfl rfl rfl rfl (by (repeat' (first | exact rfl | exact trivial | exact sim_refl _ | refine And.intro ?_ ?_))) (by (repeat' (first | exact rfl | exact trivial | exact sim_refl _ | refine And.intro ?_ ?_))) (by (repeat' (first | exact rfl | exact trivial | exact sim_refl _ | refine And.intro ?_ ?_))) (by (repeat' (first | exact rfl | exact trivial | exact sim_refl _ | refine And.intro ?_ ?_)))))
  · refine sx hXAb [] 400 rfl (by (simp [-List.getD_eq_getElem?_getD, -List.length_eq_zero_iff, conjP])) ?_
    refine sx hXAb [.T] 400 rfl (by (simp [-List.getD_eq_getElem?_getD, -List.length_eq_zero_iff, conjP, List.getD_cons_zero, List.getD_cons_succ, aupP])) ?_
    (refine back 4 (by decide) (by decide) _ _ _ (sub_of [0, 1, 2] rfl rfl rfl rfl (by (repeat' (first | exact rfl | exact trivial | exact sim_refl _ | refine And.intro ?_ ?_))) (by (repeat' (first | exact rfl | exact trivial | exact sim_refl _ | refine And.intro ?_ ?_))) (by (repeat' (first | exact rfl | exact trivial | exact sim_refl _ | refine And.intro ?_ ?_))) (by (repeat' (first | exact rfl | exact trivial | exact sim_refl _ | refine And.intro ?_ ?_)))))
  · refine sx hXAb [] 400 rfl (by (simp [-List.getD_eq_getElem?_getD, -List.length_eq_zero_iff, conjP])) ?_
    refine sx hXAb [.T] 400 rfl (by (simp [-List.getD_eq_getElem?_getD, -List.length_eq_zero_iff, conjP, List.getD_cons_zero, List.getD_cons_succ, aupP])) ?_
    (refine back 5 (by decide) (by decide) _ _ _ (sub_of [0, 1, 2] rfl rfl rfl rfl (by (repeat' (first | exact rfl | exact trivial | exact sim_refl _ | refine And.intro ?_ ?_))) (by (repeat' (first | exact rfl | exact trivial | exact sim_refl _ | refine And.intro ?_ ?_))) (by (repeat' (first | exact rfl | exact trivial | exact sim_refl _ | refine And.intro ?_ ?_))) (by (repeat' (first | exact rfl | exact trivial | exact sim_refl _ | refine And.intro ?_ ?_)))))
  · refine sx hXAb [] 400 rfl (by (simp [-List.getD_eq_getElem?_getD, -List.length_eq_zero_iff, conjP])) ?_
    refine sx hXAb [.F] 400 rfl (by (simp [-List.getD_eq_getElem?_getD, -List.length_eq_zero_iff, conjP])) ?_
    (exact ss_end hXAb [] rfl rfl trivial rfl rfl rfl rfl (by (repeat' (first | exact rfl | exact trivial | exact sim_refl _ | refine And.intro ?_ ?_))) (by (repeat' (first | exact rfl | exact trivial | exact sim_refl _ | refine And.intro ?_ ?_))) (by (repeat' (first | exact rfl | exact trivial | exact sim_refl _ | refine And.intro ?_ ?_))) (by (repeat' (first | exact rfl | exact trivial | exact sim_refl _ | refine And.intro ?_ ?_))))
def apkW : Nat → Int
  | 4 => 281474976710656
  | 5 => 281474976710656
  | _ => 0
def apkT (i : Nat) : List (Nat × SV) := [(4, .ptr 0 0), (5, .ptr 1 0), (6, .ptr 2 0), (7, .ptr 3 0), (8, .ptr 4 0), (9, .func (Fn.func 210) [] [.ptr 2 0, .ptr 3 0, .ptr 4 0]), (17, .int .i64 (i : Int))]
def apkH (i : Nat) : List HE := [.obj (.ints .i64 [0, 0, 0, 1, 0] 235), .obj (.ints .i64 [16, 31, 1, 1, 15] 235), .obj (.cells [.int .u64 (apkW i)] 52), .obj (.cells [.int .i64 (aupP i)] 3), .obj (.cells [.tt] 4)]
set_option maxHeartbeats 4000000 in
theorem apack1_fn : Gives Tryz.prog 209 [.agg [.int .i64 0, .int .i64 0, .int .i64 0, .tt, .ff]] [] (Is (.tup [.int .u64 281474976710656, .niliface]) []) := by
  refine gives_x hXAb (fn := Tryz.f209) rfl rfl rfl rfl fun ρ w => ?_
  refine sxb hXAb [.l] [.F, .T] 4000 rfl (by simp [conjP]) ?_
  refine ss_sub hXAb (T' := apkT 0) (H' := apkH 0) [4, 5, 6, 7, 8] rfl rfl rfl rfl (by (repeat' (first | exact rfl | exact trivial | exact sim_refl _ | refine And.intro ?_ ?_))) (by (repeat' (first | exact rfl | exact trivial | exact sim_refl _ | refine And.intro ?_ ?_))) (by (repeat' (first | exact rfl | exact trivial | exact sim_refl _ | refine And.intro ?_ ?_))) (by (repeat' (first | exact rfl | exact trivial | exact sim_refl _ | refine And.intro ?_ ?_))) ?_
  refine ss_loop hXAb apkT apkH (fun i => i ≤ 5) (fun i => 5 - i) 0 (by decide) ?_
  intro i hi I back
  have hi : i ≤ 5 := hi
  have hc : i = 0 ∨ i = 1 ∨ i = 2 ∨ i = 3 ∨ i = 4 ∨ i = 5 := by omega
  rcases hc with rfl | rfl | rfl | rfl | rfl | rfl
  · refine sx hXAb [] 400 rfl (by (simp [-List.getD_eq_getElem?_getD, -List.length_eq_zero_iff, conjP])) ?_
    refine sx hXAb [.T] 400 rfl (by (simp [-List.getD_eq_getElem?_getD, -List.length_eq_zero_iff, conjP, getH, HE.so, List.getD_cons_zero, aupP, apkW, wrap_u64])) ?_
    (refine back 1 (by decide) (by decide) _ _ _ (sub_of [0, 1, 2, 3, 4] rfl rfl rfl rfl (by (repeat' (first | exact rfl | exact trivial | exact sim_refl _ | refine And.intro ?_ ?_))) (by (repeat' (first | exact rfl | exact trivial | exact sim_refl _ | refine And.intro ?_ ?_))) (by (repeat' (first | exact rfl | exact trivial | exact sim_refl _ | refine And.intro ?_ ?_))) (by (repeat' (first | exact rfl | exact trivial | exact sim_refl _ | refine And.intro ?_ ?_)))))
  · refine sx hXAb [] 400 rfl (by (simp [-List.getD_eq_getElem?_getD, -List.length_eq_zero_iff, conjP])) ?_
    refine sx hXAb [.T] 400 rfl (by (simp [-List.getD_eq_getElem?_getD, -List.length_eq_zero_iff, conjP, getH, HE.so, List.getD_cons_zero, List.getD_cons_succ, aupP, apkW, wrap_u64])) ?_
    (refine back 2 (by decide) (by decide) _ _ _ (sub_of [0, 1, 2, 3, 4] rfl rfl rfl rfl (by (repeat' (first | exact rfl | exact trivial | exact sim_refl _ | refine And.intro ?_ ?_))) (by (repeat' (first | exact rfl | exact trivial | exact sim_refl _ | refine And.intro ?_ ?_))) (by (repeat' (first | exact rfl | exact trivial | exact sim_refl _ | refine And.intro ?_ ?_))) (by (repeat' (first | exact rfl | exact trivial | exact sim_refl _ | refine And.intro ?_ ?_)))))
  · refine sx hXAb [] 400 rfl (by (simp [-List.getD_eq_getElem?_getD, -List.length_eq_zero_iff, conjP])) ?_
    refine sx hXAb [.T] 400 rfl (by (simp [-List.getD_eq_getElem?_getD, -List.length_eq_zero_iff, conjP, getH, HE.so, List.getD_cons_zero, List.getD_cons_succ, aupP, apkW, wrap_u64])) ?_
    (refine back 3 (by decide) (by decide) _ _ _ (sub_of [0, 1, 2, 3, 4] rfl rfl rfl rfl (by (repeat' (first | exact rfl | exact trivial | exact sim_refl _ | refine And.intro ?_ ?_))) (by (repeat' (first | exact rfl | exact trivial | exact sim_refl _ | refine And.intro ?_ ?_))) (by (repeat' (first | exact rfl | exact trivial | exact sim_refl _ | refine And.intro ?_ ?_))) (by (repeat' (first | exact rfl | exact trivial | exact sim_refl _ | refine And.intro ?_ ?_)))))
  · refine sx hXAb [] 400 rfl (by (simp [-List.getD_eq_getElem?_getD, -List.length_eq_zero_iff, conjP])) ?_
    refine sx hXAb [.T] 400 rfl (by (simp [-List.getD_eq_getElem?_getD, -List.length_eq_zero_iff, conjP, getH, HE.so, List.getD_cons_zero, List.getD_cons_succ, aupP, apkW, wrap_u64])) ?_
    (refine back 4 (by decide) (by decide) _ _ _ (sub_of [0, 1, 2, 3, 4] rfl rfl rfl rfl (by (repeat' (first | exact rfl | exact trivial | exact sim_refl _ | refine And.intro ?_ ?_))) (by (repeat' (first | exact rfl | exact trivial | exact sim_refl _ | refine And.intro ?_ ?_))) (by (repeat' (first | exact rfl | exact trivial | exact sim_refl _ | refine And.intro ?_ ?_))) (by (repeat' (first | exact rfl | exact trivial | exact sim_refl _ | refine And.intro ?_ ?_)))))
  · refine sx hXAb [] 400 rfl (by (simp [-List.getD_eq_getElem?_getD, -List.length_eq_zero_iff, conjP])) ?_
    refine sx hXAb [.T] 400 rfl (by (simp [-List.getD_eq_getElem?_getD, -List.length_eq_zero_iff, conjP, getH, HE.so, List.getD_cons_zero, List.getD_cons_succ, aupP, apkW, wrap_u64])) ?_
    (refine back 5 (by decide) (by decide) _ _ _ (sub_of [0, 1, 2, 3, 4] rfl rfl rfl rfl (by (repeat' (first | exact rfl | exact trivial | exact sim_refl _ | refine And.intro ?_ ?_))) (by (repeat' (first | exact rfl | exact trivial | exact sim_refl _ | refine And.intro ?_ ?_))) (by (repeat' (first | exact rfl | exact trivial | exact sim_refl _ | refine And.intro ?_ ?_))) (by (repeat' (first | exact rfl | exact trivial | exact sim_refl _ | refine And.intro ?_ ?_)))))
  · refine sx hXAb [] 400 rfl (by (simp [-List.getD_eq_getElem?_getD, -List.length_eq_zero_iff, conjP])) ?_
    refine sx hXAb [.F] 400 rfl (by (simp [-List.getD_eq_getElem?_getD, -List.length_eq_zero_iff, conjP, addOP])) ?_
    (exact ss_end hXAb [] rfl rfl trivial rfl rfl rfl rfl (by (repeat' (first | exact rfl | exact trivial | exact sim_refl _ | refine And.intro ?_ ?_))) (by (repeat' (first | exact rfl | exact trivial | exact sim_refl _ | refine And.intro ?_ ?_))) (by (repeat' (first | exact rfl | exact trivial | exact sim_refl _ | refine And.intro ?_ ?_))) (by (repeat' (first | exact rfl | exact trivial | exact sim_refl _ | refine And.intro ?_ ?_))))
theorem configT_fn (l0 l1 : Int) : Gives Tryz.prog 51 [L2 l0 l1] [] (Is (C9 (cAnd 3 l0) 4 1 4 4 1 6 0 (cAnd 7 l1)) []) := by
  refine gives_x hXR (fn := Tryz.f51) rfl rfl rfl rfl fun ρ w => ?_
  refine sx hXR [] 4000 rfl (by (simp [-List.getD_eq_getElem?_getD, -List.length_eq_zero_iff, conjP, getH, HE.so])) ?_
  (exact ss_end hXR [] rfl rfl trivial rfl rfl rfl rfl (by (repeat' (first | exact rfl | exact trivial | exact sim_refl _ | refine And.intro ?_ ?_))) (by (repeat' (first | exact rfl | exact trivial | exact sim_refl _ | refine And.intro ?_ ?_))) (by (repeat' (first | exact rfl | exact trivial | exact sim_refl _ | refine And.intro ?_ ?_))) (by (repeat' (first | exact rfl | exact trivial | exact sim_refl _ | refine And.intro ?_ ?_))))
def cfgTS (t r : Int) : List SV → Option (List Prop × SV)
  | [.agg [.int .i64 l0, .int .i64 l1]] => some ([cAnd 3 l0 = t, cAnd 7 l1 = r], C9 t 4 1 4 4 1 6 0 r)
  | _ => none
theorem cfgTS_ok {t r : Int} : PureOk 51 (cfgTS t r) := by
  intro args ob V hs ho
  unfold cfgTS at hs
  split at hs
  · simp only [Option.some.injEq, Prod.mk.injEq] at hs
    obtain ⟨rfl, rfl⟩ := hs
    have o1 := ho _ (List.mem_cons_self ..)
    have o2 := ho _ (List.mem_cons_of_mem _ (List.mem_cons_self ..))
    subst o1; subst o2
    exact ⟨rfl, rfl, configT_fn _ _⟩
  · simp at hs
def unpk0S : List SV → Option (List Prop × SV)
  | [.int .u64 x] => some ([x = 0], .agg [.int .i64 0, .int .i64 0, .int .i64 0, .ff, .ff])
  | _ => none
theorem unpk0S_ok : PureOk 174 unpk0S := by
  intro args ob V hs ho
  unfold unpk0S at hs
  split at hs
  · simp only [Option.some.injEq, Prod.mk.injEq] at hs
    obtain ⟨rfl, rfl⟩ := hs
    have o1 := ho _ (List.mem_cons_self ..)
    subst o1
    exact ⟨rfl, rfl, unpk0_fn⟩
  · simp at hs
def apack1S : List SV → Option (List Prop × SV)
  | [.agg [.int .i64 0, .int .i64 0, .int .i64 0, .tt, .ff]] => some ([], .tup [.int .u64 281474976710656, .niliface])
  | _ => none
theorem apack1S_ok : PureOk 209 apack1S := by
  intro args ob V hs ho
  unfold apack1S at hs
  split at hs
  · simp only [Option.some.injEq, Prod.mk.injEq] at hs
    obtain ⟨rfl, rfl⟩ := hs
    exact ⟨rfl, rfl, apack1_fn⟩
  · simp at hs
def ctAc (t r : Int) : Nat → Option Hx.Spec
  | 51 => some (pureS (cfgTS t r))
  | 143 => some (pureS rightS)
  | 29 => some (pureS (placeS entryF))
  | 44 => some (pureS (placeS ctlF))
  | 84 => some (pureS startS)
  | 174 => some (pureS unpk0S)
  | 209 => some (pureS apack1S)
  | 27 => some (makeS)
  | 32 => some (arLoadS)
  | 28 => some (arStoreS)
  | 178 => some (arSwapS)
  | 18 => some (topS)
  | _ => none
theorem ctAc_ok (t r : Int) : ∀ f s args H ob V L, ctAc t r f = some s → s args H = some (ob, V, L) → AllP ob → Gives Tryz.prog f args H (Is V L) := by
  intro f s args H ob V L h hs ho
  unfold ctAc at h
  split at h
  · simp at h; subst h; exact pureS_ok ⟨_, hTE⟩ (cfgTS_ok) hs ho
  · simp at h; subst h; exact pureS_ok ⟨_, hTE⟩ (rightS_ok right143) hs ho
  · simp at h; subst h; exact pureS_ok ⟨_, hTE⟩ (placeS_ok (v := entryF) entry_fn) hs ho
  · simp at h; subst h; exact pureS_ok ⟨_, hTE⟩ (placeS_ok (v := ctlF) ctl_fn) hs ho
  · simp at h; subst h; exact pureS_ok ⟨_, hTE⟩ (startS_ok) hs ho
  · simp at h; subst h; exact pureS_ok ⟨_, hTE⟩ (unpk0S_ok) hs ho
  · simp at h; subst h; exact pureS_ok ⟨_, hTE⟩ (apack1S_ok) hs ho
  · simp at h; subst h; exact makeS_ok hs ho
  · simp at h; subst h; exact arLoadS_ok hs ho
  · simp at h; subst h; exact arStoreS_ok hs ho
  · simp at h; subst h; exact arSwapS_ok hs ho
  · simp at h; subst h; exact topS_ok hs ho
  · simp at h
noncomputable def XAc (t r : Int) : Tabs := tabs tr ft xt (fun _ => none) (ctAc t r) 0
theorem hXAc (t r : Int) : TOk Tryz.prog (XAc t r) := ⟨hTE, hFT, (ctAc_ok t r), hXT, fun t ks h => by simp [XAc, tabs] at h, mixed⟩
def hoO (nx ct : SV) (seq lk : Int) (held : SV) (cm : Int) : HE := .obj (.cells [.int .i64 1, .int .i64 4, .int .i64 1, .int .i64 4, .int .i64 4, .int .i64 1, .int .i64 6, .int .i64 0, .int .i64 1, .int .i64 5, nx, ct, .int .u64 seq, .int .i64 lk, .int .i64 0, held, .int .i64 cm, .niliface] 168)
def crO (pl v : Int) : HE := .obj (.cells [.ptr 2 0, .ff, .int .i64 pl, .int .u64 v, .int .i64 0, .int .i64 0, .ff] 164)
def tnH (W : List Int) (st wd vl : Int) : Nat → List HE
  | 0 => [WO W, AOx 0 W st 2 wd vl true, hoO (.func (Fn.func 125) [.ptr 2 0] []) (.func (Fn.func 128) [.ptr 3 0] []) 0 0 .ff 0, crO (-1) 0]
  | 1 => [WO W, AOx 0 W (st + 1) 1 2 0 false, hoO (.func (Fn.func 156) [.ptr 2 0] []) (.func (Fn.func 128) [.ptr 3 0] []) 0 0 .ff 0, crO (-1) 0]
  | 2 => [WO (W.set 2 1), AOx 0 (W.set 2 1) (st + 1 + 1) 3 2 1 true, hoO (.func (Fn.func 128) [.ptr 3 0] []) (.func (Fn.func 128) [.ptr 3 0] []) 0 0 .tt 0, crO (-1) 0]
  | 3 => [WO (W.set 2 1), AOx 0 (W.set 2 1) (st + 1 + 1 + 1) 1 6 0 false, hoO (.func (Fn.func 161) [.ptr 3 0] []) (.func (Fn.func 128) [.ptr 3 0] []) 0 1 .tt 0, crO 0 0]
  | 4 => [WO (W.set 2 1), AOx 0 (W.set 2 1) (st + 1 + 1 + 1 + 1) 1 7 0 false, hoO (.func (Fn.func 182) [.ptr 3 0] []) (.func (Fn.func 128) [.ptr 3 0] []) 0 1 .tt 0, crO 0 0]
  | 5 => [WO ((W.set 2 1).set 7 281474976710656), AOx 0 ((W.set 2 1).set 7 281474976710656) (st + 1 + 1 + 1 + 1 + 1) 2 7 281474976710656 true, hoO (.func (Fn.func 200) [.ptr 3 0] []) (.func (Fn.func 128) [.ptr 3 0] []) 0 1 .tt (st + 1 + 1 + 1 + 1 + 1), crO 0 0]
  | _ => [WO (((W.set 2 1).set 7 281474976710656).set 6 22), AOx 0 (((W.set 2 1).set 7 281474976710656).set 6 22) (st + 1 + 1 + 1 + 1 + 1 + 1) 2 6 22 true, hoO (.func (Fn.func 181) [.ptr 2 0] []) (.func (Fn.func 128) [.ptr 3 0] []) 0 1 .tt (st + 1 + 1 + 1 + 1 + 1), crO 0 0]
/-- What the holder's look is asked of, and what it leaves. -/
def lkA (W : List Int) (st : Int) : List HE := [WO W, AOx 0 W st 3 2 1 true, hoO (.func (Fn.func 128) [.ptr 3 0] []) (.func (Fn.func 128) [.ptr 3 0] []) 0 0 .tt 0, crO (-1) 0]
def lkB (W : List Int) (st : Int) : List HE := [WO W, AOx 0 W (st + 1) 1 6 0 false, hoO (.func (Fn.func 128) [.ptr 3 0] []) (.func (Fn.func 128) [.ptr 3 0] []) 0 1 .tt 0, crO (-1) 0]
set_option maxHeartbeats 8000000 in
theorem alook_fn {W : List Int} {st : Int} (hl : W.length = 21) (h0 : 0 ≤ st) (h1 : st < 1000) (s6 : W.getD 6 0 = 0) : Gives Tryz.prog 158 [.ptr 2 0, .ptr 1 0] (lkA W st) (Is (.tup [.int .i64 0, .ff, .tt, .tt]) (lkB W st)) := by
  have hr : rightB 1 4 1 4 4 1 6 0 1 = true := by decide
  have hs := start_nn hr (k := 5) (by decide) (by decide)
  have hs1 : startV 1 4 1 4 4 1 6 0 1 5 = 0 := by omega
  have en : entryF 1 4 1 4 4 1 6 0 1 0 = 6 := by decide
  have s6t : W.getD (Int.toNat 6) 0 = 0 := s6
  have sv : (IntKind.i64.wrap (startV 1 4 1 4 4 1 6 0 1 5 + 0)).tmod 1 = 0 := by rw [hs1]; decide
  have hX := hXAc 1 1
  refine gives_x hX (fn := Tryz.f158) rfl rfl rfl rfl fun ρ w => ?_
  dsimp only [lkA]
  refine sxb hX [.r 5] [] 4000 rfl (by (simp [-List.getD_eq_getElem?_getD, -List.length_eq_zero_iff, conjP, getH, HE.so, hr, hs1, hl, h0, en, IntKind.wrap_i64] <;> (first | omega | ((repeat' (refine And.intro ?_ ?_)) <;> (first | omega | exact decide_eq_false (by omega) | exact decide_eq_true (by omega)))))) ?_
  refine sxb hX [.r 5] [.T] 4000 rfl (by (simp [-List.getD_eq_getElem?_getD, -List.length_eq_zero_iff, conjP, addOP, hs1, s6, en, IntKind.wrap_i64])) ?_
  (simp only [sv, en, s6t]; refine ss_drawS hX 0 (.int .i64 0) [.T] 400 ⟨_, _, _, rfl, rfl, rfl, rfl, rfl⟩ rfl (by first | exact trivial | (simp [-List.getD_eq_getElem?_getD, -List.length_eq_zero_iff, conjP])) ?_; refine sx hX [] 400 rfl (by first | exact trivial | (simp [-List.getD_eq_getElem?_getD, -List.length_eq_zero_iff, conjP, addOP, getH, HE.so, hr, hs1, hl, h0, h1, s6, en, wrap_u64, IntKind.wrap_i64, cellOff])) ?_; exact ss_end hX [0, 1, 2, 3] rfl rfl trivial rfl rfl rfl rfl (by (repeat' (first | exact rfl | exact trivial | exact sim_refl _ | refine And.intro ?_ ?_))) (by (repeat' (first | exact rfl | exact trivial | exact sim_refl _ | refine And.intro ?_ ?_))) (by (repeat' (first | exact rfl | exact trivial | exact sim_refl _ | refine And.intro ?_ ?_))) (by (repeat' (first | exact rfl | exact trivial | exact sim_refl _ | refine And.intro ?_ ?_))))
def alookS : Hx.Spec := fun args H => match args with
  | [.ptr 2 0, .ptr 1 0] => match arP H 1 with
    | some (_, ⟨W, st, _, _, _, _⟩, _) => some ([W.length = 21, 0 ≤ st, st < 1000, W.getD 6 0 = 0, H = lkA W st], .tup [.int .i64 0, .ff, .tt, .tt], lkB W st)
    | none => none
  | _ => none
theorem alookS_ok {args : List SV} {H : List HE} {ob : List Prop} {V : SV} {L : List HE} (hs : alookS args H = some (ob, V, L)) (ho : AllP ob) : Gives Tryz.prog 158 args H (Is V L) := by
  unfold alookS at hs
  split at hs
  · split at hs
    · simp only [Option.some.injEq, Prod.mk.injEq] at hs
      obtain ⟨rfl, rfl, rfl⟩ := hs
      have q1 := ho _ (List.mem_cons_self ..)
      have q2 := ho _ (List.mem_cons_of_mem _ (List.mem_cons_self ..))
      have q3 := ho _ (List.mem_cons_of_mem _ (List.mem_cons_of_mem _ (List.mem_cons_self ..)))
      have q4 := ho _ (List.mem_cons_of_mem _ (List.mem_cons_of_mem _ (List.mem_cons_of_mem _ (List.mem_cons_self ..))))
      have q5 := ho _ (List.mem_cons_of_mem _ (List.mem_cons_of_mem _ (List.mem_cons_of_mem _ (List.mem_cons_of_mem _ (List.mem_cons_self ..)))))
      rw [q5]
      exact alook_fn q1 q2 q3 q4
    · simp at hs
  · simp at hs
def ctAd (t r : Int) : Nat → Option Hx.Spec
  | 51 => some (pureS (cfgTS t r))
  | 143 => some (pureS rightS)
  | 29 => some (pureS (placeS entryF))
  | 44 => some (pureS (placeS ctlF))
  | 84 => some (pureS startS)
  | 174 => some (pureS unpk0S)
  | 209 => some (pureS apack1S)
  | 27 => some (makeS)
  | 158 => some (alookS)
  | 32 => some (arLoadS)
  | 28 => some (arStoreS)
  | 178 => some (arSwapS)
  | 18 => some (topS)
  | _ => none
theorem ctAd_ok (t r : Int) : ∀ f s args H ob V L, ctAd t r f = some s → s args H = some (ob, V, L) → AllP ob → Gives Tryz.prog f args H (Is V L) := by
  intro f s args H ob V L h hs ho
  unfold ctAd at h
  split at h
  · simp at h; subst h; exact pureS_ok ⟨_, hTE⟩ (cfgTS_ok) hs ho
  · simp at h; subst h; exact pureS_ok ⟨_, hTE⟩ (rightS_ok right143) hs ho
  · simp at h; subst h; exact pureS_ok ⟨_, hTE⟩ (placeS_ok (v := entryF) entry_fn) hs ho
  · simp at h; subst h; exact pureS_ok ⟨_, hTE⟩ (placeS_ok (v := ctlF) ctl_fn) hs ho
  · simp at h; subst h; exact pureS_ok ⟨_, hTE⟩ (startS_ok) hs ho
  · simp at h; subst h; exact pureS_ok ⟨_, hTE⟩ (unpk0S_ok) hs ho
  · simp at h; subst h; exact pureS_ok ⟨_, hTE⟩ (apack1S_ok) hs ho
  · simp at h; subst h; exact makeS_ok hs ho
  · simp at h; subst h; exact alookS_ok hs ho
  · simp at h; subst h; exact arLoadS_ok hs ho
  · simp at h; subst h; exact arStoreS_ok hs ho
  · simp at h; subst h; exact arSwapS_ok hs ho
  · simp at h; subst h; exact topS_ok hs ho
  · simp at h
noncomputable def XAd (t r : Int) : Tabs := tabs tr ft xt (fun _ => none) (ctAd t r) 0
theorem hXAd (t r : Int) : TOk Tryz.prog (XAd t r) := ⟨hTE, hFT, (ctAd_ok t r), hXT, fun t ks h => by simp [XAd, tabs] at h, mixed⟩
def tnT (i : Nat) : List (Nat × SV) := [(2, .ptr 1 0), (4, .ptr 3 0), (5, .int .i64 (i : Int))]
set_option maxHeartbeats 16000000 in
theorem awakeT_fn : Gives Tryz.prog 50 [] [] (Is .tt []) := by
  have e1 : cAnd 3 0 = 1 := by decide
  have e2 : cAnd 7 0 = 1 := by decide
  have hr : rightB 1 4 1 4 4 1 6 0 1 = true := by decide
  have hs := start_nn hr (k := 5) (by decide) (by decide)
  have hs1 : startV 1 4 1 4 4 1 6 0 1 5 = 0 := by omega
  have hl : (mkA 1 4 1 4 4 1 6 0 1).W.length = 21 := by rw [mkA_len]; decide
  have hst := mkA_st hr
  have w2 : (mkA 1 4 1 4 4 1 6 0 1).W.getD 2 0 = 0 := mkA_zero hr (.inl rfl)
  have w6 : (mkA 1 4 1 4 4 1 6 0 1).W.getD 6 0 = 0 := mkA_zero hr (.inr ⟨by decide, by decide⟩)
  have w7 : (mkA 1 4 1 4 4 1 6 0 1).W.getD 7 0 = 0 := mkA_zero hr (.inr ⟨by decide, by decide⟩)
  have en : entryF 1 4 1 4 4 1 6 0 1 0 = 6 := by decide
  have cn : ctlF 1 4 1 4 4 1 6 0 1 0 = 7 := by decide
  have hX := hXAd 1 1
  refine gives_x hX (fn := Tryz.f50) rfl rfl rfl rfl fun ρ w => ?_
  have key : SS (hXAd 1 1) (At ρ w) (Is .tt []) ⟨[], [], Tryz.f50, Tryz.f50.ntmps, [], contF Tryz.f50 6 [], [(2, .ptr 1 0), (4, .ptr 3 0)], tnH (mkA 1 4 1 4 4 1 6 0 1).W (mkA 1 4 1 4 4 1 6 0 1).st (mkA 1 4 1 4 4 1 6 0 1).wd (mkA 1 4 1 4 4 1 6 0 1).vl 0⟩ := by
    generalize (mkA 1 4 1 4 4 1 6 0 1).W = W at *
    generalize (mkA 1 4 1 4 4 1 6 0 1).st = st at *
    have sw : swW W 2 0 1 = W.set 2 1 := by unfold swW; rw [if_pos (by exact w2)]; rfl
    have w2t : W.getD (Int.toNat 2) 0 = 0 := w2
    have swt : swW W 2 0 (IntKind.u64.wrap (0 + 1)) = W.set 2 1 := sw
    have s6 : (W.set 2 1).getD 6 0 = 0 := by rw [set_getD, if_neg (by omega)]; exact w6
    have s7 : (W.set 2 1).getD 7 0 = 0 := by rw [set_getD, if_neg (by omega)]; exact w7
    have s6t : (W.set 2 1).getD (Int.toNat 6) 0 = 0 := s6
    have s7t : (W.set 2 1).getD (Int.toNat 7) 0 = 0 := s7
    have sv : (IntKind.i64.wrap (startV 1 4 1 4 4 1 6 0 1 5 + 0)).tmod 1 = 0 := by rw [hs1]; decide
    refine sxb hX [.l] [] 4000 rfl trivial ?_
    refine ss_sub hX (T' := tnT 0) (H' := tnH W st (mkA 1 4 1 4 4 1 6 0 1).wd (mkA 1 4 1 4 4 1 6 0 1).vl 0) [0, 1, 2, 3] rfl rfl rfl rfl (by (repeat' (first | exact rfl | exact trivial | exact sim_refl _ | refine And.intro ?_ ?_))) (by (repeat' (first | exact rfl | exact trivial | exact sim_refl _ | refine And.intro ?_ ?_))) (by (repeat' (first | exact rfl | exact trivial | exact sim_refl _ | refine And.intro ?_ ?_))) (by (repeat' (first | exact rfl | exact trivial | exact sim_refl _ | refine And.intro ?_ ?_))) ?_
    generalize (mkA 1 4 1 4 4 1 6 0 1).wd = wd
    generalize (mkA 1 4 1 4 4 1 6 0 1).vl = vl
    refine ss_loop hX tnT (tnH W st wd vl) (fun i => i ≤ 6) (fun i => 6 - i) 0 (by decide) ?_
    intro i hi I back
    have hi : i ≤ 6 := hi
    have hc : i = 0 ∨ i = 1 ∨ i = 2 ∨ i = 3 ∨ i = 4 ∨ i = 5 ∨ i = 6 := by omega
    rcases hc with rfl | rfl | rfl | rfl | rfl | rfl | rfl
    · dsimp only [tnH, tnT]
      refine sx hX [] 4000 rfl (by (simp [-List.getD_eq_getElem?_getD, -List.length_eq_zero_iff, conjP])) ?_
      refine sx hX [.T] 4000 rfl (by (simp [-List.getD_eq_getElem?_getD, -List.length_eq_zero_iff, conjP, hl] <;> (first | omega | ((repeat' (refine And.intro ?_ ?_)) <;> (first | omega | exact decide_eq_false (by omega) | exact decide_eq_true (by omega)))))) ?_
      refine sx hX [.F] 4000 rfl (by (simp [-List.getD_eq_getElem?_getD, -List.length_eq_zero_iff, conjP, addOP, w2])) ?_
      (try simp only [w2t]; refine back 1 (by decide) (by decide) _ _ _ (sub_of [0, 1, 2, 3] rfl rfl rfl rfl ?tt ?hh (by (repeat' (first | exact rfl | exact trivial | exact sim_refl _ | refine And.intro ?_ ?_))) (by (repeat' (first | exact rfl | exact trivial | exact sim_refl _ | refine And.intro ?_ ?_)))); (case tt => (repeat' (first | exact rfl | exact trivial | exact sim_refl _ | refine And.intro ?_ ?_)); done); (case hh => (repeat' (first | exact rfl | exact trivial | exact sim_refl _ | refine And.intro ?_ ?_)); done))
    · dsimp only [tnH, tnT]
      refine sx hX [] 4000 rfl (by (simp [-List.getD_eq_getElem?_getD, -List.length_eq_zero_iff, conjP])) ?_
      refine sx hX [.T] 4000 rfl (by (simp [-List.getD_eq_getElem?_getD, -List.length_eq_zero_iff, conjP, getH, HE.so, hl] <;> (first | omega | ((repeat' (refine And.intro ?_ ?_)) <;> (first | omega | exact decide_eq_false (by omega) | exact decide_eq_true (by omega)))))) ?_
      refine sx hX [.F] 4000 rfl (by (simp [-List.getD_eq_getElem?_getD, -List.length_eq_zero_iff, conjP, addOP, w2])) ?_
      (try simp only [w2t, swt, if_true, decide_true]; refine back 2 (by decide) (by decide) _ _ _ (sub_of [0, 1, 2, 3] rfl rfl rfl rfl ?tt ?hh (by (repeat' (first | exact rfl | exact trivial | exact sim_refl _ | refine And.intro ?_ ?_))) (by (repeat' (first | exact rfl | exact trivial | exact sim_refl _ | refine And.intro ?_ ?_)))); (case tt => (repeat' (first | exact rfl | exact trivial | exact sim_refl _ | refine And.intro ?_ ?_)); done); (case hh => (repeat' (first | exact rfl | exact trivial | exact sim_refl _ | refine And.intro ?_ ?_)); done))
    · dsimp only [tnH, tnT]
      refine sx hX [] 4000 rfl (by (simp [-List.getD_eq_getElem?_getD, -List.length_eq_zero_iff, conjP])) ?_
      refine sx hX [.T] 4000 rfl (by (simp [-List.getD_eq_getElem?_getD, -List.length_eq_zero_iff, conjP, hl, s6, lkA, hoO, crO] <;> (first | omega | ((repeat' (refine And.intro ?_ ?_)) <;> (first | omega | exact decide_eq_false (by omega) | exact decide_eq_true (by omega)))))) ?_
      refine sx hX [.T] 4000 rfl (by (simp [-List.getD_eq_getElem?_getD, -List.length_eq_zero_iff, conjP, addOP])) ?_
      refine sx hX [.F] 4000 rfl (by (simp [-List.getD_eq_getElem?_getD, -List.length_eq_zero_iff, conjP, addOP])) ?_
      try simp only [w2t, swt, sv, en, cn, s6t, s7t, if_true, decide_true]
      refine back 3 (by decide) (by decide) _ _ _ (sub_of [0, 1, 2, 3] rfl rfl rfl rfl ?tt ?hh (by (repeat' (first | exact rfl | exact trivial | exact sim_refl _ | refine And.intro ?_ ?_))) (by (repeat' (first | exact rfl | exact trivial | exact sim_refl _ | refine And.intro ?_ ?_))))
      (case tt => (repeat' (first | exact rfl | exact trivial | exact sim_refl _ | refine And.intro ?_ ?_)); done)
      (case hh => (repeat' (first | exact rfl | exact trivial | exact sim_refl _ | refine And.intro ?_ ?_)); done)
    · dsimp only [tnH, tnT]
      refine sx hX [] 4000 rfl (by (simp [-List.getD_eq_getElem?_getD, -List.length_eq_zero_iff, conjP])) ?_
      refine sx hX [.T] 4000 rfl (by (simp [-List.getD_eq_getElem?_getD, -List.length_eq_zero_iff, conjP, hr, hl, cn] <;> (first | omega | ((repeat' (refine And.intro ?_ ?_)) <;> (first | omega | exact decide_eq_false (by omega) | exact decide_eq_true (by omega)))))) ?_
      (try simp only [cn, s7t]; refine back 4 (by decide) (by decide) _ _ _ (sub_of [0, 1, 2, 3] rfl rfl rfl rfl ?tt ?hh (by (repeat' (first | exact rfl | exact trivial | exact sim_refl _ | refine And.intro ?_ ?_))) (by (repeat' (first | exact rfl | exact trivial | exact sim_refl _ | refine And.intro ?_ ?_)))); (case tt => (repeat' (first | exact rfl | exact trivial | exact sim_refl _ | refine And.intro ?_ ?_)); done); (case hh => (repeat' (first | exact rfl | exact trivial | exact sim_refl _ | refine And.intro ?_ ?_)); done))
    · dsimp only [tnH, tnT]
      refine sx hX [] 4000 rfl (by (simp [-List.getD_eq_getElem?_getD, -List.length_eq_zero_iff, conjP])) ?_
      refine sx hX [.T] 4000 rfl (by (simp [-List.getD_eq_getElem?_getD, -List.length_eq_zero_iff, conjP, getH, HE.so, hr, hl, cn] <;> (first | omega | ((repeat' (refine And.intro ?_ ?_)) <;> (first | omega | exact decide_eq_false (by omega) | exact decide_eq_true (by omega)))))) ?_
      (try simp only [cn]; refine back 5 (by decide) (by decide) _ _ _ (sub_of [0, 1, 2, 3] rfl rfl rfl rfl ?tt ?hh (by (repeat' (first | exact rfl | exact trivial | exact sim_refl _ | refine And.intro ?_ ?_))) (by (repeat' (first | exact rfl | exact trivial | exact sim_refl _ | refine And.intro ?_ ?_)))); (case tt => (repeat' (first | exact rfl | exact trivial | exact sim_refl _ | refine And.intro ?_ ?_)); done); (case hh => (repeat' (first | exact rfl | exact trivial | exact sim_refl _ | refine And.intro ?_ ?_)); done))
    · dsimp only [tnH, tnT]
      refine sx hX [] 4000 rfl (by (simp [-List.getD_eq_getElem?_getD, -List.length_eq_zero_iff, conjP])) ?_
      refine sx hX [.T] 4000 rfl (by (simp [-List.getD_eq_getElem?_getD, -List.length_eq_zero_iff, conjP, addOP])) ?_
      refine sx hX [.T, .F] 4000 rfl (by (simp [-List.getD_eq_getElem?_getD, -List.length_eq_zero_iff, conjP, getH, HE.so, hr, hl, en] <;> (first | omega | ((repeat' (refine And.intro ?_ ?_)) <;> (first | omega | exact decide_eq_false (by omega) | exact decide_eq_true (by omega)))))) ?_
      (try simp only [en]; refine back 6 (by decide) (by decide) _ _ _ (sub_of [0, 1, 2, 3] rfl rfl rfl rfl ?tt ?hh (by (repeat' (first | exact rfl | exact trivial | exact sim_refl _ | refine And.intro ?_ ?_))) (by (repeat' (first | exact rfl | exact trivial | exact sim_refl _ | refine And.intro ?_ ?_)))); (case tt => (repeat' (first | exact rfl | exact trivial | exact sim_refl _ | refine And.intro ?_ ?_)); done); (case hh => (repeat' (first | exact rfl | exact trivial | exact sim_refl _ | refine And.intro ?_ ?_)); done))
    · dsimp only [tnH, tnT]
      refine sx hX [] 4000 rfl (by (simp [-List.getD_eq_getElem?_getD, -List.length_eq_zero_iff, conjP])) ?_
      refine sx hX [.F] 4000 rfl (by (simp [-List.getD_eq_getElem?_getD, -List.length_eq_zero_iff, conjP, getH, HE.so, hl] <;> (first | omega | ((repeat' (refine And.intro ?_ ?_)) <;> (first | omega | exact decide_eq_false (by omega) | exact decide_eq_true (by omega)))))) ?_
      (exact ss_end hX [] rfl rfl trivial rfl rfl rfl rfl (by (repeat' (first | exact rfl | exact trivial | exact sim_refl _ | refine And.intro ?_ ?_))) (by (repeat' (first | exact rfl | exact trivial | exact sim_refl _ | refine And.intro ?_ ?_))) (by (repeat' (first | exact rfl | exact trivial | exact sim_refl _ | refine And.intro ?_ ?_))) (by (repeat' (first | exact rfl | exact trivial | exact sim_refl _ | refine And.intro ?_ ?_))))
  refine sxb hX [.r 6] [] 4000 rfl (by (simp [-List.getD_eq_getElem?_getD, -List.length_eq_zero_iff, conjP, e1, e2, hr])) ?_
  refine sxb hX [.r 6] [.F] 4000 rfl (by (simp [-List.getD_eq_getElem?_getD, -List.length_eq_zero_iff, conjP, addOP, hs1])) ?_
  (refine ss_sub hX (T' := [(2, .ptr 1 0), (4, .ptr 3 0)]) (H' := tnH (mkA 1 4 1 4 4 1 6 0 1).W (mkA 1 4 1 4 4 1 6 0 1).st (mkA 1 4 1 4 4 1 6 0 1).wd (mkA 1 4 1 4 4 1 6 0 1).vl 0) [1, 2, 4, 5] rfl rfl rfl rfl (by (repeat' (first | exact rfl | exact trivial | exact sim_refl _ | refine And.intro ?_ ?_))) (by (repeat' (first | exact rfl | exact trivial | exact sim_refl _ | refine And.intro ?_ ?_))) (by (repeat' (first | exact rfl | exact trivial | exact sim_refl _ | refine And.intro ?_ ?_))) (by (repeat' (first | exact rfl | exact trivial | exact sim_refl _ | refine And.intro ?_ ?_))) ?_; exact key)
end Go.Proofs.YtkkddjchkkaagaaGreatDoor
