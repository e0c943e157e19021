/- The steps of a run that writes a small message. -/
import Derived.Test.YtmghcelohnlceaaGreatDoorControlTwo
import Derived.Test.YtmghcelohnlceaaGreatDoorRefArena
namespace Go.Proofs.YtmghcelohnlceaaGreatDoor
open Go Go.Hx
set_option maxRecDepth 8000
/-- The config that these laws are about. -/
abbrev CS (R : Int) : SV := C9 1 4 1 4 4 1 6 0 R
theorem csR {R : Int} (h1 : 1 ≤ R) (h2 : R ≤ 8) : rightB 1 4 1 4 4 1 6 0 R = true := right_iff.2 (by omega)
theorem cs_ctl : ctlV 1 4 1 0 = 7 := by decide
theorem cs_buf {g : Int} (h0 : 0 ≤ g) (h1 : g ≤ 1) : bufV 1 4 1 0 g = 8 + 4 * g := by
  have : g = 0 ∨ g = 1 := by omega
  rcases this with rfl | rfl <;> decide
def ctlKS : List SV → Option (List Prop × SV)
  | [.agg [.int .i64 1, .int .i64 4, .int .i64 1, .int .i64 4, .int .i64 4, .int .i64 1, .int .i64 6, .int .i64 0, .int .i64 R], .int .i64 0] => some ([1 ≤ R, R ≤ 8], .int .i64 7)
  | _ => none
theorem ctlKS_ok : PureOk 22 ctlKS := by
  intro args ob V hs ho
  unfold ctlKS at hs
  split at hs
  · simp only [Option.some.injEq, Prod.mk.injEq] at hs
    obtain ⟨rfl, rfl⟩ := hs
    have o1 := ho _ (List.mem_cons_self ..)
    have o2 := ho _ (List.mem_cons_of_mem _ (List.mem_cons_self ..))
    have := ctl_fn (csR o1 o2) 0 (by decide) (by decide)
    rw [cs_ctl] at this
    exact ⟨rfl, rfl, this⟩
  · simp at hs
theorem rctlKS_ok : PureOk 41 ctlKS := by
  intro args ob V hs ho
  unfold ctlKS at hs
  split at hs
  · simp only [Option.some.injEq, Prod.mk.injEq] at hs
    obtain ⟨rfl, rfl⟩ := hs
    have o1 := ho _ (List.mem_cons_self ..)
    have o2 := ho _ (List.mem_cons_of_mem _ (List.mem_cons_self ..))
    have := rctl_fn (csR o1 o2) 0 (by decide) (by decide)
    rw [cs_ctl] at this
    exact ⟨rfl, rfl, this⟩
  · simp at hs
def bufKS : List SV → Option (List Prop × SV)
  | [.agg [.int .i64 1, .int .i64 4, .int .i64 1, .int .i64 4, .int .i64 4, .int .i64 1, .int .i64 6, .int .i64 0, .int .i64 R], .int .i64 0, .int .i64 g] => some ([1 ≤ R, R ≤ 8, 0 ≤ g, g ≤ 1], .int .i64 (8 + 4 * g))
  | _ => none
theorem bufKS_ok : PureOk 52 bufKS := by
  intro args ob V hs ho
  unfold bufKS at hs
  split at hs
  · rename_i R g
    simp only [Option.some.injEq, Prod.mk.injEq] at hs
    obtain ⟨rfl, rfl⟩ := hs
    have o1 := ho _ (List.mem_cons_self ..)
    have o2 := ho _ (List.mem_cons_of_mem _ (List.mem_cons_self ..))
    have o3 := ho _ (List.mem_cons_of_mem _ (List.mem_cons_of_mem _ (List.mem_cons_self ..)))
    have o4 := ho _ (List.mem_cons_of_mem _ (List.mem_cons_of_mem _ (List.mem_cons_of_mem _ (List.mem_cons_self ..))))
    have := buf_fn (csR o1 o2) 0 g (by decide) (by decide)
    rw [cs_buf o3 o4] at this
    exact ⟨rfl, rfl, this⟩
  · simp at hs
def ctSw : Nat → Option Hx.Spec
  | 22 => some (pureS ctlKS)
  | 52 => some (pureS bufKS)
  | 92 => some (pureS unpkS)
  | 50 => some (pureS busyS)
  | 54 => some (pureS writtenS)
  | 56 => some (pureS stillS)
  | 55 => some (arLoadS)
  | 51 => some (arStoreS)
  | 48 => some (arSwapS)
  | 24 => some (arStepsS)
  | _ => none
theorem ctSw_ok : ∀ f s args H ob V L, ctSw f = some s → s args H = some (ob, V, L) → AllP ob → Gives Tryz.prog f args H (Is V L) := by
  intro f s args H ob V L h hs ho
  unfold ctSw at h
  split at h
  · simp at h; subst h; exact pureS_ok ⟨_, hTE⟩ (ctlKS_ok) hs ho
  · simp at h; subst h; exact pureS_ok ⟨_, hTE⟩ (bufKS_ok) hs ho
  · simp at h; subst h; exact pureS_ok ⟨_, hTE⟩ (unpkS_ok) hs ho
  · simp at h; subst h; exact pureS_ok ⟨_, hTE⟩ (busyS_ok) hs ho
  · simp at h; subst h; exact pureS_ok ⟨_, hTE⟩ (writtenS_ok) hs ho
  · simp at h; subst h; exact pureS_ok ⟨_, hTE⟩ (stillS_ok) hs ho
  · simp at h; subst h; exact arLoadS_ok hs ho
  · simp at h; subst h; exact arStoreS_ok hs ho
  · simp at h; subst h; exact arSwapS_ok hs ho
  · simp at h; subst h; exact arStepsS_ok hs ho
  · simp at h
noncomputable def XSw : Tabs := tabs tr ft xt (fun _ => none) ctSw 20
theorem hXSw : TOk Tryz.prog (XSw) := ⟨hTE, hFT, ctSw_ok, hXT, fun t ks h => by simp [XSw, tabs] at h, mixed⟩
abbrev erO (c : Int) : SV := .iface 55 (.int .i64 c)
/-- A run that writes, with its words at a handle. -/
abbrev wrO (R ep nx sn fl cm tm : Int) (e : SV) (hw : Nat) (n : Nat) (i : Int) (hd : Bool) : SO := .cells [.int .i64 1, .int .i64 4, .int .i64 1, .int .i64 4, .int .i64 4, .int .i64 1, .int .i64 6, .int .i64 0, .int .i64 R, .int .i64 0, .int .i64 ep, .int .i64 nx, .int .u64 sn, .int .i64 fl, .int .i64 cm, .int .i64 tm, e, .sbuf hw 1 0 n, .int .i64 i, .bool hd] 95
abbrev wdE (l : List Int) : HE := .obj (.buf .u64 l 1 39)
section
variable {R ep sn fl cm tm i st kd wd vl : Int} {hd ch : Bool} {W l : List Int}
variable (h1 : 1 ≤ R) (h2 : R ≤ 8) (hl : 16 ≤ W.length) (hs : 0 ≤ st) (hs' : st < 1000000)
include h1 h2 hl hs hs'
section
variable (hw0 : 0 ≤ W.getD 7 0) (hw1 : W.getD 7 0 < 18446744073709551616)
include hw0 hw1
set_option maxHeartbeats 4000000 in
theorem wGone_fn (hg : ¬ (liW (W.getD 7 0) = true ∧ epW (W.getD 7 0) = ep)) : Gives Tryz.prog 13 [.ptr 0 0, .ptr 1 0] [.obj (wrO R ep 1 sn fl cm tm .niliface 3 l.length i hd), AOx 2 W st kd wd vl ch, WO W, wdE l]
    (Is .tt [.obj (wrO R ep 0 (W.getD 7 0) fl cm (st + 1) (erO 22) 3 l.length i hd), AOx 2 W (st + 1) 1 7 (W.getD 7 0) false, WO W, wdE l]) := by
  have h7 : 7 < W.length := by omega
  refine gives_x hXSw (fn := Tryz.f13) rfl rfl rfl rfl fun ρ w' => ?_
  rcases g1 : liW (W.getD 7 0) with _ | _
  · refine sx hXSw [] 4000 rfl (by (simp [-List.getD_eq_getElem?_getD, -List.length_eq_zero_iff, conjP])) ?_
    refine sx hXSw [.F] 4000 rfl (by (simp [-List.getD_eq_getElem?_getD, -List.length_eq_zero_iff, conjP, addOP])) ?_
    refine sx hXSw [.T] 4000 rfl (by (simp [-List.getD_eq_getElem?_getD, -List.length_eq_zero_iff, conjP, h1, h2, hs, hw0, hw1] <;> (first | omega | ((repeat' (refine And.intro ?_ ?_)) <;> (first | omega | exact decide_eq_false (by omega) | exact decide_eq_true (by omega)))))) ?_
    refine sx hXSw [.K, .K, .T] 4000 rfl (by (simp [-List.getD_eq_getElem?_getD, -List.length_eq_zero_iff, conjP, g1])) ?_
    refine sx hXSw [.F] 4000 rfl (by (simp [-List.getD_eq_getElem?_getD, -List.length_eq_zero_iff, conjP, addOP])) ?_
    (exact ss_end hXSw [0, 1, 2, 3] rfl rfl trivial rfl rfl rfl rfl (by (repeat' (first | exact rfl | exact trivial | exact sim_refl _ | refine And.intro ?_ ?_))) (by (repeat' (first | exact rfl | exact trivial | exact sim_refl _ | refine And.intro ?_ ?_))) (by (repeat' (first | exact rfl | exact trivial | exact sim_refl _ | refine And.intro ?_ ?_))) (by (repeat' (first | exact rfl | exact trivial | exact sim_refl _ | refine And.intro ?_ ?_))))
  · have g2 : ¬ epW (W.getD 7 0) = ep := fun q => hg ⟨g1, q⟩
    refine sx hXSw [] 4000 rfl (by (simp [-List.getD_eq_getElem?_getD, -List.length_eq_zero_iff, conjP])) ?_
    refine sx hXSw [.F] 4000 rfl (by (simp [-List.getD_eq_getElem?_getD, -List.length_eq_zero_iff, conjP, addOP])) ?_
    refine sx hXSw [.T] 4000 rfl (by (simp [-List.getD_eq_getElem?_getD, -List.length_eq_zero_iff, conjP, h1, h2, hs, hw0, hw1] <;> (first | omega | ((repeat' (refine And.intro ?_ ?_)) <;> (first | omega | exact decide_eq_false (by omega) | exact decide_eq_true (by omega)))))) ?_
    refine sx hXSw [.K, .K, .F] 4000 rfl (by (simp [-List.getD_eq_getElem?_getD, -List.length_eq_zero_iff, conjP, g1])) ?_
    refine sx hXSw [.T] 4000 rfl (by (simp [-List.getD_eq_getElem?_getD, -List.length_eq_zero_iff, conjP, addOP, g2])) ?_
    refine sx hXSw [.F] 4000 rfl (by (simp [-List.getD_eq_getElem?_getD, -List.length_eq_zero_iff, conjP, addOP])) ?_
    (exact ss_end hXSw [0, 1, 2, 3] rfl rfl trivial rfl rfl rfl rfl (by (repeat' (first | exact rfl | exact trivial | exact sim_refl _ | refine And.intro ?_ ?_))) (by (repeat' (first | exact rfl | exact trivial | exact sim_refl _ | refine And.intro ?_ ?_))) (by (repeat' (first | exact rfl | exact trivial | exact sim_refl _ | refine And.intro ?_ ?_))) (by (repeat' (first | exact rfl | exact trivial | exact sim_refl _ | refine And.intro ?_ ?_))))
section
variable (g1 : liW (W.getD 7 0) = true) (g2 : epW (W.getD 7 0) = ep)
include g1 g2
set_option maxHeartbeats 4000000 in
theorem wOver_fn (g3 : geW (W.getD 7 0) = 2147483647) : Gives Tryz.prog 13 [.ptr 0 0, .ptr 1 0] [.obj (wrO R ep 1 sn fl cm tm .niliface 3 l.length i hd), AOx 2 W st kd wd vl ch, WO W, wdE l]
    (Is .tt [.obj (wrO R ep 0 (W.getD 7 0) fl cm (st + 1) (erO 16) 3 l.length i hd), AOx 2 W (st + 1) 1 7 (W.getD 7 0) false, WO W, wdE l]) := by
  have h7 : 7 < W.length := by omega
  refine gives_x hXSw (fn := Tryz.f13) rfl rfl rfl rfl fun ρ w' => ?_
  refine sx hXSw [] 4000 rfl (by (simp [-List.getD_eq_getElem?_getD, -List.length_eq_zero_iff, conjP])) ?_
  refine sx hXSw [.F] 4000 rfl (by (simp [-List.getD_eq_getElem?_getD, -List.length_eq_zero_iff, conjP, addOP])) ?_
  refine sx hXSw [.T] 4000 rfl (by (simp [-List.getD_eq_getElem?_getD, -List.length_eq_zero_iff, conjP, h1, h2, hs, hw0, hw1] <;> (first | omega | ((repeat' (refine And.intro ?_ ?_)) <;> (first | omega | exact decide_eq_false (by omega) | exact decide_eq_true (by omega)))))) ?_
  refine sx hXSw [.K, .K, .F] 4000 rfl (by (simp [-List.getD_eq_getElem?_getD, -List.length_eq_zero_iff, conjP, g1])) ?_
  refine sx hXSw [.F] 4000 rfl (by (simp [-List.getD_eq_getElem?_getD, -List.length_eq_zero_iff, conjP, addOP, g2])) ?_
  refine sx hXSw [.T] 4000 rfl (by (simp [-List.getD_eq_getElem?_getD, -List.length_eq_zero_iff, conjP, addOP, g3])) ?_
  refine sx hXSw [.F] 4000 rfl (by (simp [-List.getD_eq_getElem?_getD, -List.length_eq_zero_iff, conjP, addOP])) ?_
  (exact ss_end hXSw [0, 1, 2, 3] rfl rfl trivial rfl rfl rfl rfl (by (repeat' (first | exact rfl | exact trivial | exact sim_refl _ | refine And.intro ?_ ?_))) (by (repeat' (first | exact rfl | exact trivial | exact sim_refl _ | refine And.intro ?_ ?_))) (by (repeat' (first | exact rfl | exact trivial | exact sim_refl _ | refine And.intro ?_ ?_))) (by (repeat' (first | exact rfl | exact trivial | exact sim_refl _ | refine And.intro ?_ ?_))))
variable (g3 : ¬ geW (W.getD 7 0) = 2147483647)
include g3
set_option maxHeartbeats 4000000 in
theorem wBusy_fn (hf0 : 0 ≤ fl) (hf : fl + 1 < R) (g4 : buW (W.getD 7 0) = true) : Gives Tryz.prog 13 [.ptr 0 0, .ptr 1 0] [.obj (wrO R ep 1 sn fl cm tm .niliface 3 l.length i hd), AOx 2 W st kd wd vl ch, WO W, wdE l]
    (Is .ff [.obj (wrO R ep 1 (W.getD 7 0) (fl + 1) cm (st + 1) .niliface 3 l.length i hd), AOx 2 W (st + 1) 1 7 (W.getD 7 0) false, WO W, wdE l]) := by
  have h7 : 7 < W.length := by omega
  have e1 : IntKind.i64.wrap (fl + 1) = fl + 1 := wi64 (by omega) (by omega)
  have e2 : ¬ fl + 1 = R := by omega
  refine gives_x hXSw (fn := Tryz.f13) rfl rfl rfl rfl fun ρ w' => ?_
  refine sx hXSw [] 4000 rfl (by (simp [-List.getD_eq_getElem?_getD, -List.length_eq_zero_iff, conjP])) ?_
  refine sx hXSw [.F] 4000 rfl (by (simp [-List.getD_eq_getElem?_getD, -List.length_eq_zero_iff, conjP, addOP])) ?_
  refine sx hXSw [.T] 4000 rfl (by (simp [-List.getD_eq_getElem?_getD, -List.length_eq_zero_iff, conjP, h1, h2, hs, hw0, hw1] <;> (first | omega | ((repeat' (refine And.intro ?_ ?_)) <;> (first | omega | exact decide_eq_false (by omega) | exact decide_eq_true (by omega)))))) ?_
  refine sx hXSw [.K, .K, .F] 4000 rfl (by (simp [-List.getD_eq_getElem?_getD, -List.length_eq_zero_iff, conjP, g1])) ?_
  refine sx hXSw [.F] 4000 rfl (by (simp [-List.getD_eq_getElem?_getD, -List.length_eq_zero_iff, conjP, addOP, g2])) ?_
  refine sx hXSw [.F] 4000 rfl (by (simp [-List.getD_eq_getElem?_getD, -List.length_eq_zero_iff, conjP, addOP, g3])) ?_
  refine sx hXSw [.T] 4000 rfl (by (simp [-List.getD_eq_getElem?_getD, -List.length_eq_zero_iff, conjP, addOP, g4])) ?_
  refine sx hXSw [.F] 4000 rfl (by (simp [-List.getD_eq_getElem?_getD, -List.length_eq_zero_iff, conjP, addOP, e1, e2])) ?_
  (refine ss_end hXSw [0, 1, 2, 3] rfl rfl trivial rfl rfl rfl rfl (by (repeat' (first | exact rfl | exact trivial | exact sim_refl _ | refine And.intro ?_ ?_))) ?hh (by (repeat' (first | exact rfl | exact trivial | exact sim_refl _ | refine And.intro ?_ ?_))) (by (repeat' (first | exact rfl | exact trivial | exact sim_refl _ | refine And.intro ?_ ?_))); (case hh => simp only [e1]; (repeat' (first | exact rfl | exact trivial | exact sim_refl _ | refine And.intro ?_ ?_)); done))
set_option maxHeartbeats 4000000 in
theorem wBusyL_fn (_hf0 : 0 ≤ fl) (hf : fl + 1 = R) (g4 : buW (W.getD 7 0) = true) : Gives Tryz.prog 13 [.ptr 0 0, .ptr 1 0] [.obj (wrO R ep 1 sn fl cm tm .niliface 3 l.length i hd), AOx 2 W st kd wd vl ch, WO W, wdE l]
    (Is .tt [.obj (wrO R ep 0 (W.getD 7 0) (fl + 1) cm (st + 1) (erO 17) 3 l.length i hd), AOx 2 W (st + 1) 1 7 (W.getD 7 0) false, WO W, wdE l]) := by
  have h7 : 7 < W.length := by omega
  have e1 : IntKind.i64.wrap (fl + 1) = R := by rw [wi64 (by omega) (by omega)]; exact hf
  rw [hf]
  refine gives_x hXSw (fn := Tryz.f13) rfl rfl rfl rfl fun ρ w' => ?_
  refine sx hXSw [] 4000 rfl (by (simp [-List.getD_eq_getElem?_getD, -List.length_eq_zero_iff, conjP])) ?_
  refine sx hXSw [.F] 4000 rfl (by (simp [-List.getD_eq_getElem?_getD, -List.length_eq_zero_iff, conjP, addOP])) ?_
  refine sx hXSw [.T] 4000 rfl (by (simp [-List.getD_eq_getElem?_getD, -List.length_eq_zero_iff, conjP, h1, h2, hs, hw0, hw1] <;> (first | omega | ((repeat' (refine And.intro ?_ ?_)) <;> (first | omega | exact decide_eq_false (by omega) | exact decide_eq_true (by omega)))))) ?_
  refine sx hXSw [.K, .K, .F] 4000 rfl (by (simp [-List.getD_eq_getElem?_getD, -List.length_eq_zero_iff, conjP, g1])) ?_
  refine sx hXSw [.F] 4000 rfl (by (simp [-List.getD_eq_getElem?_getD, -List.length_eq_zero_iff, conjP, addOP, g2])) ?_
  refine sx hXSw [.F] 4000 rfl (by (simp [-List.getD_eq_getElem?_getD, -List.length_eq_zero_iff, conjP, addOP, g3])) ?_
  refine sx hXSw [.T] 4000 rfl (by (simp [-List.getD_eq_getElem?_getD, -List.length_eq_zero_iff, conjP, addOP, g4])) ?_
  refine sx hXSw [.T] 4000 rfl (by (simp [-List.getD_eq_getElem?_getD, -List.length_eq_zero_iff, conjP, addOP, e1])) ?_
  refine sx hXSw [.F] 4000 rfl (by (simp [-List.getD_eq_getElem?_getD, -List.length_eq_zero_iff, conjP, addOP])) ?_
  (refine ss_end hXSw [0, 1, 2, 3] rfl rfl trivial rfl rfl rfl rfl (by (repeat' (first | exact rfl | exact trivial | exact sim_refl _ | refine And.intro ?_ ?_))) ?hh (by (repeat' (first | exact rfl | exact trivial | exact sim_refl _ | refine And.intro ?_ ?_))) (by (repeat' (first | exact rfl | exact trivial | exact sim_refl _ | refine And.intro ?_ ?_))); (case hh => simp only [e1]; (repeat' (first | exact rfl | exact trivial | exact sim_refl _ | refine And.intro ?_ ?_)); done))
set_option maxHeartbeats 4000000 in
theorem wLook_fn (g4 : buW (W.getD 7 0) = false) : Gives Tryz.prog 13 [.ptr 0 0, .ptr 1 0] [.obj (wrO R ep 1 sn fl cm tm .niliface 3 l.length i hd), AOx 2 W st kd wd vl ch, WO W, wdE l]
    (Is .ff [.obj (wrO R ep 2 (W.getD 7 0) fl cm (st + 1) .niliface 3 l.length i hd), AOx 2 W (st + 1) 1 7 (W.getD 7 0) false, WO W, wdE l]) := by
  have h7 : 7 < W.length := by omega
  refine gives_x hXSw (fn := Tryz.f13) rfl rfl rfl rfl fun ρ w' => ?_
  refine sx hXSw [] 4000 rfl (by (simp [-List.getD_eq_getElem?_getD, -List.length_eq_zero_iff, conjP])) ?_
  refine sx hXSw [.F] 4000 rfl (by (simp [-List.getD_eq_getElem?_getD, -List.length_eq_zero_iff, conjP, addOP])) ?_
  refine sx hXSw [.T] 4000 rfl (by (simp [-List.getD_eq_getElem?_getD, -List.length_eq_zero_iff, conjP, h1, h2, hs, hw0, hw1] <;> (first | omega | ((repeat' (refine And.intro ?_ ?_)) <;> (first | omega | exact decide_eq_false (by omega) | exact decide_eq_true (by omega)))))) ?_
  refine sx hXSw [.K, .K, .F] 4000 rfl (by (simp [-List.getD_eq_getElem?_getD, -List.length_eq_zero_iff, conjP, g1])) ?_
  refine sx hXSw [.F] 4000 rfl (by (simp [-List.getD_eq_getElem?_getD, -List.length_eq_zero_iff, conjP, addOP, g2])) ?_
  refine sx hXSw [.F] 4000 rfl (by (simp [-List.getD_eq_getElem?_getD, -List.length_eq_zero_iff, conjP, addOP, g3])) ?_
  refine sx hXSw [.F] 4000 rfl (by (simp [-List.getD_eq_getElem?_getD, -List.length_eq_zero_iff, conjP, addOP, g4])) ?_
  (exact ss_end hXSw [0, 1, 2, 3] rfl rfl trivial rfl rfl rfl rfl (by (repeat' (first | exact rfl | exact trivial | exact sim_refl _ | refine And.intro ?_ ?_))) (by (repeat' (first | exact rfl | exact trivial | exact sim_refl _ | refine And.intro ?_ ?_))) (by (repeat' (first | exact rfl | exact trivial | exact sim_refl _ | refine And.intro ?_ ?_))) (by (repeat' (first | exact rfl | exact trivial | exact sim_refl _ | refine And.intro ?_ ?_))))
end
end
section
variable (n0 : 0 ≤ sn) (n1 : sn < 18446744073709551616)
include n0 n1
set_option maxHeartbeats 4000000 in
theorem wHold_fn (hh : W.getD 7 0 = sn) : Gives Tryz.prog 13 [.ptr 0 0, .ptr 1 0] [.obj (wrO R ep 2 sn fl cm tm .niliface 3 l.length i hd), AOx 2 W st kd wd vl ch, WO W, wdE l]
    (Is .ff [.obj (wrO R ep 3 sn fl cm tm .niliface 3 l.length i true), AOx 2 (W.set 7 (busyW sn)) (st + 1) 3 7 (busyW sn) true, WO (W.set 7 (busyW sn)), wdE l]) := by
  have h7 : 7 < W.length := by omega
  have hh' : W.getD (Int.toNat 7) 0 = sn := hh
  have sw : swW W 7 sn (busyW sn) = W.set 7 (busyW sn) := by unfold swW; rw [if_pos (by exact hh)]; rfl
  refine gives_x hXSw (fn := Tryz.f13) rfl rfl rfl rfl fun ρ w' => ?_
  refine sx hXSw [] 4000 rfl (by (simp [-List.getD_eq_getElem?_getD, -List.length_eq_zero_iff, conjP])) ?_
  refine sx hXSw [.F] 4000 rfl (by (simp [-List.getD_eq_getElem?_getD, -List.length_eq_zero_iff, conjP, addOP])) ?_
  refine sx hXSw [.F] 4000 rfl (by (simp [-List.getD_eq_getElem?_getD, -List.length_eq_zero_iff, conjP, addOP])) ?_
  refine sx hXSw [.T] 4000 rfl (by (simp [-List.getD_eq_getElem?_getD, -List.length_eq_zero_iff, conjP, getH, HE.so, h1, h2, hs, n0, n1] <;> (first | omega | ((repeat' (refine And.intro ?_ ?_)) <;> (first | omega | exact decide_eq_false (by omega) | exact decide_eq_true (by omega)))))) ?_
  refine sx hXSw [.F] 4000 rfl (by (simp [-List.getD_eq_getElem?_getD, -List.length_eq_zero_iff, conjP, addOP, hh])) ?_
  (simp only [hh', sw, if_true, decide_true]; exact ss_end hXSw [0, 1, 2, 3] rfl rfl trivial rfl rfl rfl rfl (by (repeat' (first | exact rfl | exact trivial | exact sim_refl _ | refine And.intro ?_ ?_))) (by (repeat' (first | exact rfl | exact trivial | exact sim_refl _ | (simp; done) | refine And.intro ?_ ?_))) (by (repeat' (first | exact rfl | exact trivial | exact sim_refl _ | refine And.intro ?_ ?_))) (by (repeat' (first | exact rfl | exact trivial | exact sim_refl _ | refine And.intro ?_ ?_))))
set_option maxHeartbeats 4000000 in
theorem wLost_fn (hf0 : 0 ≤ fl) (hf : fl + 1 < R) (hh : ¬ W.getD 7 0 = sn) : Gives Tryz.prog 13 [.ptr 0 0, .ptr 1 0] [.obj (wrO R ep 2 sn fl cm tm .niliface 3 l.length i hd), AOx 2 W st kd wd vl ch, WO W, wdE l]
    (Is .ff [.obj (wrO R ep 1 sn (fl + 1) cm tm .niliface 3 l.length i false), AOx 2 W (st + 1) 3 7 (W.getD 7 0) false, WO W, wdE l]) := by
  have h7 : 7 < W.length := by omega
  have hh' : ¬ W.getD (Int.toNat 7) 0 = sn := hh
  have sw : swW W 7 sn (busyW sn) = W := by unfold swW; rw [if_neg (by exact hh)]
  have e1 : IntKind.i64.wrap (fl + 1) = fl + 1 := wi64 (by omega) (by omega)
  have e2 : ¬ fl + 1 = R := by omega
  refine gives_x hXSw (fn := Tryz.f13) rfl rfl rfl rfl fun ρ w' => ?_
  refine sx hXSw [] 4000 rfl (by (simp [-List.getD_eq_getElem?_getD, -List.length_eq_zero_iff, conjP])) ?_
  refine sx hXSw [.F] 4000 rfl (by (simp [-List.getD_eq_getElem?_getD, -List.length_eq_zero_iff, conjP, addOP])) ?_
  refine sx hXSw [.F] 4000 rfl (by (simp [-List.getD_eq_getElem?_getD, -List.length_eq_zero_iff, conjP, addOP])) ?_
  refine sx hXSw [.T] 4000 rfl (by (simp [-List.getD_eq_getElem?_getD, -List.length_eq_zero_iff, conjP, getH, HE.so, h1, h2, hs, n0, n1] <;> (first | omega | ((repeat' (refine And.intro ?_ ?_)) <;> (first | omega | exact decide_eq_false (by omega) | exact decide_eq_true (by omega)))))) ?_
  refine sx hXSw [.T] 4000 rfl (by (simp [-List.getD_eq_getElem?_getD, -List.length_eq_zero_iff, conjP, addOP, hh])) ?_
  refine sx hXSw [.F] 4000 rfl (by (simp [-List.getD_eq_getElem?_getD, -List.length_eq_zero_iff, conjP, addOP, e1, e2])) ?_
  (simp only [hh', sw, if_false, decide_false]; refine ss_end hXSw [0, 1, 2, 3] rfl rfl trivial rfl rfl rfl rfl (by (repeat' (first | exact rfl | exact trivial | exact sim_refl _ | refine And.intro ?_ ?_))) ?hh (by (repeat' (first | exact rfl | exact trivial | exact sim_refl _ | refine And.intro ?_ ?_))) (by (repeat' (first | exact rfl | exact trivial | exact sim_refl _ | refine And.intro ?_ ?_))); (case hh => simp only [e1]; (repeat' (first | exact rfl | exact trivial | exact sim_refl _ | (simp; done) | refine And.intro ?_ ?_)); done))
set_option maxHeartbeats 4000000 in
theorem wLostL_fn (_hf0 : 0 ≤ fl) (hf : fl + 1 = R) (hh : ¬ W.getD 7 0 = sn) : Gives Tryz.prog 13 [.ptr 0 0, .ptr 1 0] [.obj (wrO R ep 2 sn fl cm tm .niliface 3 l.length i hd), AOx 2 W st kd wd vl ch, WO W, wdE l]
    (Is .tt [.obj (wrO R ep 0 sn (fl + 1) cm tm (erO 17) 3 l.length i false), AOx 2 W (st + 1) 3 7 (W.getD 7 0) false, WO W, wdE l]) := by
  have h7 : 7 < W.length := by omega
  have hh' : ¬ W.getD (Int.toNat 7) 0 = sn := hh
  have sw : swW W 7 sn (busyW sn) = W := by unfold swW; rw [if_neg (by exact hh)]
  have e1 : IntKind.i64.wrap (fl + 1) = R := by rw [wi64 (by omega) (by omega)]; exact hf
  rw [hf]
  refine gives_x hXSw (fn := Tryz.f13) rfl rfl rfl rfl fun ρ w' => ?_
  refine sx hXSw [] 4000 rfl (by (simp [-List.getD_eq_getElem?_getD, -List.length_eq_zero_iff, conjP])) ?_
  refine sx hXSw [.F] 4000 rfl (by (simp [-List.getD_eq_getElem?_getD, -List.length_eq_zero_iff, conjP, addOP])) ?_
  refine sx hXSw [.F] 4000 rfl (by (simp [-List.getD_eq_getElem?_getD, -List.length_eq_zero_iff, conjP, addOP])) ?_
  refine sx hXSw [.T] 4000 rfl (by (simp [-List.getD_eq_getElem?_getD, -List.length_eq_zero_iff, conjP, getH, HE.so, h1, h2, hs, n0, n1] <;> (first | omega | ((repeat' (refine And.intro ?_ ?_)) <;> (first | omega | exact decide_eq_false (by omega) | exact decide_eq_true (by omega)))))) ?_
  refine sx hXSw [.T] 4000 rfl (by (simp [-List.getD_eq_getElem?_getD, -List.length_eq_zero_iff, conjP, addOP, hh])) ?_
  refine sx hXSw [.T] 4000 rfl (by (simp [-List.getD_eq_getElem?_getD, -List.length_eq_zero_iff, conjP, addOP, e1])) ?_
  refine sx hXSw [.F] 4000 rfl (by (simp [-List.getD_eq_getElem?_getD, -List.length_eq_zero_iff, conjP, addOP])) ?_
  (simp only [hh', sw, if_false, decide_false]; refine ss_end hXSw [0, 1, 2, 3] rfl rfl trivial rfl rfl rfl rfl (by (repeat' (first | exact rfl | exact trivial | exact sim_refl _ | refine And.intro ?_ ?_))) ?hh (by (repeat' (first | exact rfl | exact trivial | exact sim_refl _ | refine And.intro ?_ ?_))) (by (repeat' (first | exact rfl | exact trivial | exact sim_refl _ | refine And.intro ?_ ?_))); (case hh => simp only [e1]; (repeat' (first | exact rfl | exact trivial | exact sim_refl _ | (simp; done) | refine And.intro ?_ ?_)); done))
set_option maxHeartbeats 4000000 in
theorem wWord_fn (i0 : 0 ≤ i) (i1 : i < l.length) (i2 : l.length ≤ 4) : Gives Tryz.prog 13 [.ptr 0 0, .ptr 1 0] [.obj (wrO R ep 3 sn fl cm tm .niliface 3 l.length i hd), AOx 2 W st kd wd vl ch, WO W, wdE l]
    (Is .ff [.obj (wrO R ep (if i + 1 = l.length then 4 else 3) sn fl cm tm .niliface 3 l.length (i + 1) hd), AOx 2 (W.set (8 + 4 * ((geW sn + 1) % 2) + i).toNat (l.getD i.toNat 0)) (st + 1) 2 (8 + 4 * ((geW sn + 1) % 2) + i) (l.getD i.toNat 0) true, WO (W.set (8 + 4 * ((geW sn + 1) % 2) + i).toNat (l.getD i.toNat 0)), wdE l]) := by
  have q0 := ge_lo (w := sn)
  have q1 := ge_hi (w := sn)
  have e1 : IntKind.i64.wrap (i + 1) = i + 1 := wi64 (by omega) (by omega)
  have e2 : IntKind.i64.wrap (geW sn + 1) = geW sn + 1 := wi64 (by omega) (by omega)
  have e3 : (geW sn + 1).tmod 2 = (geW sn + 1) % 2 := by rw [Int.tmod_eq_emod_of_nonneg (by omega)]
  have e4 : 0 ≤ (geW sn + 1) % 2 := by omega
  have e5 : (geW sn + 1) % 2 ≤ 1 := by omega
  have e6 : IntKind.i64.wrap (8 + 4 * ((geW sn + 1) % 2) + i) = 8 + 4 * ((geW sn + 1) % 2) + i := wi64 (by omega) (by omega)
  have e7 : 0 ≤ 8 + 4 * ((geW sn + 1) % 2) + i := by omega
  have e8 : 8 + 4 * ((geW sn + 1) % 2) + i < W.length := by omega
  have e9 : i.toNat < l.length := by omega
  have ea : cellOff i.toNat 1 0 = i.toNat := by simp [cellOff]
  by_cases c : i + 1 = l.length
  · rw [if_pos c, c]
    have e1 : IntKind.i64.wrap (i + 1) = l.length := by rw [e1]; exact c
    refine gives_x hXSw (fn := Tryz.f13) rfl rfl rfl rfl fun ρ w' => ?_
    refine sx hXSw [] 4000 rfl (by (simp [-List.getD_eq_getElem?_getD, -List.length_eq_zero_iff, conjP])) ?_
    refine sx hXSw [.F] 4000 rfl (by (simp [-List.getD_eq_getElem?_getD, -List.length_eq_zero_iff, conjP, addOP])) ?_
    refine sx hXSw [.F] 4000 rfl (by (simp [-List.getD_eq_getElem?_getD, -List.length_eq_zero_iff, conjP, addOP])) ?_
    refine sx hXSw [.F] 4000 rfl (by (simp [-List.getD_eq_getElem?_getD, -List.length_eq_zero_iff, conjP, addOP])) ?_
    refine sx hXSw [.T] 4000 rfl (by (simp [-List.getD_eq_getElem?_getD, -List.length_eq_zero_iff, conjP, getH, HE.so, h1, h2, hs, n0, n1, i0, i1, e2, e3, e4, e5, e6, e7, e8, e9, ea] <;> (first | omega | ((repeat' (refine And.intro ?_ ?_)) <;> (first | omega | exact decide_eq_false (by omega) | exact decide_eq_true (by omega)))))) ?_
    refine sx hXSw [.T] 4000 rfl (by (simp [-List.getD_eq_getElem?_getD, -List.length_eq_zero_iff, conjP, addOP, e1])) ?_
    (refine ss_end hXSw [0, 1, 2, 3] rfl rfl trivial rfl rfl rfl rfl (by (repeat' (first | exact rfl | exact trivial | exact sim_refl _ | refine And.intro ?_ ?_))) ?hh (by (repeat' (first | exact rfl | exact trivial | exact sim_refl _ | refine And.intro ?_ ?_))) (by (repeat' (first | exact rfl | exact trivial | exact sim_refl _ | refine And.intro ?_ ?_))); (case hh => simp only [e1, e2, e3, e6, ea]; (repeat' (first | exact rfl | exact trivial | exact sim_refl _ | (simp; done) | refine And.intro ?_ ?_)); done))
  · rw [if_neg c]
    refine gives_x hXSw (fn := Tryz.f13) rfl rfl rfl rfl fun ρ w' => ?_
    refine sx hXSw [] 4000 rfl (by (simp [-List.getD_eq_getElem?_getD, -List.length_eq_zero_iff, conjP])) ?_
    refine sx hXSw [.F] 4000 rfl (by (simp [-List.getD_eq_getElem?_getD, -List.length_eq_zero_iff, conjP, addOP])) ?_
    refine sx hXSw [.F] 4000 rfl (by (simp [-List.getD_eq_getElem?_getD, -List.length_eq_zero_iff, conjP, addOP])) ?_
    refine sx hXSw [.F] 4000 rfl (by (simp [-List.getD_eq_getElem?_getD, -List.length_eq_zero_iff, conjP, addOP])) ?_
    refine sx hXSw [.T] 4000 rfl (by (simp [-List.getD_eq_getElem?_getD, -List.length_eq_zero_iff, conjP, getH, HE.so, h1, h2, hs, n0, n1, i0, i1, e2, e3, e4, e5, e6, e7, e8, e9, ea] <;> (first | omega | ((repeat' (refine And.intro ?_ ?_)) <;> (first | omega | exact decide_eq_false (by omega) | exact decide_eq_true (by omega)))))) ?_
    refine sx hXSw [.F] 4000 rfl (by (simp [-List.getD_eq_getElem?_getD, -List.length_eq_zero_iff, conjP, addOP, e1, c])) ?_
    (refine ss_end hXSw [0, 1, 2, 3] rfl rfl trivial rfl rfl rfl rfl (by (repeat' (first | exact rfl | exact trivial | exact sim_refl _ | refine And.intro ?_ ?_))) ?hh (by (repeat' (first | exact rfl | exact trivial | exact sim_refl _ | refine And.intro ?_ ?_))) (by (repeat' (first | exact rfl | exact trivial | exact sim_refl _ | refine And.intro ?_ ?_))); (case hh => simp only [e1, e2, e3, e6, ea]; (repeat' (first | exact rfl | exact trivial | exact sim_refl _ | (simp; done) | refine And.intro ?_ ?_)); done))
set_option maxHeartbeats 4000000 in
theorem wClose_fn (hlv : liW sn = true) (hg : geW sn < 2147483647) : Gives Tryz.prog 13 [.ptr 0 0, .ptr 1 0] [.obj (wrO R ep 4 sn fl cm tm .niliface 3 l.length i hd), AOx 2 W st kd wd vl ch, WO W, wdE l]
    (Is .tt [.obj (wrO R ep 0 sn fl (st + 1) tm .niliface 3 l.length i false), AOx 2 (W.set 7 (writW (busyW sn))) (st + 1) 2 7 (writW (busyW sn)) true, WO (W.set 7 (writW (busyW sn))), wdE l]) := by
  have h7 : 7 < W.length := by omega
  have hf := fitW n0 n1
  obtain ⟨b0, b1⟩ := pk_r hf (liW sn) true
  have b2' : 0 ≤ busyW sn := b0
  have b3 : busyW sn < 18446744073709551616 := b1
  have b4 : liW (busyW sn) = true := by rw [busyW, li_pk hf]; exact hlv
  have b5 : buW (busyW sn) = true := by rw [busyW, bu_pk hf]
  have b6 : geW (busyW sn) = geW sn := by rw [busyW, ge_pk hf]
  have b7 : geW (busyW sn) + 1 < 2147483648 := by omega
  refine gives_x hXSw (fn := Tryz.f13) rfl rfl rfl rfl fun ρ w' => ?_
  refine sx hXSw [] 4000 rfl (by (simp [-List.getD_eq_getElem?_getD, -List.length_eq_zero_iff, conjP])) ?_
  refine sx hXSw [.F] 4000 rfl (by (simp [-List.getD_eq_getElem?_getD, -List.length_eq_zero_iff, conjP, addOP])) ?_
  refine sx hXSw [.F] 4000 rfl (by (simp [-List.getD_eq_getElem?_getD, -List.length_eq_zero_iff, conjP, addOP])) ?_
  refine sx hXSw [.F] 4000 rfl (by (simp [-List.getD_eq_getElem?_getD, -List.length_eq_zero_iff, conjP, addOP])) ?_
  refine sx hXSw [.F] 4000 rfl (by (simp [-List.getD_eq_getElem?_getD, -List.length_eq_zero_iff, conjP, addOP])) ?_
  refine sx hXSw [.T] 4000 rfl (by (simp [-List.getD_eq_getElem?_getD, -List.length_eq_zero_iff, conjP, h1, h2, hs, n0, n1, b2', b3, b4, b5, b7] <;> (first | omega | ((repeat' (refine And.intro ?_ ?_)) <;> (first | omega | exact decide_eq_false (by omega) | exact decide_eq_true (by omega)))))) ?_
  refine sx hXSw [.T] 4000 rfl (by (simp [-List.getD_eq_getElem?_getD, -List.length_eq_zero_iff, conjP, addOP])) ?_
  (exact ss_end hXSw [0, 1, 2, 3] rfl rfl trivial rfl rfl rfl rfl (by (repeat' (first | exact rfl | exact trivial | exact sim_refl _ | refine And.intro ?_ ?_))) (by (repeat' (first | exact rfl | exact trivial | exact sim_refl _ | (simp; done) | refine And.intro ?_ ?_))) (by (repeat' (first | exact rfl | exact trivial | exact sim_refl _ | refine And.intro ?_ ?_))) (by (repeat' (first | exact rfl | exact trivial | exact sim_refl _ | refine And.intro ?_ ?_))))
end
end
end Go.Proofs.YtmghcelohnlceaaGreatDoor
