/- The steps of the document's run that writes a small message. -/
import Derived.Test.YtmghcelohnlceaaGreatDoorBegin
import Derived.Test.YtmghcelohnlceaaGreatDoorDocSteps
import Derived.Test.YtmghcelohnlceaaGreatDoorStepRows
namespace Go.Proofs.YtmghcelohnlceaaGreatDoor
open Go Go.Hx
set_option maxRecDepth 8000
theorem rbufKS_ok : PureOk 72 bufKS := by
  intro args ob V hs ho
  unfold bufKS at hs
  split at hs
  · rename_i R g
    simp only [Option.some.injEq, Prod.mk.injEq] at hs
    obtain ⟨rfl, rfl⟩ := hs
    have o1 := ho _ (List.mem_cons_self ..)
    have o2 := ho _ (List.mem_cons_of_mem _ (List.mem_cons_self ..))
    have o3 := ho _ (List.mem_cons_of_mem _ (List.mem_cons_of_mem _ (List.mem_cons_self ..)))
    have o4 := ho _ (List.mem_cons_of_mem _ (List.mem_cons_of_mem _ (List.mem_cons_of_mem _ (List.mem_cons_self ..))))
    have := rbuf_fn (csR o1 o2) 0 g (by decide) (by decide)
    rw [cs_buf o3 o4] at this
    exact ⟨rfl, rfl, this⟩
  · simp at hs
def ctDw : Nat → Option Hx.Spec
  | 41 => some (pureS ctlKS)
  | 72 => some (pureS bufKS)
  | 36 => some (pureS runpkS)
  | 70 => some (pureS rbusyS)
  | 73 => some (pureS rwrittenS)
  | 75 => some (pureS rstillS)
  | 66 => some (raLoadS)
  | 71 => some (raStoreS)
  | 69 => some (raSwapS)
  | _ => none
theorem ctDw_ok : ∀ f s args H ob V L, ctDw f = some s → s args H = some (ob, V, L) → AllP ob → Gives Tryz.prog f args H (Is V L) := by
  intro f s args H ob V L h hs ho
  unfold ctDw at h
  split at h
  · simp at h; subst h; exact pureS_ok ⟨_, hTE⟩ (rctlKS_ok) hs ho
  · simp at h; subst h; exact pureS_ok ⟨_, hTE⟩ (rbufKS_ok) hs ho
  · simp at h; subst h; exact pureS_ok ⟨_, hTE⟩ (runpkS_ok) hs ho
  · simp at h; subst h; exact pureS_ok ⟨_, hTE⟩ (rbusyS_ok) hs ho
  · simp at h; subst h; exact pureS_ok ⟨_, hTE⟩ (rwrittenS_ok) hs ho
  · simp at h; subst h; exact pureS_ok ⟨_, hTE⟩ (rstillS_ok) hs ho
  · simp at h; subst h; exact raLoadS_ok hs ho
  · simp at h; subst h; exact raStoreS_ok hs ho
  · simp at h; subst h; exact raSwapS_ok hs ho
  · simp at h
noncomputable def XDw : Tabs := tabs tr ft xt (fun _ => none) ctDw 20
theorem hXDw : TOk Tryz.prog (XDw) := ⟨hTE, hFT, ctDw_ok, hXT, fun t ks h => by simp [XDw, tabs] at h, mixed⟩
section
variable {R ep sn fl cm tm i st kd wd vl : Int} {hd ch : Bool} {W l : List Int}
variable (h1 : 1 ≤ R) (h2 : R ≤ 8) (hl : 16 ≤ W.length) (hs : 0 ≤ st) (hs' : st < 1000000)
include h1 h2 hl hs hs'
section
variable (hw0 : 0 ≤ W.getD 7 0) (hw1 : W.getD 7 0 < 18446744073709551616)
include hw0 hw1
set_option maxHeartbeats 4000000 in
theorem dwGone_fn (hg : ¬ (liW (W.getD 7 0) = true ∧ epW (W.getD 7 0) = ep)) : Gives Tryz.prog 33 [.ptr 0 0, .ptr 1 0] [.obj (rwO R ep 1 i fl 3 l.length sn 0 hd cm), ROx 2 W st kd wd vl ch, WO W, .obj (.ints .u64 l 39)]
    (Is .tt [.obj (rwO R ep 0 i fl 3 l.length (W.getD 7 0) 22 hd cm), ROx 2 W (st + 1) 1 7 (W.getD 7 0) false, WO W, .obj (.ints .u64 l 39)]) := by
  have h7 : 7 < W.length := by omega
  refine gives_x hXDw (fn := Tryz.f33) rfl rfl rfl rfl fun ρ w' => ?_
  rcases g1 : liW (W.getD 7 0) with _ | _
  · refine sx hXDw [] 4000 rfl (by (simp [-List.getD_eq_getElem?_getD, -List.length_eq_zero_iff, conjP, h1, h2])) ?_
    refine sx hXDw [.T] 4000 rfl (by (simp [-List.getD_eq_getElem?_getD, -List.length_eq_zero_iff, conjP, hs, hw0, hw1] <;> (first | omega | ((repeat' (refine And.intro ?_ ?_)) <;> (first | omega | exact decide_eq_false (by omega) | exact decide_eq_true (by omega)))))) ?_
    refine sx hXDw [.K, .K, .T] 4000 rfl (by (simp [-List.getD_eq_getElem?_getD, -List.length_eq_zero_iff, conjP, g1])) ?_
    (exact ss_end hXDw [0, 1, 2, 3] rfl rfl trivial rfl rfl rfl rfl (by (repeat' (first | exact rfl | exact trivial | exact sim_refl _ | refine And.intro ?_ ?_))) (by (repeat' (first | exact rfl | exact trivial | exact sim_refl _ | refine And.intro ?_ ?_))) (by (repeat' (first | exact rfl | exact trivial | exact sim_refl _ | refine And.intro ?_ ?_))) (by (repeat' (first | exact rfl | exact trivial | exact sim_refl _ | refine And.intro ?_ ?_))))
  · have g2 : ¬ epW (W.getD 7 0) = ep := fun q => hg ⟨g1, q⟩
    refine sx hXDw [] 4000 rfl (by (simp [-List.getD_eq_getElem?_getD, -List.length_eq_zero_iff, conjP, h1, h2])) ?_
    refine sx hXDw [.T] 4000 rfl (by (simp [-List.getD_eq_getElem?_getD, -List.length_eq_zero_iff, conjP, hs, hw0, hw1] <;> (first | omega | ((repeat' (refine And.intro ?_ ?_)) <;> (first | omega | exact decide_eq_false (by omega) | exact decide_eq_true (by omega)))))) ?_
    refine sx hXDw [.K, .K, .F] 4000 rfl (by (simp [-List.getD_eq_getElem?_getD, -List.length_eq_zero_iff, conjP, g1])) ?_
    refine sx hXDw [.T] 4000 rfl (by (simp [-List.getD_eq_getElem?_getD, -List.length_eq_zero_iff, conjP, addOP, g2])) ?_
    (exact ss_end hXDw [0, 1, 2, 3] rfl rfl trivial rfl rfl rfl rfl (by (repeat' (first | exact rfl | exact trivial | exact sim_refl _ | refine And.intro ?_ ?_))) (by (repeat' (first | exact rfl | exact trivial | exact sim_refl _ | refine And.intro ?_ ?_))) (by (repeat' (first | exact rfl | exact trivial | exact sim_refl _ | refine And.intro ?_ ?_))) (by (repeat' (first | exact rfl | exact trivial | exact sim_refl _ | refine And.intro ?_ ?_))))
section
variable (g1 : liW (W.getD 7 0) = true) (g2 : epW (W.getD 7 0) = ep)
include g1 g2
set_option maxHeartbeats 4000000 in
theorem dwOver_fn (g3 : geW (W.getD 7 0) = 2147483647) : Gives Tryz.prog 33 [.ptr 0 0, .ptr 1 0] [.obj (rwO R ep 1 i fl 3 l.length sn 0 hd cm), ROx 2 W st kd wd vl ch, WO W, .obj (.ints .u64 l 39)]
    (Is .tt [.obj (rwO R ep 0 i fl 3 l.length (W.getD 7 0) 16 hd cm), ROx 2 W (st + 1) 1 7 (W.getD 7 0) false, WO W, .obj (.ints .u64 l 39)]) := by
  have h7 : 7 < W.length := by omega
  refine gives_x hXDw (fn := Tryz.f33) rfl rfl rfl rfl fun ρ w' => ?_
  refine sx hXDw [] 4000 rfl (by (simp [-List.getD_eq_getElem?_getD, -List.length_eq_zero_iff, conjP, h1, h2])) ?_
  refine sx hXDw [.T] 4000 rfl (by (simp [-List.getD_eq_getElem?_getD, -List.length_eq_zero_iff, conjP, hs, hw0, hw1] <;> (first | omega | ((repeat' (refine And.intro ?_ ?_)) <;> (first | omega | exact decide_eq_false (by omega) | exact decide_eq_true (by omega)))))) ?_
  refine sx hXDw [.K, .K, .F] 4000 rfl (by (simp [-List.getD_eq_getElem?_getD, -List.length_eq_zero_iff, conjP, g1])) ?_
  refine sx hXDw [.F] 4000 rfl (by (simp [-List.getD_eq_getElem?_getD, -List.length_eq_zero_iff, conjP, addOP, g2])) ?_
  refine sx hXDw [.T] 4000 rfl (by (simp [-List.getD_eq_getElem?_getD, -List.length_eq_zero_iff, conjP, addOP, g3])) ?_
  (exact ss_end hXDw [0, 1, 2, 3] rfl rfl trivial rfl rfl rfl rfl (by (repeat' (first | exact rfl | exact trivial | exact sim_refl _ | refine And.intro ?_ ?_))) (by (repeat' (first | exact rfl | exact trivial | exact sim_refl _ | refine And.intro ?_ ?_))) (by (repeat' (first | exact rfl | exact trivial | exact sim_refl _ | refine And.intro ?_ ?_))) (by (repeat' (first | exact rfl | exact trivial | exact sim_refl _ | refine And.intro ?_ ?_))))
variable (g3 : ¬ geW (W.getD 7 0) = 2147483647)
include g3
set_option maxHeartbeats 4000000 in
theorem dwBusy_fn (hf0 : 0 ≤ fl) (hf : fl + 1 < R) (g4 : buW (W.getD 7 0) = true) : Gives Tryz.prog 33 [.ptr 0 0, .ptr 1 0] [.obj (rwO R ep 1 i fl 3 l.length sn 0 hd cm), ROx 2 W st kd wd vl ch, WO W, .obj (.ints .u64 l 39)]
    (Is .ff [.obj (rwO R ep 1 i (fl + 1) 3 l.length (W.getD 7 0) 0 hd cm), ROx 2 W (st + 1) 1 7 (W.getD 7 0) false, WO W, .obj (.ints .u64 l 39)]) := by
  have h7 : 7 < W.length := by omega
  have e1 : IntKind.i64.wrap (fl + 1) = fl + 1 := wi64 (by omega) (by omega)
  have e2 : ¬ fl + 1 = R := by omega
  refine gives_x hXDw (fn := Tryz.f33) rfl rfl rfl rfl fun ρ w' => ?_
  refine sx hXDw [] 4000 rfl (by (simp [-List.getD_eq_getElem?_getD, -List.length_eq_zero_iff, conjP, h1, h2])) ?_
  refine sx hXDw [.T] 4000 rfl (by (simp [-List.getD_eq_getElem?_getD, -List.length_eq_zero_iff, conjP, hs, hw0, hw1] <;> (first | omega | ((repeat' (refine And.intro ?_ ?_)) <;> (first | omega | exact decide_eq_false (by omega) | exact decide_eq_true (by omega)))))) ?_
  refine sx hXDw [.K, .K, .F] 4000 rfl (by (simp [-List.getD_eq_getElem?_getD, -List.length_eq_zero_iff, conjP, g1])) ?_
  refine sx hXDw [.F] 4000 rfl (by (simp [-List.getD_eq_getElem?_getD, -List.length_eq_zero_iff, conjP, addOP, g2])) ?_
  refine sx hXDw [.F] 4000 rfl (by (simp [-List.getD_eq_getElem?_getD, -List.length_eq_zero_iff, conjP, addOP, g3])) ?_
  refine sx hXDw [.T] 4000 rfl (by (simp [-List.getD_eq_getElem?_getD, -List.length_eq_zero_iff, conjP, addOP, g4])) ?_
  refine sx hXDw [.F] 4000 rfl (by (simp [-List.getD_eq_getElem?_getD, -List.length_eq_zero_iff, conjP, addOP, e1, e2])) ?_
  (refine ss_end hXDw [0, 1, 2, 3] rfl rfl trivial rfl rfl rfl rfl (by (repeat' (first | exact rfl | exact trivial | exact sim_refl _ | refine And.intro ?_ ?_))) ?hh (by (repeat' (first | exact rfl | exact trivial | exact sim_refl _ | refine And.intro ?_ ?_))) (by (repeat' (first | exact rfl | exact trivial | exact sim_refl _ | refine And.intro ?_ ?_))); (case hh => simp only [e1]; (repeat' (first | exact rfl | exact trivial | exact sim_refl _ | refine And.intro ?_ ?_)); done))
set_option maxHeartbeats 4000000 in
theorem dwBusyL_fn (_hf0 : 0 ≤ fl) (hf : fl + 1 = R) (g4 : buW (W.getD 7 0) = true) : Gives Tryz.prog 33 [.ptr 0 0, .ptr 1 0] [.obj (rwO R ep 1 i fl 3 l.length sn 0 hd cm), ROx 2 W st kd wd vl ch, WO W, .obj (.ints .u64 l 39)]
    (Is .tt [.obj (rwO R ep 0 i (fl + 1) 3 l.length (W.getD 7 0) 17 hd cm), ROx 2 W (st + 1) 1 7 (W.getD 7 0) false, WO W, .obj (.ints .u64 l 39)]) := by
  have h7 : 7 < W.length := by omega
  have e1 : IntKind.i64.wrap (fl + 1) = R := by rw [wi64 (by omega) (by omega)]; exact hf
  rw [hf]
  refine gives_x hXDw (fn := Tryz.f33) rfl rfl rfl rfl fun ρ w' => ?_
  refine sx hXDw [] 4000 rfl (by (simp [-List.getD_eq_getElem?_getD, -List.length_eq_zero_iff, conjP, h1, h2])) ?_
  refine sx hXDw [.T] 4000 rfl (by (simp [-List.getD_eq_getElem?_getD, -List.length_eq_zero_iff, conjP, hs, hw0, hw1] <;> (first | omega | ((repeat' (refine And.intro ?_ ?_)) <;> (first | omega | exact decide_eq_false (by omega) | exact decide_eq_true (by omega)))))) ?_
  refine sx hXDw [.K, .K, .F] 4000 rfl (by (simp [-List.getD_eq_getElem?_getD, -List.length_eq_zero_iff, conjP, g1])) ?_
  refine sx hXDw [.F] 4000 rfl (by (simp [-List.getD_eq_getElem?_getD, -List.length_eq_zero_iff, conjP, addOP, g2])) ?_
  refine sx hXDw [.F] 4000 rfl (by (simp [-List.getD_eq_getElem?_getD, -List.length_eq_zero_iff, conjP, addOP, g3])) ?_
  refine sx hXDw [.T] 4000 rfl (by (simp [-List.getD_eq_getElem?_getD, -List.length_eq_zero_iff, conjP, addOP, g4])) ?_
  refine sx hXDw [.T] 4000 rfl (by (simp [-List.getD_eq_getElem?_getD, -List.length_eq_zero_iff, conjP, addOP, e1])) ?_
  (refine ss_end hXDw [0, 1, 2, 3] rfl rfl trivial rfl rfl rfl rfl (by (repeat' (first | exact rfl | exact trivial | exact sim_refl _ | refine And.intro ?_ ?_))) ?hh (by (repeat' (first | exact rfl | exact trivial | exact sim_refl _ | refine And.intro ?_ ?_))) (by (repeat' (first | exact rfl | exact trivial | exact sim_refl _ | refine And.intro ?_ ?_))); (case hh => simp only [e1]; (repeat' (first | exact rfl | exact trivial | exact sim_refl _ | refine And.intro ?_ ?_)); done))
set_option maxHeartbeats 4000000 in
theorem dwLook_fn (g4 : buW (W.getD 7 0) = false) : Gives Tryz.prog 33 [.ptr 0 0, .ptr 1 0] [.obj (rwO R ep 1 i fl 3 l.length sn 0 hd cm), ROx 2 W st kd wd vl ch, WO W, .obj (.ints .u64 l 39)]
    (Is .ff [.obj (rwO R ep 2 i fl 3 l.length (W.getD 7 0) 0 hd cm), ROx 2 W (st + 1) 1 7 (W.getD 7 0) false, WO W, .obj (.ints .u64 l 39)]) := by
  have h7 : 7 < W.length := by omega
  refine gives_x hXDw (fn := Tryz.f33) rfl rfl rfl rfl fun ρ w' => ?_
  refine sx hXDw [] 4000 rfl (by (simp [-List.getD_eq_getElem?_getD, -List.length_eq_zero_iff, conjP, h1, h2])) ?_
  refine sx hXDw [.T] 4000 rfl (by (simp [-List.getD_eq_getElem?_getD, -List.length_eq_zero_iff, conjP, hs, hw0, hw1] <;> (first | omega | ((repeat' (refine And.intro ?_ ?_)) <;> (first | omega | exact decide_eq_false (by omega) | exact decide_eq_true (by omega)))))) ?_
  refine sx hXDw [.K, .K, .F] 4000 rfl (by (simp [-List.getD_eq_getElem?_getD, -List.length_eq_zero_iff, conjP, g1])) ?_
  refine sx hXDw [.F] 4000 rfl (by (simp [-List.getD_eq_getElem?_getD, -List.length_eq_zero_iff, conjP, addOP, g2])) ?_
  refine sx hXDw [.F] 4000 rfl (by (simp [-List.getD_eq_getElem?_getD, -List.length_eq_zero_iff, conjP, addOP, g3])) ?_
  refine sx hXDw [.F] 4000 rfl (by (simp [-List.getD_eq_getElem?_getD, -List.length_eq_zero_iff, conjP, addOP, g4])) ?_
  (exact ss_end hXDw [0, 1, 2, 3] rfl rfl trivial rfl rfl rfl rfl (by (repeat' (first | exact rfl | exact trivial | exact sim_refl _ | refine And.intro ?_ ?_))) (by (repeat' (first | exact rfl | exact trivial | exact sim_refl _ | refine And.intro ?_ ?_))) (by (repeat' (first | exact rfl | exact trivial | exact sim_refl _ | refine And.intro ?_ ?_))) (by (repeat' (first | exact rfl | exact trivial | exact sim_refl _ | refine And.intro ?_ ?_))))
end
end
section
variable (n0 : 0 ≤ sn) (n1 : sn < 18446744073709551616)
include n0 n1
set_option maxHeartbeats 4000000 in
theorem dwHold_fn (hh : W.getD 7 0 = sn) : Gives Tryz.prog 33 [.ptr 0 0, .ptr 1 0] [.obj (rwO R ep 2 i fl 3 l.length sn 0 hd cm), ROx 2 W st kd wd vl ch, WO W, .obj (.ints .u64 l 39)]
    (Is .ff [.obj (rwO R ep 3 i fl 3 l.length sn 0 true cm), ROx 2 (W.set 7 (busyW sn)) (st + 1) 3 7 (busyW sn) true, WO (W.set 7 (busyW sn)), .obj (.ints .u64 l 39)]) := by
  have h7 : 7 < W.length := by omega
  have hh' : W.getD (Int.toNat 7) 0 = sn := hh
  have sw : swW W 7 sn (busyW sn) = W.set 7 (busyW sn) := by unfold swW; rw [if_pos (by exact hh)]; rfl
  refine gives_x hXDw (fn := Tryz.f33) rfl rfl rfl rfl fun ρ w' => ?_
  refine sx hXDw [] 4000 rfl (by (simp [-List.getD_eq_getElem?_getD, -List.length_eq_zero_iff, conjP, h1, h2])) ?_
  refine sx hXDw [.F] 4000 rfl (by (simp [-List.getD_eq_getElem?_getD, -List.length_eq_zero_iff, conjP, addOP])) ?_
  refine sx hXDw [.T] 4000 rfl (by (simp [-List.getD_eq_getElem?_getD, -List.length_eq_zero_iff, conjP, getH, HE.so, hs, n0, n1] <;> (first | omega | ((repeat' (refine And.intro ?_ ?_)) <;> (first | omega | exact decide_eq_false (by omega) | exact decide_eq_true (by omega)))))) ?_
  refine sx hXDw [.T] 4000 rfl (by (simp [-List.getD_eq_getElem?_getD, -List.length_eq_zero_iff, conjP, addOP, hh])) ?_
  (simp only [hh', sw, if_true, decide_true]; exact ss_end hXDw [0, 1, 2, 3] rfl rfl trivial rfl rfl rfl rfl (by (repeat' (first | exact rfl | exact trivial | exact sim_refl _ | refine And.intro ?_ ?_))) (by (repeat' (first | exact rfl | exact trivial | exact sim_refl _ | assumption | (simp; done) | (simp only [mulS_eq]; simp; done) | refine And.intro ?_ ?_))) (by (repeat' (first | exact rfl | exact trivial | exact sim_refl _ | refine And.intro ?_ ?_))) (by (repeat' (first | exact rfl | exact trivial | exact sim_refl _ | refine And.intro ?_ ?_))))
set_option maxHeartbeats 4000000 in
theorem dwLost_fn (hf0 : 0 ≤ fl) (hf : fl + 1 < R) (hh : ¬ W.getD 7 0 = sn) : Gives Tryz.prog 33 [.ptr 0 0, .ptr 1 0] [.obj (rwO R ep 2 i fl 3 l.length sn 0 hd cm), ROx 2 W st kd wd vl ch, WO W, .obj (.ints .u64 l 39)]
    (Is .ff [.obj (rwO R ep 1 i (fl + 1) 3 l.length sn 0 hd cm), ROx 2 W (st + 1) 3 7 (W.getD 7 0) false, WO W, .obj (.ints .u64 l 39)]) := by
  have h7 : 7 < W.length := by omega
  have hh' : ¬ W.getD (Int.toNat 7) 0 = sn := hh
  have sw : swW W 7 sn (busyW sn) = W := by unfold swW; rw [if_neg (by exact hh)]
  have e1 : IntKind.i64.wrap (fl + 1) = fl + 1 := wi64 (by omega) (by omega)
  have e2 : ¬ fl + 1 = R := by omega
  refine gives_x hXDw (fn := Tryz.f33) rfl rfl rfl rfl fun ρ w' => ?_
  refine sx hXDw [] 4000 rfl (by (simp [-List.getD_eq_getElem?_getD, -List.length_eq_zero_iff, conjP, h1, h2])) ?_
  refine sx hXDw [.F] 4000 rfl (by (simp [-List.getD_eq_getElem?_getD, -List.length_eq_zero_iff, conjP, addOP])) ?_
  refine sx hXDw [.T] 4000 rfl (by (simp [-List.getD_eq_getElem?_getD, -List.length_eq_zero_iff, conjP, getH, HE.so, hs, n0, n1] <;> (first | omega | ((repeat' (refine And.intro ?_ ?_)) <;> (first | omega | exact decide_eq_false (by omega) | exact decide_eq_true (by omega)))))) ?_
  refine sx hXDw [.F] 4000 rfl (by (simp [-List.getD_eq_getElem?_getD, -List.length_eq_zero_iff, conjP, addOP, hh])) ?_
  refine sx hXDw [.F] 4000 rfl (by (simp [-List.getD_eq_getElem?_getD, -List.length_eq_zero_iff, conjP, addOP, e1, e2])) ?_
  (simp only [hh', sw, if_false, decide_false]; refine ss_end hXDw [0, 1, 2, 3] rfl rfl trivial rfl rfl rfl rfl (by (repeat' (first | exact rfl | exact trivial | exact sim_refl _ | refine And.intro ?_ ?_))) ?hh (by (repeat' (first | exact rfl | exact trivial | exact sim_refl _ | refine And.intro ?_ ?_))) (by (repeat' (first | exact rfl | exact trivial | exact sim_refl _ | refine And.intro ?_ ?_))); (case hh => simp only [e1]; (repeat' (first | exact rfl | exact trivial | exact sim_refl _ | assumption | (simp; done) | (simp only [mulS_eq]; simp; done) | refine And.intro ?_ ?_)); done))
set_option maxHeartbeats 4000000 in
theorem dwLostL_fn (_hf0 : 0 ≤ fl) (hf : fl + 1 = R) (hh : ¬ W.getD 7 0 = sn) : Gives Tryz.prog 33 [.ptr 0 0, .ptr 1 0] [.obj (rwO R ep 2 i fl 3 l.length sn 0 hd cm), ROx 2 W st kd wd vl ch, WO W, .obj (.ints .u64 l 39)]
    (Is .tt [.obj (rwO R ep 0 i (fl + 1) 3 l.length sn 17 hd cm), ROx 2 W (st + 1) 3 7 (W.getD 7 0) false, WO W, .obj (.ints .u64 l 39)]) := by
  have h7 : 7 < W.length := by omega
  have hh' : ¬ W.getD (Int.toNat 7) 0 = sn := hh
  have sw : swW W 7 sn (busyW sn) = W := by unfold swW; rw [if_neg (by exact hh)]
  have e1 : IntKind.i64.wrap (fl + 1) = R := by rw [wi64 (by omega) (by omega)]; exact hf
  rw [hf]
  refine gives_x hXDw (fn := Tryz.f33) rfl rfl rfl rfl fun ρ w' => ?_
  refine sx hXDw [] 4000 rfl (by (simp [-List.getD_eq_getElem?_getD, -List.length_eq_zero_iff, conjP, h1, h2])) ?_
  refine sx hXDw [.F] 4000 rfl (by (simp [-List.getD_eq_getElem?_getD, -List.length_eq_zero_iff, conjP, addOP])) ?_
  refine sx hXDw [.T] 4000 rfl (by (simp [-List.getD_eq_getElem?_getD, -List.length_eq_zero_iff, conjP, getH, HE.so, hs, n0, n1] <;> (first | omega | ((repeat' (refine And.intro ?_ ?_)) <;> (first | omega | exact decide_eq_false (by omega) | exact decide_eq_true (by omega)))))) ?_
  refine sx hXDw [.F] 4000 rfl (by (simp [-List.getD_eq_getElem?_getD, -List.length_eq_zero_iff, conjP, addOP, hh])) ?_
  refine sx hXDw [.T] 4000 rfl (by (simp [-List.getD_eq_getElem?_getD, -List.length_eq_zero_iff, conjP, addOP, e1])) ?_
  (simp only [hh', sw, if_false, decide_false]; refine ss_end hXDw [0, 1, 2, 3] rfl rfl trivial rfl rfl rfl rfl (by (repeat' (first | exact rfl | exact trivial | exact sim_refl _ | refine And.intro ?_ ?_))) ?hh (by (repeat' (first | exact rfl | exact trivial | exact sim_refl _ | refine And.intro ?_ ?_))) (by (repeat' (first | exact rfl | exact trivial | exact sim_refl _ | refine And.intro ?_ ?_))); (case hh => simp only [e1]; (repeat' (first | exact rfl | exact trivial | exact sim_refl _ | assumption | (simp; done) | (simp only [mulS_eq]; simp; done) | refine And.intro ?_ ?_)); done))
set_option maxHeartbeats 4000000 in
theorem dwWord_fn (i0 : 0 ≤ i) (i1 : i < l.length) (i2 : l.length ≤ 4) : Gives Tryz.prog 33 [.ptr 0 0, .ptr 1 0] [.obj (rwO R ep 3 i fl 3 l.length sn 0 hd cm), ROx 2 W st kd wd vl ch, WO W, .obj (.ints .u64 l 39)]
    (Is .ff [.obj (rwO R ep (if i + 1 = l.length then 4 else 3) (i + 1) fl 3 l.length sn 0 hd cm), ROx 2 (W.set (8 + 4 * ((geW sn + 1) % 2) + i).toNat (l.getD i.toNat 0)) (st + 1) 2 (8 + 4 * ((geW sn + 1) % 2) + i) (l.getD i.toNat 0) true, WO (W.set (8 + 4 * ((geW sn + 1) % 2) + i).toNat (l.getD i.toNat 0)), .obj (.ints .u64 l 39)]) := by
  have q0 := ge_lo (w := sn)
  have q1 := ge_hi (w := sn)
  have e1 : IntKind.i64.wrap (i + 1) = i + 1 := wi64 (by omega) (by omega)
  have e2 : IntKind.i64.wrap (geW sn + 1) = geW sn + 1 := wi64 (by omega) (by omega)
  have e3 : (geW sn + 1).tmod 2 = (geW sn + 1) % 2 := by rw [Int.tmod_eq_emod_of_nonneg (by omega)]
  have e4 : 0 ≤ (geW sn + 1) % 2 := by omega
  have e5 : (geW sn + 1) % 2 ≤ 1 := by omega
  have e6 : IntKind.i64.wrap (8 + 4 * ((geW sn + 1) % 2) + i) = 8 + 4 * ((geW sn + 1) % 2) + i := wi64 (by omega) (by omega)
  have e7 : 0 ≤ 8 + 4 * ((geW sn + 1) % 2) + i := by omega
  have e8 : 8 + 4 * ((geW sn + 1) % 2) + i < W.length := by omega
  have e9 : i.toNat < l.length := by omega
  have ea : cellOff i.toNat 1 0 = i.toNat := by simp [cellOff]
  by_cases c : i + 1 = l.length
  · rw [if_pos c, c]
    have e1 : IntKind.i64.wrap (i + 1) = l.length := by rw [e1]; exact c
    refine gives_x hXDw (fn := Tryz.f33) rfl rfl rfl rfl fun ρ w' => ?_
    refine sx hXDw [] 4000 rfl (by (simp [-List.getD_eq_getElem?_getD, -List.length_eq_zero_iff, conjP, h1, h2])) ?_
    refine sx hXDw [.F] 4000 rfl (by (simp [-List.getD_eq_getElem?_getD, -List.length_eq_zero_iff, conjP, addOP])) ?_
    refine sx hXDw [.F] 4000 rfl (by (simp [-List.getD_eq_getElem?_getD, -List.length_eq_zero_iff, conjP, addOP])) ?_
    refine sx hXDw [.T] 4000 rfl (by (simp [-List.getD_eq_getElem?_getD, -List.length_eq_zero_iff, conjP, getH, HE.so, h1, h2, hs, n0, n1, i0, i1, e2, e3, e4, e5, e6, e7, e8, e9] <;> (first | omega | ((repeat' (refine And.intro ?_ ?_)) <;> (first | omega | exact decide_eq_false (by omega) | exact decide_eq_true (by omega)))))) ?_
    refine sx hXDw [.T] 4000 rfl (by (simp [-List.getD_eq_getElem?_getD, -List.length_eq_zero_iff, conjP, addOP, e1])) ?_
    (refine ss_end hXDw [0, 1, 2, 3] rfl rfl trivial rfl rfl rfl rfl (by (repeat' (first | exact rfl | exact trivial | exact sim_refl _ | refine And.intro ?_ ?_))) ?hh (by (repeat' (first | exact rfl | exact trivial | exact sim_refl _ | refine And.intro ?_ ?_))) (by (repeat' (first | exact rfl | exact trivial | exact sim_refl _ | refine And.intro ?_ ?_))); (case hh => simp only [e1, e2, e3, e6]; (repeat' (first | exact rfl | exact trivial | exact sim_refl _ | assumption | (simp; done) | (simp only [mulS_eq]; simp; done) | refine And.intro ?_ ?_)); done))
  · rw [if_neg c]
    refine gives_x hXDw (fn := Tryz.f33) rfl rfl rfl rfl fun ρ w' => ?_
    refine sx hXDw [] 4000 rfl (by (simp [-List.getD_eq_getElem?_getD, -List.length_eq_zero_iff, conjP, h1, h2])) ?_
    refine sx hXDw [.F] 4000 rfl (by (simp [-List.getD_eq_getElem?_getD, -List.length_eq_zero_iff, conjP, addOP])) ?_
    refine sx hXDw [.F] 4000 rfl (by (simp [-List.getD_eq_getElem?_getD, -List.length_eq_zero_iff, conjP, addOP])) ?_
    refine sx hXDw [.T] 4000 rfl (by (simp [-List.getD_eq_getElem?_getD, -List.length_eq_zero_iff, conjP, getH, HE.so, h1, h2, hs, n0, n1, i0, i1, e2, e3, e4, e5, e6, e7, e8, e9] <;> (first | omega | ((repeat' (refine And.intro ?_ ?_)) <;> (first | omega | exact decide_eq_false (by omega) | exact decide_eq_true (by omega)))))) ?_
    refine sx hXDw [.F] 4000 rfl (by (simp [-List.getD_eq_getElem?_getD, -List.length_eq_zero_iff, conjP, addOP, e1, c])) ?_
    (refine ss_end hXDw [0, 1, 2, 3] rfl rfl trivial rfl rfl rfl rfl (by (repeat' (first | exact rfl | exact trivial | exact sim_refl _ | refine And.intro ?_ ?_))) ?hh (by (repeat' (first | exact rfl | exact trivial | exact sim_refl _ | refine And.intro ?_ ?_))) (by (repeat' (first | exact rfl | exact trivial | exact sim_refl _ | refine And.intro ?_ ?_))); (case hh => simp only [e1, e2, e3, e6]; (repeat' (first | exact rfl | exact trivial | exact sim_refl _ | assumption | (simp; done) | (simp only [mulS_eq]; simp; done) | refine And.intro ?_ ?_)); done))
set_option maxHeartbeats 4000000 in
theorem dwClose_fn (hlv : liW sn = true) (hg : geW sn < 2147483647) : Gives Tryz.prog 33 [.ptr 0 0, .ptr 1 0] [.obj (rwO R ep 4 i fl 3 l.length sn 0 hd cm), ROx 2 W st kd wd vl ch, WO W, .obj (.ints .u64 l 39)]
    (Is .tt [.obj (rwO R ep 0 i fl 3 l.length sn 0 false (st + 1)), ROx 2 (W.set 7 (writW (busyW sn))) (st + 1) 2 7 (writW (busyW sn)) true, WO (W.set 7 (writW (busyW sn))), .obj (.ints .u64 l 39)]) := by
  have h7 : 7 < W.length := by omega
  have hf := fitW n0 n1
  obtain ⟨b0, b1⟩ := pk_r hf (liW sn) true
  have b2' : 0 ≤ busyW sn := b0
  have b3 : busyW sn < 18446744073709551616 := b1
  have b4 : liW (busyW sn) = true := by rw [busyW, li_pk hf]; exact hlv
  have b5 : buW (busyW sn) = true := by rw [busyW, bu_pk hf]
  have b6 : geW (busyW sn) = geW sn := by rw [busyW, ge_pk hf]
  have b7 : geW (busyW sn) + 1 < 2147483648 := by omega
  refine gives_x hXDw (fn := Tryz.f33) rfl rfl rfl rfl fun ρ w' => ?_
  refine sx hXDw [] 4000 rfl (by (simp [-List.getD_eq_getElem?_getD, -List.length_eq_zero_iff, conjP, h1, h2])) ?_
  refine sx hXDw [.F] 4000 rfl (by (simp [-List.getD_eq_getElem?_getD, -List.length_eq_zero_iff, conjP, addOP])) ?_
  refine sx hXDw [.F] 4000 rfl (by (simp [-List.getD_eq_getElem?_getD, -List.length_eq_zero_iff, conjP, addOP])) ?_
  refine sx hXDw [.F] 4000 rfl (by (simp [-List.getD_eq_getElem?_getD, -List.length_eq_zero_iff, conjP, addOP])) ?_
  refine sx hXDw [.T] 4000 rfl (by (simp [-List.getD_eq_getElem?_getD, -List.length_eq_zero_iff, conjP, hs, n0, n1, b2', b3, b4, b5, b7] <;> (first | omega | ((repeat' (refine And.intro ?_ ?_)) <;> (first | omega | exact decide_eq_false (by omega) | exact decide_eq_true (by omega)))))) ?_
  (exact ss_end hXDw [0, 1, 2, 3] rfl rfl trivial rfl rfl rfl rfl (by (repeat' (first | exact rfl | exact trivial | exact sim_refl _ | refine And.intro ?_ ?_))) (by (repeat' (first | exact rfl | exact trivial | exact sim_refl _ | assumption | (simp; done) | (simp only [mulS_eq]; simp; done) | refine And.intro ?_ ?_))) (by (repeat' (first | exact rfl | exact trivial | exact sim_refl _ | refine And.intro ?_ ?_))) (by (repeat' (first | exact rfl | exact trivial | exact sim_refl _ | refine And.intro ?_ ?_))))
end
end
end Go.Proofs.YtmghcelohnlceaaGreatDoor


/- The steps of the document's run that reads a small message. -/
namespace Go.Proofs.YtmghcelohnlceaaGreatDoor
open Go Go.Hx
set_option maxRecDepth 8000
section
variable {R ep sn fl cm tm st kd wd vl : Int} {ch : Bool} {W o : List Int}

variable (h1 : 1 ≤ R) (h2 : R ≤ 8) (hl : 16 ≤ W.length) (hs : 0 ≤ st) (hs' : st < 1000000)
include h1 h2 hl hs hs'
section
variable (hw0 : 0 ≤ W.getD 7 0) (hw1 : W.getD 7 0 < 18446744073709551616)
include hw0 hw1
set_option maxHeartbeats 4000000 in
theorem drGone0_fn (hg : ¬ (liW (W.getD 7 0) = true ∧ epW (W.getD 7 0) = ep)) : Gives Tryz.prog 34 [.ptr 0 0, .ptr 1 0] [.obj (rrO R ep 1 fl .nilslice sn 0 tm), ROx 2 W st kd wd vl ch, WO W]
    (Is .tt [.obj (rrO R ep 0 fl .nilslice (W.getD 7 0) 22 (st + 1)), ROx 2 W (st + 1) 1 7 (W.getD 7 0) false, WO W]) := by
  have h7 : 7 < W.length := by omega
  refine gives_x hXDw (fn := Tryz.f34) rfl rfl rfl rfl fun ρ w' => ?_
  rcases g1 : liW (W.getD 7 0) with _ | _
  · refine sx hXDw [] 4000 rfl (by (simp [-List.getD_eq_getElem?_getD, -List.length_eq_zero_iff, conjP, h1, h2])) ?_
    refine sx hXDw [.T] 4000 rfl (by (simp [-List.getD_eq_getElem?_getD, -List.length_eq_zero_iff, conjP, hs, hw0, hw1] <;> (first | omega | ((repeat' (refine And.intro ?_ ?_)) <;> (first | omega | exact decide_eq_false (by omega) | exact decide_eq_true (by omega)))))) ?_
    refine sx hXDw [.K, .K, .T] 4000 rfl (by (simp [-List.getD_eq_getElem?_getD, -List.length_eq_zero_iff, conjP, g1])) ?_
    refine sx hXDw [.T] 4000 rfl (by (simp [-List.getD_eq_getElem?_getD, -List.length_eq_zero_iff, conjP, addOP])) ?_
    (exact ss_end hXDw [0, 1, 2] rfl rfl trivial rfl rfl rfl rfl (by (repeat' (first | exact rfl | exact trivial | exact sim_refl _ | refine And.intro ?_ ?_))) (by (repeat' (first | exact rfl | exact trivial | exact sim_refl _ | refine And.intro ?_ ?_))) (by (repeat' (first | exact rfl | exact trivial | exact sim_refl _ | refine And.intro ?_ ?_))) (by (repeat' (first | exact rfl | exact trivial | exact sim_refl _ | refine And.intro ?_ ?_))))
  · have g2 : ¬ epW (W.getD 7 0) = ep := fun q => hg ⟨g1, q⟩
    refine sx hXDw [] 4000 rfl (by (simp [-List.getD_eq_getElem?_getD, -List.length_eq_zero_iff, conjP, h1, h2])) ?_
    refine sx hXDw [.T] 4000 rfl (by (simp [-List.getD_eq_getElem?_getD, -List.length_eq_zero_iff, conjP, hs, hw0, hw1] <;> (first | omega | ((repeat' (refine And.intro ?_ ?_)) <;> (first | omega | exact decide_eq_false (by omega) | exact decide_eq_true (by omega)))))) ?_
    refine sx hXDw [.K, .K, .F] 4000 rfl (by (simp [-List.getD_eq_getElem?_getD, -List.length_eq_zero_iff, conjP, g1])) ?_
    refine sx hXDw [.T] 4000 rfl (by (simp [-List.getD_eq_getElem?_getD, -List.length_eq_zero_iff, conjP, addOP, g2])) ?_
    refine sx hXDw [.T] 4000 rfl (by (simp [-List.getD_eq_getElem?_getD, -List.length_eq_zero_iff, conjP, addOP])) ?_
    (exact ss_end hXDw [0, 1, 2] rfl rfl trivial rfl rfl rfl rfl (by (repeat' (first | exact rfl | exact trivial | exact sim_refl _ | refine And.intro ?_ ?_))) (by (repeat' (first | exact rfl | exact trivial | exact sim_refl _ | refine And.intro ?_ ?_))) (by (repeat' (first | exact rfl | exact trivial | exact sim_refl _ | refine And.intro ?_ ?_))) (by (repeat' (first | exact rfl | exact trivial | exact sim_refl _ | refine And.intro ?_ ?_))))
set_option maxHeartbeats 4000000 in
theorem drGone1_fn (hg : ¬ (liW (W.getD 7 0) = true ∧ epW (W.getD 7 0) = ep)) : Gives Tryz.prog 34 [.ptr 0 0, .ptr 1 0] [.obj (rrO R ep 1 fl (.sbuf 3 1 0 o.length) sn 0 tm), ROx 2 W st kd wd vl ch, WO W, wdE o]
    (Is .tt [.obj (rrO R ep 0 fl .nilslice (W.getD 7 0) 22 (st + 1)), ROx 2 W (st + 1) 1 7 (W.getD 7 0) false, WO W, wdE o]) := by
  have h7 : 7 < W.length := by omega
  refine gives_x hXDw (fn := Tryz.f34) rfl rfl rfl rfl fun ρ w' => ?_
  rcases g1 : liW (W.getD 7 0) with _ | _
  · refine sx hXDw [] 4000 rfl (by (simp [-List.getD_eq_getElem?_getD, -List.length_eq_zero_iff, conjP, h1, h2])) ?_
    refine sx hXDw [.T] 4000 rfl (by (simp [-List.getD_eq_getElem?_getD, -List.length_eq_zero_iff, conjP, hs, hw0, hw1] <;> (first | omega | ((repeat' (refine And.intro ?_ ?_)) <;> (first | omega | exact decide_eq_false (by omega) | exact decide_eq_true (by omega)))))) ?_
    refine sx hXDw [.K, .K, .T] 4000 rfl (by (simp [-List.getD_eq_getElem?_getD, -List.length_eq_zero_iff, conjP, g1])) ?_
    refine sx hXDw [.T] 4000 rfl (by (simp [-List.getD_eq_getElem?_getD, -List.length_eq_zero_iff, conjP, addOP])) ?_
    (exact ss_end hXDw [0, 1, 2, 3] rfl rfl trivial rfl rfl rfl rfl (by (repeat' (first | exact rfl | exact trivial | exact sim_refl _ | refine And.intro ?_ ?_))) (by (repeat' (first | exact rfl | exact trivial | exact sim_refl _ | refine And.intro ?_ ?_))) (by (repeat' (first | exact rfl | exact trivial | exact sim_refl _ | refine And.intro ?_ ?_))) (by (repeat' (first | exact rfl | exact trivial | exact sim_refl _ | refine And.intro ?_ ?_))))
  · have g2 : ¬ epW (W.getD 7 0) = ep := fun q => hg ⟨g1, q⟩
    refine sx hXDw [] 4000 rfl (by (simp [-List.getD_eq_getElem?_getD, -List.length_eq_zero_iff, conjP, h1, h2])) ?_
    refine sx hXDw [.T] 4000 rfl (by (simp [-List.getD_eq_getElem?_getD, -List.length_eq_zero_iff, conjP, hs, hw0, hw1] <;> (first | omega | ((repeat' (refine And.intro ?_ ?_)) <;> (first | omega | exact decide_eq_false (by omega) | exact decide_eq_true (by omega)))))) ?_
    refine sx hXDw [.K, .K, .F] 4000 rfl (by (simp [-List.getD_eq_getElem?_getD, -List.length_eq_zero_iff, conjP, g1])) ?_
    refine sx hXDw [.T] 4000 rfl (by (simp [-List.getD_eq_getElem?_getD, -List.length_eq_zero_iff, conjP, addOP, g2])) ?_
    refine sx hXDw [.T] 4000 rfl (by (simp [-List.getD_eq_getElem?_getD, -List.length_eq_zero_iff, conjP, addOP])) ?_
    (exact ss_end hXDw [0, 1, 2, 3] rfl rfl trivial rfl rfl rfl rfl (by (repeat' (first | exact rfl | exact trivial | exact sim_refl _ | refine And.intro ?_ ?_))) (by (repeat' (first | exact rfl | exact trivial | exact sim_refl _ | refine And.intro ?_ ?_))) (by (repeat' (first | exact rfl | exact trivial | exact sim_refl _ | refine And.intro ?_ ?_))) (by (repeat' (first | exact rfl | exact trivial | exact sim_refl _ | refine And.intro ?_ ?_))))
section
variable (g1 : liW (W.getD 7 0) = true) (g2 : epW (W.getD 7 0) = ep)
include g1 g2
set_option maxHeartbeats 4000000 in
theorem drEmpty0_fn (g3 : geW (W.getD 7 0) = 0) : Gives Tryz.prog 34 [.ptr 0 0, .ptr 1 0] [.obj (rrO R ep 1 fl .nilslice sn 0 tm), ROx 2 W st kd wd vl ch, WO W]
    (Is .tt [.obj (rrO R ep 0 fl .nilslice (W.getD 7 0) 20 (st + 1)), ROx 2 W (st + 1) 1 7 (W.getD 7 0) false, WO W]) := by
  have h7 : 7 < W.length := by omega
  refine gives_x hXDw (fn := Tryz.f34) rfl rfl rfl rfl fun ρ w' => ?_
  refine sx hXDw [] 4000 rfl (by (simp [-List.getD_eq_getElem?_getD, -List.length_eq_zero_iff, conjP, h1, h2])) ?_
  refine sx hXDw [.T] 4000 rfl (by (simp [-List.getD_eq_getElem?_getD, -List.length_eq_zero_iff, conjP, hs, hw0, hw1] <;> (first | omega | ((repeat' (refine And.intro ?_ ?_)) <;> (first | omega | exact decide_eq_false (by omega) | exact decide_eq_true (by omega)))))) ?_
  refine sx hXDw [.K, .K, .F] 4000 rfl (by (simp [-List.getD_eq_getElem?_getD, -List.length_eq_zero_iff, conjP, g1])) ?_
  refine sx hXDw [.F] 4000 rfl (by (simp [-List.getD_eq_getElem?_getD, -List.length_eq_zero_iff, conjP, addOP, g2])) ?_
  refine sx hXDw [.T] 4000 rfl (by (simp [-List.getD_eq_getElem?_getD, -List.length_eq_zero_iff, conjP, addOP, g3])) ?_
  refine sx hXDw [.T] 4000 rfl (by (simp [-List.getD_eq_getElem?_getD, -List.length_eq_zero_iff, conjP, addOP])) ?_
  (exact ss_end hXDw [0, 1, 2] rfl rfl trivial rfl rfl rfl rfl (by (repeat' (first | exact rfl | exact trivial | exact sim_refl _ | refine And.intro ?_ ?_))) (by (repeat' (first | exact rfl | exact trivial | exact sim_refl _ | refine And.intro ?_ ?_))) (by (repeat' (first | exact rfl | exact trivial | exact sim_refl _ | refine And.intro ?_ ?_))) (by (repeat' (first | exact rfl | exact trivial | exact sim_refl _ | refine And.intro ?_ ?_))))
set_option maxHeartbeats 4000000 in
theorem drLook0_fn (g3 : ¬ geW (W.getD 7 0) = 0) : Gives Tryz.prog 34 [.ptr 0 0, .ptr 1 0] [.obj (rrO R ep 1 fl .nilslice sn 0 tm), ROx 2 W st kd wd vl ch, WO W]
    (Is .ff [.obj (rrO R ep 2 fl .nilslice (W.getD 7 0) 0 (st + 1)), ROx 2 W (st + 1) 1 7 (W.getD 7 0) false, WO W]) := by
  have h7 : 7 < W.length := by omega
  refine gives_x hXDw (fn := Tryz.f34) rfl rfl rfl rfl fun ρ w' => ?_
  refine sx hXDw [] 4000 rfl (by (simp [-List.getD_eq_getElem?_getD, -List.length_eq_zero_iff, conjP, h1, h2])) ?_
  refine sx hXDw [.T] 4000 rfl (by (simp [-List.getD_eq_getElem?_getD, -List.length_eq_zero_iff, conjP, hs, hw0, hw1] <;> (first | omega | ((repeat' (refine And.intro ?_ ?_)) <;> (first | omega | exact decide_eq_false (by omega) | exact decide_eq_true (by omega)))))) ?_
  refine sx hXDw [.K, .K, .F] 4000 rfl (by (simp [-List.getD_eq_getElem?_getD, -List.length_eq_zero_iff, conjP, g1])) ?_
  refine sx hXDw [.F] 4000 rfl (by (simp [-List.getD_eq_getElem?_getD, -List.length_eq_zero_iff, conjP, addOP, g2])) ?_
  refine sx hXDw [.F] 4000 rfl (by (simp [-List.getD_eq_getElem?_getD, -List.length_eq_zero_iff, conjP, addOP, g3])) ?_
  (exact ss_end hXDw [0, 1, 2] rfl rfl trivial rfl rfl rfl rfl (by (repeat' (first | exact rfl | exact trivial | exact sim_refl _ | refine And.intro ?_ ?_))) (by (repeat' (first | exact rfl | exact trivial | exact sim_refl _ | refine And.intro ?_ ?_))) (by (repeat' (first | exact rfl | exact trivial | exact sim_refl _ | refine And.intro ?_ ?_))) (by (repeat' (first | exact rfl | exact trivial | exact sim_refl _ | refine And.intro ?_ ?_))))
set_option maxHeartbeats 4000000 in
theorem drEmpty1_fn (g3 : geW (W.getD 7 0) = 0) : Gives Tryz.prog 34 [.ptr 0 0, .ptr 1 0] [.obj (rrO R ep 1 fl (.sbuf 3 1 0 o.length) sn 0 tm), ROx 2 W st kd wd vl ch, WO W, wdE o]
    (Is .tt [.obj (rrO R ep 0 fl .nilslice (W.getD 7 0) 20 (st + 1)), ROx 2 W (st + 1) 1 7 (W.getD 7 0) false, WO W, wdE o]) := by
  have h7 : 7 < W.length := by omega
  refine gives_x hXDw (fn := Tryz.f34) rfl rfl rfl rfl fun ρ w' => ?_
  refine sx hXDw [] 4000 rfl (by (simp [-List.getD_eq_getElem?_getD, -List.length_eq_zero_iff, conjP, h1, h2])) ?_
  refine sx hXDw [.T] 4000 rfl (by (simp [-List.getD_eq_getElem?_getD, -List.length_eq_zero_iff, conjP, hs, hw0, hw1] <;> (first | omega | ((repeat' (refine And.intro ?_ ?_)) <;> (first | omega | exact decide_eq_false (by omega) | exact decide_eq_true (by omega)))))) ?_
  refine sx hXDw [.K, .K, .F] 4000 rfl (by (simp [-List.getD_eq_getElem?_getD, -List.length_eq_zero_iff, conjP, g1])) ?_
  refine sx hXDw [.F] 4000 rfl (by (simp [-List.getD_eq_getElem?_getD, -List.length_eq_zero_iff, conjP, addOP, g2])) ?_
  refine sx hXDw [.T] 4000 rfl (by (simp [-List.getD_eq_getElem?_getD, -List.length_eq_zero_iff, conjP, addOP, g3])) ?_
  refine sx hXDw [.T] 4000 rfl (by (simp [-List.getD_eq_getElem?_getD, -List.length_eq_zero_iff, conjP, addOP])) ?_
  (exact ss_end hXDw [0, 1, 2, 3] rfl rfl trivial rfl rfl rfl rfl (by (repeat' (first | exact rfl | exact trivial | exact sim_refl _ | refine And.intro ?_ ?_))) (by (repeat' (first | exact rfl | exact trivial | exact sim_refl _ | refine And.intro ?_ ?_))) (by (repeat' (first | exact rfl | exact trivial | exact sim_refl _ | refine And.intro ?_ ?_))) (by (repeat' (first | exact rfl | exact trivial | exact sim_refl _ | refine And.intro ?_ ?_))))
set_option maxHeartbeats 4000000 in
theorem drLook1_fn (g3 : ¬ geW (W.getD 7 0) = 0) : Gives Tryz.prog 34 [.ptr 0 0, .ptr 1 0] [.obj (rrO R ep 1 fl (.sbuf 3 1 0 o.length) sn 0 tm), ROx 2 W st kd wd vl ch, WO W, wdE o]
    (Is .ff [.obj (rrO R ep 2 fl .nilslice (W.getD 7 0) 0 (st + 1)), ROx 2 W (st + 1) 1 7 (W.getD 7 0) false, WO W, wdE o]) := by
  have h7 : 7 < W.length := by omega
  refine gives_x hXDw (fn := Tryz.f34) rfl rfl rfl rfl fun ρ w' => ?_
  refine sx hXDw [] 4000 rfl (by (simp [-List.getD_eq_getElem?_getD, -List.length_eq_zero_iff, conjP, h1, h2])) ?_
  refine sx hXDw [.T] 4000 rfl (by (simp [-List.getD_eq_getElem?_getD, -List.length_eq_zero_iff, conjP, hs, hw0, hw1] <;> (first | omega | ((repeat' (refine And.intro ?_ ?_)) <;> (first | omega | exact decide_eq_false (by omega) | exact decide_eq_true (by omega)))))) ?_
  refine sx hXDw [.K, .K, .F] 4000 rfl (by (simp [-List.getD_eq_getElem?_getD, -List.length_eq_zero_iff, conjP, g1])) ?_
  refine sx hXDw [.F] 4000 rfl (by (simp [-List.getD_eq_getElem?_getD, -List.length_eq_zero_iff, conjP, addOP, g2])) ?_
  refine sx hXDw [.F] 4000 rfl (by (simp [-List.getD_eq_getElem?_getD, -List.length_eq_zero_iff, conjP, addOP, g3])) ?_
  (exact ss_end hXDw [0, 1, 2, 3] rfl rfl trivial rfl rfl rfl rfl (by (repeat' (first | exact rfl | exact trivial | exact sim_refl _ | refine And.intro ?_ ?_))) (by (repeat' (first | exact rfl | exact trivial | exact sim_refl _ | refine And.intro ?_ ?_))) (by (repeat' (first | exact rfl | exact trivial | exact sim_refl _ | refine And.intro ?_ ?_))) (by (repeat' (first | exact rfl | exact trivial | exact sim_refl _ | refine And.intro ?_ ?_))))
end
end
section
variable (n0 : 0 ≤ sn) (n1 : sn < 18446744073709551616)
include n0 n1
set_option maxHeartbeats 4000000 in
theorem drWord0_fn : Gives Tryz.prog 34 [.ptr 0 0, .ptr 1 0] [.obj (rrO R ep 2 fl .nilslice sn 0 tm), ROx 2 W st kd wd vl ch, WO W]
    (Is .ff [.obj (rrO R ep 2 fl (.sbuf 3 1 0 1) sn 0 tm), ROx 2 W (st + 1) 1 (8 + 4 * (geW sn % 2)) (W.getD (8 + 4 * (geW sn % 2)).toNat 0) false, WO W, wdE [W.getD (8 + 4 * (geW sn % 2)).toNat 0]]) := by
  have q0 := ge_lo (w := sn)
  have q1 := ge_hi (w := sn)
  have e3 : (geW sn).tmod 2 = geW sn % 2 := by rw [Int.tmod_eq_emod_of_nonneg (by omega)]
  have e4 : 0 ≤ geW sn % 2 := by omega
  have e5 : geW sn % 2 ≤ 1 := by omega
  have e6 : IntKind.i64.wrap (8 + 4 * (geW sn % 2)) = 8 + 4 * (geW sn % 2) := wi64 (by omega) (by omega)
  have e7 : 0 ≤ 8 + 4 * (geW sn % 2) := by omega
  have e8 : 8 + 4 * (geW sn % 2) < W.length := by omega
  refine gives_x hXDw (fn := Tryz.f34) rfl rfl rfl rfl fun ρ w' => ?_
  refine sx hXDw [] 4000 rfl (by (simp [-List.getD_eq_getElem?_getD, -List.length_eq_zero_iff, conjP, h1, h2])) ?_
  refine sx hXDw [.F] 4000 rfl (by (simp [-List.getD_eq_getElem?_getD, -List.length_eq_zero_iff, conjP, addOP])) ?_
  refine sx hXDw [.T] 4000 rfl (by (simp [-List.getD_eq_getElem?_getD, -List.length_eq_zero_iff, conjP, getH, HE.so, h1, h2, hs, n0, n1, e3, e4, e5, e6, e7, e8] <;> (first | omega | ((repeat' (refine And.intro ?_ ?_)) <;> (first | omega | exact decide_eq_false (by omega) | exact decide_eq_true (by omega)))))) ?_
  refine sx hXDw [.F] 4000 rfl (by (simp [-List.getD_eq_getElem?_getD, -List.length_eq_zero_iff, conjP, addOP])) ?_
  (refine ss_end hXDw [0, 1, 2, 5] rfl rfl trivial rfl rfl rfl rfl (by (repeat' (first | exact rfl | exact trivial | exact sim_refl _ | refine And.intro ?_ ?_))) ?hh (by (repeat' (first | exact rfl | exact trivial | exact sim_refl _ | refine And.intro ?_ ?_))) (by (repeat' (first | exact rfl | exact trivial | exact sim_refl _ | refine And.intro ?_ ?_))); (case hh => simp only [e3, Int.add_zero, e6]; (repeat' (first | exact rfl | exact trivial | exact sim_refl _ | assumption | (simp; done) | (simp only [mulS_eq]; simp; done) | refine And.intro ?_ ?_)); done))
set_option maxHeartbeats 4000000 in
theorem drWord1_fn (i2 : o.length < 4) : Gives Tryz.prog 34 [.ptr 0 0, .ptr 1 0] [.obj (rrO R ep 2 fl (.sbuf 3 1 0 o.length) sn 0 tm), ROx 2 W st kd wd vl ch, WO W, wdE o]
    (Is .ff [.obj (rrO R ep (if o.length + 1 = 4 then 3 else 2) fl (.sbuf 4 1 0 (o.length + 1)) sn 0 tm), ROx 2 W (st + 1) 1 (8 + 4 * (geW sn % 2) + (o.length : Int)) (W.getD (8 + 4 * (geW sn % 2) + (o.length : Int)).toNat 0) false, WO W, .opq, wdE (o ++ [W.getD (8 + 4 * (geW sn % 2) + (o.length : Int)).toNat 0])]) := by
  have q0 := ge_lo (w := sn)
  have q1 := ge_hi (w := sn)
  have e3 : (geW sn).tmod 2 = geW sn % 2 := by rw [Int.tmod_eq_emod_of_nonneg (by omega)]
  have e4 : 0 ≤ geW sn % 2 := by omega
  have e5 : geW sn % 2 ≤ 1 := by omega
  have e6 : IntKind.i64.wrap (8 + 4 * (geW sn % 2) + (o.length : Int)) = 8 + 4 * (geW sn % 2) + o.length := wi64 (by omega) (by omega)
  have e7 : 0 ≤ 8 + 4 * (geW sn % 2) + (o.length : Int) := by omega
  have e8 : 8 + 4 * (geW sn % 2) + (o.length : Int) < W.length := by omega
  by_cases c : o.length + 1 = 4
  · rw [if_pos c]
    have c' : ((o.length + 1 : Nat) : Int) = 4 := by omega
    refine gives_x hXDw (fn := Tryz.f34) rfl rfl rfl rfl fun ρ w' => ?_
    refine sx hXDw [] 4000 rfl (by (simp [-List.getD_eq_getElem?_getD, -List.length_eq_zero_iff, conjP, h1, h2])) ?_
    refine sx hXDw [.F] 4000 rfl (by (simp [-List.getD_eq_getElem?_getD, -List.length_eq_zero_iff, conjP, addOP])) ?_
    refine sx hXDw [.T] 4000 rfl (by (simp [-List.getD_eq_getElem?_getD, -List.length_eq_zero_iff, conjP, getH, HE.so, h1, h2, hs, n0, n1, e3, e4, e5, e6, e7, e8] <;> (first | omega | ((repeat' (refine And.intro ?_ ?_)) <;> (first | omega | exact decide_eq_false (by omega) | exact decide_eq_true (by omega)))))) ?_
    refine sx hXDw [.T] 4000 rfl (by (simp [-List.getD_eq_getElem?_getD, -List.length_eq_zero_iff, conjP, addOP, c'])) ?_
    (refine ss_end hXDw [0, 1, 2, 3, 6] rfl rfl trivial rfl rfl rfl rfl (by (repeat' (first | exact rfl | exact trivial | exact sim_refl _ | refine And.intro ?_ ?_))) ?hh (by (repeat' (first | exact rfl | exact trivial | exact sim_refl _ | refine And.intro ?_ ?_))) (by (repeat' (first | exact rfl | exact trivial | exact sim_refl _ | refine And.intro ?_ ?_))); (case hh => simp only [e3, e6]; (repeat' (first | exact rfl | exact trivial | exact sim_refl _ | assumption | (simp; done) | (simp only [mulS_eq]; simp; done) | refine And.intro ?_ ?_)); done))
  · rw [if_neg c]
    have c' : ¬ ((o.length + 1 : Nat) : Int) = 4 := by omega
    refine gives_x hXDw (fn := Tryz.f34) rfl rfl rfl rfl fun ρ w' => ?_
    refine sx hXDw [] 4000 rfl (by (simp [-List.getD_eq_getElem?_getD, -List.length_eq_zero_iff, conjP, h1, h2])) ?_
    refine sx hXDw [.F] 4000 rfl (by (simp [-List.getD_eq_getElem?_getD, -List.length_eq_zero_iff, conjP, addOP])) ?_
    refine sx hXDw [.T] 4000 rfl (by (simp [-List.getD_eq_getElem?_getD, -List.length_eq_zero_iff, conjP, getH, HE.so, h1, h2, hs, n0, n1, e3, e4, e5, e6, e7, e8] <;> (first | omega | ((repeat' (refine And.intro ?_ ?_)) <;> (first | omega | exact decide_eq_false (by omega) | exact decide_eq_true (by omega)))))) ?_
    refine sx hXDw [.F] 4000 rfl (by (simp [-List.getD_eq_getElem?_getD, -List.length_eq_zero_iff, conjP, addOP] <;> (first | omega | ((repeat' (refine And.intro ?_ ?_)) <;> (first | omega | exact decide_eq_false (by omega) | exact decide_eq_true (by omega)))))) ?_
    (refine ss_end hXDw [0, 1, 2, 3, 6] rfl rfl trivial rfl rfl rfl rfl (by (repeat' (first | exact rfl | exact trivial | exact sim_refl _ | refine And.intro ?_ ?_))) ?hh (by (repeat' (first | exact rfl | exact trivial | exact sim_refl _ | refine And.intro ?_ ?_))) (by (repeat' (first | exact rfl | exact trivial | exact sim_refl _ | refine And.intro ?_ ?_))); (case hh => simp only [e3, e6]; (repeat' (first | exact rfl | exact trivial | exact sim_refl _ | assumption | (simp; done) | (simp only [mulS_eq]; simp; done) | refine And.intro ?_ ?_)); done))
variable (hw0 : 0 ≤ W.getD 7 0) (hw1 : W.getD 7 0 < 18446744073709551616)
include hw0 hw1
set_option maxHeartbeats 4000000 in
theorem drStill_fn (g1 : stillB sn (W.getD 7 0) = true) : Gives Tryz.prog 34 [.ptr 0 0, .ptr 1 0] [.obj (rrO R ep 3 fl (.sbuf 3 1 0 o.length) sn 0 tm), ROx 2 W st kd wd vl ch, WO W, wdE o]
    (Is .tt [.obj (rrO R ep 0 fl (.sbuf 3 1 0 o.length) sn 0 tm), ROx 2 W (st + 1) 1 7 (W.getD 7 0) false, WO W, wdE o]) := by
  have h7 : 7 < W.length := by omega
  refine gives_x hXDw (fn := Tryz.f34) rfl rfl rfl rfl fun ρ w' => ?_
  refine sx hXDw [] 4000 rfl (by (simp [-List.getD_eq_getElem?_getD, -List.length_eq_zero_iff, conjP, h1, h2])) ?_
  refine sx hXDw [.F] 4000 rfl (by (simp [-List.getD_eq_getElem?_getD, -List.length_eq_zero_iff, conjP, addOP])) ?_
  refine sx hXDw [.F] 4000 rfl (by (simp [-List.getD_eq_getElem?_getD, -List.length_eq_zero_iff, conjP, addOP])) ?_
  refine sx hXDw [.T] 4000 rfl (by (simp [-List.getD_eq_getElem?_getD, -List.length_eq_zero_iff, conjP, getH, HE.so, hs, hw0, hw1, n0, n1] <;> (first | omega | ((repeat' (refine And.intro ?_ ?_)) <;> (first | omega | exact decide_eq_false (by omega) | exact decide_eq_true (by omega)))))) ?_
  refine sx hXDw [.T] 4000 rfl (by (simp [-List.getD_eq_getElem?_getD, -List.length_eq_zero_iff, conjP, addOP, g1])) ?_
  refine sx hXDw [.F] 4000 rfl (by (simp [-List.getD_eq_getElem?_getD, -List.length_eq_zero_iff, conjP, addOP])) ?_
  (exact ss_end hXDw [0, 1, 2, 3] rfl rfl trivial rfl rfl rfl rfl (by (repeat' (first | exact rfl | exact trivial | exact sim_refl _ | refine And.intro ?_ ?_))) (by (repeat' (first | exact rfl | exact trivial | exact sim_refl _ | refine And.intro ?_ ?_))) (by (repeat' (first | exact rfl | exact trivial | exact sim_refl _ | refine And.intro ?_ ?_))) (by (repeat' (first | exact rfl | exact trivial | exact sim_refl _ | refine And.intro ?_ ?_))))
set_option maxHeartbeats 4000000 in
theorem drFail_fn (hf0 : 0 ≤ fl) (hf : fl + 1 < R) (g1 : stillB sn (W.getD 7 0) = false) : Gives Tryz.prog 34 [.ptr 0 0, .ptr 1 0] [.obj (rrO R ep 3 fl (.sbuf 3 1 0 o.length) sn 0 tm), ROx 2 W st kd wd vl ch, WO W, wdE o]
    (Is .ff [.obj (rrO R ep 1 (fl + 1) (.sbuf 3 1 0 o.length) sn 0 tm), ROx 2 W (st + 1) 1 7 (W.getD 7 0) false, WO W, wdE o]) := by
  have h7 : 7 < W.length := by omega
  have e1 : IntKind.i64.wrap (fl + 1) = fl + 1 := wi64 (by omega) (by omega)
  have e2 : ¬ fl + 1 = R := by omega
  refine gives_x hXDw (fn := Tryz.f34) rfl rfl rfl rfl fun ρ w' => ?_
  refine sx hXDw [] 4000 rfl (by (simp [-List.getD_eq_getElem?_getD, -List.length_eq_zero_iff, conjP, h1, h2])) ?_
  refine sx hXDw [.F] 4000 rfl (by (simp [-List.getD_eq_getElem?_getD, -List.length_eq_zero_iff, conjP, addOP])) ?_
  refine sx hXDw [.F] 4000 rfl (by (simp [-List.getD_eq_getElem?_getD, -List.length_eq_zero_iff, conjP, addOP])) ?_
  refine sx hXDw [.T] 4000 rfl (by (simp [-List.getD_eq_getElem?_getD, -List.length_eq_zero_iff, conjP, getH, HE.so, hs, hw0, hw1, n0, n1] <;> (first | omega | ((repeat' (refine And.intro ?_ ?_)) <;> (first | omega | exact decide_eq_false (by omega) | exact decide_eq_true (by omega)))))) ?_
  refine sx hXDw [.F] 4000 rfl (by (simp [-List.getD_eq_getElem?_getD, -List.length_eq_zero_iff, conjP, addOP, g1])) ?_
  refine sx hXDw [.F] 4000 rfl (by (simp [-List.getD_eq_getElem?_getD, -List.length_eq_zero_iff, conjP, addOP, e1, e2])) ?_
  (refine ss_end hXDw [0, 1, 2, 3] rfl rfl trivial rfl rfl rfl rfl (by (repeat' (first | exact rfl | exact trivial | exact sim_refl _ | refine And.intro ?_ ?_))) ?hh (by (repeat' (first | exact rfl | exact trivial | exact sim_refl _ | refine And.intro ?_ ?_))) (by (repeat' (first | exact rfl | exact trivial | exact sim_refl _ | refine And.intro ?_ ?_))); (case hh => simp only [e1]; (repeat' (first | exact rfl | exact trivial | exact sim_refl _ | refine And.intro ?_ ?_)); done))
set_option maxHeartbeats 4000000 in
theorem drFailL_fn (_hf0 : 0 ≤ fl) (hf : fl + 1 = R) (g1 : stillB sn (W.getD 7 0) = false) : Gives Tryz.prog 34 [.ptr 0 0, .ptr 1 0] [.obj (rrO R ep 3 fl (.sbuf 3 1 0 o.length) sn 0 tm), ROx 2 W st kd wd vl ch, WO W, wdE o]
    (Is .tt [.obj (rrO R ep 0 (fl + 1) .nilslice sn 17 tm), ROx 2 W (st + 1) 1 7 (W.getD 7 0) false, WO W, wdE o]) := by
  have h7 : 7 < W.length := by omega
  have e1 : IntKind.i64.wrap (fl + 1) = R := by rw [wi64 (by omega) (by omega)]; exact hf
  rw [hf]
  refine gives_x hXDw (fn := Tryz.f34) rfl rfl rfl rfl fun ρ w' => ?_
  refine sx hXDw [] 4000 rfl (by (simp [-List.getD_eq_getElem?_getD, -List.length_eq_zero_iff, conjP, h1, h2])) ?_
  refine sx hXDw [.F] 4000 rfl (by (simp [-List.getD_eq_getElem?_getD, -List.length_eq_zero_iff, conjP, addOP])) ?_
  refine sx hXDw [.F] 4000 rfl (by (simp [-List.getD_eq_getElem?_getD, -List.length_eq_zero_iff, conjP, addOP])) ?_
  refine sx hXDw [.T] 4000 rfl (by (simp [-List.getD_eq_getElem?_getD, -List.length_eq_zero_iff, conjP, getH, HE.so, hs, hw0, hw1, n0, n1] <;> (first | omega | ((repeat' (refine And.intro ?_ ?_)) <;> (first | omega | exact decide_eq_false (by omega) | exact decide_eq_true (by omega)))))) ?_
  refine sx hXDw [.F] 4000 rfl (by (simp [-List.getD_eq_getElem?_getD, -List.length_eq_zero_iff, conjP, addOP, g1])) ?_
  refine sx hXDw [.T] 4000 rfl (by (simp [-List.getD_eq_getElem?_getD, -List.length_eq_zero_iff, conjP, addOP, e1])) ?_
  refine sx hXDw [.T] 4000 rfl (by (simp [-List.getD_eq_getElem?_getD, -List.length_eq_zero_iff, conjP, addOP])) ?_
  (refine ss_end hXDw [0, 1, 2, 3] rfl rfl trivial rfl rfl rfl rfl (by (repeat' (first | exact rfl | exact trivial | exact sim_refl _ | refine And.intro ?_ ?_))) ?hh (by (repeat' (first | exact rfl | exact trivial | exact sim_refl _ | refine And.intro ?_ ?_))) (by (repeat' (first | exact rfl | exact trivial | exact sim_refl _ | refine And.intro ?_ ?_))); (case hh => simp only [e1]; (repeat' (first | exact rfl | exact trivial | exact sim_refl _ | refine And.intro ?_ ?_)); done))
end
end
end Go.Proofs.YtmghcelohnlceaaGreatDoor


/- The document's steps, as rows of the table. -/
namespace Go.Proofs.YtmghcelohnlceaaGreatDoor
open Go Go.Hx
set_option maxRecDepth 8000
section
variable {R : Int} {s : WS} {W : List Int} {st kd wd vl : Int} {ch : Bool}
variable (ok : WOk R s) (h1 : 1 ≤ R) (h2 : R ≤ 8) (hl : 16 ≤ W.length) (hs : 0 ≤ st) (hs' : st < 1000000) (hw0 : 0 ≤ W.getD 7 0) (hw1 : W.getD 7 0 < 18446744073709551616)
include ok h1 h2 hl hs hs' hw0 hw1
theorem dwAll_fn : Gives Tryz.prog 33 [.ptr 0 0, .ptr 1 0] [.obj (rwO R s.ep s.nx s.i s.fl 3 s.l.length s.sn 0 s.hd 0), ROx 2 W st kd wd vl ch, WO W, .obj (.ints .u64 s.l 39)]
    (Is (match (wStep R s W st).k with | 0 => .ff | _ => .tt) [.obj (rwO R s.ep (wStep R s W st).nx (wStep R s W st).i (wStep R s W st).fl 3 s.l.length (wStep R s W st).sn (wStep R s W st).c (wStep R s W st).hd (wStep R s W st).cm),
      ROx 2 (wStep R s W st).W (st + 1) (wStep R s W st).kd (wStep R s W st).wd (wStep R s W st).vl (wStep R s W st).ch, WO (wStep R s W st).W, .obj (.ints .u64 s.l 39)]) := by
  obtain ⟨ep, nx, sn, fl, tm, i, hd, l⟩ := s
  have x0 : 1 ≤ nx := ok.nx0
  have x1 : nx ≤ 4 := ok.nx1
  have f0 : 0 ≤ fl := ok.fl0
  have f1 : fl < R := ok.fl1
  have n0 : 0 ≤ sn := ok.sn0
  have n1 : sn < 18446744073709551616 := ok.sn1
  have hd0 : nx = 2 → hd = false := fun q => by subst q; exact ok.hdv
  have hn : nx = 1 ∨ nx = 2 ∨ nx = 3 ∨ nx = 4 := by omega
  unfold wStep
  dsimp only
  rcases hn with rfl | rfl | rfl | rfl
  · rw [if_pos rfl]
    by_cases g : liW (W.getD 7 0) = true ∧ epW (W.getD 7 0) = ep
    · rw [if_neg (fun q => q g)]
      by_cases g3 : geW (W.getD 7 0) = 2147483647
      · rw [if_pos g3]; exact dwOver_fn h1 h2 hl hs hs' hw0 hw1 g.1 g.2 g3
      · rw [if_neg g3]
        by_cases g4 : buW (W.getD 7 0) = true
        · rw [if_pos g4]
          by_cases g5 : fl + 1 = R
          · rw [if_pos g5]; exact dwBusyL_fn h1 h2 hl hs hs' hw0 hw1 g.1 g.2 g3 f0 g5 g4
          · rw [if_neg g5]; exact dwBusy_fn h1 h2 hl hs hs' hw0 hw1 g.1 g.2 g3 f0 (by omega) g4
        · rw [if_neg g4]; exact dwLook_fn h1 h2 hl hs hs' hw0 hw1 g.1 g.2 g3 (by simpa using g4)
    · rw [if_pos g]; exact dwGone_fn h1 h2 hl hs hs' hw0 hw1 g
  · rw [if_neg (by decide), if_pos rfl]
    obtain rfl := hd0 rfl
    by_cases g : W.getD 7 0 = sn
    · rw [if_pos g]; exact dwHold_fn h1 h2 hl hs hs' n0 n1 g
    · rw [if_neg g]
      by_cases g5 : fl + 1 = R
      · rw [if_pos g5]; exact dwLostL_fn h1 h2 hl hs hs' n0 n1 f0 g5 g
      · rw [if_neg g5]; exact dwLost_fn h1 h2 hl hs hs' n0 n1 f0 (by omega) g
  · rw [if_neg (by decide), if_neg (by decide), if_pos rfl]
    exact dwWord_fn h1 h2 hl hs hs' n0 n1 ok.i0 (ok.i1 (by show (3 : Int) ≤ 3; decide)) ok.l1
  · rw [if_neg (by decide), if_neg (by decide), if_neg (by decide)]
    have q := ok.lv (by show (2 : Int) ≤ 4; decide)
    exact dwClose_fn h1 h2 hl hs hs' n0 n1 q.1 q.2.1
end
/-- The document's name of a read's step. -/
def dAt (nx : Int) : Int := if nx = 3 then 2 else if nx = 4 then 3 else nx
section
variable {R ep sn fl tm : Int} {l : List Int} {W : List Int} {st kd wd vl : Int} {ch : Bool}
variable (h1 : 1 ≤ R) (h2 : R ≤ 8) (hl : 16 ≤ W.length) (hs : 0 ≤ st) (hs' : st < 1000000) (hw0 : 0 ≤ W.getD 7 0) (hw1 : W.getD 7 0 < 18446744073709551616)
include h1 h2 hl hs hs' hw0 hw1
theorem drLk0_fn : Gives Tryz.prog 34 [.ptr 0 0, .ptr 1 0] [.obj (rrO R ep 1 fl .nilslice sn 0 tm), ROx 2 W st kd wd vl ch, WO W]
    (Is (match (rStep R ⟨ep, 1, sn, fl, tm, none⟩ W st).k with | 0 => .ff | _ => .tt) [.obj (rrO R ep (dAt (rStep R ⟨ep, 1, sn, fl, tm, none⟩ W st).nx) (rStep R ⟨ep, 1, sn, fl, tm, none⟩ W st).fl .nilslice (rStep R ⟨ep, 1, sn, fl, tm, none⟩ W st).sn (rStep R ⟨ep, 1, sn, fl, tm, none⟩ W st).c (rStep R ⟨ep, 1, sn, fl, tm, none⟩ W st).tm),
      ROx 2 W (st + 1) 1 (rStep R ⟨ep, 1, sn, fl, tm, none⟩ W st).wd (rStep R ⟨ep, 1, sn, fl, tm, none⟩ W st).vl false, WO W]) := by
  unfold rStep
  dsimp only
  rw [if_pos rfl]
  by_cases g : liW (W.getD 7 0) = true ∧ epW (W.getD 7 0) = ep
  · rw [if_neg (fun q => q g)]
    by_cases g3 : geW (W.getD 7 0) = 0
    · rw [if_pos g3]; exact drEmpty0_fn h1 h2 hl hs hs' hw0 hw1 g.1 g.2 g3
    · rw [if_neg g3]; exact drLook0_fn h1 h2 hl hs hs' hw0 hw1 g.1 g.2 g3
  · rw [if_pos g]; exact drGone0_fn h1 h2 hl hs hs' hw0 hw1 g
theorem drLk1_fn : Gives Tryz.prog 34 [.ptr 0 0, .ptr 1 0] [.obj (rrO R ep 1 fl (.sbuf 3 1 0 l.length) sn 0 tm), ROx 2 W st kd wd vl ch, WO W, wdE l]
    (Is (match (rStep R ⟨ep, 1, sn, fl, tm, some l⟩ W st).k with | 0 => .ff | _ => .tt) [.obj (rrO R ep (dAt (rStep R ⟨ep, 1, sn, fl, tm, some l⟩ W st).nx) (rStep R ⟨ep, 1, sn, fl, tm, some l⟩ W st).fl .nilslice (rStep R ⟨ep, 1, sn, fl, tm, some l⟩ W st).sn (rStep R ⟨ep, 1, sn, fl, tm, some l⟩ W st).c (rStep R ⟨ep, 1, sn, fl, tm, some l⟩ W st).tm),
      ROx 2 W (st + 1) 1 (rStep R ⟨ep, 1, sn, fl, tm, some l⟩ W st).wd (rStep R ⟨ep, 1, sn, fl, tm, some l⟩ W st).vl false, WO W, wdE l]) := by
  unfold rStep
  dsimp only
  rw [if_pos rfl]
  by_cases g : liW (W.getD 7 0) = true ∧ epW (W.getD 7 0) = ep
  · rw [if_neg (fun q => q g)]
    by_cases g3 : geW (W.getD 7 0) = 0
    · rw [if_pos g3]; exact drEmpty1_fn h1 h2 hl hs hs' hw0 hw1 g.1 g.2 g3
    · rw [if_neg g3]; exact drLook1_fn h1 h2 hl hs hs' hw0 hw1 g.1 g.2 g3
  · rw [if_pos g]; exact drGone1_fn h1 h2 hl hs hs' hw0 hw1 g
theorem drCl_fn (ok : ROk R ⟨ep, 4, sn, fl, tm, some l⟩) : Gives Tryz.prog 34 [.ptr 0 0, .ptr 1 0] [.obj (rrO R ep 3 fl (.sbuf 3 1 0 l.length) sn 0 tm), ROx 2 W st kd wd vl ch, WO W, wdE l]
    (Is (match (rStep R ⟨ep, 4, sn, fl, tm, some l⟩ W st).k with | 4 => .ff | _ => .tt) [.obj (rrO R ep (dAt (rStep R ⟨ep, 4, sn, fl, tm, some l⟩ W st).nx) (rStep R ⟨ep, 4, sn, fl, tm, some l⟩ W st).fl (match (rStep R ⟨ep, 4, sn, fl, tm, some l⟩ W st).k with | 5 => .nilslice | _ => .sbuf 3 1 0 l.length) (rStep R ⟨ep, 4, sn, fl, tm, some l⟩ W st).sn (rStep R ⟨ep, 4, sn, fl, tm, some l⟩ W st).c (rStep R ⟨ep, 4, sn, fl, tm, some l⟩ W st).tm),
      ROx 2 W (st + 1) 1 (rStep R ⟨ep, 4, sn, fl, tm, some l⟩ W st).wd (rStep R ⟨ep, 4, sn, fl, tm, some l⟩ W st).vl false, WO W, wdE l]) := by
  have f0 : 0 ≤ fl := ok.fl0
  have f1 : fl < R := ok.fl1
  have n0 : 0 ≤ sn := ok.sn0
  have n1 : sn < 18446744073709551616 := ok.sn1
  unfold rStep
  dsimp only
  rw [if_neg (by decide), if_neg (by decide)]
  by_cases g : stillB sn (W.getD 7 0) = true
  · rw [if_pos g]; exact drStill_fn h1 h2 hl hs hs' n0 n1 hw0 hw1 g
  · rw [if_neg g]
    by_cases g5 : fl + 1 = R
    · rw [if_pos g5]; exact drFailL_fn h1 h2 hl hs hs' n0 n1 hw0 hw1 f0 g5 (by simpa using g)
    · rw [if_neg g5]; exact drFail_fn h1 h2 hl hs hs' n0 n1 hw0 hw1 f0 (by omega) (by simpa using g)
end
/-- What the document's steps are told of. -/
structure DP where
  (R : Int) (s : WS) (t : RS) (hl : Nat) (W : List Int) (st kd wd vl : Int) (ch : Bool)
/-- A write's step. -/
def dwStS (d : DP) (κ : Nat) (r : WR) : Hx.Spec := fun args H => match args with
  | [.ptr h 0, .ptr ha 0] => match nodupN [h, ha, 6, d.hl] with
    | true => some ((getH H ha = some (.cells [.slice 6 0 d.W.length d.W.length, .int .i64 d.st, .int .i64 d.kd, .int .i64 d.wd, .int .u64 d.vl, .bool d.ch, .ff, .int .i64 0] 54)) :: (getH H 6 = some (.ints .u64 d.W 39)) :: (getH H h = some (rwO d.R d.s.ep d.s.nx d.s.i d.s.fl d.hl d.s.l.length d.s.sn 0 d.s.hd 0)) :: (getH H d.hl = some (.ints .u64 d.s.l 39)) :: (WOk d.R d.s) :: (wStep d.R d.s d.W d.st = r) :: (r.k = κ) :: (1 ≤ d.R) :: (d.R ≤ 8) :: (16 ≤ d.W.length) :: (0 ≤ d.st) :: (d.st < 1000000) :: (0 ≤ d.W.getD 7 0) :: (d.W.getD 7 0 < 18446744073709551616) :: [], (match κ with | 0 => .ff | _ => .tt),
        ((((H.set h (.obj (rwO d.R d.s.ep r.nx r.i r.fl d.hl d.s.l.length r.sn r.c r.hd r.cm))).set ha (ROx 6 r.W (d.st + 1) r.kd r.wd r.vl r.ch)).set 6 (WO r.W)).set d.hl (.obj (.ints .u64 d.s.l 39))))
    | false => none
  | _ => none
theorem dwStS_ok {d : DP} {κ : Nat} {r : WR} {args : List SV} {H : List HE} {ob : List Prop} {V : SV} {L : List HE} (hs : dwStS d κ r args H = some (ob, V, L)) (ho : AllP ob) : Gives Tryz.prog 33 args H (Is V L) := by
  unfold dwStS at hs
  split at hs
  case h_2 => simp at hs
  rename_i _ h ha
  split at hs
  case h_2 => simp at hs
  rename_i hnd
  simp only [Option.some.injEq, Prod.mk.injEq] at hs
  obtain ⟨rfl, rfl, rfl⟩ := hs
  simp only [AllP, List.mem_cons, List.not_mem_nil, or_false, forall_eq_or_imp, forall_eq] at ho
  obtain ⟨g1, g2, g3, g4, ok, hr, hk, p1, p2, p3, p4, p5, p6, p7⟩ := ho
  have hall := dwAll_fn (kd := d.kd) (wd := d.wd) (vl := d.vl) (ch := d.ch) ok p1 p2 p3 p4 p5 p6 p7
  rw [hr, hk] at hall
  rcases κ with _ | k
  all_goals
    have := frame4 (N := []) (H := H) (h0 := h) (h1 := ha) (h2 := 6) (h3 := d.hl) (ags := [.ptr h 0, .ptr ha 0]) ⟨_, hTE⟩ hall rfl rfl rfl hnd g3 g1 g2 g4 rfl
    simp only [List.map_nil, List.append_nil] at this
    exact this
/-- A read's step. -/
def drStS (d : DP) (κ : Nat) (r : RR) : Hx.Spec := fun args H => match args with
  | [.ptr h 0, .ptr ha 0] => match d.t.o with
    | none => match nodupN [h, ha, 6], nums[H.length]? with
      | true, some n0 => match κ with
        | 3 => some ((getH H ha = some (.cells [.slice 6 0 d.W.length d.W.length, .int .i64 d.st, .int .i64 d.kd, .int .i64 d.wd, .int .u64 d.vl, .bool d.ch, .ff, .int .i64 0] 54)) :: (getH H 6 = some (.ints .u64 d.W 39)) :: (getH H h = some (rrO d.R d.t.ep (dAt d.t.nx) d.t.fl .nilslice d.t.sn 0 d.t.tm)) :: (ROk d.R d.t) :: (rStep d.R d.t d.W d.st = r) :: (r.k = 3) :: (1 ≤ d.R) :: (d.R ≤ 8) :: (16 ≤ d.W.length) :: (0 ≤ d.st) :: (d.st < 1000000) :: (0 ≤ d.W.getD 7 0) :: (d.W.getD 7 0 < 18446744073709551616) :: [], .ff,
            (((H.set h (.obj (rrO d.R d.t.ep (dAt r.nx) r.fl (.sbuf n0 1 0 1) r.sn 0 r.tm))).set ha (ROx 6 d.W (d.st + 1) 1 r.wd r.vl false)).set 6 (WO d.W)) ++ [wdE [r.vl]])
        | _ => some ((getH H ha = some (.cells [.slice 6 0 d.W.length d.W.length, .int .i64 d.st, .int .i64 d.kd, .int .i64 d.wd, .int .u64 d.vl, .bool d.ch, .ff, .int .i64 0] 54)) :: (getH H 6 = some (.ints .u64 d.W 39)) :: (getH H h = some (rrO d.R d.t.ep (dAt d.t.nx) d.t.fl .nilslice d.t.sn 0 d.t.tm)) :: (ROk d.R d.t) :: (rStep d.R d.t d.W d.st = r) :: (r.k = κ ∧ κ ≤ 1) :: (1 ≤ d.R) :: (d.R ≤ 8) :: (16 ≤ d.W.length) :: (0 ≤ d.st) :: (d.st < 1000000) :: (0 ≤ d.W.getD 7 0) :: (d.W.getD 7 0 < 18446744073709551616) :: [], (match κ with | 0 => .ff | _ => .tt),
            (((H.set h (.obj (rrO d.R d.t.ep (dAt r.nx) r.fl .nilslice r.sn r.c r.tm))).set ha (ROx 6 d.W (d.st + 1) 1 r.wd r.vl false)).set 6 (WO d.W)))
      | _, _ => none
    | some l => match nodupN [h, ha, 6, d.hl], nums[H.length]? with
      | true, some n0 => match κ with
        | 3 => some ((getH H ha = some (.cells [.slice 6 0 d.W.length d.W.length, .int .i64 d.st, .int .i64 d.kd, .int .i64 d.wd, .int .u64 d.vl, .bool d.ch, .ff, .int .i64 0] 54)) :: (getH H 6 = some (.ints .u64 d.W 39)) :: (getH H h = some (rrO d.R d.t.ep (dAt d.t.nx) d.t.fl (.sbuf d.hl 1 0 l.length) d.t.sn 0 d.t.tm)) :: (getH H d.hl = some (.buf .u64 l 1 39)) :: (ROk d.R d.t) :: (rStep d.R d.t d.W d.st = r) :: (r.k = 3) :: (1 ≤ d.R) :: (d.R ≤ 8) :: (16 ≤ d.W.length) :: (0 ≤ d.st) :: (d.st < 1000000) :: (0 ≤ d.W.getD 7 0) :: (d.W.getD 7 0 < 18446744073709551616) :: [], .ff,
            ((((H.set h (.obj (rrO d.R d.t.ep (dAt r.nx) r.fl (.sbuf n0 1 0 (l.length + 1)) r.sn 0 r.tm))).set ha (ROx 6 d.W (d.st + 1) 1 r.wd r.vl false)).set 6 (WO d.W)).set d.hl .opq) ++ [wdE (l ++ [r.vl])])
        | 0 => some ((getH H ha = some (.cells [.slice 6 0 d.W.length d.W.length, .int .i64 d.st, .int .i64 d.kd, .int .i64 d.wd, .int .u64 d.vl, .bool d.ch, .ff, .int .i64 0] 54)) :: (getH H 6 = some (.ints .u64 d.W 39)) :: (getH H h = some (rrO d.R d.t.ep (dAt d.t.nx) d.t.fl (.sbuf d.hl 1 0 l.length) d.t.sn 0 d.t.tm)) :: (getH H d.hl = some (.buf .u64 l 1 39)) :: (ROk d.R d.t) :: (rStep d.R d.t d.W d.st = r) :: (r.k = 0) :: (1 ≤ d.R) :: (d.R ≤ 8) :: (16 ≤ d.W.length) :: (0 ≤ d.st) :: (d.st < 1000000) :: (0 ≤ d.W.getD 7 0) :: (d.W.getD 7 0 < 18446744073709551616) :: [], .ff,
            ((((H.set h (.obj (rrO d.R d.t.ep (dAt r.nx) r.fl .nilslice r.sn r.c r.tm))).set ha (ROx 6 d.W (d.st + 1) 1 r.wd r.vl false)).set 6 (WO d.W)).set d.hl (wdE l)))
        | 1 => some ((getH H ha = some (.cells [.slice 6 0 d.W.length d.W.length, .int .i64 d.st, .int .i64 d.kd, .int .i64 d.wd, .int .u64 d.vl, .bool d.ch, .ff, .int .i64 0] 54)) :: (getH H 6 = some (.ints .u64 d.W 39)) :: (getH H h = some (rrO d.R d.t.ep (dAt d.t.nx) d.t.fl (.sbuf d.hl 1 0 l.length) d.t.sn 0 d.t.tm)) :: (getH H d.hl = some (.buf .u64 l 1 39)) :: (ROk d.R d.t) :: (rStep d.R d.t d.W d.st = r) :: (r.k = 1) :: (1 ≤ d.R) :: (d.R ≤ 8) :: (16 ≤ d.W.length) :: (0 ≤ d.st) :: (d.st < 1000000) :: (0 ≤ d.W.getD 7 0) :: (d.W.getD 7 0 < 18446744073709551616) :: [], .tt,
            ((((H.set h (.obj (rrO d.R d.t.ep (dAt r.nx) r.fl .nilslice r.sn r.c r.tm))).set ha (ROx 6 d.W (d.st + 1) 1 r.wd r.vl false)).set 6 (WO d.W)).set d.hl (wdE l)))
        | _ => some ((getH H ha = some (.cells [.slice 6 0 d.W.length d.W.length, .int .i64 d.st, .int .i64 d.kd, .int .i64 d.wd, .int .u64 d.vl, .bool d.ch, .ff, .int .i64 0] 54)) :: (getH H 6 = some (.ints .u64 d.W 39)) :: (getH H h = some (rrO d.R d.t.ep (dAt d.t.nx) d.t.fl (.sbuf d.hl 1 0 l.length) d.t.sn 0 d.t.tm)) :: (getH H d.hl = some (.buf .u64 l 1 39)) :: (ROk d.R d.t) :: (rStep d.R d.t d.W d.st = r) :: (r.k = κ ∧ (κ = 2 ∨ κ = 4 ∨ κ = 5)) :: (1 ≤ d.R) :: (d.R ≤ 8) :: (16 ≤ d.W.length) :: (0 ≤ d.st) :: (d.st < 1000000) :: (0 ≤ d.W.getD 7 0) :: (d.W.getD 7 0 < 18446744073709551616) :: [], (match κ with | 4 => .ff | _ => .tt),
            ((((H.set h (.obj (rrO d.R d.t.ep (dAt r.nx) r.fl (match κ with | 5 => .nilslice | _ => .sbuf d.hl 1 0 l.length) r.sn r.c r.tm))).set ha (ROx 6 d.W (d.st + 1) 1 r.wd r.vl false)).set 6 (WO d.W)).set d.hl (wdE l)))
      | _, _ => none
  | _ => none
theorem drStS_ok {d : DP} {κ : Nat} {r : RR} {args : List SV} {H : List HE} {ob : List Prop} {V : SV} {L : List HE} (hs : drStS d κ r args H = some (ob, V, L)) (ho : AllP ob) : Gives Tryz.prog 34 args H (Is V L) := by
  obtain ⟨R, s, ⟨ep, nx, sn, fl, tm, o⟩, hl, W, st, kd, wd, vl, ch⟩ := d
  unfold drStS at hs
  split at hs
  case h_2 => simp at hs
  rename_i _ h ha
  have k1 : (rStep R ⟨ep, nx, sn, fl, tm, o⟩ W st).k ≤ 1 → ROk R ⟨ep, nx, sn, fl, tm, o⟩ → nx = 1 := fun q ok => by
    rcases (show nx = 1 ∨ nx = 3 ∨ nx = 4 from ok.nxc) with e | e | e
    · exact e
    · have := rk3 (R := R) (W := W) (st := st) (s := ⟨ep, nx, sn, fl, tm, o⟩) e; omega
    · have := rk4 (R := R) (W := W) (st := st) (s := ⟨ep, nx, sn, fl, tm, o⟩) e; omega
  have k3 : (rStep R ⟨ep, nx, sn, fl, tm, o⟩ W st).k = 3 → ROk R ⟨ep, nx, sn, fl, tm, o⟩ → nx = 3 := fun q ok => by
    rcases (show nx = 1 ∨ nx = 3 ∨ nx = 4 from ok.nxc) with e | e | e
    · have := rk1 (R := R) (W := W) (st := st) (s := ⟨ep, nx, sn, fl, tm, o⟩) e; omega
    · exact e
    · have := rk4 (R := R) (W := W) (st := st) (s := ⟨ep, nx, sn, fl, tm, o⟩) e; omega
  have k4 : ((rStep R ⟨ep, nx, sn, fl, tm, o⟩ W st).k = 2 ∨ (rStep R ⟨ep, nx, sn, fl, tm, o⟩ W st).k = 4 ∨ (rStep R ⟨ep, nx, sn, fl, tm, o⟩ W st).k = 5) → ROk R ⟨ep, nx, sn, fl, tm, o⟩ → nx = 4 := fun q ok => by
    rcases (show nx = 1 ∨ nx = 3 ∨ nx = 4 from ok.nxc) with e | e | e
    · have := rk1 (R := R) (W := W) (st := st) (s := ⟨ep, nx, sn, fl, tm, o⟩) e; omega
    · have := rk3 (R := R) (W := W) (st := st) (s := ⟨ep, nx, sn, fl, tm, o⟩) e; omega
    · exact e
  split at hs
  · rename_i ho0
    dsimp only at ho0
    subst ho0
    split at hs
    case h_2 => simp at hs
    rename_i n0 hnd t0
    have t0' := nums_get _ _ t0
    split at hs
    · simp only [Option.some.injEq, Prod.mk.injEq] at hs
      obtain ⟨rfl, rfl, rfl⟩ := hs
      simp only [AllP, List.mem_cons, List.not_mem_nil, or_false, forall_eq_or_imp, forall_eq] at ho
      obtain ⟨g1, g2, g3, ok, hr, hk, p1, p2, p3, p4, p5, p6, p7⟩ := ho
      subst t0'
      have hn := k3 (by rw [hr]; exact hk) ok
      subst hn
      subst hr
      have := frame3 (H := H) (h0 := h) (h1 := ha) (h2 := 6) (ags := [.ptr h 0, .ptr ha 0]) ⟨_, hTE⟩ (drWord0_fn (tm := tm) p1 p2 p3 p4 p5 ok.sn0 ok.sn1) rfl rfl rfl hnd g3 g1 g2 rfl
      have e0 : rPos ⟨ep, 3, sn, fl, tm, none⟩ = 8 + 4 * (geW sn % 2) := by simp [rPos, lst]
      unfold rStep
      dsimp only
      rw [if_neg (by decide), if_pos rfl]
      dsimp only
      rw [e0]
      exact this
    · rename_i hκ
      simp only [Option.some.injEq, Prod.mk.injEq] at hs
      obtain ⟨rfl, rfl, rfl⟩ := hs
      simp only [AllP, List.mem_cons, List.not_mem_nil, or_false, forall_eq_or_imp, forall_eq] at ho
      obtain ⟨g1, g2, g3, ok, hr, ⟨hk, hk1⟩, p1, p2, p3, p4, p5, p6, p7⟩ := ho
      have hn := k1 (by rw [hr, hk]; exact hk1) ok
      subst hn
      have hall := drLk0_fn (ep := ep) (sn := sn) (fl := fl) (tm := tm) (kd := kd) (wd := wd) (vl := vl) (ch := ch) p1 p2 p3 p4 p5 p6 p7
      rw [hr, hk] at hall
      rcases κ with _ | k
      all_goals
        have := frame3 (N := []) (H := H) (h0 := h) (h1 := ha) (h2 := 6) (ags := [.ptr h 0, .ptr ha 0]) ⟨_, hTE⟩ hall rfl rfl rfl hnd g3 g1 g2 rfl
        simp only [List.map_nil, List.append_nil] at this
        exact this
  · rename_i l ho0
    dsimp only at ho0
    subst ho0
    split at hs
    case h_2 => simp at hs
    rename_i n0 hnd t0
    have t0' := nums_get _ _ t0
    split at hs
    · simp only [Option.some.injEq, Prod.mk.injEq] at hs
      obtain ⟨rfl, rfl, rfl⟩ := hs
      simp only [AllP, List.mem_cons, List.not_mem_nil, or_false, forall_eq_or_imp, forall_eq] at ho
      obtain ⟨g1, g2, g3, g4, ok, hr, hk, p1, p2, p3, p4, p5, p6, p7⟩ := ho
      subst t0'
      have hn := k3 (by rw [hr]; exact hk) ok
      subst hn
      subst hr
      have := frame4q (H := H) (h0 := h) (h1 := ha) (h2 := 6) (h3 := hl) (ags := [.ptr h 0, .ptr ha 0]) ⟨_, hTE⟩ (drWord1_fn (tm := tm) p1 p2 p3 p4 p5 ok.sn0 ok.sn1 (ok.w3 rfl)) rfl rfl rfl hnd g3 g1 g2 g4 rfl
      have e1 : dAt (if (lst (some l)).length + 1 = 4 then 4 else 3) = (if l.length + 1 = 4 then (3 : Int) else 2) := by show dAt (if l.length + 1 = 4 then 4 else 3) = _; split <;> rfl
      unfold rStep
      dsimp only
      rw [if_neg (by decide), if_pos rfl]
      dsimp only
      rw [e1]
      exact this
    · simp only [Option.some.injEq, Prod.mk.injEq] at hs
      obtain ⟨rfl, rfl, rfl⟩ := hs
      simp only [AllP, List.mem_cons, List.not_mem_nil, or_false, forall_eq_or_imp, forall_eq] at ho
      obtain ⟨g1, g2, g3, g4, ok, hr, hk, p1, p2, p3, p4, p5, p6, p7⟩ := ho
      have hn := k1 (by rw [hr, hk]; decide) ok
      subst hn
      have hall := drLk1_fn (ep := ep) (sn := sn) (fl := fl) (tm := tm) (l := l) (kd := kd) (wd := wd) (vl := vl) (ch := ch) p1 p2 p3 p4 p5 p6 p7
      rw [hr, hk] at hall
      have := frame4 (N := []) (H := H) (h0 := h) (h1 := ha) (h2 := 6) (h3 := hl) (ags := [.ptr h 0, .ptr ha 0]) ⟨_, hTE⟩ hall rfl rfl rfl hnd g3 g1 g2 g4 rfl
      simp only [List.map_nil, List.append_nil] at this
      exact this
    · simp only [Option.some.injEq, Prod.mk.injEq] at hs
      obtain ⟨rfl, rfl, rfl⟩ := hs
      simp only [AllP, List.mem_cons, List.not_mem_nil, or_false, forall_eq_or_imp, forall_eq] at ho
      obtain ⟨g1, g2, g3, g4, ok, hr, hk, p1, p2, p3, p4, p5, p6, p7⟩ := ho
      have hn := k1 (by rw [hr, hk]; decide) ok
      subst hn
      have hall := drLk1_fn (ep := ep) (sn := sn) (fl := fl) (tm := tm) (l := l) (kd := kd) (wd := wd) (vl := vl) (ch := ch) p1 p2 p3 p4 p5 p6 p7
      rw [hr, hk] at hall
      have := frame4 (N := []) (H := H) (h0 := h) (h1 := ha) (h2 := 6) (h3 := hl) (ags := [.ptr h 0, .ptr ha 0]) ⟨_, hTE⟩ hall rfl rfl rfl hnd g3 g1 g2 g4 rfl
      simp only [List.map_nil, List.append_nil] at this
      exact this
    · simp only [Option.some.injEq, Prod.mk.injEq] at hs
      obtain ⟨rfl, rfl, rfl⟩ := hs
      simp only [AllP, List.mem_cons, List.not_mem_nil, or_false, forall_eq_or_imp, forall_eq] at ho
      obtain ⟨g1, g2, g3, g4, ok, hr, ⟨hk, hk1⟩, p1, p2, p3, p4, p5, p6, p7⟩ := ho
      have hn := k4 (by rw [hr, hk]; exact hk1) ok
      subst hn
      have hall := drCl_fn (kd := kd) (wd := wd) (vl := vl) (ch := ch) p1 p2 p3 p4 p5 p6 p7 ok
      rw [hr, hk] at hall
      rcases hk1 with rfl | rfl | rfl
      · have := frame4 (N := []) (H := H) (h0 := h) (h1 := ha) (h2 := 6) (h3 := hl) (ags := [.ptr h 0, .ptr ha 0]) ⟨_, hTE⟩ hall rfl rfl rfl hnd g3 g1 g2 g4 rfl
        simp only [List.map_nil, List.append_nil] at this
        exact this
      · have := frame4 (N := []) (H := H) (h0 := h) (h1 := ha) (h2 := 6) (h3 := hl) (ags := [.ptr h 0, .ptr ha 0]) ⟨_, hTE⟩ hall rfl rfl rfl hnd g3 g1 g2 g4 rfl
        simp only [List.map_nil, List.append_nil] at this
        exact this
      · have := frame4 (N := []) (H := H) (h0 := h) (h1 := ha) (h2 := 6) (h3 := hl) (ags := [.ptr h 0, .ptr ha 0]) ⟨_, hTE⟩ hall rfl rfl rfl hnd g3 g1 g2 g4 rfl
        simp only [List.map_nil, List.append_nil] at this
        exact this
end Go.Proofs.YtmghcelohnlceaaGreatDoor
