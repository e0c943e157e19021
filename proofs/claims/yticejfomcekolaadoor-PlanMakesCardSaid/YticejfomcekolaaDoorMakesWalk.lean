/- PlanMakes: an arena is made, and opened; one of another length, or of other first words, is not. -/
import Derived.Test.YticejfomcekolaaDoorWordH
import Derived.Test.YticejfomcekolaaDoorOnceWalk
import Derived.Test.YticejfomcekolaaDoorSame
import Derived.Test.YticejfomcekolaaDoorMakeWords
namespace Go.Proofs.YticejfomcekolaaDoor
open Go Go.Hx
set_option maxRecDepth 8000
theorem and63 (x : Int) : 0 ≤ ibits .and .u64 x 63 ∧ ibits .and .u64 x 63 ≤ 63 := by
  have h := and_lo x 63
  refine ⟨h, ?_⟩
  simp only [ibits, IntKind.wrap_u64]
  have : (BitVec.ofInt IntKind.u64.bits x &&& BitVec.ofInt IntKind.u64.bits 63).toNat ≤ 63 := by
    rw [BitVec.toNat_and]
    exact Nat.and_le_right
  omega
def ctPy : Nat → Option Hx.Spec
  | 24 => some (pureS aw04S)
  | 25 => some (pureS configS)
  | 32 => some (makeS)
  | 33 => some (rmakeS)
  | 34 => some (sameS)
  | 35 => some (pureS rightS)
  | 51 => some (pureS rightS)
  | 26 => some (pureS unyS)
  | 36 => some (pureS runyS)
  | 47 => some (pureS sizeS)
  | 37 => some (pureS rszS)
  | 16 => some (topS)
  | 23 => some (wordS)
  | 12 => some (arWordsS)
  | 18 => some (arStoreS)
  | 14 => some (arStepsS)
  | _ => none
theorem ctPy_ok : ∀ f s args H ob V L, ctPy f = some s → s args H = some (ob, V, L) → AllP ob → Gives Tryd.prog f args H (Is V L) := by
  intro f s args H ob V L h hs ho
  unfold ctPy at h
  split at h
  · simp at h; subst h; exact pureS_ok ⟨_, hTE⟩ (aw04S_ok) hs ho
  · simp at h; subst h; exact pureS_ok ⟨_, hTE⟩ (configS_ok) hs ho
  · simp at h; subst h; exact makeS_ok hs ho
  · simp at h; subst h; exact rmakeS_ok hs ho
  · simp at h; subst h; exact sameS_ok hs ho
  · simp at h; subst h; exact pureS_ok ⟨_, hTE⟩ (rightS_ok right35) hs ho
  · simp at h; subst h; exact pureS_ok ⟨_, hTE⟩ (rightS_ok right51) hs ho
  · simp at h; subst h; exact pureS_ok ⟨_, hTE⟩ (unyS_ok) hs ho
  · simp at h; subst h; exact pureS_ok ⟨_, hTE⟩ (runyS_ok) hs ho
  · simp at h; subst h; exact pureS_ok ⟨_, hTE⟩ (sizeS_ok) hs ho
  · simp at h; subst h; exact pureS_ok ⟨_, hTE⟩ (rszS_ok) hs ho
  · simp at h; subst h; exact topS_ok hs ho
  · simp at h; subst h; exact wordS_ok hs ho
  · simp at h; subst h; exact arWordsS_ok hs ho
  · simp at h; subst h; exact arStoreS_ok hs ho
  · simp at h; subst h; exact arStepsS_ok hs ho
  · simp at h
noncomputable def XPy0 : Tabs := tabs tr ft xt (fun _ => none) ctPy 20
theorem hXPy0 : TOk Tryd.prog XPy0 := ⟨hTE, hFT, ctPy_ok, hXT, fun t ks h => by simp [XPy0, tabs] at h, mixed⟩
noncomputable def XPy : Tabs := tabs tr ft xt etC ctPy 20
theorem hXPy : TOk Tryd.prog XPy := ⟨hTE, hFT, ctPy_ok, hXT, etC_ok, mixed⟩
def ctPw : Nat → Option Hx.Spec
  | 35 => some (pureS rightS)
  | 51 => some (pureS rightS)
  | 16 => some (topS)
  | _ => none
theorem ctPw_ok : ∀ f s args H ob V L, ctPw f = some s → s args H = some (ob, V, L) → AllP ob → Gives Tryd.prog f args H (Is V L) := by
  intro f s args H ob V L h hs ho
  unfold ctPw at h
  split at h
  · simp at h; subst h; exact pureS_ok ⟨_, hTE⟩ (rightS_ok right35) hs ho
  · simp at h; subst h; exact pureS_ok ⟨_, hTE⟩ (rightS_ok right51) hs ho
  · simp at h; subst h; exact topS_ok hs ho
  · simp at h
noncomputable def XPw : Tabs := tabs tr ft xt (fun _ => none) ctPw 20
theorem hXPw : TOk Tryd.prog XPw := ⟨hTE, hFT, ctPw_ok, hXT, fun t ks h => by simp [XPw, tabs] at h, mixed⟩
def ctPn : Nat → Option Hx.Spec
  | 26 => some (pureS unnS)
  | 36 => some (pureS runnS)
  | 16 => some (topS)
  | 23 => some (wordS)
  | 12 => some (arWordsS)
  | _ => none
theorem ctPn_ok : ∀ f s args H ob V L, ctPn f = some s → s args H = some (ob, V, L) → AllP ob → Gives Tryd.prog f args H (Is V L) := by
  intro f s args H ob V L h hs ho
  unfold ctPn at h
  split at h
  · simp at h; subst h; exact pureS_ok ⟨_, hTE⟩ (unnS_ok) hs ho
  · simp at h; subst h; exact pureS_ok ⟨_, hTE⟩ (runnS_ok) hs ho
  · simp at h; subst h; exact topS_ok hs ho
  · simp at h; subst h; exact wordS_ok hs ho
  · simp at h; subst h; exact arWordsS_ok hs ho
  · simp at h
noncomputable def XPn1 : Tabs := tabs tr ft xt (fun _ => none) ctPn 20
theorem hXPn1 : TOk Tryd.prog XPn1 := ⟨hTE, hFT, ctPn_ok, hXT, fun t ks h => by simp [XPn1, tabs] at h, mixed⟩
abbrev qO (q0 q1 : Int) : HE := .obj (.ints .u64 [q0, q1] 66)
def pmT : List (Nat × SV) := [(4, .ptr 1 0), (5, .ptr 2 0), (7, .tt), (9, .ptr 4 0)]
def pmH (r0 r1 r2 r3 r4 r5 r6 r7 r8 q0 q1 : Int) (s : Ar) : List HE :=
  [pinE RTV, .obj (.cells [.int .i64 r0, .int .i64 r1, .int .i64 r2, .int .i64 r3, .int .i64 r4, .int .i64 r5, .int .i64 r6, .int .i64 r7, .int .i64 r8] 56), qO q0 q1, WO s.W, AO 3 s]
def pcT : List (Nat × SV) := [(5, .ptr 1 0), (7, .tt), (9, .ptr 3 0), (18, .ptr 5 0)]
def pcH (q0 q1 : Int) (s y : Ar) : List HE := [pinE RTV, qO q0 q1, WO s.W, AO 2 s, WO y.W, AO 4 y]
def pdT : List (Nat × SV) := [(5, .ptr 1 0), (7, .tt), (9, .ptr 3 0), (20, .iface 96 (.ptr 4 0)), (23, .int .i64 1), (24, .tt)]
def pdH (q0 q1 : Int) (s : Ar) : List HE := [pinE RTV, qO q0 q1, WO s.W, AO 2 s, .obj (.cells [.iface 32 (.int .i64 10), .int .i64 1] 99)]
/-- An arena of a right config, as it was made. -/
structure MdP (c0 c1 c2 c3 c4 c5 c6 c7 c8 : Int) (s : Ar) : Prop where
  hr : rightB c0 c1 c2 c3 c4 c5 c6 c7 c8 = true
  len : (s.W.length : Int) = sizeV c0 c1 c2 c4 c5 c6 c7
  le : s.W.length ≤ 4096
  ge : 5 ≤ s.W.length
  w0 : s.W.getD 0 0 = 7597137583116413295
  w1 : s.W.getD 1 0 = packV c0 c1 c2 c3 c4 c5 c6 c7 c8
  st0 : 0 ≤ s.st
  st1 : s.st ≤ 1000
section
variable {c0 c1 c2 c3 c4 c5 c6 c7 c8 q0 q1 : Int} {s y : Ar} {ρ : Nat → Nat × Nat} {w : World}
set_option maxHeartbeats 8000000 in
theorem pm_d (hm : MdP c0 c1 c2 c3 c4 c5 c6 c7 c8 s) (h0 : 0 ≤ q0 ∧ q0 < 18446744073709551616) :
    SS hXPy (At ρ w) (Is .tt [pinE RTV]) ⟨[], [], Tryd.f9, Tryd.f9.ntmps, [pinE RTV], contF Tryd.f9 28 [], pdT, pdH q0 q1 s⟩ := by
  obtain ⟨W, st, kd, wd, vl, ch⟩ := s
  obtain ⟨hr, len, le, ge, w0, w1, st0, st1⟩ := hm
  dsimp only [Ar.W, Ar.st] at *
  have hu := unB_pack hr
  obtain ⟨d0, d1, d2, d3, d4, d5, d6, d7, d8⟩ := dg_pack hr
  obtain ⟨pl, ph⟩ := pack_lt hr
  have g0 : (W.set 0 q0).getD 0 0 = q0 := by rw [set_getD, if_pos ⟨rfl, by omega⟩]
  have g1 : (W.set 0 q0).getD 1 0 = packV c0 c1 c2 c3 c4 c5 c6 c7 c8 := by rw [set_getD, if_neg (by omega), w1]
  dsimp only [pdT, pdH]
  by_cases hq : q0 = 7597137583116413295
  · subst hq
    refine sx hXPy [] 4000 rfl (by (simp [-List.getD_eq_getElem?_getD, -List.length_eq_zero_iff, conjP, len, st0, cellOff, List.getD_cons_zero] <;> (first | omega | ((repeat' (refine And.intro ?_ ?_)) <;> (first | omega | exact decide_eq_false (by omega) | exact decide_eq_true (by omega)))))) ?_
    refine sx hXPy [.F] 4000 rfl (by (simp [-List.getD_eq_getElem?_getD, -List.length_eq_zero_iff, conjP, addOP, g0, cellOff, List.getD_cons_zero] <;> (first | omega | ((repeat' (refine And.intro ?_ ?_)) <;> (first | omega | exact decide_eq_false (by omega) | exact decide_eq_true (by omega)))))) ?_
    refine sx hXPy [.F] 4000 rfl (by (simp [-List.getD_eq_getElem?_getD, -List.length_eq_zero_iff, conjP, len, g1, hu, pl, cellOff, List.getD_cons_zero] <;> (first | omega | ((repeat' (refine And.intro ?_ ?_)) <;> (first | omega | exact decide_eq_false (by omega) | exact decide_eq_true (by omega)))))) ?_
    refine sx hXPy [.F] 4000 rfl (by (simp [-List.getD_eq_getElem?_getD, -List.length_eq_zero_iff, conjP, hr, len, g1, d0, d1, d2, d3, d4, d5, d6, d7, d8, cellOff, List.getD_cons_zero] <;> (first | omega | ((repeat' (refine And.intro ?_ ?_)) <;> (first | omega | exact decide_eq_false (by omega) | exact decide_eq_true (by omega)))))) ?_
    refine sx hXPy [.T] 4000 rfl (by (simp [-List.getD_eq_getElem?_getD, -List.length_eq_zero_iff, conjP, addOP] <;> (first | omega | ((repeat' (refine And.intro ?_ ?_)) <;> (first | omega | exact decide_eq_false (by omega) | exact decide_eq_true (by omega)))))) ?_
    refine sx hXPy [.T] 4000 rfl (by (simp [-List.getD_eq_getElem?_getD, -List.length_eq_zero_iff, conjP] <;> (first | omega | ((repeat' (refine And.intro ?_ ?_)) <;> (first | omega | exact decide_eq_false (by omega) | exact decide_eq_true (by omega)))))) ?_
    refine sx hXPy [.T] 4000 rfl (by (simp [-List.getD_eq_getElem?_getD, -List.length_eq_zero_iff, conjP, addOP, List.getD_cons_zero] <;> (first | omega | ((repeat' (refine And.intro ?_ ?_)) <;> (first | omega | exact decide_eq_false (by omega) | exact decide_eq_true (by omega)))))) ?_
    (exact ss_end hXPy [0] rfl rfl trivial rfl rfl rfl rfl (by first | ((repeat' (first | exact rfl | exact trivial | exact sim_refl _ | refine And.intro ?_ ?_)); done) | (simp [tupF, SV.ren, sim, simO0]; done)) (by (repeat' (first | exact rfl | exact trivial | exact sim_refl _ | refine And.intro ?_ ?_))) (by (repeat' (first | exact rfl | exact trivial | exact sim_refl _ | refine And.intro ?_ ?_))) (by (repeat' (first | exact rfl | exact trivial | exact sim_refl _ | refine And.intro ?_ ?_))))
  · refine sx hXPy [] 4000 rfl (by (simp [-List.getD_eq_getElem?_getD, -List.length_eq_zero_iff, conjP, len, st0, cellOff, List.getD_cons_zero] <;> (first | omega | ((repeat' (refine And.intro ?_ ?_)) <;> (first | omega | exact decide_eq_false (by omega) | exact decide_eq_true (by omega)))))) ?_
    refine sx hXPy [.T] 4000 rfl (by (simp [-List.getD_eq_getElem?_getD, -List.length_eq_zero_iff, conjP, addOP, g0, hq, cellOff, List.getD_cons_zero] <;> (first | omega | ((repeat' (refine And.intro ?_ ?_)) <;> (first | omega | exact decide_eq_false (by omega) | exact decide_eq_true (by omega)))))) ?_
    refine sx hXPy [.F] 4000 rfl (by (simp [-List.getD_eq_getElem?_getD, -List.length_eq_zero_iff, conjP] <;> (first | omega | ((repeat' (refine And.intro ?_ ?_)) <;> (first | omega | exact decide_eq_false (by omega) | exact decide_eq_true (by omega)))))) ?_
    refine sx hXPy [.T] 4000 rfl (by (simp [-List.getD_eq_getElem?_getD, -List.length_eq_zero_iff, conjP, addOP] <;> (first | omega | ((repeat' (refine And.intro ?_ ?_)) <;> (first | omega | exact decide_eq_false (by omega) | exact decide_eq_true (by omega)))))) ?_
    refine sx hXPy [.T] 4000 rfl (by (simp [-List.getD_eq_getElem?_getD, -List.length_eq_zero_iff, conjP] <;> (first | omega | ((repeat' (refine And.intro ?_ ?_)) <;> (first | omega | exact decide_eq_false (by omega) | exact decide_eq_true (by omega)))))) ?_
    refine sx hXPy [.F] 4000 rfl (by (simp [-List.getD_eq_getElem?_getD, -List.length_eq_zero_iff, conjP, hq, List.getD_cons_zero] <;> (first | omega | ((repeat' (refine And.intro ?_ ?_)) <;> (first | omega | exact decide_eq_false (by omega) | exact decide_eq_true (by omega)))))) ?_
    refine sx hXPy [.T] 4000 rfl (by (simp [-List.getD_eq_getElem?_getD, -List.length_eq_zero_iff, conjP, addOP] <;> (first | omega | ((repeat' (refine And.intro ?_ ?_)) <;> (first | omega | exact decide_eq_false (by omega) | exact decide_eq_true (by omega)))))) ?_
    (exact ss_end hXPy [0] rfl rfl trivial rfl rfl rfl rfl (by first | ((repeat' (first | exact rfl | exact trivial | exact sim_refl _ | refine And.intro ?_ ?_)); done) | (simp [tupF, SV.ren, sim, simO0]; done)) (by (repeat' (first | exact rfl | exact trivial | exact sim_refl _ | refine And.intro ?_ ?_))) (by (repeat' (first | exact rfl | exact trivial | exact sim_refl _ | refine And.intro ?_ ?_))) (by (repeat' (first | exact rfl | exact trivial | exact sim_refl _ | refine And.intro ?_ ?_))))
structure YdP (q1 : Int) (y : Ar) : Prop where
  ge : 2 ≤ y.W.length
  le : y.W.length ≤ 65
  w0 : y.W.getD 0 0 = 7597137583116413295
  w1 : y.W.getD 1 0 = q1
set_option maxHeartbeats 16000000 in
theorem pm_c (hm : MdP c0 c1 c2 c3 c4 c5 c6 c7 c8 s) (h0 : 0 ≤ q0 ∧ q0 < 18446744073709551616) (h1 : 0 ≤ q1 ∧ q1 < 18446744073709551616) (hy : YdP q1 y) :
    SS hXPy (At ρ w) (Is .tt [pinE RTV]) ⟨[], [], Tryd.f9, Tryd.f9.ntmps, [pinE RTV], contF Tryd.f9 21 [], pcT, pcH q0 q1 s y⟩ := by
  have hd := fun ρ w => pm_d (q1 := q1) (ρ := ρ) (w := w) hm h0
  obtain ⟨W, st, kd, wd, vl, ch⟩ := s
  obtain ⟨Y, yst, ykd, ywd, yvl, ych⟩ := y
  obtain ⟨yge, yle, y0, y1⟩ := hy
  dsimp only [Ar.W, Ar.st] at *
  have yl : Y.length ≤ 5000 := by omega
  dsimp only [pcT, pcH]
  by_cases hu : unB q1
  · have hr := hu.1
    refine sx hXPy [] 4000 rfl (by (simp [-List.getD_eq_getElem?_getD, -List.length_eq_zero_iff, conjP, yl, cellOff] <;> (first | omega | ((repeat' (refine And.intro ?_ ?_)) <;> (first | omega | exact decide_eq_false (by omega) | exact decide_eq_true (by omega)))))) ?_
    refine sx hXPy [.F] 4000 rfl (by (simp [-List.getD_eq_getElem?_getD, -List.length_eq_zero_iff, conjP, addOP, y0, cellOff] <;> (first | omega | ((repeat' (refine And.intro ?_ ?_)) <;> (first | omega | exact decide_eq_false (by omega) | exact decide_eq_true (by omega)))))) ?_
    refine sx hXPy [.F] 4000 rfl (by (simp [-List.getD_eq_getElem?_getD, -List.length_eq_zero_iff, conjP, hu, h1, y1, cellOff] <;> (first | omega | ((repeat' (refine And.intro ?_ ?_)) <;> (first | omega | exact decide_eq_false (by omega) | exact decide_eq_true (by omega)))))) ?_
    refine ss_pb hXPy [] [] 4000 rfl (fun hb0 => ?_) (fun hb0 => ?_)
    · try simp [-List.getD_eq_getElem?_getD, -List.length_eq_zero_iff, hr, y1, cellOff] at hb0
      refine sx hXPy [.T] 4000 rfl (by (simp [-List.getD_eq_getElem?_getD, -List.length_eq_zero_iff, conjP, addOP, hr, y1, cellOff, hb0] <;> (first | omega | ((repeat' (refine And.intro ?_ ?_)) <;> (first | omega | exact decide_eq_false (by omega) | exact decide_eq_true (by omega)))))) ?_
      refine sx hXPy [.F] 4000 rfl (by (simp [-List.getD_eq_getElem?_getD, -List.length_eq_zero_iff, conjP, hu, hr, h1, List.getD_cons_zero, List.getD_cons_succ] <;> (first | omega | ((repeat' (refine And.intro ?_ ?_)) <;> (first | omega | exact decide_eq_false (by omega) | exact decide_eq_true (by omega)))))) ?_
      refine sx hXPy [.F] 4000 rfl (by (simp [-List.getD_eq_getElem?_getD, -List.length_eq_zero_iff, conjP, List.getD_cons_zero, List.getD_cons_succ, hb0] <;> (first | omega | ((repeat' (refine And.intro ?_ ?_)) <;> (first | omega | exact decide_eq_false (by omega) | exact decide_eq_true (by omega)))))) ?_
      refine sx hXPy [.T] 4000 rfl (by (simp [-List.getD_eq_getElem?_getD, -List.length_eq_zero_iff, conjP, addOP] <;> (first | omega | ((repeat' (refine And.intro ?_ ?_)) <;> (first | omega | exact decide_eq_false (by omega) | exact decide_eq_true (by omega)))))) ?_
      (exact ss_end hXPy [0] rfl rfl trivial rfl rfl rfl rfl (by first | ((repeat' (first | exact rfl | exact trivial | exact sim_refl _ | refine And.intro ?_ ?_)); done) | (simp [tupF, SV.ren, sim, simO0]; done)) (by (repeat' (first | exact rfl | exact trivial | exact sim_refl _ | refine And.intro ?_ ?_))) (by (repeat' (first | exact rfl | exact trivial | exact sim_refl _ | refine And.intro ?_ ?_))) (by (repeat' (first | exact rfl | exact trivial | exact sim_refl _ | refine And.intro ?_ ?_))))
    · try simp [-List.getD_eq_getElem?_getD, -List.length_eq_zero_iff, hr, y1, cellOff] at hb0
      refine sx hXPy [.F] 4000 rfl (by (simp [-List.getD_eq_getElem?_getD, -List.length_eq_zero_iff, conjP, hu, hr, h1, y1, cellOff, List.getD_cons_zero, List.getD_cons_succ, hb0] <;> (first | omega | ((repeat' (refine And.intro ?_ ?_)) <;> (first | omega | exact decide_eq_false (by omega) | exact decide_eq_true (by omega)))))) ?_
      refine sx hXPy [.T] 4000 rfl (by (simp [-List.getD_eq_getElem?_getD, -List.length_eq_zero_iff, conjP, addOP, List.getD_cons_zero, List.getD_cons_succ, hb0] <;> (first | omega | ((repeat' (refine And.intro ?_ ?_)) <;> (first | omega | exact decide_eq_false (by omega) | exact decide_eq_true (by omega)))))) ?_
      refine sx hXPy [.T] 4000 rfl (by (simp [-List.getD_eq_getElem?_getD, -List.length_eq_zero_iff, conjP, addOP, y1, cellOff, List.getD_cons_zero, List.getD_cons_succ] <;> (first | omega | ((repeat' (refine And.intro ?_ ?_)) <;> (first | omega | exact decide_eq_false (by omega) | exact decide_eq_true (by omega)))))) ?_
      (exact ss_end hXPy [0] rfl rfl trivial rfl rfl rfl rfl (by first | ((repeat' (first | exact rfl | exact trivial | exact sim_refl _ | refine And.intro ?_ ?_)); done) | (simp [tupF, SV.ren, sim, simO0]; done)) (by (repeat' (first | exact rfl | exact trivial | exact sim_refl _ | refine And.intro ?_ ?_))) (by (repeat' (first | exact rfl | exact trivial | exact sim_refl _ | refine And.intro ?_ ?_))) (by (repeat' (first | exact rfl | exact trivial | exact sim_refl _ | refine And.intro ?_ ?_))))
  · refine sxb hXPn1 [.r 28] [] 4000 rfl (by (simp [-List.getD_eq_getElem?_getD, -List.length_eq_zero_iff, conjP, yl, cellOff] <;> (first | omega | ((repeat' (refine And.intro ?_ ?_)) <;> (first | omega | exact decide_eq_false (by omega) | exact decide_eq_true (by omega)))))) ?_
    refine sxb hXPn1 [.r 28] [.F] 4000 rfl (by (simp [-List.getD_eq_getElem?_getD, -List.length_eq_zero_iff, conjP, addOP, y0, cellOff] <;> (first | omega | ((repeat' (refine And.intro ?_ ?_)) <;> (first | omega | exact decide_eq_false (by omega) | exact decide_eq_true (by omega)))))) ?_
    refine sxb hXPn1 [.r 28] [.F] 4000 rfl (by (simp [-List.getD_eq_getElem?_getD, -List.length_eq_zero_iff, conjP, hu, h1, y1, cellOff, List.getD_cons_zero, List.getD_cons_succ] <;> (first | omega | ((repeat' (refine And.intro ?_ ?_)) <;> (first | omega | exact decide_eq_false (by omega) | exact decide_eq_true (by omega)))))) ?_
    (refine ss_sw hXPn1 (sw_ss hXPy (cs := []) ?_); refine ss_sub hXPy (T' := pdT) (H' := pdH q0 q1 ⟨W, st, kd, wd, vl, ch⟩) [0, 1, 2, 3, 9] rfl rfl rfl rfl (by (repeat' (first | exact rfl | exact trivial | exact sim_refl _ | refine And.intro ?_ ?_))) (by (repeat' (first | exact rfl | exact trivial | exact sim_refl _ | refine And.intro ?_ ?_))) (by (repeat' (first | exact rfl | exact trivial | exact sim_refl _ | refine And.intro ?_ ?_))) (by (repeat' (first | exact rfl | exact trivial | exact sim_refl _ | refine And.intro ?_ ?_))) ?_; exact hd _ _)
set_option maxHeartbeats 16000000 in
theorem pm_b2 {r0 r1 r2 r3 r4 r5 r6 r7 r8 : Int} (hm : MdP c0 c1 c2 c3 c4 c5 c6 c7 c8 s) (h0 : 0 ≤ q0 ∧ q0 < 18446744073709551616) (h1 : 0 ≤ q1 ∧ q1 < 18446744073709551616) :
    SS hXPy (At ρ w) (Is .tt [pinE RTV]) ⟨[], [], Tryd.f9, Tryd.f9.ntmps, [pinE RTV], contF Tryd.f9 16 [], pmT, pmH r0 r1 r2 r3 r4 r5 r6 r7 r8 q0 q1 s⟩ := by
  have hc := fun y hy ρ w => pm_c (y := y) (ρ := ρ) (w := w) hm h0 h1 hy
  obtain ⟨W, st, kd, wd, vl, ch⟩ := s
  have hq := and63 q0
  have e1 : IntKind.i64.wrap (ibits .and .u64 q0 63) = ibits .and .u64 q0 63 := wi64 (by omega) (by omega)
  have e2 : IntKind.i64.wrap (2 + ibits .and .u64 q0 63) = 2 + ibits .and .u64 q0 63 := wi64 (by omega) (by omega)
  have hrl : ∀ n : Nat, (List.replicate n (0 : Int)).length = n := fun n => List.length_replicate
  have hY : ∀ a b c d e, YdP q1 ⟨((List.replicate (IntKind.i64.wrap (2 + IntKind.i64.wrap (ibits .and .u64 q0 63))).toNat 0).set 0 7597137583116413295).set 1 q1, a, b, c, d, e⟩ := by
    intro a b c d e
    rw [e1, e2]
    have hl : (List.replicate (2 + ibits .and .u64 q0 63).toNat (0 : Int)).length = (2 + ibits .and .u64 q0 63).toNat := List.length_replicate
    refine ⟨by simp only [List.length_set, hl]; omega, by simp only [List.length_set, hl]; omega, ?_, ?_⟩
    · dsimp only; rw [set_getD, if_neg (by omega), set_getD, if_pos ⟨rfl, by omega⟩]
    · dsimp only; rw [set_getD, if_pos ⟨rfl, by rw [List.length_set]; omega⟩]
  dsimp only [pmT, pmH]
  refine sxb hXPy [.r 21] [] 4000 rfl (by (simp [-List.getD_eq_getElem?_getD, -List.length_eq_zero_iff, conjP] <;> (first | omega | ((repeat' (refine And.intro ?_ ?_)) <;> (first | omega | exact decide_eq_false (by omega) | exact decide_eq_true (by omega)))))) ?_
  refine sxb hXPy [.r 21] [.F] 4000 rfl (by (simp [-List.getD_eq_getElem?_getD, -List.length_eq_zero_iff, conjP, addOP, e1, e2, List.getD_cons_zero] <;> (first | omega | ((repeat' (refine And.intro ?_ ?_)) <;> (first | omega | exact decide_eq_false (by omega) | exact decide_eq_true (by omega)))))) ?_
  refine sxb hXPy [.r 21] [.F] 4000 rfl (by (simp [-List.getD_eq_getElem?_getD, -List.length_eq_zero_iff, conjP, e1, e2, List.getD_cons_zero] <;> (first | omega | ((repeat' (refine And.intro ?_ ?_)) <;> (first | omega | exact decide_eq_false (by omega) | exact decide_eq_true (by omega)))))) ?_
  refine sxb hXPy [.r 21] [.F] 4000 rfl (by (simp [-List.getD_eq_getElem?_getD, -List.length_eq_zero_iff, conjP, addOP] <;> (first | omega | ((repeat' (refine And.intro ?_ ?_)) <;> (first | omega | exact decide_eq_false (by omega) | exact decide_eq_true (by omega)))))) ?_
  refine sxb hXPy [.r 21] [.F] 4000 rfl (by (simp [-List.getD_eq_getElem?_getD, -List.length_eq_zero_iff, conjP, e1, e2, List.getD_cons_zero] <;> (first | omega | ((repeat' (refine And.intro ?_ ?_)) <;> (first | omega | exact decide_eq_false (by omega) | exact decide_eq_true (by omega)))))) ?_
  refine sxb hXPy [.r 21] [.F] 4000 rfl (by (simp [-List.getD_eq_getElem?_getD, -List.length_eq_zero_iff, conjP, addOP] <;> (first | omega | ((repeat' (refine And.intro ?_ ?_)) <;> (first | omega | exact decide_eq_false (by omega) | exact decide_eq_true (by omega)))))) ?_
  refine sxb hXPy [.r 21] [.F] 4000 rfl (by (simp [-List.getD_eq_getElem?_getD, -List.length_eq_zero_iff, conjP, e1, e2, List.getD_cons_zero, List.getD_cons_succ] <;> (first | omega | ((repeat' (refine And.intro ?_ ?_)) <;> (first | omega | exact decide_eq_false (by omega) | exact decide_eq_true (by omega)))))) ?_
  (refine ss_sub hXPy (T' := pcT) (H' := pcH q0 q1 ⟨W, st, kd, wd, vl, ch⟩ ⟨((List.replicate (IntKind.i64.wrap (2 + IntKind.i64.wrap (ibits .and .u64 q0 63))).toNat 0).set 0 7597137583116413295).set 1 q1, _, _, _, _, _⟩) [0, 2, 3, 4, 5, 6] rfl rfl rfl rfl (by (repeat' (first | exact rfl | exact trivial | exact sim_refl _ | refine And.intro ?_ ?_))) (by (repeat' (first | exact rfl | exact trivial | exact sim_refl _ | (simp; done) | refine And.intro ?_ ?_))) (by (repeat' (first | exact rfl | exact trivial | exact sim_refl _ | refine And.intro ?_ ?_))) (by (repeat' (first | exact rfl | exact trivial | exact sim_refl _ | refine And.intro ?_ ?_))) ?_; exact hc _ (hY _ _ _ _ _) _ _)
set_option maxHeartbeats 16000000 in
theorem pm_b {r0 r1 r2 r3 r4 r5 r6 r7 r8 : Int} (hm : MdP c0 c1 c2 c3 c4 c5 c6 c7 c8 s) (h0 : 0 ≤ q0 ∧ q0 < 18446744073709551616) (h1 : 0 ≤ q1 ∧ q1 < 18446744073709551616) :
    SS hXPy (At ρ w) (Is .tt [pinE RTV]) ⟨[], [], Tryd.f9, Tryd.f9.ntmps, [pinE RTV], contF Tryd.f9 12 [], pmT, pmH r0 r1 r2 r3 r4 r5 r6 r7 r8 q0 q1 s⟩ := by
  have hc := fun ρ w => pm_b2 (r0 := r0) (r1 := r1) (r2 := r2) (r3 := r3) (r4 := r4) (r5 := r5) (r6 := r6) (r7 := r7) (r8 := r8) (ρ := ρ) (w := w) hm h0 h1
  obtain ⟨W, st, kd, wd, vl, ch⟩ := s
  dsimp only [pmT, pmH]
  by_cases hr : rightB r0 r1 r2 r3 r4 r5 r6 r7 r8 = true
  · refine sxb hXPy [.r 16] [] 4000 rfl (by (simp [-List.getD_eq_getElem?_getD, -List.length_eq_zero_iff, conjP, hr] <;> (first | omega | ((repeat' (refine And.intro ?_ ?_)) <;> (first | omega | exact decide_eq_false (by omega) | exact decide_eq_true (by omega)))))) ?_
    refine sxb hXPy [.r 16] [.F] 4000 rfl (by (simp [-List.getD_eq_getElem?_getD, -List.length_eq_zero_iff, conjP, addOP, hr] <;> (first | omega | ((repeat' (refine And.intro ?_ ?_)) <;> (first | omega | exact decide_eq_false (by omega) | exact decide_eq_true (by omega)))))) ?_
    refine sxb hXPy [.r 16] [.F] 4000 rfl (by (simp [-List.getD_eq_getElem?_getD, -List.length_eq_zero_iff, conjP, addOP, hr] <;> (first | omega | ((repeat' (refine And.intro ?_ ?_)) <;> (first | omega | exact decide_eq_false (by omega) | exact decide_eq_true (by omega)))))) ?_
    (refine ss_sub hXPy (T' := pmT) (H' := pmH r0 r1 r2 r3 r4 r5 r6 r7 r8 q0 q1 ⟨W, st, kd, wd, vl, ch⟩) [0, 1, 2, 3, 4] rfl rfl rfl rfl (by (repeat' (first | exact rfl | exact trivial | exact sim_refl _ | refine And.intro ?_ ?_))) (by (repeat' (first | exact rfl | exact trivial | exact sim_refl _ | refine And.intro ?_ ?_))) (by (repeat' (first | exact rfl | exact trivial | exact sim_refl _ | refine And.intro ?_ ?_))) (by (repeat' (first | exact rfl | exact trivial | exact sim_refl _ | refine And.intro ?_ ?_))) ?_; exact hc _ _)
  · have hr' : rightB r0 r1 r2 r3 r4 r5 r6 r7 r8 = false := by simpa using hr
    refine sxb hXPw [.r 16] [] 4000 rfl (by (simp [-List.getD_eq_getElem?_getD, -List.length_eq_zero_iff, conjP] <;> (first | omega | ((repeat' (refine And.intro ?_ ?_)) <;> (first | omega | exact decide_eq_false (by omega) | exact decide_eq_true (by omega)))))) ?_
    refine sxb hXPw [.r 16] [.T] 4000 rfl (by (simp [-List.getD_eq_getElem?_getD, -List.length_eq_zero_iff, conjP, addOP, hr'] <;> (first | omega | ((repeat' (refine And.intro ?_ ?_)) <;> (first | omega | exact decide_eq_false (by omega) | exact decide_eq_true (by omega)))))) ?_
    refine sxb hXPw [.r 16] [.F] 4000 rfl (by (simp [-List.getD_eq_getElem?_getD, -List.length_eq_zero_iff, conjP, addOP] <;> (first | omega | ((repeat' (refine And.intro ?_ ?_)) <;> (first | omega | exact decide_eq_false (by omega) | exact decide_eq_true (by omega)))))) ?_
    refine sxb hXPw [.r 16] [.F] 4000 rfl (by (simp [-List.getD_eq_getElem?_getD, -List.length_eq_zero_iff, conjP, hr'] <;> (first | omega | ((repeat' (refine And.intro ?_ ?_)) <;> (first | omega | exact decide_eq_false (by omega) | exact decide_eq_true (by omega)))))) ?_
    refine sxb hXPw [.r 16] [.F] 4000 rfl (by (simp [-List.getD_eq_getElem?_getD, -List.length_eq_zero_iff, conjP, addOP, hr'] <;> (first | omega | ((repeat' (refine And.intro ?_ ?_)) <;> (first | omega | exact decide_eq_false (by omega) | exact decide_eq_true (by omega)))))) ?_
    (refine ss_sw hXPw (sw_ss hXPy (cs := []) ?_); refine ss_sub hXPy (T' := pmT) (H' := pmH r0 r1 r2 r3 r4 r5 r6 r7 r8 q0 q1 ⟨W, st, kd, wd, vl, ch⟩) [0, 1, 2, 3, 4] rfl rfl rfl rfl (by (repeat' (first | exact rfl | exact trivial | exact sim_refl _ | refine And.intro ?_ ?_))) (by (repeat' (first | exact rfl | exact trivial | exact sim_refl _ | refine And.intro ?_ ?_))) (by (repeat' (first | exact rfl | exact trivial | exact sim_refl _ | refine And.intro ?_ ?_))) (by (repeat' (first | exact rfl | exact trivial | exact sim_refl _ | refine And.intro ?_ ?_))) ?_; exact hc _ _)
end
set_option maxHeartbeats 16000000 in
theorem planMakes_fn (l0 l1 l2 l3 l4 l5 l6 l7 l8 r0 r1 r2 r3 r4 r5 r6 r7 r8 q0 q1 : Int) (h0 : 0 ≤ q0 ∧ q0 < 18446744073709551616) (h1 : 0 ≤ q1 ∧ q1 < 18446744073709551616) :
    Gives Tryd.prog 9 [L9 l0 l1 l2 l3 l4 l5 l6 l7 l8, C9 r0 r1 r2 r3 r4 r5 r6 r7 r8, .agg [.int .u64 q0, .int .u64 q1]] [pinE RTV] (Is .tt [pinE RTV]) := by
  have hr := cfg_right l0 l1 l2 l3 l4 l5 l6 l7 l8
  refine gives_x hXPy (fn := Tryd.f9) rfl rfl rfl rfl fun ρ w => ?_
  refine sxb hXPy [.r 3] [] 4000 rfl (by first | exact trivial | simp [conjP]) ?_
  generalize cAnd 7 l0 = c0 at *
  generalize cRem 4 29 l1 = c1 at *
  generalize cAnd 7 l2 = c2 at *
  generalize cAnd 7 l3 = c3 at *
  generalize hup : cUp (cRem 4 60 l5) l7 = c6 at *
  clear hup
  generalize cRem 4 60 l5 = c4 at *
  generalize cMod 13 l6 = c5 at *
  generalize cMod 13 l8 = c7 at *
  generalize cAnd 7 l4 = c8 at *
  have hsz := size_bd hr
  have hst := mkA_st hr
  have hl : ((mkA c0 c1 c2 c3 c4 c5 c6 c7 c8).W.length : Int) = sizeV c0 c1 c2 c4 c5 c6 c7 := by rw [mkA_len]; omega
  have w0 : (mkA c0 c1 c2 c3 c4 c5 c6 c7 c8).W.getD 0 0 = 7597137583116413295 := by rw [mkA_low hr (by decide)]; rfl
  have w1 : (mkA c0 c1 c2 c3 c4 c5 c6 c7 c8).W.getD 1 0 = packV c0 c1 c2 c3 c4 c5 c6 c7 c8 := by rw [mkA_low hr (by decide)]; rfl
  have hm : ∀ a b c d, MdP c0 c1 c2 c3 c4 c5 c6 c7 c8 ⟨(mkA c0 c1 c2 c3 c4 c5 c6 c7 c8).W, (mkA c0 c1 c2 c3 c4 c5 c6 c7 c8).st, a, b, c, d⟩ := fun a b c d => ⟨hr, hl, by dsimp only; omega, by dsimp only; omega, w0, w1, by dsimp only; omega, by dsimp only; omega⟩
  have hu := unB_pack hr
  obtain ⟨d0, d1, d2, d3, d4, d5, d6, d7, d8⟩ := dg_pack hr
  obtain ⟨pl, ph⟩ := pack_lt hr
  refine sxb hXPy [.r 12] [] 4000 rfl (by (simp [-List.getD_eq_getElem?_getD, -List.length_eq_zero_iff, conjP, hr] <;> (first | omega | ((repeat' (refine And.intro ?_ ?_)) <;> (first | omega | exact decide_eq_false (by omega) | exact decide_eq_true (by omega)))))) ?_
  refine sxb hXPy [.r 12] [.F] 4000 rfl (by (simp [-List.getD_eq_getElem?_getD, -List.length_eq_zero_iff, conjP, getH, HE.so, hl, cellOff] <;> (first | omega | ((repeat' (refine And.intro ?_ ?_)) <;> (first | omega | exact decide_eq_false (by omega) | exact decide_eq_true (by omega)))))) ?_
  refine sxb hXPy [.r 12] [.F] 4000 rfl (by (simp [-List.getD_eq_getElem?_getD, -List.length_eq_zero_iff, conjP, addOP, w0, cellOff] <;> (first | omega | ((repeat' (refine And.intro ?_ ?_)) <;> (first | omega | exact decide_eq_false (by omega) | exact decide_eq_true (by omega)))))) ?_
  refine sxb hXPy [.r 12] [.F] 4000 rfl (by (simp [-List.getD_eq_getElem?_getD, -List.length_eq_zero_iff, conjP, hl, w1, hu, pl, cellOff] <;> (first | omega | ((repeat' (refine And.intro ?_ ?_)) <;> (first | omega | exact decide_eq_false (by omega) | exact decide_eq_true (by omega)))))) ?_
  refine sxb hXPy [.r 12] [.F] 4000 rfl (by (simp [-List.getD_eq_getElem?_getD, -List.length_eq_zero_iff, conjP, addOP, hr, hl, w1, d0, d1, d2, d3, d4, d5, d6, d7, d8, cellOff] <;> (first | omega | ((repeat' (refine And.intro ?_ ?_)) <;> (first | omega | exact decide_eq_false (by omega) | exact decide_eq_true (by omega)))))) ?_
  refine sxb hXPy [.r 12] [.K, .K, .F, .K, .K, .F, .K, .K, .F] 4000 rfl (by (simp [-List.getD_eq_getElem?_getD, -List.length_eq_zero_iff, conjP, getH, HE.so, w1, d0, d1, d2, d3, d4, d5, d6, d7, d8, cellOff] <;> (first | omega | ((repeat' (refine And.intro ?_ ?_)) <;> (first | omega | exact decide_eq_false (by omega) | exact decide_eq_true (by omega)))))) ?_
  refine sxb hXPy [.r 12] [.F] 4000 rfl (by (simp [-List.getD_eq_getElem?_getD, -List.length_eq_zero_iff, conjP] <;> (first | omega | ((repeat' (refine And.intro ?_ ?_)) <;> (first | omega | exact decide_eq_false (by omega) | exact decide_eq_true (by omega)))))) ?_
  (refine ss_sub hXPy (T' := pmT) (H' := pmH r0 r1 r2 r3 r4 (if 13 < r5 then 13 else r5) r6 r7 r8 q0 q1 ⟨_, _, _, _, _, _⟩) [0, 2, 3, 5, 6] rfl rfl rfl rfl (by (repeat' (first | exact rfl | exact trivial | exact sim_refl _ | refine And.intro ?_ ?_))) (by (repeat' (first | exact rfl | exact trivial | exact sim_refl _ | refine And.intro ?_ ?_))) (by (repeat' (first | exact rfl | exact trivial | exact sim_refl _ | refine And.intro ?_ ?_))) (by (repeat' (first | exact rfl | exact trivial | exact sim_refl _ | refine And.intro ?_ ?_))) ?_; exact pm_b (hm _ _ _ _) h0 h1)
end Go.Proofs.YticejfomcekolaaDoor
namespace Go.Proofs.YticejfomcekolaaDoor.planMakes
open Go Go.Hx
theorem two {l : List SV} (hl : okK [some .u64, some .u64] l) : ∃ a b, .agg l = SV.agg [.int .u64 a, .int .u64 b] ∧ (0 ≤ a ∧ a < 18446744073709551616) ∧ (0 ≤ b ∧ b < 18446744073709551616) := by
  rcases l with _ | ⟨a, _ | ⟨b, _ | ⟨c, r⟩⟩⟩ <;> simp only [okK, and_false] at hl
  obtain ⟨⟨n1, rfl, h1⟩, ⟨n2, rfl, h2⟩, _⟩ := hl
  exact ⟨n1, n2, rfl, wfU h1, wfU h2⟩
theorem walk (l : List SV) (hl : okK [some .i64, some .i64, some .i64, some .i64, some .i64, some .i64, some .i64, some .i64, some .i64] l) (r : List SV) (hq : okK [some .i64, some .i64, some .i64, some .i64, some .i64, some .i64, some .i64, some .i64, some .i64] r) (q : List SV) (hw : okK [some .u64, some .u64] q) :
    Gives Tryd.prog 9 [.agg l, .agg r, .agg q] [pinE RTV] (Is .tt [pinE RTV]) := by
  obtain ⟨l0, l1, l2, l3, l4, l5, l6, l7, l8, e1⟩ := planTells.nine hl
  obtain ⟨r0, r1, r2, r3, r4, r5, r6, r7, r8, e2⟩ := planTells.nine hq
  obtain ⟨a, b, e3, ha, hb⟩ := two hw
  rw [e1, e2, e3]
  exact planMakes_fn l0 l1 l2 l3 l4 l5 l6 l7 l8 r0 r1 r2 r3 r4 r5 r6 r7 r8 a b ha hb
end Go.Proofs.YticejfomcekolaaDoor.planMakes
