/- heads.Free, of what both lists tell. -/
import Derived.Test.YtfdkaakllceebaaDoorSortFew
namespace Go.Proofs.YtfdkaakllceebaaDoor
open Go Go.Hx
set_option maxRecDepth 8000
/-- What is free. -/
def frR : HR → HR → HR
  | .ok none, .ok none => .ok none
  | .ok (some l), .ok none => .ok (some (srt l))
  | .ok none, .ok (some m) => .ok (some (srt m))
  | .ok (some l), .ok (some m) => .ok (some (srt (l ++ m)))
  | .ok _, .bad e p => .bad e p
  | .ok _, .code e => .code e
  | .bad e p, _ => .bad e p
  | .code e, _ => .code e
def ctFr (r0 r1 : HR) : Nat → Option Hx.Spec
  | 11 => some (lsS2 r0 r1)
  | 37 => some (soS)
  | _ => none
theorem ctFr_ok (r0 r1 : HR) : ∀ f s args H ob V L, ctFr r0 r1 f = some s → s args H = some (ob, V, L) → AllP ob → Gives Tryd.prog f args H (Is V L) := by
  intro f s args H ob V L h hs ho
  unfold ctFr at h
  split at h
  · simp at h; subst h; exact lsS2_ok hs ho
  · simp at h; subst h; exact soS_ok hs ho
  · simp at h
noncomputable def XFr (r0 r1 : HR) : Tabs := tabs tr ft xt (fun _ => none) (ctFr r0 r1) 20
theorem hXFr (r0 r1 : HR) : TOk Tryd.prog (XFr r0 r1) := ⟨hTE, hFT, (ctFr_ok r0 r1), hXT, fun t ks h => by simp [XFr, tabs] at h, mixed⟩
variable {a0 a1 a2 a3 a4 a5 a6 a7 a8 : Int} {W : List Int}
theorem wr1 : IntKind.i64.wrap (0 + 1) = 1 := by decide
theorem wr1' : IntKind.i64.wrap 1 = 1 := by decide
theorem wr2 : IntKind.i64.wrap (IntKind.i64.wrap (0 + 1) + 1) = 2 := by decide
theorem wr2' : IntKind.i64.wrap 2 = 2 := by decide
theorem selw (r0 r1 : HR) : selR r0 r1 (IntKind.i64.wrap (0 + 1)) = r1 := rfl
set_option maxHeartbeats 8000000 in
theorem fr_nn (hU : InU W) (e0 : hsR a0 a1 a2 a3 a4 a5 a6 a7 a8 0 W.length W = .ok none) (e1 : hsR a0 a1 a2 a3 a4 a5 a6 a7 a8 1 W.length W = .ok none) : Gives Tryd.prog 21 [C9 a0 a1 a2 a3 a4 a5 a6 a7 a8, .slice 0 0 W.length W.length] [.obj (.ints .u64 W 43)] (Is (hlV (frR (.ok none) (.ok none))) (hlL (.ints .u64 W 43) (frR (.ok none) (.ok none)))) := by
  have o0 : lsOb (.ok none) W.length W.length W := .inl ⟨rfl, rfl, hU⟩
  have o1 : lsOb (.ok none) W.length W.length W := .inl ⟨rfl, rfl, hU⟩
  have hX := hXFr (.ok none) (.ok none)
  refine gives_x hX (fn := Tryd.f21) rfl rfl rfl rfl fun ρ w => ?_
  refine sx hX [] 4000 rfl (by (simp [-List.getD_eq_getElem?_getD, -List.length_eq_zero_iff, conjP] <;> (first | omega | ((repeat' (refine And.intro ?_ ?_)) <;> (first | omega | exact decide_eq_false (by omega) | exact decide_eq_true (by omega)))))) ?_
  refine sx hX [.T] 4000 rfl (by (simp [-List.getD_eq_getElem?_getD, -List.length_eq_zero_iff, conjP, sel0, e0, o0] <;> (first | omega | ((repeat' (refine And.intro ?_ ?_)) <;> (first | omega | exact decide_eq_false (by omega) | exact decide_eq_true (by omega)))))) ?_
  refine sx hX [.T] 4000 rfl (by (simp [-List.getD_eq_getElem?_getD, -List.length_eq_zero_iff, conjP, sel1, wr1', o0, e1] <;> (first | omega | ((repeat' (refine And.intro ?_ ?_)) <;> (first | omega | exact decide_eq_false (by omega) | exact decide_eq_true (by omega)))))) ?_
  refine sx hX [.F] 4000 rfl (by (simp [-List.getD_eq_getElem?_getD, -List.length_eq_zero_iff, conjP, addOP, wr1', wr2'] <;> (first | omega | ((repeat' (refine And.intro ?_ ?_)) <;> (first | omega | exact decide_eq_false (by omega) | exact decide_eq_true (by omega)))))) ?_
  (refine ss_end hX [0] rfl rfl trivial rfl rfl rfl rfl ?vv ?hh (by (repeat' (first | exact rfl | exact trivial | exact sim_refl _ | refine And.intro ?_ ?_))) (by (repeat' (first | exact rfl | exact trivial | exact sim_refl _ | refine And.intro ?_ ?_))); (case vv => (repeat' (first | exact rfl | exact trivial | exact sim_refl _ | (simp; done) | (unfold mulS; simp; done) | (rw [srt_len]; simp; done) | (unfold mulS; rw [srt_len]; simp; done) | assumption | refine And.intro ?_ ?_)); done); (case hh => (repeat' (first | exact rfl | exact trivial | exact sim_refl _ | (simp; done) | (unfold mulS; simp; done) | (rw [srt_len]; simp; done) | (unfold mulS; rw [srt_len]; simp; done) | assumption | refine And.intro ?_ ?_)); done))
set_option maxHeartbeats 8000000 in
theorem fr_sn {l : List Int} (hU : InU W) (e0 : hsR a0 a1 a2 a3 a4 a5 a6 a7 a8 0 W.length W = .ok (some l)) (e1 : hsR a0 a1 a2 a3 a4 a5 a6 a7 a8 1 W.length W = .ok none) (hl0 : 0 < l.length) (hl1 : l.length ≤ 12) : Gives Tryd.prog 21 [C9 a0 a1 a2 a3 a4 a5 a6 a7 a8, .slice 0 0 W.length W.length] [.obj (.ints .u64 W 43)] (Is (hlV (frR (.ok (some l)) (.ok none))) (hlL (.ints .u64 W 43) (frR (.ok (some l)) (.ok none)))) := by
  have o0 : lsOb (.ok (some l)) W.length W.length W := .inl ⟨rfl, rfl, hU⟩
  have o1 : lsOb (.ok none) W.length W.length W := .inl ⟨rfl, rfl, hU⟩
  have hX := hXFr (.ok (some l)) (.ok none)
  refine gives_x hX (fn := Tryd.f21) rfl rfl rfl rfl fun ρ w => ?_
  refine sx hX [] 4000 rfl (by (simp [-List.getD_eq_getElem?_getD, -List.length_eq_zero_iff, conjP] <;> (first | omega | ((repeat' (refine And.intro ?_ ?_)) <;> (first | omega | exact decide_eq_false (by omega) | exact decide_eq_true (by omega)))))) ?_
  refine sx hX [.T] 4000 rfl (by (simp [-List.getD_eq_getElem?_getD, -List.length_eq_zero_iff, conjP, sel0, e0, o0, hl0] <;> (first | omega | ((repeat' (refine And.intro ?_ ?_)) <;> (first | omega | exact decide_eq_false (by omega) | exact decide_eq_true (by omega)))))) ?_
  refine sx hX [.T] 4000 rfl (by (simp [-List.getD_eq_getElem?_getD, -List.length_eq_zero_iff, conjP, mulS_eq, sel1, wr1', e1, o1] <;> (first | omega | ((repeat' (refine And.intro ?_ ?_)) <;> (first | omega | exact decide_eq_false (by omega) | exact decide_eq_true (by omega)))))) ?_
  refine sx hX [.F] 4000 rfl (by (simp [-List.getD_eq_getElem?_getD, -List.length_eq_zero_iff, conjP, mulS_eq, wr1', wr2', hl0, hl1] <;> (first | omega | ((repeat' (refine And.intro ?_ ?_)) <;> (first | omega | exact decide_eq_false (by omega) | exact decide_eq_true (by omega)))))) ?_
  (refine ss_end hX [0, 4] rfl rfl trivial rfl rfl rfl rfl ?vv ?hh (by (repeat' (first | exact rfl | exact trivial | exact sim_refl _ | refine And.intro ?_ ?_))) (by (repeat' (first | exact rfl | exact trivial | exact sim_refl _ | refine And.intro ?_ ?_))); (case vv => (repeat' (first | exact rfl | exact trivial | exact sim_refl _ | (simp; done) | (unfold mulS; simp; done) | (rw [srt_len]; simp; done) | (unfold mulS; rw [srt_len]; simp; done) | assumption | refine And.intro ?_ ?_)); done); (case hh => (repeat' (first | exact rfl | exact trivial | exact sim_refl _ | (simp; done) | (unfold mulS; simp; done) | (rw [srt_len]; simp; done) | (unfold mulS; rw [srt_len]; simp; done) | assumption | refine And.intro ?_ ?_)); done))
set_option maxHeartbeats 8000000 in
theorem fr_ns {m : List Int} (hU : InU W) (e0 : hsR a0 a1 a2 a3 a4 a5 a6 a7 a8 0 W.length W = .ok none) (e1 : hsR a0 a1 a2 a3 a4 a5 a6 a7 a8 1 W.length W = .ok (some m)) (hm0 : 0 < m.length) (hm1 : m.length ≤ 12) : Gives Tryd.prog 21 [C9 a0 a1 a2 a3 a4 a5 a6 a7 a8, .slice 0 0 W.length W.length] [.obj (.ints .u64 W 43)] (Is (hlV (frR (.ok none) (.ok (some m)))) (hlL (.ints .u64 W 43) (frR (.ok none) (.ok (some m))))) := by
  have o0 : lsOb (.ok none) W.length W.length W := .inl ⟨rfl, rfl, hU⟩
  have o1 : lsOb (.ok (some m)) W.length W.length W := .inl ⟨rfl, rfl, hU⟩
  have hX := hXFr (.ok none) (.ok (some m))
  refine gives_x hX (fn := Tryd.f21) rfl rfl rfl rfl fun ρ w => ?_
  refine sx hX [] 4000 rfl (by (simp [-List.getD_eq_getElem?_getD, -List.length_eq_zero_iff, conjP] <;> (first | omega | ((repeat' (refine And.intro ?_ ?_)) <;> (first | omega | exact decide_eq_false (by omega) | exact decide_eq_true (by omega)))))) ?_
  refine sx hX [.T] 4000 rfl (by (simp [-List.getD_eq_getElem?_getD, -List.length_eq_zero_iff, conjP, sel0, e0, o0] <;> (first | omega | ((repeat' (refine And.intro ?_ ?_)) <;> (first | omega | exact decide_eq_false (by omega) | exact decide_eq_true (by omega)))))) ?_
  refine sx hX [.T] 4000 rfl (by (simp [-List.getD_eq_getElem?_getD, -List.length_eq_zero_iff, conjP, sel1, wr1', e1, o1, hm0] <;> (first | omega | ((repeat' (refine And.intro ?_ ?_)) <;> (first | omega | exact decide_eq_false (by omega) | exact decide_eq_true (by omega)))))) ?_
  refine sx hX [.F] 4000 rfl (by (simp [-List.getD_eq_getElem?_getD, -List.length_eq_zero_iff, conjP, mulS_eq, wr1', wr2', hm0, hm1] <;> (first | omega | ((repeat' (refine And.intro ?_ ?_)) <;> (first | omega | exact decide_eq_false (by omega) | exact decide_eq_true (by omega)))))) ?_
  (refine ss_end hX [0, 3] rfl rfl trivial rfl rfl rfl rfl ?vv ?hh (by (repeat' (first | exact rfl | exact trivial | exact sim_refl _ | refine And.intro ?_ ?_))) (by (repeat' (first | exact rfl | exact trivial | exact sim_refl _ | refine And.intro ?_ ?_))); (case vv => (repeat' (first | exact rfl | exact trivial | exact sim_refl _ | (simp; done) | (unfold mulS; simp; done) | (rw [srt_len]; simp; done) | (unfold mulS; rw [srt_len]; simp; done) | assumption | refine And.intro ?_ ?_)); done); (case hh => (repeat' (first | exact rfl | exact trivial | exact sim_refl _ | (simp; done) | (unfold mulS; simp; done) | (rw [srt_len]; simp; done) | (unfold mulS; rw [srt_len]; simp; done) | assumption | refine And.intro ?_ ?_)); done))
set_option maxHeartbeats 8000000 in
theorem fr_ss {l : List Int} {m : List Int} (hU : InU W) (e0 : hsR a0 a1 a2 a3 a4 a5 a6 a7 a8 0 W.length W = .ok (some l)) (e1 : hsR a0 a1 a2 a3 a4 a5 a6 a7 a8 1 W.length W = .ok (some m)) (hl0 : 0 < l.length) (hl1 : l.length ≤ 12) (hm0 : 0 < m.length) (hm1 : m.length ≤ 12) (hlm : l.length + m.length ≤ 12) : Gives Tryd.prog 21 [C9 a0 a1 a2 a3 a4 a5 a6 a7 a8, .slice 0 0 W.length W.length] [.obj (.ints .u64 W 43)] (Is (hlV (frR (.ok (some l)) (.ok (some m)))) (hlL (.ints .u64 W 43) (frR (.ok (some l)) (.ok (some m))))) := by
  have o0 : lsOb (.ok (some l)) W.length W.length W := .inl ⟨rfl, rfl, hU⟩
  have o1 : lsOb (.ok (some m)) W.length W.length W := .inl ⟨rfl, rfl, hU⟩
  have hX := hXFr (.ok (some l)) (.ok (some m))
  refine gives_x hX (fn := Tryd.f21) rfl rfl rfl rfl fun ρ w => ?_
  refine sx hX [] 4000 rfl (by (simp [-List.getD_eq_getElem?_getD, -List.length_eq_zero_iff, conjP] <;> (first | omega | ((repeat' (refine And.intro ?_ ?_)) <;> (first | omega | exact decide_eq_false (by omega) | exact decide_eq_true (by omega)))))) ?_
  refine sx hX [.T] 4000 rfl (by (simp [-List.getD_eq_getElem?_getD, -List.length_eq_zero_iff, conjP, sel0, e0, o0, hl0] <;> (first | omega | ((repeat' (refine And.intro ?_ ?_)) <;> (first | omega | exact decide_eq_false (by omega) | exact decide_eq_true (by omega)))))) ?_
  refine sx hX [.T] 4000 rfl (by (simp [-List.getD_eq_getElem?_getD, -List.length_eq_zero_iff, conjP, mulS_eq, sel1, wr1', e1, o1] <;> (first | omega | ((repeat' (refine And.intro ?_ ?_)) <;> (first | omega | exact decide_eq_false (by omega) | exact decide_eq_true (by omega)))))) ?_
  refine sx hX [.F] 4000 rfl (by (simp [-List.getD_eq_getElem?_getD, -List.length_eq_zero_iff, conjP, mulS_eq, wr1', wr2', hlm] <;> (first | omega | ((repeat' (refine And.intro ?_ ?_)) <;> (first | omega | exact decide_eq_false (by omega) | exact decide_eq_true (by omega)))))) ?_
  (refine ss_end hX [0, 5] rfl rfl trivial rfl rfl rfl rfl ?vv ?hh (by (repeat' (first | exact rfl | exact trivial | exact sim_refl _ | refine And.intro ?_ ?_))) (by (repeat' (first | exact rfl | exact trivial | exact sim_refl _ | refine And.intro ?_ ?_))); (case vv => (repeat' (first | exact rfl | exact trivial | exact sim_refl _ | (simp; done) | (unfold mulS; simp; done) | (rw [srt_len]; simp; done) | (unfold mulS; rw [srt_len]; simp; done) | assumption | refine And.intro ?_ ?_)); done); (case hh => (repeat' (first | exact rfl | exact trivial | exact sim_refl _ | (simp; done) | (unfold mulS; simp; done) | (rw [srt_len]; simp; done) | (unfold mulS; rw [srt_len]; simp; done) | assumption | refine And.intro ?_ ?_)); done))
set_option maxHeartbeats 8000000 in
theorem fr_nb {e p : Int} (hU : InU W) (e0 : hsR a0 a1 a2 a3 a4 a5 a6 a7 a8 0 W.length W = .ok none) (e1 : hsR a0 a1 a2 a3 a4 a5 a6 a7 a8 1 W.length W = .bad e p) : Gives Tryd.prog 21 [C9 a0 a1 a2 a3 a4 a5 a6 a7 a8, .slice 0 0 W.length W.length] [.obj (.ints .u64 W 43)] (Is (hlV (frR (.ok none) (.bad e p))) (hlL (.ints .u64 W 43) (frR (.ok none) (.bad e p)))) := by
  have o0 : lsOb (.ok none) W.length W.length W := .inl ⟨rfl, rfl, hU⟩
  have o1 : lsOb (.bad e p) W.length W.length W := .inl ⟨rfl, rfl, hU⟩
  have hX := hXFr (.ok none) (.bad e p)
  refine gives_x hX (fn := Tryd.f21) rfl rfl rfl rfl fun ρ w => ?_
  refine sx hX [] 4000 rfl (by (simp [-List.getD_eq_getElem?_getD, -List.length_eq_zero_iff, conjP] <;> (first | omega | ((repeat' (refine And.intro ?_ ?_)) <;> (first | omega | exact decide_eq_false (by omega) | exact decide_eq_true (by omega)))))) ?_
  refine sx hX [.T] 4000 rfl (by (simp [-List.getD_eq_getElem?_getD, -List.length_eq_zero_iff, conjP, sel0, e0, o0] <;> (first | omega | ((repeat' (refine And.intro ?_ ?_)) <;> (first | omega | exact decide_eq_false (by omega) | exact decide_eq_true (by omega)))))) ?_
  refine sx hX [.T] 4000 rfl (by (simp [-List.getD_eq_getElem?_getD, -List.length_eq_zero_iff, conjP, sel1, wr1', e1, o1] <;> (first | omega | ((repeat' (refine And.intro ?_ ?_)) <;> (first | omega | exact decide_eq_false (by omega) | exact decide_eq_true (by omega)))))) ?_
  (refine ss_end hX [0, 2] rfl rfl trivial rfl rfl rfl rfl ?vv ?hh (by (repeat' (first | exact rfl | exact trivial | exact sim_refl _ | refine And.intro ?_ ?_))) (by (repeat' (first | exact rfl | exact trivial | exact sim_refl _ | refine And.intro ?_ ?_))); (case vv => (repeat' (first | exact rfl | exact trivial | exact sim_refl _ | (simp; done) | (unfold mulS; simp; done) | (rw [srt_len]; simp; done) | (unfold mulS; rw [srt_len]; simp; done) | assumption | refine And.intro ?_ ?_)); done); (case hh => (repeat' (first | exact rfl | exact trivial | exact sim_refl _ | (simp; done) | (unfold mulS; simp; done) | (rw [srt_len]; simp; done) | (unfold mulS; rw [srt_len]; simp; done) | assumption | refine And.intro ?_ ?_)); done))
set_option maxHeartbeats 8000000 in
theorem fr_sb {l : List Int} {e p : Int} (hU : InU W) (e0 : hsR a0 a1 a2 a3 a4 a5 a6 a7 a8 0 W.length W = .ok (some l)) (e1 : hsR a0 a1 a2 a3 a4 a5 a6 a7 a8 1 W.length W = .bad e p) (hl0 : 0 < l.length) (hl1 : l.length ≤ 12) : Gives Tryd.prog 21 [C9 a0 a1 a2 a3 a4 a5 a6 a7 a8, .slice 0 0 W.length W.length] [.obj (.ints .u64 W 43)] (Is (hlV (frR (.ok (some l)) (.bad e p))) (hlL (.ints .u64 W 43) (frR (.ok (some l)) (.bad e p)))) := by
  have o0 : lsOb (.ok (some l)) W.length W.length W := .inl ⟨rfl, rfl, hU⟩
  have o1 : lsOb (.bad e p) W.length W.length W := .inl ⟨rfl, rfl, hU⟩
  have hX := hXFr (.ok (some l)) (.bad e p)
  refine gives_x hX (fn := Tryd.f21) rfl rfl rfl rfl fun ρ w => ?_
  refine sx hX [] 4000 rfl (by (simp [-List.getD_eq_getElem?_getD, -List.length_eq_zero_iff, conjP] <;> (first | omega | ((repeat' (refine And.intro ?_ ?_)) <;> (first | omega | exact decide_eq_false (by omega) | exact decide_eq_true (by omega)))))) ?_
  refine sx hX [.T] 4000 rfl (by (simp [-List.getD_eq_getElem?_getD, -List.length_eq_zero_iff, conjP, sel0, e0, o0, hl0] <;> (first | omega | ((repeat' (refine And.intro ?_ ?_)) <;> (first | omega | exact decide_eq_false (by omega) | exact decide_eq_true (by omega)))))) ?_
  refine sx hX [.T] 4000 rfl (by (simp [-List.getD_eq_getElem?_getD, -List.length_eq_zero_iff, conjP, sel1, wr1', e1, o1] <;> (first | omega | ((repeat' (refine And.intro ?_ ?_)) <;> (first | omega | exact decide_eq_false (by omega) | exact decide_eq_true (by omega)))))) ?_
  (refine ss_end hX [0, 4] rfl rfl trivial rfl rfl rfl rfl ?vv ?hh (by (repeat' (first | exact rfl | exact trivial | exact sim_refl _ | refine And.intro ?_ ?_))) (by (repeat' (first | exact rfl | exact trivial | exact sim_refl _ | refine And.intro ?_ ?_))); (case vv => (repeat' (first | exact rfl | exact trivial | exact sim_refl _ | (simp; done) | (unfold mulS; simp; done) | (rw [srt_len]; simp; done) | (unfold mulS; rw [srt_len]; simp; done) | assumption | refine And.intro ?_ ?_)); done); (case hh => (repeat' (first | exact rfl | exact trivial | exact sim_refl _ | (simp; done) | (unfold mulS; simp; done) | (rw [srt_len]; simp; done) | (unfold mulS; rw [srt_len]; simp; done) | assumption | refine And.intro ?_ ?_)); done))
set_option maxHeartbeats 8000000 in
theorem fr_bx {e p : Int} {r1 : HR} (hU : InU W) (e0 : hsR a0 a1 a2 a3 a4 a5 a6 a7 a8 0 W.length W = .bad e p) : Gives Tryd.prog 21 [C9 a0 a1 a2 a3 a4 a5 a6 a7 a8, .slice 0 0 W.length W.length] [.obj (.ints .u64 W 43)] (Is (hlV (frR (.bad e p) (r1))) (hlL (.ints .u64 W 43) (frR (.bad e p) (r1)))) := by
  have o0 : lsOb (.bad e p) W.length W.length W := .inl ⟨rfl, rfl, hU⟩
  have o1 : lsOb (r1) W.length W.length W := .inl ⟨rfl, rfl, hU⟩
  have hX := hXFr (.bad e p) (r1)
  refine gives_x hX (fn := Tryd.f21) rfl rfl rfl rfl fun ρ w => ?_
  refine sx hX [] 4000 rfl (by (simp [-List.getD_eq_getElem?_getD, -List.length_eq_zero_iff, conjP] <;> (first | omega | ((repeat' (refine And.intro ?_ ?_)) <;> (first | omega | exact decide_eq_false (by omega) | exact decide_eq_true (by omega)))))) ?_
  refine sx hX [.T] 4000 rfl (by (simp [-List.getD_eq_getElem?_getD, -List.length_eq_zero_iff, conjP, sel0, e0, o0] <;> (first | omega | ((repeat' (refine And.intro ?_ ?_)) <;> (first | omega | exact decide_eq_false (by omega) | exact decide_eq_true (by omega)))))) ?_
  (refine ss_end hX [0, 2] rfl rfl trivial rfl rfl rfl rfl ?vv ?hh (by (repeat' (first | exact rfl | exact trivial | exact sim_refl _ | refine And.intro ?_ ?_))) (by (repeat' (first | exact rfl | exact trivial | exact sim_refl _ | refine And.intro ?_ ?_))); (case vv => (repeat' (first | exact rfl | exact trivial | exact sim_refl _ | (simp; done) | (unfold mulS; simp; done) | (rw [srt_len]; simp; done) | (unfold mulS; rw [srt_len]; simp; done) | assumption | refine And.intro ?_ ?_)); done); (case hh => (repeat' (first | exact rfl | exact trivial | exact sim_refl _ | (simp; done) | (unfold mulS; simp; done) | (rw [srt_len]; simp; done) | (unfold mulS; rw [srt_len]; simp; done) | assumption | refine And.intro ?_ ?_)); done))
end Go.Proofs.YtfdkaakllceebaaDoor
