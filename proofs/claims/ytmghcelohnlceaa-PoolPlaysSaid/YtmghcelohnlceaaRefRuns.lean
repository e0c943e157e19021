/- The document's runs that take a block and give one back: each step, as a contract and as a row. -/
import Derived.Test.YtmghcelohnlceaaPoolRead
namespace Go.Proofs.Ytmghcelohnlceaa
open Go Go.Hx
set_option maxRecDepth 8000
def ctRo0 : Nat → Option Hx.Spec
  | 50 => some (pureS (placeS classF))
  | 51 => some (pureS (placeS blockF))
  | 60 => some (pureS rhTurnS)
  | 58 => some (raLoadS)
  | 61 => some (raStoreS)
  | 59 => some (raSwapS)
  | _ => none
theorem ctRo0_ok : ∀ f s args H ob V L, ctRo0 f = some s → s args H = some (ob, V, L) → AllP ob → Gives Try.prog f args H (Is V L) := by
  intro f s args H ob V L h hs ho
  unfold ctRo0 at h
  split at h
  · simp at h; subst h; exact pureS_ok ⟨_, hTE⟩ (placeS_ok (v := classF) rclass_fn) hs ho
  · simp at h; subst h; exact pureS_ok ⟨_, hTE⟩ (placeS_ok (v := blockF) rblock_fn) hs ho
  · simp at h; subst h; exact pureS_ok ⟨_, hTE⟩ (rhTurnS_ok) hs ho
  · simp at h; subst h; exact raLoadS_ok hs ho
  · simp at h; subst h; exact raStoreS_ok hs ho
  · simp at h; subst h; exact raSwapS_ok hs ho
  · simp at h
noncomputable def XRo0 : Tabs := tabs tr ft xt (fun _ => none) ctRo0 0
theorem hXRo0 : TOk Try.prog (XRo0) := ⟨hTE, hFT, ctRo0_ok, hXT, fun t ks h => by simp [XRo0, tabs] at h, mixed⟩
def rtkO (A B : Int) (at_ : Int) (c s b f : Int) : SO := .cells [.int .i64 1, .int .i64 4, .int .i64 1, .int .i64 2, .int .i64 4, .int .i64 A, .int .i64 6, .int .i64 B, .int .i64 2, .int .i64 c, .int .i64 at_, .int .i64 b, .int .i64 f, .int .u64 s] 108
def rgvO (A B : Int) (at_ : Int) (b s : Int) : SO := .cells [.int .i64 1, .int .i64 4, .int .i64 1, .int .i64 2, .int .i64 4, .int .i64 A, .int .i64 6, .int .i64 B, .int .i64 2, .int .i64 b, .int .i64 at_, .int .u64 s] 113
def rphO (A B : Int) (_ : Nat) : Ph → SO
  | .idle => .cells [] 0
  | .t1 c s b f => rtkO A B 1 c s b f
  | .t2 c s b f => rtkO A B 2 c s b f
  | .t3 c s b f => rtkO A B 3 c s b f
  | .g1 b s => rgvO A B 1 b s
  | .g2 b s => rgvO A B 2 b s
  | .g3 b s => rgvO A B 3 b s
theorem ren_rphO {σ : Nat → Nat} {A B : Int} {h h' : Nat} : ∀ {p : Ph}, (rphO A B h p).ren σ = rphO A B h' p
  | .idle | .t1 .. | .t2 .. | .t3 .. | .g1 .. | .g2 .. | .g3 .. => rfl
section
variable {A B : Int} {s : Ar} {c v b f : Int} (hw : WdP A B s)
include hw
section
variable (hc : 0 ≤ c ∧ c ≤ 1)
include hc
set_option maxHeartbeats 4000000 in
theorem rtk1y_fn (h : classV A B ((s.W.getD (3 + c).toNat 0) % 4294967296) = c) : Gives Try.prog 27 [.ptr 0 0, .ptr 1 0] [.obj (rphO A B 0 (.t1 c v b f)), RO 2 s, WO s.W] (Is .ff [.obj (rphO A B 0 (.t2 c (s.W.getD (3 + c).toNat 0) ((s.W.getD (3 + c).toNat 0) % 4294967296) f)), RO 2 (ldA s (3 + c)), WO (ldA s (3 + c)).W]) := by
  obtain ⟨W, st, kd, wd, vl, ch⟩ := s
  have hr := hw.hr
  have hl := hw.ln
  have hst0 := hw.st0
  have hst1 := hw.st1
  have hbd := hw.bd (3 + c).toNat
  dsimp only [Ar.W, Ar.st] at *
  refine gives_x hXRo0 (fn := Try.f27) rfl rfl rfl rfl fun ρ w => ?_
  dsimp only [rphO, rtkO, rgvO]
  have hm := and32 hbd.1 hbd.2
  have hwm : IntKind.i64.wrap ((W.getD (3 + c).toNat 0) % 4294967296) = (W.getD (3 + c).toNat 0) % 4294967296 := wi64 (by omega) (by omega)
  have h3c : IntKind.i64.wrap (3 + c) = 3 + c := wi64 (by omega) (by omega)
  refine sx hXRo0 [] 4000 rfl (by (simp [-List.getD_eq_getElem?_getD, -List.length_eq_zero_iff, conjP] <;> (first | omega | ((repeat' (refine And.intro ?_ ?_)) <;> (first | omega | exact decide_eq_false (by omega) | exact decide_eq_true (by omega)))))) ?_
  refine sx hXRo0 [.T] 4000 rfl (by (simp [-List.getD_eq_getElem?_getD, -List.length_eq_zero_iff, conjP, getH, HE.so, hr, hl, hm, hwm, h3c] <;> (first | omega | ((repeat' (refine And.intro ?_ ?_)) <;> (first | omega | exact decide_eq_false (by omega) | exact decide_eq_true (by omega)))))) ?_
  refine sx hXRo0 [.F] 4000 rfl (by (simp [-List.getD_eq_getElem?_getD, -List.length_eq_zero_iff, conjP, addOP, classF, h, hm, hwm, classF, h3c] <;> (first | omega | ((repeat' (refine And.intro ?_ ?_)) <;> (first | omega | exact decide_eq_false (by omega) | exact decide_eq_true (by omega)))))) ?_
  ((try simp only [classF, h3c]); refine ss_end hXRo0 [0, 1, 2] rfl rfl trivial rfl rfl rfl rfl ?vv ?hh (by (repeat' (first | exact rfl | exact trivial | exact sim_refl _ | refine And.intro ?_ ?_))) (by (repeat' (first | exact rfl | exact trivial | exact sim_refl _ | refine And.intro ?_ ?_))); (case vv => first | ((repeat' (first | exact rfl | exact trivial | exact sim_refl _ | refine And.intro ?_ ?_)); done) | (simp [tupF, SV.ren, sim, simO0]; done)); (case hh => (try simp only [hm, hwm]); (repeat' (first | exact rfl | exact trivial | exact sim_refl _ | (simp; done) | refine And.intro ?_ ?_))))
set_option maxHeartbeats 4000000 in
theorem rtk1n_fn (h : ¬ classV A B ((s.W.getD (3 + c).toNat 0) % 4294967296) = c) : Gives Try.prog 27 [.ptr 0 0, .ptr 1 0] [.obj (rphO A B 0 (.t1 c v b f)), RO 2 s, WO s.W] (Is .tt [.obj (rtkO A B 0 c (s.W.getD (3 + c).toNat 0) 0 f), RO 2 (ldA s (3 + c)), WO (ldA s (3 + c)).W]) := by
  obtain ⟨W, st, kd, wd, vl, ch⟩ := s
  have hr := hw.hr
  have hl := hw.ln
  have hst0 := hw.st0
  have hst1 := hw.st1
  have hbd := hw.bd (3 + c).toNat
  dsimp only [Ar.W, Ar.st] at *
  refine gives_x hXRo0 (fn := Try.f27) rfl rfl rfl rfl fun ρ w => ?_
  dsimp only [rphO, rtkO, rgvO]
  have hm := and32 hbd.1 hbd.2
  have hwm : IntKind.i64.wrap ((W.getD (3 + c).toNat 0) % 4294967296) = (W.getD (3 + c).toNat 0) % 4294967296 := wi64 (by omega) (by omega)
  have h3c : IntKind.i64.wrap (3 + c) = 3 + c := wi64 (by omega) (by omega)
  refine sx hXRo0 [] 4000 rfl (by (simp [-List.getD_eq_getElem?_getD, -List.length_eq_zero_iff, conjP] <;> (first | omega | ((repeat' (refine And.intro ?_ ?_)) <;> (first | omega | exact decide_eq_false (by omega) | exact decide_eq_true (by omega)))))) ?_
  refine sx hXRo0 [.T] 4000 rfl (by (simp [-List.getD_eq_getElem?_getD, -List.length_eq_zero_iff, conjP, getH, HE.so, hr, hl, hm, hwm, h3c] <;> (first | omega | ((repeat' (refine And.intro ?_ ?_)) <;> (first | omega | exact decide_eq_false (by omega) | exact decide_eq_true (by omega)))))) ?_
  refine sx hXRo0 [.T] 4000 rfl (by (simp [-List.getD_eq_getElem?_getD, -List.length_eq_zero_iff, conjP, addOP, classF, h, hm, hwm, classF, h3c] <;> (first | omega | ((repeat' (refine And.intro ?_ ?_)) <;> (first | omega | exact decide_eq_false (by omega) | exact decide_eq_true (by omega)))))) ?_
  ((try simp only [classF, h3c]); refine ss_end hXRo0 [0, 1, 2] rfl rfl trivial rfl rfl rfl rfl ?vv ?hh (by (repeat' (first | exact rfl | exact trivial | exact sim_refl _ | refine And.intro ?_ ?_))) (by (repeat' (first | exact rfl | exact trivial | exact sim_refl _ | refine And.intro ?_ ?_))); (case vv => first | ((repeat' (first | exact rfl | exact trivial | exact sim_refl _ | refine And.intro ?_ ?_)); done) | (simp [tupF, SV.ren, sim, simO0]; done)); (case hh => (try simp only [hm, hwm]); (repeat' (first | exact rfl | exact trivial | exact sim_refl _ | (simp; done) | refine And.intro ?_ ?_))))
set_option maxHeartbeats 4000000 in
theorem rtk2_fn (h : classV A B b = c) : Gives Try.prog 27 [.ptr 0 0, .ptr 1 0] [.obj (rphO A B 0 (.t2 c v b f)), RO 2 s, WO s.W] (Is .ff [.obj (rphO A B 0 (.t3 c v b (s.W.getD (bkP A B b).toNat 0 % 4294967296))), RO 2 (ldA s (bkP A B b)), WO (ldA s (bkP A B b)).W]) := by
  obtain ⟨W, st, kd, wd, vl, ch⟩ := s
  have hr := hw.hr
  have hl := hw.ln
  have hst0 := hw.st0
  have hst1 := hw.st1
  have hb := cls_iff hc.1 h
  have hAB := hw.AB
  have hk : 0 ≤ blockV 1 4 1 4 A 6 B b ∧ blockV 1 4 1 4 A 6 B b < (W.length : Int) := by
    have q := bkP_range hAB.1 hAB.2.2.1 hb.1 hb.2.1
    have ql := hl.2
    exact ⟨Int.le_trans (by decide : (0 : Int) ≤ 16) q.1, by rw [ql]; exact q.2⟩
  have hbd := hw.bd (bkP A B b).toNat
  dsimp only [Ar.W, Ar.st] at *
  refine gives_x hXRo0 (fn := Try.f27) rfl rfl rfl rfl fun ρ w => ?_
  dsimp only [rphO, rtkO, rgvO]
  have hm : ibits .and .u64 (W.getD (blockF 1 4 1 2 4 A 6 B 2 b).toNat 0) 4294967295 = W.getD (bkP A B b).toNat 0 % 4294967296 := and32 hbd.1 hbd.2
  have hwm : IntKind.i64.wrap ((W.getD (bkP A B b).toNat 0) % 4294967296) = (W.getD (bkP A B b).toNat 0) % 4294967296 := wi64 (by omega) (by omega)
  have h3c : IntKind.i64.wrap (3 + c) = 3 + c := wi64 (by omega) (by omega)
  refine sx hXRo0 [] 4000 rfl (by (simp [-List.getD_eq_getElem?_getD, -List.length_eq_zero_iff, conjP] <;> (first | omega | ((repeat' (refine And.intro ?_ ?_)) <;> (first | omega | exact decide_eq_false (by omega) | exact decide_eq_true (by omega)))))) ?_
  refine sx hXRo0 [.F] 4000 rfl (by (simp [-List.getD_eq_getElem?_getD, -List.length_eq_zero_iff, conjP, addOP] <;> (first | omega | ((repeat' (refine And.intro ?_ ?_)) <;> (first | omega | exact decide_eq_false (by omega) | exact decide_eq_true (by omega)))))) ?_
  refine sx hXRo0 [.T] 4000 rfl (by (simp [-List.getD_eq_getElem?_getD, -List.length_eq_zero_iff, conjP, hr, hl, hk, blockF] <;> (first | omega | ((repeat' (refine And.intro ?_ ?_)) <;> (first | omega | exact decide_eq_false (by omega) | exact decide_eq_true (by omega)))))) ?_
  ((try simp only); refine ss_end hXRo0 [0, 1, 2] rfl rfl trivial rfl rfl rfl rfl ?vv ?hh (by (repeat' (first | exact rfl | exact trivial | exact sim_refl _ | refine And.intro ?_ ?_))) (by (repeat' (first | exact rfl | exact trivial | exact sim_refl _ | refine And.intro ?_ ?_))); (case vv => first | ((repeat' (first | exact rfl | exact trivial | exact sim_refl _ | refine And.intro ?_ ?_)); done) | (simp [tupF, SV.ren, sim, simO0]; done)); (case hh => (try simp only [hm, hwm]); (repeat' (first | exact rfl | exact trivial | exact sim_refl _ | (simp; done) | refine And.intro ?_ ?_))))
set_option maxHeartbeats 4000000 in
theorem rtk3y_fn (hv : 0 ≤ v ∧ v < 18446744073709551616) (h : (s.W.getD (3 + c).toNat 0) = v) : Gives Try.prog 27 [.ptr 0 0, .ptr 1 0] [.obj (rphO A B 0 (.t3 c v b f)), RO 2 s, WO s.W] (Is .tt [.obj (rtkO A B 0 c v b f), RO 2 (swA s (3 + c) v (turnV v f)), WO (swA s (3 + c) v (turnV v f)).W]) := by
  obtain ⟨W, st, kd, wd, vl, ch⟩ := s
  have hr := hw.hr
  have hl := hw.ln
  have hst0 := hw.st0
  have hst1 := hw.st1
  dsimp only [Ar.W, Ar.st] at *
  refine gives_x hXRo0 (fn := Try.f27) rfl rfl rfl rfl fun ρ w => ?_
  dsimp only [rphO, rtkO, rgvO]
  have h3c : IntKind.i64.wrap (3 + c) = 3 + c := wi64 (by omega) (by omega)
  refine sx hXRo0 [] 4000 rfl (by (simp [-List.getD_eq_getElem?_getD, -List.length_eq_zero_iff, conjP] <;> (first | omega | ((repeat' (refine And.intro ?_ ?_)) <;> (first | omega | exact decide_eq_false (by omega) | exact decide_eq_true (by omega)))))) ?_
  refine sx hXRo0 [.F] 4000 rfl (by (simp [-List.getD_eq_getElem?_getD, -List.length_eq_zero_iff, conjP, addOP] <;> (first | omega | ((repeat' (refine And.intro ?_ ?_)) <;> (first | omega | exact decide_eq_false (by omega) | exact decide_eq_true (by omega)))))) ?_
  refine sx hXRo0 [.F] 4000 rfl (by (simp [-List.getD_eq_getElem?_getD, -List.length_eq_zero_iff, conjP, addOP] <;> (first | omega | ((repeat' (refine And.intro ?_ ?_)) <;> (first | omega | exact decide_eq_false (by omega) | exact decide_eq_true (by omega)))))) ?_
  refine sx hXRo0 [.T] 4000 rfl (by (simp [-List.getD_eq_getElem?_getD, -List.length_eq_zero_iff, conjP, getH, HE.so, hl, hv, h3c] <;> (first | omega | ((repeat' (refine And.intro ?_ ?_)) <;> (first | omega | exact decide_eq_false (by omega) | exact decide_eq_true (by omega)))))) ?_
  refine sx hXRo0 [.T] 4000 rfl (by (simp [-List.getD_eq_getElem?_getD, -List.length_eq_zero_iff, conjP, addOP, h, h3c] <;> (first | omega | ((repeat' (refine And.intro ?_ ?_)) <;> (first | omega | exact decide_eq_false (by omega) | exact decide_eq_true (by omega)))))) ?_
  ((try simp only [h3c]); refine ss_end hXRo0 [0, 1, 2] rfl rfl trivial rfl rfl rfl rfl ?vv ?hh (by (repeat' (first | exact rfl | exact trivial | exact sim_refl _ | refine And.intro ?_ ?_))) (by (repeat' (first | exact rfl | exact trivial | exact sim_refl _ | refine And.intro ?_ ?_))); (case vv => first | ((repeat' (first | exact rfl | exact trivial | exact sim_refl _ | refine And.intro ?_ ?_)); done) | (simp [tupF, SV.ren, sim, simO0]; done)); (case hh => (repeat' (first | exact rfl | exact trivial | exact sim_refl _ | (simp; done) | refine And.intro ?_ ?_))))
set_option maxHeartbeats 4000000 in
theorem rtk3n_fn (hv : 0 ≤ v ∧ v < 18446744073709551616) (h : ¬ (s.W.getD (3 + c).toNat 0) = v) : Gives Try.prog 27 [.ptr 0 0, .ptr 1 0] [.obj (rphO A B 0 (.t3 c v b f)), RO 2 s, WO s.W] (Is .ff [.obj (rphO A B 0 (.t1 c v b f)), RO 2 (swA s (3 + c) v (turnV v f)), WO (swA s (3 + c) v (turnV v f)).W]) := by
  obtain ⟨W, st, kd, wd, vl, ch⟩ := s
  have hr := hw.hr
  have hl := hw.ln
  have hst0 := hw.st0
  have hst1 := hw.st1
  dsimp only [Ar.W, Ar.st] at *
  refine gives_x hXRo0 (fn := Try.f27) rfl rfl rfl rfl fun ρ w => ?_
  dsimp only [rphO, rtkO, rgvO]
  have h3c : IntKind.i64.wrap (3 + c) = 3 + c := wi64 (by omega) (by omega)
  refine sx hXRo0 [] 4000 rfl (by (simp [-List.getD_eq_getElem?_getD, -List.length_eq_zero_iff, conjP] <;> (first | omega | ((repeat' (refine And.intro ?_ ?_)) <;> (first | omega | exact decide_eq_false (by omega) | exact decide_eq_true (by omega)))))) ?_
  refine sx hXRo0 [.F] 4000 rfl (by (simp [-List.getD_eq_getElem?_getD, -List.length_eq_zero_iff, conjP, addOP] <;> (first | omega | ((repeat' (refine And.intro ?_ ?_)) <;> (first | omega | exact decide_eq_false (by omega) | exact decide_eq_true (by omega)))))) ?_
  refine sx hXRo0 [.F] 4000 rfl (by (simp [-List.getD_eq_getElem?_getD, -List.length_eq_zero_iff, conjP, addOP] <;> (first | omega | ((repeat' (refine And.intro ?_ ?_)) <;> (first | omega | exact decide_eq_false (by omega) | exact decide_eq_true (by omega)))))) ?_
  refine sx hXRo0 [.T] 4000 rfl (by (simp [-List.getD_eq_getElem?_getD, -List.length_eq_zero_iff, conjP, getH, HE.so, hl, hv, h3c] <;> (first | omega | ((repeat' (refine And.intro ?_ ?_)) <;> (first | omega | exact decide_eq_false (by omega) | exact decide_eq_true (by omega)))))) ?_
  refine sx hXRo0 [.F] 4000 rfl (by (simp [-List.getD_eq_getElem?_getD, -List.length_eq_zero_iff, conjP, addOP, h, h3c] <;> (first | omega | ((repeat' (refine And.intro ?_ ?_)) <;> (first | omega | exact decide_eq_false (by omega) | exact decide_eq_true (by omega)))))) ?_
  ((try simp only [h3c]); refine ss_end hXRo0 [0, 1, 2] rfl rfl trivial rfl rfl rfl rfl ?vv ?hh (by (repeat' (first | exact rfl | exact trivial | exact sim_refl _ | refine And.intro ?_ ?_))) (by (repeat' (first | exact rfl | exact trivial | exact sim_refl _ | refine And.intro ?_ ?_))); (case vv => first | ((repeat' (first | exact rfl | exact trivial | exact sim_refl _ | refine And.intro ?_ ?_)); done) | (simp [tupF, SV.ren, sim, simO0]; done)); (case hh => (repeat' (first | exact rfl | exact trivial | exact sim_refl _ | (simp; done) | refine And.intro ?_ ?_))))
end
section
variable (hb : 1 ≤ b ∧ b ≤ A + B)
include hb
set_option maxHeartbeats 4000000 in
theorem rgv1_fn  : Gives Try.prog 29 [.ptr 0 0, .ptr 1 0] [.obj (rphO A B 0 (.g1 b v)), RO 2 s, WO s.W] (Is .ff [.obj (rphO A B 0 (.g2 b (s.W.getD (3 + classV A B b).toNat 0))), RO 2 (ldA s (3 + classV A B b)), WO (ldA s (3 + classV A B b)).W]) := by
  obtain ⟨W, st, kd, wd, vl, ch⟩ := s
  have hr := hw.hr
  have hl := hw.ln
  have hst0 := hw.st0
  have hst1 := hw.st1
  have hcl := cls_bd hb.1 hb.2
  have hAB := hw.AB
  have hk : 0 ≤ blockV 1 4 1 4 A 6 B b ∧ blockV 1 4 1 4 A 6 B b < (W.length : Int) := by
    have q := bkP_range hAB.1 hAB.2.2.1 hb.1 hb.2
    have ql := hl.2
    exact ⟨Int.le_trans (by decide : (0 : Int) ≤ 16) q.1, by rw [ql]; exact q.2⟩
  have hbd := hw.bd (3 + classV A B b).toNat
  dsimp only [Ar.W, Ar.st] at *
  refine gives_x hXRo0 (fn := Try.f29) rfl rfl rfl rfl fun ρ w => ?_
  dsimp only [rphO, rtkO, rgvO]
  have h3c : IntKind.i64.wrap (3 + classV A B b) = 3 + classV A B b := wi64 (by omega) (by omega)
  refine sx hXRo0 [] 4000 rfl (by (simp [-List.getD_eq_getElem?_getD, -List.length_eq_zero_iff, conjP, hr] <;> (first | omega | ((repeat' (refine And.intro ?_ ?_)) <;> (first | omega | exact decide_eq_false (by omega) | exact decide_eq_true (by omega)))))) ?_
  refine sx hXRo0 [.T] 4000 rfl (by (simp [-List.getD_eq_getElem?_getD, -List.length_eq_zero_iff, conjP, hl, classF, h3c] <;> (first | omega | ((repeat' (refine And.intro ?_ ?_)) <;> (first | omega | exact decide_eq_false (by omega) | exact decide_eq_true (by omega)))))) ?_
  ((try simp only [classF, h3c]); refine ss_end hXRo0 [0, 1, 2] rfl rfl trivial rfl rfl rfl rfl ?vv ?hh (by (repeat' (first | exact rfl | exact trivial | exact sim_refl _ | refine And.intro ?_ ?_))) (by (repeat' (first | exact rfl | exact trivial | exact sim_refl _ | refine And.intro ?_ ?_))); (case vv => first | ((repeat' (first | exact rfl | exact trivial | exact sim_refl _ | refine And.intro ?_ ?_)); done) | (simp [tupF, SV.ren, sim, simO0]; done)); (case hh => (repeat' (first | exact rfl | exact trivial | exact sim_refl _ | (simp; done) | refine And.intro ?_ ?_))))
set_option maxHeartbeats 4000000 in
theorem rgv2_fn (hv : 0 ≤ v ∧ v < 18446744073709551616) : Gives Try.prog 29 [.ptr 0 0, .ptr 1 0] [.obj (rphO A B 0 (.g2 b v)), RO 2 s, WO s.W] (Is .ff [.obj (rphO A B 0 (.g3 b v)), RO 2 (stA s (bkP A B b) (v % 4294967296)), WO (stA s (bkP A B b) (v % 4294967296)).W]) := by
  obtain ⟨W, st, kd, wd, vl, ch⟩ := s
  have hr := hw.hr
  have hl := hw.ln
  have hst0 := hw.st0
  have hst1 := hw.st1
  have hcl := cls_bd hb.1 hb.2
  have hAB := hw.AB
  have hk : 0 ≤ blockV 1 4 1 4 A 6 B b ∧ blockV 1 4 1 4 A 6 B b < (W.length : Int) := by
    have q := bkP_range hAB.1 hAB.2.2.1 hb.1 hb.2
    have ql := hl.2
    exact ⟨Int.le_trans (by decide : (0 : Int) ≤ 16) q.1, by rw [ql]; exact q.2⟩
  have hbd := hw.bd (3 + classV A B b).toNat
  have ew : IntKind.u64.wrap (v % 4294967296) = v % 4294967296 := wu64 (by omega) (by omega)
  dsimp only [Ar.W, Ar.st] at *
  refine gives_x hXRo0 (fn := Try.f29) rfl rfl rfl rfl fun ρ w => ?_
  dsimp only [rphO, rtkO, rgvO]
  have hm := and32 hv.1 hv.2
  have hwm : True := trivial
  have h3c : IntKind.i64.wrap (3 + classV A B b) = 3 + classV A B b := wi64 (by omega) (by omega)
  refine sx hXRo0 [] 4000 rfl (by (simp [-List.getD_eq_getElem?_getD, -List.length_eq_zero_iff, conjP, hr] <;> (first | omega | ((repeat' (refine And.intro ?_ ?_)) <;> (first | omega | exact decide_eq_false (by omega) | exact decide_eq_true (by omega)))))) ?_
  refine sx hXRo0 [.F] 4000 rfl (by (simp [-List.getD_eq_getElem?_getD, -List.length_eq_zero_iff, conjP, addOP] <;> (first | omega | ((repeat' (refine And.intro ?_ ?_)) <;> (first | omega | exact decide_eq_false (by omega) | exact decide_eq_true (by omega)))))) ?_
  refine sx hXRo0 [.T] 4000 rfl (by (simp [-List.getD_eq_getElem?_getD, -List.length_eq_zero_iff, conjP, getH, HE.so, hr, hl, hk, blockF] <;> (first | omega | ((repeat' (refine And.intro ?_ ?_)) <;> (first | omega | exact decide_eq_false (by omega) | exact decide_eq_true (by omega)))))) ?_
  ((try simp only [classF, h3c]); refine ss_end hXRo0 [0, 1, 2] rfl rfl trivial rfl rfl rfl rfl ?vv ?hh (by (repeat' (first | exact rfl | exact trivial | exact sim_refl _ | refine And.intro ?_ ?_))) (by (repeat' (first | exact rfl | exact trivial | exact sim_refl _ | refine And.intro ?_ ?_))); (case vv => first | ((repeat' (first | exact rfl | exact trivial | exact sim_refl _ | refine And.intro ?_ ?_)); done) | (simp [tupF, SV.ren, sim, simO0]; done)); (case hh => (try simp only [hm]); simp only [stA]; (repeat' (first | exact rfl | exact trivial | exact sim_refl _ | (simp; done) | refine And.intro ?_ ?_))))
set_option maxHeartbeats 4000000 in
theorem rgv3y_fn (hv : 0 ≤ v ∧ v < 18446744073709551616) (h : (s.W.getD (3 + classV A B b).toNat 0) = v) : Gives Try.prog 29 [.ptr 0 0, .ptr 1 0] [.obj (rphO A B 0 (.g3 b v)), RO 2 s, WO s.W] (Is .tt [.obj (rgvO A B 0 b v), RO 2 (swA s (3 + classV A B b) v (turnV v b)), WO (swA s (3 + classV A B b) v (turnV v b)).W]) := by
  obtain ⟨W, st, kd, wd, vl, ch⟩ := s
  have hr := hw.hr
  have hl := hw.ln
  have hst0 := hw.st0
  have hst1 := hw.st1
  have hcl := cls_bd hb.1 hb.2
  have hAB := hw.AB
  have hk : 0 ≤ blockV 1 4 1 4 A 6 B b ∧ blockV 1 4 1 4 A 6 B b < (W.length : Int) := by
    have q := bkP_range hAB.1 hAB.2.2.1 hb.1 hb.2
    have ql := hl.2
    exact ⟨Int.le_trans (by decide : (0 : Int) ≤ 16) q.1, by rw [ql]; exact q.2⟩
  have hbd := hw.bd (3 + classV A B b).toNat
  dsimp only [Ar.W, Ar.st] at *
  refine gives_x hXRo0 (fn := Try.f29) rfl rfl rfl rfl fun ρ w => ?_
  dsimp only [rphO, rtkO, rgvO]
  have hm : True := trivial
  have h3c : IntKind.i64.wrap (3 + classV A B b) = 3 + classV A B b := wi64 (by omega) (by omega)
  refine sx hXRo0 [] 4000 rfl (by (simp [-List.getD_eq_getElem?_getD, -List.length_eq_zero_iff, conjP, hr] <;> (first | omega | ((repeat' (refine And.intro ?_ ?_)) <;> (first | omega | exact decide_eq_false (by omega) | exact decide_eq_true (by omega)))))) ?_
  refine sx hXRo0 [.F] 4000 rfl (by (simp [-List.getD_eq_getElem?_getD, -List.length_eq_zero_iff, conjP, addOP] <;> (first | omega | ((repeat' (refine And.intro ?_ ?_)) <;> (first | omega | exact decide_eq_false (by omega) | exact decide_eq_true (by omega)))))) ?_
  refine sx hXRo0 [.F] 4000 rfl (by (simp [-List.getD_eq_getElem?_getD, -List.length_eq_zero_iff, conjP, addOP] <;> (first | omega | ((repeat' (refine And.intro ?_ ?_)) <;> (first | omega | exact decide_eq_false (by omega) | exact decide_eq_true (by omega)))))) ?_
  refine sx hXRo0 [.T] 4000 rfl (by (simp [-List.getD_eq_getElem?_getD, -List.length_eq_zero_iff, conjP, getH, HE.so, hl, hv, classF, h3c] <;> (first | omega | ((repeat' (refine And.intro ?_ ?_)) <;> (first | omega | exact decide_eq_false (by omega) | exact decide_eq_true (by omega)))))) ?_
  refine sx hXRo0 [.T] 4000 rfl (by (simp [-List.getD_eq_getElem?_getD, -List.length_eq_zero_iff, conjP, addOP, h, classF, h3c] <;> (first | omega | ((repeat' (refine And.intro ?_ ?_)) <;> (first | omega | exact decide_eq_false (by omega) | exact decide_eq_true (by omega)))))) ?_
  ((try simp only [classF, h3c]); refine ss_end hXRo0 [0, 1, 2] rfl rfl trivial rfl rfl rfl rfl ?vv ?hh (by (repeat' (first | exact rfl | exact trivial | exact sim_refl _ | refine And.intro ?_ ?_))) (by (repeat' (first | exact rfl | exact trivial | exact sim_refl _ | refine And.intro ?_ ?_))); (case vv => first | ((repeat' (first | exact rfl | exact trivial | exact sim_refl _ | refine And.intro ?_ ?_)); done) | (simp [tupF, SV.ren, sim, simO0]; done)); (case hh => (repeat' (first | exact rfl | exact trivial | exact sim_refl _ | (simp; done) | refine And.intro ?_ ?_))))
set_option maxHeartbeats 4000000 in
theorem rgv3n_fn (hv : 0 ≤ v ∧ v < 18446744073709551616) (h : ¬ (s.W.getD (3 + classV A B b).toNat 0) = v) : Gives Try.prog 29 [.ptr 0 0, .ptr 1 0] [.obj (rphO A B 0 (.g3 b v)), RO 2 s, WO s.W] (Is .ff [.obj (rphO A B 0 (.g1 b v)), RO 2 (swA s (3 + classV A B b) v (turnV v b)), WO (swA s (3 + classV A B b) v (turnV v b)).W]) := by
  obtain ⟨W, st, kd, wd, vl, ch⟩ := s
  have hr := hw.hr
  have hl := hw.ln
  have hst0 := hw.st0
  have hst1 := hw.st1
  have hcl := cls_bd hb.1 hb.2
  have hAB := hw.AB
  have hk : 0 ≤ blockV 1 4 1 4 A 6 B b ∧ blockV 1 4 1 4 A 6 B b < (W.length : Int) := by
    have q := bkP_range hAB.1 hAB.2.2.1 hb.1 hb.2
    have ql := hl.2
    exact ⟨Int.le_trans (by decide : (0 : Int) ≤ 16) q.1, by rw [ql]; exact q.2⟩
  have hbd := hw.bd (3 + classV A B b).toNat
  dsimp only [Ar.W, Ar.st] at *
  refine gives_x hXRo0 (fn := Try.f29) rfl rfl rfl rfl fun ρ w => ?_
  dsimp only [rphO, rtkO, rgvO]
  have hm : True := trivial
  have h3c : IntKind.i64.wrap (3 + classV A B b) = 3 + classV A B b := wi64 (by omega) (by omega)
  refine sx hXRo0 [] 4000 rfl (by (simp [-List.getD_eq_getElem?_getD, -List.length_eq_zero_iff, conjP, hr] <;> (first | omega | ((repeat' (refine And.intro ?_ ?_)) <;> (first | omega | exact decide_eq_false (by omega) | exact decide_eq_true (by omega)))))) ?_
  refine sx hXRo0 [.F] 4000 rfl (by (simp [-List.getD_eq_getElem?_getD, -List.length_eq_zero_iff, conjP, addOP] <;> (first | omega | ((repeat' (refine And.intro ?_ ?_)) <;> (first | omega | exact decide_eq_false (by omega) | exact decide_eq_true (by omega)))))) ?_
  refine sx hXRo0 [.F] 4000 rfl (by (simp [-List.getD_eq_getElem?_getD, -List.length_eq_zero_iff, conjP, addOP] <;> (first | omega | ((repeat' (refine And.intro ?_ ?_)) <;> (first | omega | exact decide_eq_false (by omega) | exact decide_eq_true (by omega)))))) ?_
  refine sx hXRo0 [.T] 4000 rfl (by (simp [-List.getD_eq_getElem?_getD, -List.length_eq_zero_iff, conjP, getH, HE.so, hl, hv, classF, h3c] <;> (first | omega | ((repeat' (refine And.intro ?_ ?_)) <;> (first | omega | exact decide_eq_false (by omega) | exact decide_eq_true (by omega)))))) ?_
  refine sx hXRo0 [.F] 4000 rfl (by (simp [-List.getD_eq_getElem?_getD, -List.length_eq_zero_iff, conjP, addOP, h, classF, h3c] <;> (first | omega | ((repeat' (refine And.intro ?_ ?_)) <;> (first | omega | exact decide_eq_false (by omega) | exact decide_eq_true (by omega)))))) ?_
  ((try simp only [classF, h3c]); refine ss_end hXRo0 [0, 1, 2] rfl rfl trivial rfl rfl rfl rfl ?vv ?hh (by (repeat' (first | exact rfl | exact trivial | exact sim_refl _ | refine And.intro ?_ ?_))) (by (repeat' (first | exact rfl | exact trivial | exact sim_refl _ | refine And.intro ?_ ?_))); (case vv => first | ((repeat' (first | exact rfl | exact trivial | exact sim_refl _ | refine And.intro ?_ ?_)); done) | (simp [tupF, SV.ren, sim, simO0]; done)); (case hh => (repeat' (first | exact rfl | exact trivial | exact sim_refl _ | (simp; done) | refine And.intro ?_ ?_))))
end
end
theorem rstep3_ok {fid : Nat} {o o' : Nat → SO} {s s' : Ar} {dn : SV} (hc : Gives Try.prog fid [.ptr 0 0, .ptr 1 0] [.obj (o 0), RO 2 s, WO s.W] (Is dn [.obj (o' 0), RO 2 s', WO s'.W]))
    (ho : ∀ σ h, (o h).ren σ = o (σ h)) (ho' : ∀ σ h, (o' h).ren σ = o' (σ h)) (hd : ∀ σ, dn.ren σ = dn) (hok : okHs (there [.obj (o 0), RO 2 s, WO s.W]) [.obj (o 0), RO 2 s, WO s.W] = true)
    {H : List HE} {h ha hw : Nat} {ob : List Prop} (hp : raP H ha = some (hw, s, ob)) (hob : AllP ob) (hg : getH H h = some (o h)) (hnd : nodupN [h, ha, hw] = true) :
    Gives Try.prog fid [.ptr h 0, .ptr ha 0] H (Is dn (((H.set h (.obj (o' h))).set ha (RO hw s')).set hw (WO s'.W))) := by
  have hp' := hp
  unfold raP at hp
  split at hp
  · rename_i hga
    split at hp
    · rename_i hgw hn
      simp only [Option.some.injEq, Prod.mk.injEq] at hp
      obtain ⟨rfl, rfl, rfl⟩ := hp
      have l1 := hob _ (List.mem_cons_self ..)
      have l2 := hob _ (List.mem_cons_of_mem _ (List.mem_cons_self ..))
      subst l1; subst l2
      exact frame3n (H := H) (h0 := h) (h1 := ha) (h2 := _) ⟨_, hTE⟩ hc rfl rfl hok hnd (by rw [ho]; exact hg) hga hgw (hd _) (ho' _ _) rfl rfl
    · simp at hp
  · simp at hp
def rtkA (H : List HE) (h : Nat) : Option (Int × Int × Int × Int × Int × SO) :=
  match getH H h with
  | some (.cells [x0, x1, x2, x3, x4, x5, x6, x7, x8, .int .i64 c, .int .i64 nx, .int .i64 b, .int .i64 f, .int .u64 s] ty) => some (nx, c, s, b, f, .cells [x0, x1, x2, x3, x4, x5, x6, x7, x8, .int .i64 c, .int .i64 nx, .int .i64 b, .int .i64 f, .int .u64 s] ty)
  | _ => none
theorem rtkA_get {H : List HE} {h : Nat} {nx c s b f : Int} {so : SO} (hs : rtkA H h = some (nx, c, s, b, f, so)) : getH H h = some so := by
  unfold rtkA at hs
  split at hs
  · rename_i hg
    simp only [Option.some.injEq, Prod.mk.injEq] at hs
    obtain ⟨rfl, rfl, rfl, rfl, rfl, rfl⟩ := hs
    exact hg
  · simp at hs
def rgvA (H : List HE) (h : Nat) : Option (Int × Int × Int × SO) :=
  match getH H h with
  | some (.cells [x0, x1, x2, x3, x4, x5, x6, x7, x8, .int .i64 b, .int .i64 nx, .int .u64 s] ty) => some (nx, b, s, .cells [x0, x1, x2, x3, x4, x5, x6, x7, x8, .int .i64 b, .int .i64 nx, .int .u64 s] ty)
  | _ => none
theorem rgvA_get {H : List HE} {h : Nat} {nx b s : Int} {so : SO} (hs : rgvA H h = some (nx, b, s, so)) : getH H h = some so := by
  unfold rgvA at hs
  split at hs
  · rename_i hg
    simp only [Option.some.injEq, Prod.mk.injEq] at hs
    obtain ⟨rfl, rfl, rfl, rfl⟩ := hs
    exact hg
  · simp at hs
/-- A run that is done. -/
def rdnT (A B : Int) (c s b f : Int) : SO := rtkO A B 0 c s b f
def rdnG (A B : Int) (b s : Int) : SO := rgvO A B 0 b s
abbrev rfin3 (H : List HE) (h : Nat) (o : SO) (ha hw : Nat) (W : List Int) (st kd wd vl : Int) (ch : Bool) : List HE := ((H.set h (.obj o)).set ha (ROx hw W st kd wd vl ch)).set hw (WO W)
/-- A take's step: b1: there is a block; b3: the swap is done. -/
def rtkStepS (A B : Int) (b1 b3 : Bool) : Hx.Spec := fun args H => match args with
  | [.ptr h 0, .ptr ha 0] => match rtkA H h, raP H ha with
    | some (nx, c, v, b, f, so), some (hw, ⟨W, st, _kd, _wd, _vl, _ch⟩, ob) => match nodupN [h, ha, hw], nx with
      | true, 1 => match b1 with
        | true => some ((so = rphO A B h (.t1 c v b f)) :: (rightB 1 4 1 2 4 A 6 B 2 = true) :: ((W.length : Int) = 16 + A * 5 + B * 7) :: (0 ≤ st) :: (st < 1000000) :: (∀ j, 0 ≤ W.getD j 0 ∧ W.getD j 0 < 18446744073709551616) :: (0 ≤ c ∧ c ≤ 1) :: (classV A B (W.getD (3 + c).toNat 0 % 4294967296) = c) :: ob, .ff,
            rfin3 H h (rphO A B h (.t2 c (W.getD (3 + c).toNat 0) (W.getD (3 + c).toNat 0 % 4294967296) f)) ha hw (W) (st + 1) (1) (3 + c) (W.getD (3 + c).toNat 0) (false))
        | false => some ((so = rphO A B h (.t1 c v b f)) :: (rightB 1 4 1 2 4 A 6 B 2 = true) :: ((W.length : Int) = 16 + A * 5 + B * 7) :: (0 ≤ st) :: (st < 1000000) :: (∀ j, 0 ≤ W.getD j 0 ∧ W.getD j 0 < 18446744073709551616) :: (0 ≤ c ∧ c ≤ 1) :: (¬ classV A B (W.getD (3 + c).toNat 0 % 4294967296) = c) :: ob, .tt,
            rfin3 H h (rdnT A B c (W.getD (3 + c).toNat 0) 0 f) ha hw (W) (st + 1) (1) (3 + c) (W.getD (3 + c).toNat 0) (false))
      | true, 2 => some ((so = rphO A B h (.t2 c v b f)) :: (rightB 1 4 1 2 4 A 6 B 2 = true) :: ((W.length : Int) = 16 + A * 5 + B * 7) :: (0 ≤ st) :: (st < 1000000) :: (∀ j, 0 ≤ W.getD j 0 ∧ W.getD j 0 < 18446744073709551616) :: (0 ≤ c ∧ c ≤ 1) :: (classV A B b = c) :: ob, .ff,
            rfin3 H h (rphO A B h (.t3 c v b (W.getD (bkP A B b).toNat 0 % 4294967296))) ha hw (W) (st + 1) (1) (bkP A B b) (W.getD (bkP A B b).toNat 0) (false))
      | true, 3 => match b3 with
        | true => some ((so = rphO A B h (.t3 c v b f)) :: (rightB 1 4 1 2 4 A 6 B 2 = true) :: ((W.length : Int) = 16 + A * 5 + B * 7) :: (0 ≤ st) :: (st < 1000000) :: (∀ j, 0 ≤ W.getD j 0 ∧ W.getD j 0 < 18446744073709551616) :: (0 ≤ c ∧ c ≤ 1) :: (0 ≤ v ∧ v < 18446744073709551616) :: (W.getD (3 + c).toNat 0 = v) :: ob, .tt,
            rfin3 H h (rdnT A B c v b f) ha hw (W.set (3 + c).toNat (turnV v f)) (st + 1) (3) (3 + c) (turnV v f) (true))
        | false => some ((so = rphO A B h (.t3 c v b f)) :: (rightB 1 4 1 2 4 A 6 B 2 = true) :: ((W.length : Int) = 16 + A * 5 + B * 7) :: (0 ≤ st) :: (st < 1000000) :: (∀ j, 0 ≤ W.getD j 0 ∧ W.getD j 0 < 18446744073709551616) :: (0 ≤ c ∧ c ≤ 1) :: (0 ≤ v ∧ v < 18446744073709551616) :: (¬ W.getD (3 + c).toNat 0 = v) :: ob, .ff,
            rfin3 H h (rphO A B h (.t1 c v b f)) ha hw (W) (st + 1) (3) (3 + c) (W.getD (3 + c).toNat 0) (false))
      | _, _ => none
    | _, _ => none
  | _ => none
theorem ren_rdnT {A B c s b f : Int} (σ : Nat → Nat) : (rdnT A B c s b f).ren σ = rdnT A B c s b f := rfl
theorem ren_rdnG {A B s b : Int} (σ : Nat → Nat) : (rdnG A B b s).ren σ = rdnG A B b s := rfl
theorem rtkStepS_ok {A B : Int} {b1 b3 : Bool} {args : List SV} {H : List HE} {ob : List Prop} {V : SV} {L : List HE} (hs : rtkStepS A B b1 b3 args H = some (ob, V, L)) (ho : AllP ob) : Gives Try.prog 27 args H (Is V L) := by
  unfold rtkStepS at hs
  split at hs
  case h_2 => simp at hs
  rename_i _ h ha
  split at hs
  case h_2 => simp at hs
  rename_i _ _ nx c v b f so hw W st kd wd vl ch ob' ht hp
  have hg := rtkA_get ht
  split at hs
  · rename_i hnd
    split at hs
    · simp only [Option.some.injEq, Prod.mk.injEq] at hs
      obtain ⟨rfl, rfl, rfl⟩ := hs
      have e1 := ho _ (List.mem_cons_self ..)
      have w1 := ho _ (List.mem_cons_of_mem _ (List.mem_cons_self ..))
      have w2 := ho _ (List.mem_cons_of_mem _ (List.mem_cons_of_mem _ (List.mem_cons_self ..)))
      have w3 := ho _ (List.mem_cons_of_mem _ (List.mem_cons_of_mem _ (List.mem_cons_of_mem _ (List.mem_cons_self ..))))
      have w4 := ho _ (List.mem_cons_of_mem _ (List.mem_cons_of_mem _ (List.mem_cons_of_mem _ (List.mem_cons_of_mem _ (List.mem_cons_self ..)))))
      have w5 := ho _ (List.mem_cons_of_mem _ (List.mem_cons_of_mem _ (List.mem_cons_of_mem _ (List.mem_cons_of_mem _ (List.mem_cons_of_mem _ (List.mem_cons_self ..))))))
      have e2 := wdP_of (kd := kd) (wd := wd) (vl := vl) (ch := ch) w1 w2 w3 w4 w5
      have e3 := ho _ (List.mem_cons_of_mem _ (List.mem_cons_of_mem _ (List.mem_cons_of_mem _ (List.mem_cons_of_mem _ (List.mem_cons_of_mem _ (List.mem_cons_of_mem _ (List.mem_cons_self ..)))))))
      have e4 := ho _ (List.mem_cons_of_mem _ (List.mem_cons_of_mem _ (List.mem_cons_of_mem _ (List.mem_cons_of_mem _ (List.mem_cons_of_mem _ (List.mem_cons_of_mem _ (List.mem_cons_of_mem _ (List.mem_cons_self ..))))))))
      have hob : AllP ob' := fun p hp => ho p (by simp [hp])
      exact rstep3_ok (o := fun h => rphO A B h (.t1 c v b f)) (o' := fun h => rphO A B h (.t2 c (W.getD (3 + c).toNat 0) (W.getD (3 + c).toNat 0 % 4294967296) f)) (rtk1y_fn e2 e3 e4) (fun _ _ => ren_rphO) (fun _ _ => ren_rphO) (fun _ => rfl) rfl hp hob (by rw [hg, e1]) hnd
    · simp only [Option.some.injEq, Prod.mk.injEq] at hs
      obtain ⟨rfl, rfl, rfl⟩ := hs
      have e1 := ho _ (List.mem_cons_self ..)
      have w1 := ho _ (List.mem_cons_of_mem _ (List.mem_cons_self ..))
      have w2 := ho _ (List.mem_cons_of_mem _ (List.mem_cons_of_mem _ (List.mem_cons_self ..)))
      have w3 := ho _ (List.mem_cons_of_mem _ (List.mem_cons_of_mem _ (List.mem_cons_of_mem _ (List.mem_cons_self ..))))
      have w4 := ho _ (List.mem_cons_of_mem _ (List.mem_cons_of_mem _ (List.mem_cons_of_mem _ (List.mem_cons_of_mem _ (List.mem_cons_self ..)))))
      have w5 := ho _ (List.mem_cons_of_mem _ (List.mem_cons_of_mem _ (List.mem_cons_of_mem _ (List.mem_cons_of_mem _ (List.mem_cons_of_mem _ (List.mem_cons_self ..))))))
      have e2 := wdP_of (kd := kd) (wd := wd) (vl := vl) (ch := ch) w1 w2 w3 w4 w5
      have e3 := ho _ (List.mem_cons_of_mem _ (List.mem_cons_of_mem _ (List.mem_cons_of_mem _ (List.mem_cons_of_mem _ (List.mem_cons_of_mem _ (List.mem_cons_of_mem _ (List.mem_cons_self ..)))))))
      have e4 := ho _ (List.mem_cons_of_mem _ (List.mem_cons_of_mem _ (List.mem_cons_of_mem _ (List.mem_cons_of_mem _ (List.mem_cons_of_mem _ (List.mem_cons_of_mem _ (List.mem_cons_of_mem _ (List.mem_cons_self ..))))))))
      have hob : AllP ob' := fun p hp => ho p (by simp [hp])
      exact rstep3_ok (o := fun h => rphO A B h (.t1 c v b f)) (o' := fun _ => rdnT A B c (W.getD (3 + c).toNat 0) 0 f) (rtk1n_fn e2 e3 e4) (fun _ _ => ren_rphO) (fun _ _ => rfl) (fun _ => rfl) rfl hp hob (by rw [hg, e1]) hnd
  · rename_i hnd
    simp only [Option.some.injEq, Prod.mk.injEq] at hs
    obtain ⟨rfl, rfl, rfl⟩ := hs
    have e1 := ho _ (List.mem_cons_self ..)
    have w1 := ho _ (List.mem_cons_of_mem _ (List.mem_cons_self ..))
    have w2 := ho _ (List.mem_cons_of_mem _ (List.mem_cons_of_mem _ (List.mem_cons_self ..)))
    have w3 := ho _ (List.mem_cons_of_mem _ (List.mem_cons_of_mem _ (List.mem_cons_of_mem _ (List.mem_cons_self ..))))
    have w4 := ho _ (List.mem_cons_of_mem _ (List.mem_cons_of_mem _ (List.mem_cons_of_mem _ (List.mem_cons_of_mem _ (List.mem_cons_self ..)))))
    have w5 := ho _ (List.mem_cons_of_mem _ (List.mem_cons_of_mem _ (List.mem_cons_of_mem _ (List.mem_cons_of_mem _ (List.mem_cons_of_mem _ (List.mem_cons_self ..))))))
    have e2 := wdP_of (kd := kd) (wd := wd) (vl := vl) (ch := ch) w1 w2 w3 w4 w5
    have e3 := ho _ (List.mem_cons_of_mem _ (List.mem_cons_of_mem _ (List.mem_cons_of_mem _ (List.mem_cons_of_mem _ (List.mem_cons_of_mem _ (List.mem_cons_of_mem _ (List.mem_cons_self ..)))))))
    have e4 := ho _ (List.mem_cons_of_mem _ (List.mem_cons_of_mem _ (List.mem_cons_of_mem _ (List.mem_cons_of_mem _ (List.mem_cons_of_mem _ (List.mem_cons_of_mem _ (List.mem_cons_of_mem _ (List.mem_cons_self ..))))))))
    have hob : AllP ob' := fun p hp => ho p (by simp [hp])
    exact rstep3_ok (o := fun h => rphO A B h (.t2 c v b f)) (o' := fun h => rphO A B h (.t3 c v b (W.getD (bkP A B b).toNat 0 % 4294967296))) (rtk2_fn e2 e3 e4) (fun _ _ => ren_rphO) (fun _ _ => ren_rphO) (fun _ => rfl) rfl hp hob (by rw [hg, e1]) hnd
  · rename_i hnd
    split at hs
    · simp only [Option.some.injEq, Prod.mk.injEq] at hs
      obtain ⟨rfl, rfl, rfl⟩ := hs
      have e1 := ho _ (List.mem_cons_self ..)
      have w1 := ho _ (List.mem_cons_of_mem _ (List.mem_cons_self ..))
      have w2 := ho _ (List.mem_cons_of_mem _ (List.mem_cons_of_mem _ (List.mem_cons_self ..)))
      have w3 := ho _ (List.mem_cons_of_mem _ (List.mem_cons_of_mem _ (List.mem_cons_of_mem _ (List.mem_cons_self ..))))
      have w4 := ho _ (List.mem_cons_of_mem _ (List.mem_cons_of_mem _ (List.mem_cons_of_mem _ (List.mem_cons_of_mem _ (List.mem_cons_self ..)))))
      have w5 := ho _ (List.mem_cons_of_mem _ (List.mem_cons_of_mem _ (List.mem_cons_of_mem _ (List.mem_cons_of_mem _ (List.mem_cons_of_mem _ (List.mem_cons_self ..))))))
      have e2 := wdP_of (kd := kd) (wd := wd) (vl := vl) (ch := ch) w1 w2 w3 w4 w5
      have e3 := ho _ (List.mem_cons_of_mem _ (List.mem_cons_of_mem _ (List.mem_cons_of_mem _ (List.mem_cons_of_mem _ (List.mem_cons_of_mem _ (List.mem_cons_of_mem _ (List.mem_cons_self ..)))))))
      have e4 := ho _ (List.mem_cons_of_mem _ (List.mem_cons_of_mem _ (List.mem_cons_of_mem _ (List.mem_cons_of_mem _ (List.mem_cons_of_mem _ (List.mem_cons_of_mem _ (List.mem_cons_of_mem _ (List.mem_cons_self ..))))))))
      have e5 := ho _ (List.mem_cons_of_mem _ (List.mem_cons_of_mem _ (List.mem_cons_of_mem _ (List.mem_cons_of_mem _ (List.mem_cons_of_mem _ (List.mem_cons_of_mem _ (List.mem_cons_of_mem _ (List.mem_cons_of_mem _ (List.mem_cons_self ..)))))))))
      have hob : AllP ob' := fun p hp => ho p (by simp [hp])
      have hc := rtk3y_fn (b := b) (f := f) e2 e3 e4 e5
      rw [sw_yes e5] at hc
      exact rstep3_ok (o := fun h => rphO A B h (.t3 c v b f)) (o' := fun _ => rdnT A B c v b f) hc (fun _ _ => ren_rphO) (fun _ _ => rfl) (fun _ => rfl) rfl hp hob (by rw [hg, e1]) hnd
    · simp only [Option.some.injEq, Prod.mk.injEq] at hs
      obtain ⟨rfl, rfl, rfl⟩ := hs
      have e1 := ho _ (List.mem_cons_self ..)
      have w1 := ho _ (List.mem_cons_of_mem _ (List.mem_cons_self ..))
      have w2 := ho _ (List.mem_cons_of_mem _ (List.mem_cons_of_mem _ (List.mem_cons_self ..)))
      have w3 := ho _ (List.mem_cons_of_mem _ (List.mem_cons_of_mem _ (List.mem_cons_of_mem _ (List.mem_cons_self ..))))
      have w4 := ho _ (List.mem_cons_of_mem _ (List.mem_cons_of_mem _ (List.mem_cons_of_mem _ (List.mem_cons_of_mem _ (List.mem_cons_self ..)))))
      have w5 := ho _ (List.mem_cons_of_mem _ (List.mem_cons_of_mem _ (List.mem_cons_of_mem _ (List.mem_cons_of_mem _ (List.mem_cons_of_mem _ (List.mem_cons_self ..))))))
      have e2 := wdP_of (kd := kd) (wd := wd) (vl := vl) (ch := ch) w1 w2 w3 w4 w5
      have e3 := ho _ (List.mem_cons_of_mem _ (List.mem_cons_of_mem _ (List.mem_cons_of_mem _ (List.mem_cons_of_mem _ (List.mem_cons_of_mem _ (List.mem_cons_of_mem _ (List.mem_cons_self ..)))))))
      have e4 := ho _ (List.mem_cons_of_mem _ (List.mem_cons_of_mem _ (List.mem_cons_of_mem _ (List.mem_cons_of_mem _ (List.mem_cons_of_mem _ (List.mem_cons_of_mem _ (List.mem_cons_of_mem _ (List.mem_cons_self ..))))))))
      have e5 := ho _ (List.mem_cons_of_mem _ (List.mem_cons_of_mem _ (List.mem_cons_of_mem _ (List.mem_cons_of_mem _ (List.mem_cons_of_mem _ (List.mem_cons_of_mem _ (List.mem_cons_of_mem _ (List.mem_cons_of_mem _ (List.mem_cons_self ..)))))))))
      have hob : AllP ob' := fun p hp => ho p (by simp [hp])
      have hc := rtk3n_fn (b := b) (f := f) e2 e3 e4 e5
      rw [sw_no e5] at hc
      exact rstep3_ok (o := fun h => rphO A B h (.t3 c v b f)) (o' := fun h => rphO A B h (.t1 c v b f)) hc (fun _ _ => ren_rphO) (fun _ _ => ren_rphO) (fun _ => rfl) rfl hp hob (by rw [hg, e1]) hnd
  · simp at hs
/-- A give's step: b3: the swap is done. -/
def rgvStepS (A B : Int) (b3 : Bool) : Hx.Spec := fun args H => match args with
  | [.ptr h 0, .ptr ha 0] => match rgvA H h, raP H ha with
    | some (nx, b, v, so), some (hw, ⟨W, st, _kd, _wd, _vl, _ch⟩, ob) => match nodupN [h, ha, hw], nx with
      | true, 1 => some ((so = rphO A B h (.g1 b v)) :: (rightB 1 4 1 2 4 A 6 B 2 = true) :: ((W.length : Int) = 16 + A * 5 + B * 7) :: (0 ≤ st) :: (st < 1000000) :: (∀ j, 0 ≤ W.getD j 0 ∧ W.getD j 0 < 18446744073709551616) :: (1 ≤ b ∧ b ≤ A + B) :: ob, .ff,
            rfin3 H h (rphO A B h (.g2 b (W.getD (3 + classV A B b).toNat 0))) ha hw (W) (st + 1) (1) (3 + classV A B b) (W.getD (3 + classV A B b).toNat 0) (false))
      | true, 2 => some ((so = rphO A B h (.g2 b v)) :: (rightB 1 4 1 2 4 A 6 B 2 = true) :: ((W.length : Int) = 16 + A * 5 + B * 7) :: (0 ≤ st) :: (st < 1000000) :: (∀ j, 0 ≤ W.getD j 0 ∧ W.getD j 0 < 18446744073709551616) :: (1 ≤ b ∧ b ≤ A + B) :: (0 ≤ v ∧ v < 18446744073709551616) :: ob, .ff,
            rfin3 H h (rphO A B h (.g3 b v)) ha hw (W.set (bkP A B b).toNat (v % 4294967296)) (st + 1) (2) (bkP A B b) (v % 4294967296) (true))
      | true, 3 => match b3 with
        | true => some ((so = rphO A B h (.g3 b v)) :: (rightB 1 4 1 2 4 A 6 B 2 = true) :: ((W.length : Int) = 16 + A * 5 + B * 7) :: (0 ≤ st) :: (st < 1000000) :: (∀ j, 0 ≤ W.getD j 0 ∧ W.getD j 0 < 18446744073709551616) :: (1 ≤ b ∧ b ≤ A + B) :: (0 ≤ v ∧ v < 18446744073709551616) :: (W.getD (3 + classV A B b).toNat 0 = v) :: ob, .tt,
            rfin3 H h (rdnG A B b v) ha hw (W.set (3 + classV A B b).toNat (turnV v b)) (st + 1) (3) (3 + classV A B b) (turnV v b) (true))
        | false => some ((so = rphO A B h (.g3 b v)) :: (rightB 1 4 1 2 4 A 6 B 2 = true) :: ((W.length : Int) = 16 + A * 5 + B * 7) :: (0 ≤ st) :: (st < 1000000) :: (∀ j, 0 ≤ W.getD j 0 ∧ W.getD j 0 < 18446744073709551616) :: (1 ≤ b ∧ b ≤ A + B) :: (0 ≤ v ∧ v < 18446744073709551616) :: (¬ W.getD (3 + classV A B b).toNat 0 = v) :: ob, .ff,
            rfin3 H h (rphO A B h (.g1 b v)) ha hw (W) (st + 1) (3) (3 + classV A B b) (W.getD (3 + classV A B b).toNat 0) (false))
      | _, _ => none
    | _, _ => none
  | _ => none
theorem rgvStepS_ok {A B : Int} {b3 : Bool} {args : List SV} {H : List HE} {ob : List Prop} {V : SV} {L : List HE} (hs : rgvStepS A B b3 args H = some (ob, V, L)) (ho : AllP ob) : Gives Try.prog 29 args H (Is V L) := by
  unfold rgvStepS at hs
  split at hs
  case h_2 => simp at hs
  rename_i _ h ha
  split at hs
  case h_2 => simp at hs
  rename_i _ _ nx b v so hw W st kd wd vl ch ob' ht hp
  have hg := rgvA_get ht
  split at hs
  · rename_i hnd
    simp only [Option.some.injEq, Prod.mk.injEq] at hs
    obtain ⟨rfl, rfl, rfl⟩ := hs
    have e1 := ho _ (List.mem_cons_self ..)
    have w1 := ho _ (List.mem_cons_of_mem _ (List.mem_cons_self ..))
    have w2 := ho _ (List.mem_cons_of_mem _ (List.mem_cons_of_mem _ (List.mem_cons_self ..)))
    have w3 := ho _ (List.mem_cons_of_mem _ (List.mem_cons_of_mem _ (List.mem_cons_of_mem _ (List.mem_cons_self ..))))
    have w4 := ho _ (List.mem_cons_of_mem _ (List.mem_cons_of_mem _ (List.mem_cons_of_mem _ (List.mem_cons_of_mem _ (List.mem_cons_self ..)))))
    have w5 := ho _ (List.mem_cons_of_mem _ (List.mem_cons_of_mem _ (List.mem_cons_of_mem _ (List.mem_cons_of_mem _ (List.mem_cons_of_mem _ (List.mem_cons_self ..))))))
    have e2 := wdP_of (kd := kd) (wd := wd) (vl := vl) (ch := ch) w1 w2 w3 w4 w5
    have e3 := ho _ (List.mem_cons_of_mem _ (List.mem_cons_of_mem _ (List.mem_cons_of_mem _ (List.mem_cons_of_mem _ (List.mem_cons_of_mem _ (List.mem_cons_of_mem _ (List.mem_cons_self ..)))))))
    have hob : AllP ob' := fun p hp => ho p (by simp [hp])
    exact rstep3_ok (o := fun h => rphO A B h (.g1 b v)) (o' := fun h => rphO A B h (.g2 b (W.getD (3 + classV A B b).toNat 0))) (rgv1_fn e2 e3) (fun _ _ => ren_rphO) (fun _ _ => ren_rphO) (fun _ => rfl) rfl hp hob (by rw [hg, e1]) hnd
  · rename_i hnd
    simp only [Option.some.injEq, Prod.mk.injEq] at hs
    obtain ⟨rfl, rfl, rfl⟩ := hs
    have e1 := ho _ (List.mem_cons_self ..)
    have w1 := ho _ (List.mem_cons_of_mem _ (List.mem_cons_self ..))
    have w2 := ho _ (List.mem_cons_of_mem _ (List.mem_cons_of_mem _ (List.mem_cons_self ..)))
    have w3 := ho _ (List.mem_cons_of_mem _ (List.mem_cons_of_mem _ (List.mem_cons_of_mem _ (List.mem_cons_self ..))))
    have w4 := ho _ (List.mem_cons_of_mem _ (List.mem_cons_of_mem _ (List.mem_cons_of_mem _ (List.mem_cons_of_mem _ (List.mem_cons_self ..)))))
    have w5 := ho _ (List.mem_cons_of_mem _ (List.mem_cons_of_mem _ (List.mem_cons_of_mem _ (List.mem_cons_of_mem _ (List.mem_cons_of_mem _ (List.mem_cons_self ..))))))
    have e2 := wdP_of (kd := kd) (wd := wd) (vl := vl) (ch := ch) w1 w2 w3 w4 w5
    have e3 := ho _ (List.mem_cons_of_mem _ (List.mem_cons_of_mem _ (List.mem_cons_of_mem _ (List.mem_cons_of_mem _ (List.mem_cons_of_mem _ (List.mem_cons_of_mem _ (List.mem_cons_self ..)))))))
    have e4 := ho _ (List.mem_cons_of_mem _ (List.mem_cons_of_mem _ (List.mem_cons_of_mem _ (List.mem_cons_of_mem _ (List.mem_cons_of_mem _ (List.mem_cons_of_mem _ (List.mem_cons_of_mem _ (List.mem_cons_self ..))))))))
    have hob : AllP ob' := fun p hp => ho p (by simp [hp])
    exact rstep3_ok (o := fun h => rphO A B h (.g2 b v)) (o' := fun h => rphO A B h (.g3 b v)) (rgv2_fn e2 e3 e4) (fun _ _ => ren_rphO) (fun _ _ => ren_rphO) (fun _ => rfl) rfl hp hob (by rw [hg, e1]) hnd
  · rename_i hnd
    split at hs
    · simp only [Option.some.injEq, Prod.mk.injEq] at hs
      obtain ⟨rfl, rfl, rfl⟩ := hs
      have e1 := ho _ (List.mem_cons_self ..)
      have w1 := ho _ (List.mem_cons_of_mem _ (List.mem_cons_self ..))
      have w2 := ho _ (List.mem_cons_of_mem _ (List.mem_cons_of_mem _ (List.mem_cons_self ..)))
      have w3 := ho _ (List.mem_cons_of_mem _ (List.mem_cons_of_mem _ (List.mem_cons_of_mem _ (List.mem_cons_self ..))))
      have w4 := ho _ (List.mem_cons_of_mem _ (List.mem_cons_of_mem _ (List.mem_cons_of_mem _ (List.mem_cons_of_mem _ (List.mem_cons_self ..)))))
      have w5 := ho _ (List.mem_cons_of_mem _ (List.mem_cons_of_mem _ (List.mem_cons_of_mem _ (List.mem_cons_of_mem _ (List.mem_cons_of_mem _ (List.mem_cons_self ..))))))
      have e2 := wdP_of (kd := kd) (wd := wd) (vl := vl) (ch := ch) w1 w2 w3 w4 w5
      have e3 := ho _ (List.mem_cons_of_mem _ (List.mem_cons_of_mem _ (List.mem_cons_of_mem _ (List.mem_cons_of_mem _ (List.mem_cons_of_mem _ (List.mem_cons_of_mem _ (List.mem_cons_self ..)))))))
      have e4 := ho _ (List.mem_cons_of_mem _ (List.mem_cons_of_mem _ (List.mem_cons_of_mem _ (List.mem_cons_of_mem _ (List.mem_cons_of_mem _ (List.mem_cons_of_mem _ (List.mem_cons_of_mem _ (List.mem_cons_self ..))))))))
      have e5 := ho _ (List.mem_cons_of_mem _ (List.mem_cons_of_mem _ (List.mem_cons_of_mem _ (List.mem_cons_of_mem _ (List.mem_cons_of_mem _ (List.mem_cons_of_mem _ (List.mem_cons_of_mem _ (List.mem_cons_of_mem _ (List.mem_cons_self ..)))))))))
      have hob : AllP ob' := fun p hp => ho p (by simp [hp])
      have hc := rgv3y_fn e2 e3 e4 e5
      rw [sw_yes e5] at hc
      exact rstep3_ok (o := fun h => rphO A B h (.g3 b v)) (o' := fun _ => rdnG A B b v) hc (fun _ _ => ren_rphO) (fun _ _ => rfl) (fun _ => rfl) rfl hp hob (by rw [hg, e1]) hnd
    · simp only [Option.some.injEq, Prod.mk.injEq] at hs
      obtain ⟨rfl, rfl, rfl⟩ := hs
      have e1 := ho _ (List.mem_cons_self ..)
      have w1 := ho _ (List.mem_cons_of_mem _ (List.mem_cons_self ..))
      have w2 := ho _ (List.mem_cons_of_mem _ (List.mem_cons_of_mem _ (List.mem_cons_self ..)))
      have w3 := ho _ (List.mem_cons_of_mem _ (List.mem_cons_of_mem _ (List.mem_cons_of_mem _ (List.mem_cons_self ..))))
      have w4 := ho _ (List.mem_cons_of_mem _ (List.mem_cons_of_mem _ (List.mem_cons_of_mem _ (List.mem_cons_of_mem _ (List.mem_cons_self ..)))))
      have w5 := ho _ (List.mem_cons_of_mem _ (List.mem_cons_of_mem _ (List.mem_cons_of_mem _ (List.mem_cons_of_mem _ (List.mem_cons_of_mem _ (List.mem_cons_self ..))))))
      have e2 := wdP_of (kd := kd) (wd := wd) (vl := vl) (ch := ch) w1 w2 w3 w4 w5
      have e3 := ho _ (List.mem_cons_of_mem _ (List.mem_cons_of_mem _ (List.mem_cons_of_mem _ (List.mem_cons_of_mem _ (List.mem_cons_of_mem _ (List.mem_cons_of_mem _ (List.mem_cons_self ..)))))))
      have e4 := ho _ (List.mem_cons_of_mem _ (List.mem_cons_of_mem _ (List.mem_cons_of_mem _ (List.mem_cons_of_mem _ (List.mem_cons_of_mem _ (List.mem_cons_of_mem _ (List.mem_cons_of_mem _ (List.mem_cons_self ..))))))))
      have e5 := ho _ (List.mem_cons_of_mem _ (List.mem_cons_of_mem _ (List.mem_cons_of_mem _ (List.mem_cons_of_mem _ (List.mem_cons_of_mem _ (List.mem_cons_of_mem _ (List.mem_cons_of_mem _ (List.mem_cons_of_mem _ (List.mem_cons_self ..)))))))))
      have hob : AllP ob' := fun p hp => ho p (by simp [hp])
      have hc := rgv3n_fn e2 e3 e4 e5
      rw [sw_no e5] at hc
      exact rstep3_ok (o := fun h => rphO A B h (.g3 b v)) (o' := fun h => rphO A B h (.g1 b v)) hc (fun _ _ => ren_rphO) (fun _ _ => ren_rphO) (fun _ => rfl) rfl hp hob (by rw [hg, e1]) hnd
  · simp at hs
end Go.Proofs.Ytmghcelohnlceaa
